/- index.Between (layer 40).
  Conditions: sizes, as the theorems say. -/
import Derived.Test.YtoejlmpbebjemaaGreatXZb
import Derived.Test.YtoejlmpbebjemaaGreatGFB
set_option linter.all false
set_option maxRecDepth 100000
set_option maxHeartbeats 4000000
namespace Go.Proofs.YtoejlmpbebjemaaGreat
open Go Go.Am ie cN eN
def JH {L:List Dc}(hL:VD L)(f lo hi:Int):(jG (er L) f lo hi).length<=L.length:=by
 have:=qI ((wS (er L) f lo hi).imp λh=>by omega) (m:=L.map (·.id)) λi jf=>by
  obtain⟨d,hd,e,_⟩:=(oV hL f lo hi i).1 jf;exact ahz.2 ⟨d,hd,e⟩
 rwa [ahL] at this
def yk {x:List Sd}(hg:GX x)(f lo hi:Int){i:Nat}(h:i<=x.length):(nq x f lo hi i).length<=(alive x).length:=by
 rw[wT hg f lo hi i h];have h1:=JH (gT (iG hg i)) f lo hi;have h2:(fM (x.take i)).length=(alive (x.take i)).length:=dU _;have h3:=mU x i;omega
attribute [-simp] List.getD_eq_getElem?_getD in
theorem Ud {m:Nat}{x:List Sd}(h:BX m x)(hl:x.length<=400)(f lo hi:Int)(H:List aA)(T:au) :
  aq Tryz.prog 45 [yW x,.int .i64 f,.int .i64 lo,.int .i64 hi] H T (Is (C0 (nq x f lo hi x.length)) H T):=by
 refine aq.bK ?_ zS;have hg:=h.g;have ha:=h.a;have hz:=h.Uq hl;have yT:=fF x;have kW:=mG x;refine ah 16 [] Tryz.ntmps45 Tryz.func45 rfl (λ_ _=>Tryz.call45 _ _) zS (λHO=>?_);refine af ?_;have eu:bM (H++[.cells (jr (bF x) (cI x))]) T:=HO.snoc zS;refine af ?_;refine ae λK1 aN=>?_;refine af ?_;apply ag;refine aG (X:=Nat) (λi=>⟨[(1,.int .i64 f),(2,.int .i64 lo),(3,.int .i64 hi),(4,.ptr H.length 0),(9,C0 (nq x f lo hi i)),(13,.sl (bF x).length (fK (bF x)) .none),(14,.int .i64 ((bF x).length:Nat)),(15,.int .i64 (i:Nat))],H++[.cells (jr (bF x) (cI x))],T⟩) (λi=>i<=x.length) (λi=>x.length-i) 0 ?_ ?_ ?_
 ·exact ahE _
 ·refine ak [] [] ?_ ?_ ?_ ?_ eu ?_
  all_goals simp[nq]
 ·intro i g1;refine af ?_;refine ae λK2 ba=>?_;refine aV rfl (λhk=>?_) (λhk=>?_)
  ·simp  at hk;have jf:i<x.length:=zO;have hp:=gC jf;have bB:=kO (bF x) i hk;rw[fG jf] at bB;have cd:=λH T=>Cn (bF x) (cI x) i zO zO H T;rw[gH jf] at cd;have cb:=λH T=>Ue (er (x.getD i e0).1) (h.sz hp) f lo hi H T;have hv:=hg.vd _ hp;have vw:=JH hv f lo hi;have hb:=h.b _ hp;have hde:=kQ (hg.da _ hp) (hg.dd _ hp);have cw:=λH T=>oX (jG (er (x.getD i e0).1) f lo hi) (x.getD i e0).2 zO zO H T .none .none;have l1:=yk hg f lo hi g1;have l2:=yk hg f lo hi (show i+1<=x.length from jf);have l3:=tS (λ_ q=>!q) (jG (er (x.getD i e0).1) f lo hi) (x.getD i e0).2;have e1:Gn [] (nq x f lo hi i)=nq x f lo hi i:=by rw[wT hg f lo hi i g1];exact tr (IY (gT (iG hg i)) f lo hi)
   have co:=λH T=>OF [nq x f lo hi i,comb (λ_ q=>!q) (jG (er (x.getD i e0).1) f lo hi) (x.getD i e0).2] zS (λd hd=>by
    rcases ah4.1 hd with rfl|h1
    ·omega
    ·rw[aic.1 h1];omega) (λk hk=>by
    match k with
    |0=>simp[Gg]
    |1=>show (Gn [] (nq x f lo hi i)).length<=1000;rw[e1];omega
    |k+2=>rw[ajh zS];show (nq x f lo hi (i+1)).length<=1000;omega) H T .full
   rw[show Gg [nq x f lo hi i,comb (λ_ q=>!q) (jG (er (x.getD i e0).1) f lo hi) (x.getD i e0).2]=nq x f lo hi (i+1) from rfl] at co;generalize kX:nq x f lo hi (i+1)=nx at *;generalize nq x f lo hi i=q at *;generalize comb (λ_ q=>!q) (jG (er (x.getD i e0).1) f lo hi) (x.getD i e0).2=wi at *;generalize jG (er (x.getD i e0).1) f lo hi=bs at *;generalize er (x.getD i e0).1=s at *;apply aj;refine zQ ?_;apply ba;clear ba;refine ae λK3 bH=>?_;apply ag;apply ar;simp(disch:=omega)[bB,hk,dL];refine du [] [0,0,0,0,0,0,0,0,0,0,0,0,0] [] aO zK zK λK hK=>?_;refine zQ ?_;refine az (cb _ _) rfl ?_;refine zQ ?_;refine az (cd _ _) rfl ?_;refine zQ ?_;refine az (cw _ _) rfl ?_;refine zQ ?_;refine az (co _ _) rfl ?_;refine zQ ?_;apply hK;apply bH;clear bH;refine aJ ?_;refine⟨i+1,by show i+1<=_;omega,by show x.length-(i+1)<x.length-i;omega,?_⟩;refine ak [.cells (cH s)] [] ?_ ?_ ?_ ?_ eu ?_
   all_goals simp[kX]
  ·simp  at hk;have:i=x.length:=zO;subst this;apply aD;refine zQ ?_;apply aN;clear aN;refine af ?_;exact bu zC
end Go.Proofs.YtoejlmpbebjemaaGreat
