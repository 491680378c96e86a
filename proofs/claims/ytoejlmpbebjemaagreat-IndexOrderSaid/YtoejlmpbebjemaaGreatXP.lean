/- index.Between (layer 40).
  Conditions: sizes, as the theorems say. -/
import Derived.Test.YtoejlmpbebjemaaGreatXZb
import Derived.Test.YtoejlmpbebjemaaGreatGFB
set_option linter.all false
set_option maxRecDepth 100000
set_option maxHeartbeats 4000000
namespace Go.Proofs.YtoejlmpbebjemaaGreat
open Go Go.Am im cL eT
def JW {L:List Dc}(hL:VD L)(f lo hi:Int):(lg (eB L) f lo hi).length<=L.length:=by
 have:=qk ((wG (eB L) f lo hi).imp λh=>by omega) (m:=L.map (·.id)) λi iV=>by
  obtain⟨d,hd,e,_⟩:=(oI hL f lo hi i).1 iV;exact ahl.2 ⟨d,hd,e⟩
 rwa [ahz] at this
def x6 {x:List Sd}(hg:GX x)(f lo hi:Int){i:Nat}(h:i<=x.length):(ll x f lo hi i).length<=(alive x).length:=by
 rw[wH hg f lo hi i h];have h1:=JW (gL (iu hg i)) f lo hi;have h2:(fC (x.take i)).length=(alive (x.take i)).length:=dW _;have h3:=mD x i;omega
attribute [-simp] List.getD_eq_getElem?_getD in
theorem JX {m:Nat}{x:List Sd}(h:BX m x)(hl:x.length<=400)(f lo hi:Int)(H:List az)(T:au) :
  ar Tryz.prog 45 [yH x,.int .i64 f,.int .i64 lo,.int .i64 hi] H T (Is (CK (ll x f lo hi x.length)) H T):=by
 refine ar.bV ?_ (by simp);have hg:=h.g;have ha:=h.a;have hz:=h.UD hl;have Ga:=fG x;have hdl:=mh x;refine ah 16 [] Tryz.ntmps45 Tryz.func45 rfl (λ_ _=>Tryz.call45 _ _) (by simp) (λHO=>?_);apply ae;intro K Z;simp(disch:=omega);apply Z;have ff:bJ (H++[.cells (iE (bf x) (bX x))]) T:=HO.snoc (by simp);apply ae;intro K Z;simp(disch:=omega);apply Z;refine af λK1 aO=>?_;apply ae;intro K Z;simp(disch:=omega);apply Z;apply aj;refine aI (X:=Nat) (λi=>⟨[(1,.int .i64 f),(2,.int .i64 lo),(3,.int .i64 hi),(4,.ptr H.length 0),(9,CK (ll x f lo hi i)),(13,.sl (bf x).length (fK (bf x)) .none),(14,.int .i64 ((bf x).length:Nat)),(15,.int .i64 (i:Nat))],H++[.cells (iE (bf x) (bX x))],T⟩) (λi=>i<=x.length) (λi=>x.length-i) 0 ?_ ?_ ?_
 ·exact ahu _
 ·refine ag [] [] ?_ ?_ ?_ ?_ ff ?_
  all_goals simp[ll]
 ·intro i g1;apply ae;intro K Z;simp(disch:=omega);apply Z;refine af λK2 bc=>?_;refine aT rfl (λhk=>?_) (λhk=>?_)
  ·simp  at hk;have iV:i<x.length:=by omega
   have hp:=gu iV;have hcut:=ke (bf x) i hk;rw[fH iV] at hcut;have cd:=λH T=>Ca (bf x) (bX x) i (by omega) (by omega) H T;rw[gD iV] at cd;have cb:=λH T=>Uq (eB (x.getD i e0).1) (h.sz hp) f lo hi H T;have hv:=hg.vd _ hp;have vO:=JW hv f lo hi;have hb:=h.b _ hp;have hde:=ki (hg.da _ hp) (hg.dd _ hp);have cw:=λH T=>oK (lg (eB (x.getD i e0).1) f lo hi) (x.getD i e0).2 (by omega) (by omega) H T .none .none;have l1:=x6 hg f lo hi g1;have l2:=x6 hg f lo hi (show i+1<=x.length from iV);have l3:=tJ (λ_ q=>!q) (lg (eB (x.getD i e0).1) f lo hi) (x.getD i e0).2;have e1:Gg [] (ll x f lo hi i)=ll x f lo hi i:=by rw[wH hg f lo hi i g1];exact sV (Je (gL (iu hg i)) f lo hi)
   have co:=λH T=>OP [ll x f lo hi i,comb (λ_ q=>!q) (lg (eB (x.getD i e0).1) f lo hi) (x.getD i e0).2] (by simp) (λd hd=>by
    rcases ahL.1 hd with rfl|h1
    ·omega
    ·rw[ah0.1 h1];omega) (λk hk=>by
    match k with
    |0=>simp[F9]
    |1=>show (Gg [] (ll x f lo hi i)).length<=1000;rw[e1];omega
    |k+2=>rw[aiV (by simp)];show (ll x f lo hi (i+1)).length<=1000;omega) H T .full
   rw[show F9 [ll x f lo hi i,comb (λ_ q=>!q) (lg (eB (x.getD i e0).1) f lo hi) (x.getD i e0).2]=ll x f lo hi (i+1) from rfl] at co;generalize lM:ll x f lo hi (i+1)=nx at *;generalize ll x f lo hi i=q at *;generalize comb (λ_ q=>!q) (lg (eB (x.getD i e0).1) f lo hi) (x.getD i e0).2=wi at *;generalize lg (eB (x.getD i e0).1) f lo hi=bs at *;generalize eB (x.getD i e0).1=s at *;apply aq;simp(disch:=omega) ;apply bc;clear bc;refine af λK3 bD=>?_;apply aj;refine ae λK hK=>?_;simp(disch:=omega)[hcut,hk,dF];apply hK;refine cT [] [0,0,0,0,0,0,0,0,0,0,0,0,0] [] aw (by kernel_rfl) (by kernel_rfl) λK hK=>?_;simp(disch:=omega) ;refine aC (cb _ _) rfl ?_;simp(disch:=omega) ;refine aC (cd _ _) rfl ?_;simp(disch:=omega) ;refine aC (cw _ _) rfl ?_;simp(disch:=omega) ;refine aC (co _ _) rfl ?_;simp(disch:=omega) ;apply hK;apply bD;clear bD;refine aB λK hK=>?_;simp(disch:=omega) ;apply hK;refine⟨i+1,by show i+1<=_;omega,by show x.length-(i+1)<x.length-i;omega,?_⟩;refine ag [.cells (dC s)] [] ?_ ?_ ?_ ?_ ff ?_
   all_goals simp[lM]
  ·simp  at hk;have:i=x.length:=by omega
   subst this;apply aF;simp(disch:=omega) ;apply aO;clear aO;apply ae;intro K Z;simp(disch:=omega);apply Z;apply ay;simp(disch:=omega) 
end Go.Proofs.YtoejlmpbebjemaaGreat
