/- index.Between (layer 40).
  Conditions: sizes, as the theorems say. -/
import Derived.Test.YtoejlmpbebjemaaGreatXZb
import Derived.Test.YtoejlmpbebjemaaGreatGFB
set_option linter.all false
set_option maxRecDepth 100000
set_option maxHeartbeats 4000000
namespace Go.Proofs.YtoejlmpbebjemaaGreat
open Go Go.Am ia cO eN
def Ja {L:List Dc}(hL:VD L)(f lo hi:Int):(kW (eu L) f lo hi).length<=L.length:=by
 have:=qg ((wo (eu L) f lo hi).imp λh=>by omega) (m:=L.map (·.id)) λi iP=>by
  obtain⟨d,hd,e,_⟩:=(oE hL f lo hi i).1 iP;exact agG.2 ⟨d,hd,e⟩
 rwa [agU] at this
def xO {x:List Sd}(hg:GX x)(f lo hi:Int){i:Nat}(h:i<=x.length):(kX x f lo hi i).length<=(alive x).length:=by
 rw[wu hg f lo hi i h];have h1:=Ja (gF (ig hg i)) f lo hi;have h2:(fl (x.take i)).length=(alive (x.take i)).length:=dV _;have h3:=mr x i;omega
attribute [-simp] List.getD_eq_getElem?_getD in
theorem Jb {m:Nat}{x:List Sd}(h:BX m x)(hl:x.length<=400)(f lo hi:Int)(H:List aA)(T:au) :
  ar Tryz.prog 45 [yp x,.int .i64 f,.int .i64 lo,.int .i64 hi] H T (Is (Cm (kX x f lo hi x.length)) H T):=by
 refine ar.bZ ?_ (by simp);have hg:=h.g;have ha:=h.a;have hz:=h.TC hl;have FD:=fw x;have mN:=l0 x;refine ah 16 [] Tryz.ntmps45 Tryz.func45 rfl (λ_ _=>Tryz.call45 _ _) (by simp) (λHO=>?_);apply ae;intro K Z;simp(disch:=omega);apply Z;have eV:bN (H++[.cells (iv (br x) (cj x))]) T:=HO.snoc (by simp);apply ae;intro K Z;simp(disch:=omega);apply Z;refine af λK1 aP=>?_;apply ae;intro K Z;simp(disch:=omega);apply Z;apply aj;refine aJ (X:=Nat) (λi=>⟨[(1,.int .i64 f),(2,.int .i64 lo),(3,.int .i64 hi),(4,.ptr H.length 0),(9,Cm (kX x f lo hi i)),(13,.sl (br x).length (fD (br x)) .none),(14,.int .i64 ((br x).length:Nat)),(15,.int .i64 (i:Nat))],H++[.cells (iv (br x) (cj x))],T⟩) (λi=>i<=x.length) (λi=>x.length-i) 0 ?_ ?_ ?_
 ·exact agP _
 ·refine ag [] [] ?_ ?_ ?_ ?_ eV ?_
  all_goals simp[kX]
 ·intro i g1;apply ae;intro K Z;simp(disch:=omega);apply Z;refine af λK2 bp=>?_;refine aU rfl (λhk=>?_) (λhk=>?_)
  ·simp  at hk;have iP:i<x.length:=by omega
   have hp:=fY iP;have bu:=j7 (br x) i hk;rw[fx iP] at bu;have cd:=λH T=>BJ (br x) (cj x) i (by omega) (by omega) H T;rw[gn iP] at cd;have cb:=λH T=>To (eu (x.getD i e0).1) (h.sz hp) f lo hi H T;have hv:=hg.vd _ hp;have vF:=Ja hv f lo hi;have hb:=h.b _ hp;have hde:=ka (hg.da _ hp) (hg.dd _ hp);have cw:=λH T=>oG (kW (eu (x.getD i e0).1) f lo hi) (x.getD i e0).2 (by omega) (by omega) H T .none .none;have l1:=xO hg f lo hi g1;have l2:=xO hg f lo hi (show i+1<=x.length from iP);have l3:=tr (λ_ q=>!q) (kW (eu (x.getD i e0).1) f lo hi) (x.getD i e0).2;have e1:FL [] (kX x f lo hi i)=kX x f lo hi i:=by rw[wu hg f lo hi i g1];exact sK (Io (gF (ig hg i)) f lo hi)
   have co:=λH T=>NU [kX x f lo hi i,comb (λ_ q=>!q) (kW (eu (x.getD i e0).1) f lo hi) (x.getD i e0).2] (by simp) (λd hd=>by
    rcases ag6.1 hd with rfl|h1
    ·omega
    ·rw[ahl.1 h1];omega) (λk hk=>by
    match k with
    |0=>simp[FC]
    |1=>show (FL [] (kX x f lo hi i)).length<=1000;rw[e1];omega
    |k+2=>rw[aih (by simp)];show (kX x f lo hi (i+1)).length<=1000;omega) H T .full
   rw[show FC [kX x f lo hi i,comb (λ_ q=>!q) (kW (eu (x.getD i e0).1) f lo hi) (x.getD i e0).2]=kX x f lo hi (i+1) from rfl] at co;generalize lF:kX x f lo hi (i+1)=nx at *;generalize kX x f lo hi i=q at *;generalize comb (λ_ q=>!q) (kW (eu (x.getD i e0).1) f lo hi) (x.getD i e0).2=wi at *;generalize kW (eu (x.getD i e0).1) f lo hi=bs at *;generalize eu (x.getD i e0).1=s at *;apply aq;simp(disch:=omega) ;apply bp;clear bp;refine af λK3 bG=>?_;apply aj;refine ae λK hK=>?_;simp(disch:=omega)[bu,hk,dD];apply hK;refine cT [] [0,0,0,0,0,0,0,0,0,0,0,0,0] [] aw (by kernel_rfl) (by kernel_rfl) λK hK=>?_;simp(disch:=omega) ;refine aD (cb _ _) rfl ?_;simp(disch:=omega) ;refine aD (cd _ _) rfl ?_;simp(disch:=omega) ;refine aD (cw _ _) rfl ?_;simp(disch:=omega) ;refine aD (co _ _) rfl ?_;simp(disch:=omega) ;apply hK;apply bG;clear bG;refine aC λK hK=>?_;simp(disch:=omega) ;apply hK;refine⟨i+1,by show i+1<=_;omega,by show x.length-(i+1)<x.length-i;omega,?_⟩;refine ag [.cells (dA s)] [] ?_ ?_ ?_ ?_ eV ?_
   all_goals simp[lF]
  ·simp  at hk;have:i=x.length:=by omega
   subst this;apply aG;simp(disch:=omega) ;apply aP;clear aP;apply ae;intro K Z;simp(disch:=omega);apply Z;apply az;simp(disch:=omega) 
end Go.Proofs.YtoejlmpbebjemaaGreat
