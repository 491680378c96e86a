/- SameWords, Equal, SameDocuments of layer 37's reference, for equal arguments.
  Conditions: sizes, as the theorems say. -/
import Derived.Test.YtoejlmpbebjemaaGreatGA
import Derived.Test.YtoejlmpbebjemaaGreatGC
import Derived.Test.YtoejlmpbebjemaaGreatPA
set_option linter.all false
set_option maxRecDepth 100000
set_option maxHeartbeats 8000000
namespace Go.Proofs.YtoejlmpbebjemaaGreat
open Go Go.Am ia eN
attribute [-simp] List.getD_eq_getElem?_getD in
def BT (a:List Wd)(ha:a.length<=maxLen)(H:List aA)(T:au):ar Tryz.prog 102 [.sl a.length (dQ a) .none,.sl a.length (dQ a) .none] H T (Is (.bool true) H T):=by
 refine ar.bZ ?_ (by simp);have XW:a.length<=9223372036854775807:=agJ ha (by decide);refine ah 6 [] Tryz.ntmps102 Tryz.func102 rfl (λ_ _=>Tryz.call102 _ _) (by simp) (λHO=>?_);apply ae;intro K Z;simp(disch:=omega);apply Z;refine af λK1 aP=>?_;apply ae;intro K Z;simp(disch:=omega);apply Z;apply aF rfl;apply aq;simp(disch:=omega) ;apply aP;clear aP;refine af λK1 aP=>?_;apply ae;intro K Z;simp(disch:=omega);apply Z;apply aj;refine aJ (X:=Nat) (λi=>⟨[(0,.sl a.length (dQ a) .none),(1,.sl a.length (dQ a) .none),(5,.int .i64 (i:Nat))],H,T⟩) (λi=>i<=a.length) (λi=>a.length-i) 0 ?_ ?_ ?_
 ·exact agP _
 ·refine ag [] [] ?_ ?_ ?_ ?_ HO ?_
  all_goals simp
 ·intro i hi;refine af λK2 bp=>?_;apply ae;intro K Z;simp(disch:=omega);apply Z;refine aU rfl (λhk=>?_) (λhk=>?_)
  ·simp  at hk;have bu:=sS a i hk;generalize a.getD i w0=x at *;obtain⟨x1,x2⟩:=x;simp only at bu;apply aq;simp(disch:=omega) ;apply bp;clear bp;refine af λK3 bG=>?_;apply aj;refine aK [] [] [] aw (by kernel_rfl) (by kernel_rfl) λK hK=>?_;simp(disch:=omega)[bu,gj,hk];apply hK;apply aF rfl;apply aq;simp(disch:=omega) ;apply bG;clear bG;refine aC λK hK=>?_;simp(disch:=omega) ;apply hK;refine⟨i+1,by omega,by omega,?_⟩;refine ag [] [] ?_ ?_ ?_ ?_ HO ?_
   all_goals simp
  ·simp  at hk;apply aG;simp(disch:=omega) ;apply aP;clear aP;apply ae;intro K Z;simp(disch:=omega);apply Z;apply az;simp(disch:=omega) 
attribute [-simp] List.getD_eq_getElem?_getD in
def Fl (d:Dc)(hd:oY d)(H:List aA)(T:au):ar Tryz.prog 50 [.agg (dO d),.agg (dO d)] H T (Is (.bool true) H T):=by
 refine ar.bZ ?_ (by simp);obtain⟨h1,h2,h3⟩:=hd;obtain⟨id,zs,ns⟩:=d;simp only at h1 h2 h3;have Jn:zs.length<=9223372036854775807:=agJ h1 (by decide);have XK:ns.length<=9223372036854775807:=agJ h3 (by decide);have eV:bN H T->bN (H++[.cells (dO ⟨id,zs,ns⟩),.cells (dO ⟨id,zs,ns⟩)]) T:=λHO=>by
  have:=(HO.snoc (vs:=dO ⟨id,zs,ns⟩) (by simp)).snoc (vs:=dO ⟨id,zs,ns⟩) (by simp);simpa using this
 refine ah 7 [] Tryz.ntmps50 Tryz.func50 rfl (λ_ _=>Tryz.call50 _ _) (by simp) (λHO=>?_);have eV:=eV HO;apply ae;intro K Z;simp(disch:=omega);apply Z;refine af λK1 aP=>?_;apply ae;intro K Z;simp(disch:=omega);apply Z;apply aF rfl;apply aq;simp(disch:=omega) ;apply aP;clear aP;refine af λK1 aP=>?_;apply ae;intro K Z;simp(disch:=omega);apply Z;apply aj;refine aJ (X:=Nat) (λi=>⟨[(2,.ptr H.length 0),(3,.ptr (H.length+1) 0),(5,.int .i64 (i:Nat))],H++[.cells (dO ⟨id,zs,ns⟩),.cells (dO ⟨id,zs,ns⟩)],T⟩) (λi=>i<=zs.length) (λi=>zs.length-i) 0 ?_ ?_ ?_
 ·exact agP _
 ·refine ag [] [] ?_ ?_ ?_ ?_ eV ?_
  all_goals simp
 ·intro i hi;refine af λK2 bp=>?_;apply ae;intro K Z;simp(disch:=omega);apply Z;refine aU rfl (λhk=>?_) (λhk=>?_)
  ·simp  at hk;obtain⟨x1,x2⟩:=vZ zs i hk;have c:=λH=>BT (zs.getD i z0).ws (h2 _ (aT zs i z0 hk)).1 H T;generalize zs.getD i z0=z at *;obtain⟨zf,zw⟩:=z;simp only at x1 x2 c;apply aq;simp(disch:=omega) ;apply bp;clear bp;refine af λK3 bG=>?_;apply aj;refine aK [] [] [] aw (by kernel_rfl) (by kernel_rfl) λK hK=>?_;simp(disch:=omega)[x1,x2,fN,hk];refine aD (c _) rfl ?_;simp(disch:=omega) ;apply hK;apply aF rfl;apply aq;simp(disch:=omega) ;apply bG;clear bG;refine aC λK hK=>?_;simp(disch:=omega) ;apply hK;refine⟨i+1,by omega,by omega,?_⟩;refine ag [] [] ?_ ?_ ?_ ?_ eV ?_
   all_goals simp
  ·simp  at hk;apply aG;simp(disch:=omega) ;apply aP;clear aP;refine af λK1 aP=>?_;apply ae;intro K Z;simp(disch:=omega);apply Z;apply aj;refine aJ (X:=Nat) (λi=>⟨[(2,.ptr H.length 0),(3,.ptr (H.length+1) 0),(6,.int .i64 (i:Nat))],H++[.cells (dO ⟨id,zs,ns⟩),.cells (dO ⟨id,zs,ns⟩)],T⟩) (λi=>i<=ns.length) (λi=>ns.length-i) 0 ?_ ?_ ?_
   ·exact agP _
   ·refine ag [] [] ?_ ?_ ?_ ?_ eV ?_
    all_goals simp
   ·intro j hj;refine af λK2 bp=>?_;apply ae;intro K Z;simp(disch:=omega);apply Z;refine aU rfl (λfX=>?_) (λfX=>?_)
    ·simp  at fX;have bu:=gV ns j fX;generalize ns.getD j n0=x at *;obtain⟨y1,y2⟩:=x;simp only at bu;apply aq;simp(disch:=omega) ;apply bp;clear bp;refine af λK3 bG=>?_;apply aj;refine aK [] [] [] aw (by kernel_rfl) (by kernel_rfl) λK hK=>?_;simp(disch:=omega)[bu,cL,fX];apply hK;apply aF rfl;apply aq;simp(disch:=omega) ;apply bG;clear bG;refine aC λK hK=>?_;simp(disch:=omega) ;apply hK;refine⟨j+1,by omega,by omega,?_⟩;refine ag [] [] ?_ ?_ ?_ ?_ eV ?_
     all_goals simp
    ·simp  at fX;apply aG;simp(disch:=omega) ;apply aP;clear aP;apply ae;intro K Z;simp(disch:=omega);apply Z;apply az;simp(disch:=omega) 
attribute [-simp] List.getD_eq_getElem?_getD in
def EZ (l:List Dc)(hl:l.length<=maxLen)(hd:∀d∈l,oY d)(H:List aA)(T:au)(ta tb:Tag):ar Tryz.prog 37 [.sl l.length (aN l) ta,.sl l.length (aN l) tb] H T (Is (.bool true) H T):=by
 refine ar.cF ?_;refine ar.bZ ?_ (by simp);have jJ:l.length<=9223372036854775807:=agJ hl (by decide);refine ah 6 [] Tryz.ntmps37 Tryz.func37 rfl (λ_ _=>Tryz.call37 _ _) (by simp) (λHO=>?_);apply ae;intro K Z;simp(disch:=omega);apply Z;refine af λK1 aP=>?_;apply ae;intro K Z;simp(disch:=omega);apply Z;apply aF rfl;apply aq;simp(disch:=omega) ;apply aP;clear aP;refine af λK1 aP=>?_;apply ae;intro K Z;simp(disch:=omega);apply Z;apply aj;refine aJ (X:=Nat) (λi=>⟨[(0,.sl l.length (aN l) .none),(1,.sl l.length (aN l) .none),(5,.int .i64 (i:Nat))],H,T⟩) (λi=>i<=l.length) (λi=>l.length-i) 0 ?_ ?_ ?_
 ·exact agP _
 ·refine ag [] [] ?_ ?_ ?_ ?_ HO ?_
  all_goals simp
 ·intro i hi;refine af λK2 bp=>?_;apply ae;intro K Z;simp(disch:=omega);apply Z;refine aU rfl (λhk=>?_) (λhk=>?_)
  ·simp  at hk;have bu:=fC l i hk;have c:=λH=>Fl (l.getD i d0) (hd _ (aT l i d0 hk)) H T;generalize l.getD i d0=x at *;apply aq;simp(disch:=omega) ;apply bp;clear bp;refine af λK3 bG=>?_;apply aj;refine aK [] [] [] aw (by kernel_rfl) (by kernel_rfl) λK hK=>?_;simp(disch:=omega)[bu,bf,hk];refine aD (c _) rfl ?_;simp(disch:=omega) ;apply hK;apply aF rfl;apply aq;simp(disch:=omega) ;apply bG;clear bG;refine aC λK hK=>?_;simp(disch:=omega) ;apply hK;refine⟨i+1,by omega,by omega,?_⟩;refine ag [] [] ?_ ?_ ?_ ?_ HO ?_
   all_goals simp
  ·simp  at hk;apply aG;simp(disch:=omega) ;apply aP;clear aP;apply ae;intro K Z;simp(disch:=omega);apply Z;apply az;simp(disch:=omega) 
end Go.Proofs.YtoejlmpbebjemaaGreat
