/- SameWords, Equal, SameDocuments of layer 37's reference, for equal arguments.
  Conditions: sizes, as the theorems say. -/
import Derived.Test.YtoejlmpbebjemaaGreatGA
import Derived.Test.YtoejlmpbebjemaaGreatGC
import Derived.Test.YtoejlmpbebjemaaGreatPA
set_option linter.all false
set_option maxRecDepth 100000
set_option maxHeartbeats 8000000
namespace Go.Proofs.YtoejlmpbebjemaaGreat
open Go Go.Am im eT
attribute [-simp] List.getD_eq_getElem?_getD in
def Cj (a:List Wd)(ha:a.length<=maxLen)(H:List az)(T:au):ar Tryz.prog 102 [.sl a.length (dR a) .none,.sl a.length (dR a) .none] H T (Is (.bool true) H T):=by
 refine ar.bV ?_ (by simp);have ha':a.length<=9223372036854775807:=aho ha (by decide);refine ah 6 [] Tryz.ntmps102 Tryz.func102 rfl (λ_ _=>Tryz.call102 _ _) (by simp) (λHO=>?_);apply ae;intro K Z;simp(disch:=omega);apply Z;refine af λK1 aO=>?_;apply ae;intro K Z;simp(disch:=omega);apply Z;apply aD rfl;apply aq;simp(disch:=omega) ;apply aO;clear aO;refine af λK1 aO=>?_;apply ae;intro K Z;simp(disch:=omega);apply Z;apply aj;refine aI (X:=Nat) (λi=>⟨[(0,.sl a.length (dR a) .none),(1,.sl a.length (dR a) .none),(5,.int .i64 (i:Nat))],H,T⟩) (λi=>i<=a.length) (λi=>a.length-i) 0 ?_ ?_ ?_
 ·exact ahu _
 ·refine ag [] [] ?_ ?_ ?_ ?_ HO ?_
  all_goals simp
 ·intro i hi;refine af λK2 bc=>?_;apply ae;intro K Z;simp(disch:=omega);apply Z;refine aT rfl (λhk=>?_) (λhk=>?_)
  ·simp  at hk;have hcut:=tm a i hk;generalize a.getD i w0=x at *;obtain⟨x1,x2⟩:=x;simp only at hcut;apply aq;simp(disch:=omega) ;apply bc;clear bc;refine af λK3 bD=>?_;apply aj;refine aJ [] [] [] aw (by kernel_rfl) (by kernel_rfl) λK hK=>?_;simp(disch:=omega)[hcut,gB,hk];apply hK;apply aD rfl;apply aq;simp(disch:=omega) ;apply bD;clear bD;refine aB λK hK=>?_;simp(disch:=omega) ;apply hK;refine⟨i+1,by omega,by omega,?_⟩;refine ag [] [] ?_ ?_ ?_ ?_ HO ?_
   all_goals simp
  ·simp  at hk;apply aF;simp(disch:=omega) ;apply aO;clear aO;apply ae;intro K Z;simp(disch:=omega);apply Z;apply ay;simp(disch:=omega) 
attribute [-simp] List.getD_eq_getElem?_getD in
def FQ (d:Dc)(hd:o5 d)(H:List az)(T:au):ar Tryz.prog 50 [.agg (dP d),.agg (dP d)] H T (Is (.bool true) H T):=by
 refine ar.bV ?_ (by simp);obtain⟨h1,h2,h3⟩:=hd;obtain⟨id,zs,ns⟩:=d;simp only at h1 h2 h3;have hz':zs.length<=9223372036854775807:=aho h1 (by decide);have Yv:ns.length<=9223372036854775807:=aho h3 (by decide);have ff:bJ H T->bJ (H++[.cells (dP ⟨id,zs,ns⟩),.cells (dP ⟨id,zs,ns⟩)]) T:=λHO=>by
  have:=(HO.snoc (vs:=dP ⟨id,zs,ns⟩) (by simp)).snoc (vs:=dP ⟨id,zs,ns⟩) (by simp);simpa using this
 refine ah 7 [] Tryz.ntmps50 Tryz.func50 rfl (λ_ _=>Tryz.call50 _ _) (by simp) (λHO=>?_);have ff:=ff HO;apply ae;intro K Z;simp(disch:=omega);apply Z;refine af λK1 aO=>?_;apply ae;intro K Z;simp(disch:=omega);apply Z;apply aD rfl;apply aq;simp(disch:=omega) ;apply aO;clear aO;refine af λK1 aO=>?_;apply ae;intro K Z;simp(disch:=omega);apply Z;apply aj;refine aI (X:=Nat) (λi=>⟨[(2,.ptr H.length 0),(3,.ptr (H.length+1) 0),(5,.int .i64 (i:Nat))],H++[.cells (dP ⟨id,zs,ns⟩),.cells (dP ⟨id,zs,ns⟩)],T⟩) (λi=>i<=zs.length) (λi=>zs.length-i) 0 ?_ ?_ ?_
 ·exact ahu _
 ·refine ag [] [] ?_ ?_ ?_ ?_ ff ?_
  all_goals simp
 ·intro i hi;refine af λK2 bc=>?_;apply ae;intro K Z;simp(disch:=omega);apply Z;refine aT rfl (λhk=>?_) (λhk=>?_)
  ·simp  at hk;obtain⟨x1,x2⟩:=wk zs i hk;have c:=λH=>Cj (zs.getD i z0).ws (h2 _ (aS zs i z0 hk)).1 H T;generalize zs.getD i z0=z at *;obtain⟨zf,zw⟩:=z;simp only at x1 x2 c;apply aq;simp(disch:=omega) ;apply bc;clear bc;refine af λK3 bD=>?_;apply aj;refine aJ [] [] [] aw (by kernel_rfl) (by kernel_rfl) λK hK=>?_;simp(disch:=omega)[x1,x2,fV,hk];refine aC (c _) rfl ?_;simp(disch:=omega) ;apply hK;apply aD rfl;apply aq;simp(disch:=omega) ;apply bD;clear bD;refine aB λK hK=>?_;simp(disch:=omega) ;apply hK;refine⟨i+1,by omega,by omega,?_⟩;refine ag [] [] ?_ ?_ ?_ ?_ ff ?_
   all_goals simp
  ·simp  at hk;apply aF;simp(disch:=omega) ;apply aO;clear aO;refine af λK1 aO=>?_;apply ae;intro K Z;simp(disch:=omega);apply Z;apply aj;refine aI (X:=Nat) (λi=>⟨[(2,.ptr H.length 0),(3,.ptr (H.length+1) 0),(6,.int .i64 (i:Nat))],H++[.cells (dP ⟨id,zs,ns⟩),.cells (dP ⟨id,zs,ns⟩)],T⟩) (λi=>i<=ns.length) (λi=>ns.length-i) 0 ?_ ?_ ?_
   ·exact ahu _
   ·refine ag [] [] ?_ ?_ ?_ ?_ ff ?_
    all_goals simp
   ·intro j hj;refine af λK2 bc=>?_;apply ae;intro K Z;simp(disch:=omega);apply Z;refine aT rfl (λgq=>?_) (λgq=>?_)
    ·simp  at gq;have hcut:=ia ns j gq;generalize ns.getD j n0=x at *;obtain⟨y1,y2⟩:=x;simp only at hcut;apply aq;simp(disch:=omega) ;apply bc;clear bc;refine af λK3 bD=>?_;apply aj;refine aJ [] [] [] aw (by kernel_rfl) (by kernel_rfl) λK hK=>?_;simp(disch:=omega)[hcut,cH,gq];apply hK;apply aD rfl;apply aq;simp(disch:=omega) ;apply bD;clear bD;refine aB λK hK=>?_;simp(disch:=omega) ;apply hK;refine⟨j+1,by omega,by omega,?_⟩;refine ag [] [] ?_ ?_ ?_ ?_ ff ?_
     all_goals simp
    ·simp  at gq;apply aF;simp(disch:=omega) ;apply aO;clear aO;apply ae;intro K Z;simp(disch:=omega);apply Z;apply ay;simp(disch:=omega) 
attribute [-simp] List.getD_eq_getElem?_getD in
def Fw (l:List Dc)(hl:l.length<=maxLen)(hd:∀d∈l,o5 d)(H:List az)(T:au)(ta tb:Tag):ar Tryz.prog 37 [.sl l.length (aM l) ta,.sl l.length (aM l) tb] H T (Is (.bool true) H T):=by
 refine ar.cg ?_;refine ar.bV ?_ (by simp);have jR:l.length<=9223372036854775807:=aho hl (by decide);refine ah 6 [] Tryz.ntmps37 Tryz.func37 rfl (λ_ _=>Tryz.call37 _ _) (by simp) (λHO=>?_);apply ae;intro K Z;simp(disch:=omega);apply Z;refine af λK1 aO=>?_;apply ae;intro K Z;simp(disch:=omega);apply Z;apply aD rfl;apply aq;simp(disch:=omega) ;apply aO;clear aO;refine af λK1 aO=>?_;apply ae;intro K Z;simp(disch:=omega);apply Z;apply aj;refine aI (X:=Nat) (λi=>⟨[(0,.sl l.length (aM l) .none),(1,.sl l.length (aM l) .none),(5,.int .i64 (i:Nat))],H,T⟩) (λi=>i<=l.length) (λi=>l.length-i) 0 ?_ ?_ ?_
 ·exact ahu _
 ·refine ag [] [] ?_ ?_ ?_ ?_ HO ?_
  all_goals simp
 ·intro i hi;refine af λK2 bc=>?_;apply ae;intro K Z;simp(disch:=omega);apply Z;refine aT rfl (λhk=>?_) (λhk=>?_)
  ·simp  at hk;have hcut:=fJ l i hk;have c:=λH=>FQ (l.getD i d0) (hd _ (aS l i d0 hk)) H T;generalize l.getD i d0=x at *;apply aq;simp(disch:=omega) ;apply bc;clear bc;refine af λK3 bD=>?_;apply aj;refine aJ [] [] [] aw (by kernel_rfl) (by kernel_rfl) λK hK=>?_;simp(disch:=omega)[hcut,ba,hk];refine aC (c _) rfl ?_;simp(disch:=omega) ;apply hK;apply aD rfl;apply aq;simp(disch:=omega) ;apply bD;clear bD;refine aB λK hK=>?_;simp(disch:=omega) ;apply hK;refine⟨i+1,by omega,by omega,?_⟩;refine ag [] [] ?_ ?_ ?_ ?_ HO ?_
   all_goals simp
  ·simp  at hk;apply aF;simp(disch:=omega) ;apply aO;clear aO;apply ae;intro K Z;simp(disch:=omega);apply Z;apply ay;simp(disch:=omega) 
end Go.Proofs.YtoejlmpbebjemaaGreat
