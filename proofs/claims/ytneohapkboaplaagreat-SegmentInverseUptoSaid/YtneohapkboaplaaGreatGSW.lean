/- SameWords, Equal, SameDocuments of layer 37's reference, for equal arguments.
  Conditions: sizes, as the theorems say. -/
import Derived.Test.YtneohapkboaplaaGreatGA
import Derived.Test.YtneohapkboaplaaGreatGC
import Derived.Test.YtneohapkboaplaaGreatPA
set_option linter.all false
set_option maxRecDepth 100000
namespace Go.Proofs.YtneohapkboaplaaGreat
open Go Go.Am Sug Seg
attribute [-simp] List.getD_eq_getElem?_getD in
set_option maxHeartbeats 4000000 in
theorem sameWords_ok (a:List Wd)(ha:a.length≤maxLen)(H:List Blk)(T:Toks):ACall Tryz.prog 159 [.sl a.length (wdAV a) .none,.sl a.length (wdAV a) .none] H T (Is (.bool true) H T):=by
 refine ACall.drop' ?_ (by simp)
 have ha':a.length≤9223372036854775807:=Nat.le_trans ha (by decide)
 refine acall_enter 6 [] Tryz.ntmps159 Tryz.func159 rfl (fun _ _=>Tryz.call159 _ _) (by simp) (fun HO=>?_)
 refine aw_reg fun K hK=>?_;simp(disch:=omega) ;refine hK _ ?_;clear hK K
 refine aw_then fun K1 hK1=>?_
 refine aw_reg fun K hK=>?_;simp(disch:=omega) ;refine hK _ ?_;clear hK K
 refine aw_iff rfl ?_
 refine aw_skip ?_;simp(disch:=omega) 
 refine hK1 _ ?_;clear hK1
 refine aw_then fun K1 hK1=>?_
 refine aw_reg fun K hK=>?_;simp(disch:=omega) ;refine hK _ ?_;clear hK K
 refine aw_block ?_
 refine aw_loop (X:=Nat) (fun i=>⟨[(0,.sl a.length (wdAV a) .none),(1,.sl a.length (wdAV a) .none),(5,.int .i64 (i:Nat))],H,T⟩) (fun i=>i≤a.length) (fun i=>a.length-i) 0 ?_ ?_ ?_
 ·exact Nat.zero_le _
 ·refine weak_to [] [] ?_ ?_ ?_ ?_ HO ?_
  all_goals simp
 ·intro i hi
  refine aw_then fun K2 hK2=>?_
  refine aw_reg fun K hK=>?_;simp(disch:=omega) ;refine hK _ ?_;clear hK K
  refine aw_if rfl (fun hk=>?_) (fun hk=>?_)
  ·simp  at hk
   have hcut:=wdAV_cut a i hk
   generalize a.getD i w0=x at *
   obtain⟨x1,x2⟩:=x
   simp only at hcut
   refine aw_skip ?_;simp(disch:=omega) 
   refine hK2 _ ?_;clear hK2
   refine aw_then fun K3 hK3=>?_
   refine aw_block ?_
   refine aw_draw [] [] [] drawMixed (by kernel_rfl) (by kernel_rfl) fun K hK=>?_;simp(disch:=omega)[hcut,wdAV_len,hk]
   refine hK _ ?_;clear hK K
   refine aw_iff rfl ?_
   refine aw_skip ?_;simp(disch:=omega) 
   refine hK3 _ ?_;clear hK3
   refine aw_reg0 fun K hK=>?_;simp(disch:=omega) 
   refine hK _ ?_;clear hK K
   refine⟨i+1,by omega,by omega,?_⟩
   refine weak_to [] [] ?_ ?_ ?_ ?_ HO ?_
   all_goals simp
  ·simp  at hk
   refine aw_exit ?_;simp(disch:=omega) 
   refine hK1 _ ?_;clear hK1
   refine aw_reg fun K hK=>?_;simp(disch:=omega) ;refine hK _ ?_;clear hK K
   refine aw_ret ?_;simp(disch:=omega) 
attribute [-simp] List.getD_eq_getElem?_getD in
set_option maxHeartbeats 8000000 in
theorem equalDoc_ok (d:Dc)(hd:SzD d)(H:List Blk)(T:Toks):ACall Tryz.prog 101 [.agg (dcC d),.agg (dcC d)] H T (Is (.bool true) H T):=by
 refine ACall.drop' ?_ (by simp)
 obtain⟨h1,h2,h3⟩:=hd
 obtain⟨id,zs,ns⟩:=d
 simp only at h1 h2 h3
 have hz':zs.length≤9223372036854775807:=Nat.le_trans h1 (by decide)
 have hn':ns.length≤9223372036854775807:=Nat.le_trans h3 (by decide)
 have HO1:HOk H T→HOk (H++[.cells (dcC ⟨id,zs,ns⟩),.cells (dcC ⟨id,zs,ns⟩)]) T:=fun HO=>by
  have:=(HO.snoc (vs:=dcC ⟨id,zs,ns⟩) (by simp)).snoc (vs:=dcC ⟨id,zs,ns⟩) (by simp)
  simpa using this
 refine acall_enter 7 [] Tryz.ntmps101 Tryz.func101 rfl (fun _ _=>Tryz.call101 _ _) (by simp) (fun HO=>?_)
 have HO1:=HO1 HO
 refine aw_reg fun K hK=>?_;simp(disch:=omega) ;refine hK _ ?_;clear hK K
 refine aw_then fun K1 hK1=>?_
 refine aw_reg fun K hK=>?_;simp(disch:=omega) ;refine hK _ ?_;clear hK K
 refine aw_iff rfl ?_
 refine aw_skip ?_;simp(disch:=omega) 
 refine hK1 _ ?_;clear hK1
 refine aw_then fun K1 hK1=>?_
 refine aw_reg fun K hK=>?_;simp(disch:=omega) ;refine hK _ ?_;clear hK K
 refine aw_block ?_
 refine aw_loop (X:=Nat) (fun i=>⟨[(2,.ptr H.length 0),(3,.ptr (H.length+1) 0),(5,.int .i64 (i:Nat))],H++[.cells (dcC ⟨id,zs,ns⟩),.cells (dcC ⟨id,zs,ns⟩)],T⟩) (fun i=>i≤zs.length) (fun i=>zs.length-i) 0 ?_ ?_ ?_
 ·exact Nat.zero_le _
 ·refine weak_to [] [] ?_ ?_ ?_ ?_ HO1 ?_
  all_goals simp
 ·intro i hi
  refine aw_then fun K2 hK2=>?_
  refine aw_reg fun K hK=>?_;simp(disch:=omega) ;refine hK _ ?_;clear hK K
  refine aw_if rfl (fun hk=>?_) (fun hk=>?_)
  ·simp  at hk
   obtain⟨x1,x2⟩:=znAV_at zs i hk
   have c:=fun H=>sameWords_ok (zs.getD i z0).ws (h2 _ (getD_mem zs i z0 hk)).1 H T
   generalize zs.getD i z0=z at *
   obtain⟨zf,zw⟩:=z
   simp only at x1 x2 c
   refine aw_skip ?_;simp(disch:=omega) 
   refine hK2 _ ?_;clear hK2
   refine aw_then fun K3 hK3=>?_
   refine aw_block ?_
   refine aw_draw [] [] [] drawMixed (by kernel_rfl) (by kernel_rfl) fun K hK=>?_;simp(disch:=omega)[x1,x2,znAV_len,hk]
   refine dcall_is (c _) rfl ?_;simp(disch:=omega) 
   refine hK _ ?_;clear hK K
   refine aw_iff rfl ?_
   refine aw_skip ?_;simp(disch:=omega) 
   refine hK3 _ ?_;clear hK3
   refine aw_reg0 fun K hK=>?_;simp(disch:=omega) 
   refine hK _ ?_;clear hK K
   refine⟨i+1,by omega,by omega,?_⟩
   refine weak_to [] [] ?_ ?_ ?_ ?_ HO1 ?_
   all_goals simp
  ·simp  at hk
   refine aw_exit ?_;simp(disch:=omega) 
   refine hK1 _ ?_;clear hK1
   refine aw_then fun K1 hK1=>?_
   refine aw_reg fun K hK=>?_;simp(disch:=omega) ;refine hK _ ?_;clear hK K
   refine aw_block ?_
   refine aw_loop (X:=Nat) (fun i=>⟨[(2,.ptr H.length 0),(3,.ptr (H.length+1) 0),(6,.int .i64 (i:Nat))],H++[.cells (dcC ⟨id,zs,ns⟩),.cells (dcC ⟨id,zs,ns⟩)],T⟩) (fun i=>i≤ns.length) (fun i=>ns.length-i) 0 ?_ ?_ ?_
   ·exact Nat.zero_le _
   ·refine weak_to [] [] ?_ ?_ ?_ ?_ HO1 ?_
    all_goals simp
   ·intro j hj
    refine aw_then fun K2 hK2=>?_
    refine aw_reg fun K hK=>?_;simp(disch:=omega) ;refine hK _ ?_;clear hK K
    refine aw_if rfl (fun hk2=>?_) (fun hk2=>?_)
    ·simp  at hk2
     have hcut:=nmAV_cut ns j hk2
     generalize ns.getD j n0=x at *
     obtain⟨y1,y2⟩:=x
     simp only at hcut
     refine aw_skip ?_;simp(disch:=omega) 
     refine hK2 _ ?_;clear hK2
     refine aw_then fun K3 hK3=>?_
     refine aw_block ?_
     refine aw_draw [] [] [] drawMixed (by kernel_rfl) (by kernel_rfl) fun K hK=>?_;simp(disch:=omega)[hcut,nmAV_len,hk2]
     refine hK _ ?_;clear hK K
     refine aw_iff rfl ?_
     refine aw_skip ?_;simp(disch:=omega) 
     refine hK3 _ ?_;clear hK3
     refine aw_reg0 fun K hK=>?_;simp(disch:=omega) 
     refine hK _ ?_;clear hK K
     refine⟨j+1,by omega,by omega,?_⟩
     refine weak_to [] [] ?_ ?_ ?_ ?_ HO1 ?_
     all_goals simp
    ·simp  at hk2
     refine aw_exit ?_;simp(disch:=omega) 
     refine hK1 _ ?_;clear hK1
     refine aw_reg fun K hK=>?_;simp(disch:=omega) ;refine hK _ ?_;clear hK K
     refine aw_ret ?_;simp(disch:=omega) 
attribute [-simp] List.getD_eq_getElem?_getD in
set_option maxHeartbeats 4000000 in
theorem sameDocs_ok (l:List Dc)(hl:l.length≤maxLen)(hd:∀d∈l,SzD d)(H:List Blk)(T:Toks)(ta tb:Tag):ACall Tryz.prog 39 [.sl l.length (dcAV l) ta,.sl l.length (dcAV l) tb] H T (Is (.bool true) H T):=by
 refine ACall.untag1 ?_
 refine ACall.drop' ?_ (by simp)
 have hl':l.length≤9223372036854775807:=Nat.le_trans hl (by decide)
 refine acall_enter 6 [] Tryz.ntmps39 Tryz.func39 rfl (fun _ _=>Tryz.call39 _ _) (by simp) (fun HO=>?_)
 refine aw_reg fun K hK=>?_;simp(disch:=omega) ;refine hK _ ?_;clear hK K
 refine aw_then fun K1 hK1=>?_
 refine aw_reg fun K hK=>?_;simp(disch:=omega) ;refine hK _ ?_;clear hK K
 refine aw_iff rfl ?_
 refine aw_skip ?_;simp(disch:=omega) 
 refine hK1 _ ?_;clear hK1
 refine aw_then fun K1 hK1=>?_
 refine aw_reg fun K hK=>?_;simp(disch:=omega) ;refine hK _ ?_;clear hK K
 refine aw_block ?_
 refine aw_loop (X:=Nat) (fun i=>⟨[(0,.sl l.length (dcAV l) .none),(1,.sl l.length (dcAV l) .none),(5,.int .i64 (i:Nat))],H,T⟩) (fun i=>i≤l.length) (fun i=>l.length-i) 0 ?_ ?_ ?_
 ·exact Nat.zero_le _
 ·refine weak_to [] [] ?_ ?_ ?_ ?_ HO ?_
  all_goals simp
 ·intro i hi
  refine aw_then fun K2 hK2=>?_
  refine aw_reg fun K hK=>?_;simp(disch:=omega) ;refine hK _ ?_;clear hK K
  refine aw_if rfl (fun hk=>?_) (fun hk=>?_)
  ·simp  at hk
   have hcut:=dcAV_cut l i hk
   have c:=fun H=>equalDoc_ok (l.getD i d0) (hd _ (getD_mem l i d0 hk)) H T
   generalize l.getD i d0=x at *
   refine aw_skip ?_;simp(disch:=omega) 
   refine hK2 _ ?_;clear hK2
   refine aw_then fun K3 hK3=>?_
   refine aw_block ?_
   refine aw_draw [] [] [] drawMixed (by kernel_rfl) (by kernel_rfl) fun K hK=>?_;simp(disch:=omega)[hcut,dcAV_len,hk]
   refine dcall_is (c _) rfl ?_;simp(disch:=omega) 
   refine hK _ ?_;clear hK K
   refine aw_iff rfl ?_
   refine aw_skip ?_;simp(disch:=omega) 
   refine hK3 _ ?_;clear hK3
   refine aw_reg0 fun K hK=>?_;simp(disch:=omega) 
   refine hK _ ?_;clear hK K
   refine⟨i+1,by omega,by omega,?_⟩
   refine weak_to [] [] ?_ ?_ ?_ ?_ HO ?_
   all_goals simp
  ·simp  at hk
   refine aw_exit ?_;simp(disch:=omega) 
   refine hK1 _ ?_;clear hK1
   refine aw_reg fun K hK=>?_;simp(disch:=omega) ;refine hK _ ?_;clear hK K
   refine aw_ret ?_;simp(disch:=omega) 
end Go.Proofs.YtneohapkboaplaaGreat
