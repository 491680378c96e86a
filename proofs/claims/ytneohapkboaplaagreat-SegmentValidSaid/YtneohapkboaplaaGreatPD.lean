/- At and Near of the reference of layer 38. Phrase of the reference of layer 38.
  Conditions: lengths below 400 or 1000, as each theorem says. -/
import Derived.Test.YtneohapkboaplaaGreatPC
import Derived.Test.YtneohapkboaplaaGreatPB
set_option linter.all false
set_option maxRecDepth 100000
namespace Go.Proofs.YtneohapkboaplaaGreat
open Go Go.Am Post
theorem posOf_first:∀(l:PL)(k:Nat)(d:Int),k<l.length→(∀j,j<k→(l.getD j (0,[])).1≠d)→(l.getD k (0,[])).1=d→posOf l d=(l.getD k (0,[])).2:=by
 intro l
 induction l with
 |nil=>intro k d h;simp at h
 |cons p l ih=>
  intro k d h h1 h2
  cases k with
  |zero=>simp at h2;subst h2;exact posOf_cons_eq
  |succ k=>
   have h0:p.1≠d:=by have:=h1 0 (by omega);simpa using this
   rw[posOf_cons_ne h0]
   exact ih k d (by simpa using h) (fun j hj=>by have:=h1 (j+1) (by omega);simpa using this) (by simpa using h2)
theorem posOf_len {l:PL}{m:Nat}(h:∀p∈l,p.2.length≤m)(d:Int):(posOf l d).length≤m:=by
 induction l with
 |nil=>simp[posOf]
 |cons p l ih=>
  unfold posOf
  split
  ·exact h p (by simp)
  ·exact ih (fun q hq=>h q (by simp[hq]))
attribute [-simp] List.getD_eq_getElem?_getD in
theorem atR_ok (l:PL)(d:Int)(hl:l.length≤1000)(H:List Blk)(T:Toks)(tg:Tag):ACall Tryz.prog 32 [.sl l.length (psAV l) tg,.int .i64 d] H T (Is (.sl (posOf l d).length (ints (posOf l d)) .none) H T):=by
 refine ACall.untag1 ?_
 refine ACall.drop' ?_ (by simp)
 refine acall_enter 6 [] Tryz.ntmps32 Tryz.func32 rfl (fun _ _=>Tryz.call32 _ _) (by simp) (fun HO=>?_)
 refine aw_reg fun K hK=>?_;simp(disch:=omega) ;refine hK _ ?_;clear hK K
 refine aw_then fun K1 hK1=>?_
 refine aw_reg fun K hK=>?_;simp(disch:=omega) ;refine hK _ ?_;clear hK K
 refine aw_block ?_
 refine aw_loop (X:=Nat) (fun k=>⟨[(0,.sl l.length (psAV l) .none),(1,.int .i64 d),(5,.int .i64 (k:Nat))],H,T⟩) (fun k=>k≤l.length∧∀j,j<k→(l.getD j (0,[])).1≠d) (fun k=>l.length-k) 0 ?_ ?_ ?_
 ·exact⟨Nat.zero_le _,fun j hj=>absurd hj (Nat.not_lt_zero _)⟩
 ·refine weak_to [] [] ?_ ?_ ?_ ?_ HO ?_
  all_goals simp
 ·rintro k ⟨h1,h2⟩
  refine aw_then fun K2 hK2=>?_
  refine aw_reg fun K hK=>?_;simp(disch:=omega) ;refine hK _ ?_;clear hK K
  refine aw_if rfl (fun hk=>?_) (fun hk=>?_)
  ·simp  at hk
   have hat:=psAV_at l k hk
   refine aw_skip ?_;simp(disch:=omega) 
   refine hK2 _ ?_;clear hK2
   refine aw_then fun K3 hK3=>?_
   refine aw_block ?_
   by_cases hc:(l.getD k (0,[])).1=d
   ·have b:((l.getD k (0,[])).1==d)=true:=by simpa using hc
    have hf:=posOf_first l k d hk h2 hc
    refine aw_reg fun K hK=>?_;simp(disch:=omega)[hat.1,psAV_len,b];refine hK _ ?_;clear hK K
    refine aw_ift rfl ?_
    refine aw_reg fun K hK=>?_;simp(disch:=omega)[hat.2,psAV_len];refine hK _ ?_;clear hK K
    refine aw_ret ?_;simp(disch:=omega) 
    rw[hf]
    simp
   ·have b:((l.getD k (0,[])).1==d)=false:=by simpa using hc
    refine aw_reg fun K hK=>?_;simp(disch:=omega)[hat.1,psAV_len,b];refine hK _ ?_;clear hK K
    refine aw_iff rfl ?_
    refine aw_skip ?_;simp(disch:=omega) 
    refine hK3 _ ?_;clear hK3
    refine aw_reg0 fun K hK=>?_;simp(disch:=omega) 
    refine hK _ ?_;clear hK K
    refine⟨k+1,⟨by show k+1≤_;omega,fun j hj=>?_⟩,by show l.length-(k+1)<l.length-k;omega,?_⟩
    ·rcases Nat.lt_or_ge j k with h3|h3
     ·exact h2 j h3
     ·have:j=k:=by omega
      subst this;exact hc
    ·refine weak_to [] [] ?_ ?_ ?_ ?_ HO ?_
     all_goals simp
  ·simp  at hk
   have hm:posOf l d=[]:=posOf_none fun p hp e=>by
    obtain⟨j,hj,e2⟩:=memD_inv (0,[]) hp
    have:=h2 j (by omega)
    rw[e2] at this
    exact this e
   refine aw_exit ?_;simp(disch:=omega) 
   refine hK1 _ ?_;clear hK1
   refine aw_reg fun K hK=>?_;simp(disch:=omega) ;refine hK _ ?_;clear hK K
   refine aw_ret ?_;simp(disch:=omega) 
   rw[hm]
   simp
end Go.Proofs.YtneohapkboaplaaGreat
