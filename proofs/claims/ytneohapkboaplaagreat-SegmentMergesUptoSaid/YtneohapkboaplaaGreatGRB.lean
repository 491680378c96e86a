/- The reference's Find and Words (layer 39). The reference's Between (layer 39).
  Conditions: lengths below 400 or 1000, as each theorem says. -/
import Derived.Test.YtneohapkboaplaaGreatGRA
import Derived.Test.YtneohapkboaplaaGreatGFA
import Derived.Test.YtneohapkboaplaaGreatGFB
set_option linter.all false
set_option maxRecDepth 100000
namespace Go.Proofs.YtneohapkboaplaaGreat
open Go Go.Am Sug Seg Post
theorem sub_len:∀(l m:List Int),l.Nodup→(∀x∈l,x∈m)→l.length≤m.length
 |[],m,_,_=>Nat.zero_le _
 |x::l,m,hn,h=>by
  rw[List.nodup_cons] at hn;have hx:=h x (by simp);have:=sub_len l (m.erase x) hn.2 fun y hy=>by
   have hne:y≠x:=fun e=>hn.1 (e▸hy);exact(List.mem_erase_of_ne hne).2 (h y (List.mem_cons_of_mem _ hy))
  rw[List.length_erase_of_mem hx] at this;have h0:=List.length_pos_of_mem hx;rw[List.length_cons];omega
theorem ascL_small {d docs:List Int}(h:∀x∈d,x∈docs):(ascL d).length≤docs.length:=
 sub_len _ _ (asc_nodup (ascL_asc d)) fun x hx=>h x ((ascL_mem d x).1 hx)
theorem hitL_docs {s:Sg}(h:validS s=true){i k:Nat}(hi:i<s.cols.length)(hk:k<(s.cols.getD i c0).x.length):((s.cols.getD i c0).x.getD k n0).2∈s.docs:=by
 obtain⟨_,_,h3⟩:=validS_parts h;have:=(h3 i hi).2 k hk;unfold okIt at this;simp only[Bool.and_eq_true,decide_eq_true_eq] at this;exact this.1.1
theorem hits_docs {s:Sg}(h:validS s=true)(f lo hi:Int):∀x∈hits f lo hi s.cols,x∈s.docs:=by
 intro x hx;obtain⟨c,hc,hx⟩:=List.mem_flatMap.1 hx;obtain⟨i,hi,rfl⟩:=mem_getD c0 hc;obtain⟨y,hy,hx⟩:=List.mem_flatMap.1 hx;obtain⟨k,hk,rfl⟩:=mem_getD n0 hy;unfold hitL at hx
 split at hx
 ·rw[List.mem_singleton.1 hx];exact hitL_docs h hi hk
 ·simp at hx
end Go.Proofs.YtneohapkboaplaaGreat
