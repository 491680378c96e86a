/- SegmentFind (layer 39): it returns true.
  Conditions: none. -/
import Derived.Test.YtneohapkboaplaaGreatGLA
import Derived.Test.YtneohapkboaplaaGreatGRB
import Derived.Test.YtneohapkboaplaaGreatGOwn
set_option linter.all false
set_option maxRecDepth 100000
namespace Go.Proofs.YtneohapkboaplaaGreat
open Go Go.Am Sug Seg Post
theorem findS_sz {s:Sg}(hs:SzS s)(k:Ky):(findS s k).length≤400∧∀p∈findS s k,p.2.length≤400:=by
 unfold findS
 split
 ·unfold postS
  cases hf:s.tms.find? fun t=>decide (t.k=k) with
  |none=>simp
  |some t=>exact(hs.w t (List.mem_of_find?_eq_some hf)).2
 ·simp
theorem wordsS_sz {s:Sg}(hs:SzS s)(f:Int)(p:Bs):(wordsS s f p).length≤1000:=by
 unfold wordsS
 split
 ·unfold wordsL
  rw[List.length_map]
  exact Nat.le_trans (List.length_filter_le _ _) hs.t
 ·simp
theorem betS_sz {s:Sg}(hs:SzS s)(f lo hi:Int):(betS s f lo hi).length≤400:=by
 unfold betS
 split
 ·rename_i h
  exact Nat.le_trans (ascL_small (hits_docs h f lo hi)) hs.d
 ·simp
end Go.Proofs.YtneohapkboaplaaGreat
