/- The reference's Build (layer 39): the whole.
  Conditions: lengths below 400 or 1000, as each theorem says. -/
import Derived.Test.YtneohapkboaplaaGreatGTf
set_option linter.all false
set_option maxRecDepth 100000
namespace Seg
open Sug Go.Am Go.Proofs.YtneohapkboaplaaGreat
theorem flat_len {α β:Type}(f:α→List β)(n:Nat):∀l:List α,(∀x∈l,(f x).length≤n)→(l.flatMap f).length≤l.length*n
 |[],_=>by simp
 |x::r,h=>by
  have h1:=flat_len f n r fun y hy=>h y (by simp[hy])
  have h2:=h x (by simp)
  rw[List.flatMap_cons,List.length_append,List.length_cons,Nat.add_mul];omega
end Seg
namespace Go.Proofs.YtneohapkboaplaaGreat
open Go Go.Am Sug Seg
end Go.Proofs.YtneohapkboaplaaGreat
