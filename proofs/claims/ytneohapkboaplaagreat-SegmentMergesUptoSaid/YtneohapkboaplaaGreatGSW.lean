/- SameWords, Equal, SameDocuments of layer 37's reference, for equal arguments.
  Conditions: sizes, as the theorems say. -/
import Derived.Test.YtneohapkboaplaaGreatGA
import Derived.Test.YtneohapkboaplaaGreatGC
import Derived.Test.YtneohapkboaplaaGreatPA
set_option linter.all false
set_option maxRecDepth 100000
namespace Go.Proofs.YtneohapkboaplaaGreat
open Go Go.Am Sug Seg
end Go.Proofs.YtneohapkboaplaaGreat
