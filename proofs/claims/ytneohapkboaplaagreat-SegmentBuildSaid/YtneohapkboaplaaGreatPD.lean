/- At and Near of the reference of layer 38. Phrase of the reference of layer 38.
  Conditions: lengths below 400 or 1000, as each theorem says. -/
import Derived.Test.YtneohapkboaplaaGreatPC
import Derived.Test.YtneohapkboaplaaGreatPB
set_option linter.all false
set_option maxRecDepth 100000
namespace Go.Proofs.YtneohapkboaplaaGreat
open Go Go.Am Post
end Go.Proofs.YtneohapkboaplaaGreat
