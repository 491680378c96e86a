/- The reference's Equal of a segment and itself, and the law's equal (layer 39).
  Conditions: sizes, as the theorem says. -/
import Derived.Test.YtneohapkboaplaaGreatGThr
import Derived.Test.YtneohapkboaplaaGreatAmC
set_option linter.all false
set_option maxRecDepth 100000
namespace Go.Proofs.YtneohapkboaplaaGreat
open Go Go.Am Sug Seg Post
end Go.Proofs.YtneohapkboaplaaGreat
