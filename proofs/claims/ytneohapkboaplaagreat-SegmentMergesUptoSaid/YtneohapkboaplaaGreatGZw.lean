/- What the law's bookplatelaw39.Own returns (layer 39): the segment. What the law's bookplatelaw39.Theirs returns (layer 39): the segment. The reference's Equal of a segment and itself, and the law's equal (layer 39).
   Conditions: as the theorems say. -/
import Derived.Test.YtneohapkboaplaaGreatGV
import Derived.Test.YtneohapkboaplaaGreatGBC
import Derived.Test.YtneohapkboaplaaGreatAmC
set_option linter.all false
set_option maxRecDepth 100000
namespace Go.Proofs.YtneohapkboaplaaGreat
open Go Go.Am Sug Seg Post
end Go.Proofs.YtneohapkboaplaaGreat

set_option linter.all false
set_option maxRecDepth 100000
namespace Go.Proofs.YtneohapkboaplaaGreat
open Go Go.Am Sug Seg Post
end Go.Proofs.YtneohapkboaplaaGreat

set_option linter.all false
set_option maxRecDepth 100000
namespace Go.Proofs.YtneohapkboaplaaGreat
open Go Go.Am Sug Seg Post
end Go.Proofs.YtneohapkboaplaaGreat
