/- SegmentBuild (layer 39): it returns true.
  Conditions: none. -/
import Derived.Test.YtneohapkboaplaaGreatGLA
import Derived.Test.YtneohapkboaplaaGreatGEq
import Derived.Test.YtneohapkboaplaaGreatGBv
import Derived.Test.YtneohapkboaplaaGreatGSdl
set_option linter.all false
set_option maxRecDepth 100000
namespace Go.Proofs.YtneohapkboaplaaGreat
open Go Go.Am Sug Seg Post
theorem flat_sum {l:List Dc}(h:∀d∈l,(dkeys d).length≤60):(l.flatMap dkeys).length≤l.length*60:=flat_len dkeys 60 l h
end Go.Proofs.YtneohapkboaplaaGreat
