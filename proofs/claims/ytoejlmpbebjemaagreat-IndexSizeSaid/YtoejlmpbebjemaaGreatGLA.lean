/- The law's same, SameTexts, the reference's Small (layer 39). The example of the document (layer 39): it holds.
  Conditions: lengths below 1000 or 1000, as each theorem says. -/
import Derived.Test.YtoejlmpbebjemaaGreatGV
import Derived.Test.YtoejlmpbebjemaaGreatGBC
import Derived.Test.YtoejlmpbebjemaaGreatGFA
import Derived.Test.YtoejlmpbebjemaaGreatGFB
set_option linter.all false
set_option maxRecDepth 100000
namespace Go.Proofs.YtoejlmpbebjemaaGreat
open Go Go.Am Sug Seg Post
end Go.Proofs.YtoejlmpbebjemaaGreat
