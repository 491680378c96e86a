/- The reference's test of documents (layer 37).
  Conditions: lengths that memory holds. -/
import Derived.Test.YtneohapkboaplaaGreatGTa
import Derived.Test.YtneohapkboaplaaGreatGRA
set_option linter.all false
set_option maxRecDepth 100000
namespace Go.Proofs.YtneohapkboaplaaGreat
open Go Go.Am Sug Seg
end Go.Proofs.YtneohapkboaplaaGreat
namespace Seg
end Seg
namespace Go.Proofs.YtneohapkboaplaaGreat
open Go Go.Am Sug Seg
end Go.Proofs.YtneohapkboaplaaGreat
