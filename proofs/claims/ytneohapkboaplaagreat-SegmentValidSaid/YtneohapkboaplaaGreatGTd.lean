/- The reference's positions and columns (layer 39).
  Conditions: lengths below 400 or 1000, as each theorem says. -/
import Derived.Test.YtneohapkboaplaaGreatGTb
set_option linter.all false
set_option maxRecDepth 100000
namespace Seg
open Sug Go.Am
end Seg
namespace Go.Proofs.YtneohapkboaplaaGreat
open Go Go.Am Sug Seg
end Go.Proofs.YtneohapkboaplaaGreat
