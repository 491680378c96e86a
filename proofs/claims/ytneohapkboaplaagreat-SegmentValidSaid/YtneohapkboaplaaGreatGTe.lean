/- The reference's Build (layer 39): the lists of the terms grow in place.
  Conditions: lengths below 400 or 1000, as each theorem says. -/
import Derived.Test.YtneohapkboaplaaGreatGTc
import Derived.Test.YtneohapkboaplaaGreatGTd
set_option linter.all false
set_option maxRecDepth 100000
namespace Seg
open Sug Go.Am Go.Proofs.YtneohapkboaplaaGreat
structure Rw where
 k:Ky
 pl:List Ps
 tg:Tag
abbrev rwC (r:Rw):List AV:=[.int .i64 r.k.1,.str r.k.2,.sl r.pl.length (psAV r.pl) r.tg]
def rwAV (l:List Rw):List AV:=l.flatMap rwC
end Seg
namespace Go.Proofs.YtneohapkboaplaaGreat
open Go Go.Am Sug Seg
end Go.Proofs.YtneohapkboaplaaGreat
