/- The reference's Build (layer 39): the loops.
  Conditions: lengths below 400 or 1000, as each theorem says. -/
import Derived.Test.YtneohapkboaplaaGreatGTe
set_option linter.all false
set_option maxRecDepth 100000
namespace Seg
open Sug Go.Am Go.Proofs.YtneohapkboaplaaGreat
def Tb (h0:Nat)(R:List Rw)(tv:AV)(TB:List (Nat×Blk)):Prop:=(R=[]∧tv=.sl 0 [] .none∧TB=[])∨∃it rest,tv=.msl it 0 R.length∧TB=[(it,.cells (rwAV R++rest))]∧h0≤it
def kp (R:List Rw):List (Ky×List Ps):=R.map fun r=>(r.k,r.pl)
end Seg
namespace Go.Proofs.YtneohapkboaplaaGreat
open Go Go.Am Sug Seg
end Go.Proofs.YtneohapkboaplaaGreat
namespace Seg
open Sug Go.Am Go.Proofs.YtneohapkboaplaaGreat
end Seg
namespace Go.Proofs.YtneohapkboaplaaGreat
open Go Go.Am Sug Seg
end Go.Proofs.YtneohapkboaplaaGreat
