/- The reference's terms (layer 39): the words of the fields of documents, in order, each once; the list is a box that is written to later.
  Conditions: lengths below 400 or 1000, as each theorem says. -/
import Derived.Test.YtneohapkboaplaaGreatGTb
import Derived.Test.YtneohapkboaplaaGreatAmC
set_option linter.all false
set_option maxRecDepth 100000
namespace Seg
open Sug Go.Am
abbrev k0:Ky:=(0,[])
def krAV (l:List Ky):List AV:=l.flatMap fun k=>[.int .i64 k.1,.str k.2,.sl 0 [] .full]
def TR (h0:Nat)(J:List Blk)(ks:List Ky)(tv:AV):Prop:=
 (ks=[]∧tv=.sl 0 [] .full)∨(∃i rest,tv=.msl i 0 ks.length∧h0≤i∧J[i]?=some (.cells (krAV ks++rest))∧0<ks.length)
theorem TR.app {h0:Nat}{J:List Blk}{ks:List Ky}{tv:AV}(h:TR h0 J ks tv)(G:List Blk):TR h0 (J++G) ks tv:=by
 rcases h with h|⟨i,rest,h1,h2,h3,h4⟩
 ·exact .inl h
 ·exact .inr ⟨i,rest,h1,h2,by rw[List.getElem?_append_left (List.getElem?_eq_some_iff.1 h3).1];exact h3,h4⟩
end Seg
namespace Go.Proofs.YtneohapkboaplaaGreat
open Go Go.Am Sug Seg
end Go.Proofs.YtneohapkboaplaaGreat
