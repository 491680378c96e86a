/- Lists of documents as arguments of the rows of layer 39.
  Conditions: none. -/
import Derived.Test.YtneohapkboaplaaGreatGArg
set_option linter.all false
set_option maxRecDepth 100000
namespace Go.Proofs.YtneohapkboaplaaGreat
open Go Go.Am Go.ChangeShapes Go.WideShapes Go.RowKit Seg
section
variable {H : Type} {enc : TypeId × Value → H} {w : World} {base fuel : Nat} {sp : Nat → Bool} {held : Bool} {cs : List Value} {x : DataW H × List MemPlace}
set_option maxRecDepth 100000 in
theorem rc_wd (h:DataW.trod enc Tryz.prog w base sp held fuel 71 cs=some x):∃p:Wd,p.1.length≤maxLen∧RC w (wdC p) cs:=by
 obtain⟨hlen,hf⟩:=rc_fields Tryz.underlying71 h;obtain⟨n0,y0,g0'⟩:=hf 0 _ rfl;have g0:DataW.trod enc Tryz.prog w base sp held n0 9 ((cs.drop 0).take (Tryz.prog.cellsOf 9))=some y0:=g0';obtain⟨n1,y1,g1'⟩:=hf 1 _ rfl;have g1:DataW.trod enc Tryz.prog w base sp held n1 3 ((cs.drop 1).take (Tryz.prog.cellsOf 3))=some y1:=g1';rw[show Tryz.prog.cellsOf 9=1 by kernel_rfl] at g0;rw[show Tryz.prog.cellsOf 3=1 by kernel_rfl] at g1;rw[show Tryz.prog.cellsOf 71=2 by kernel_rfl] at hlen;obtain⟨s,hs,b0⟩:=rc_str Tryz.underlying9 g0;obtain⟨a,_,b1⟩:=rc_int Tryz.underlying3 g1
 match cs,hlen with
 |[x,y],_=>exact⟨(s,a),hs,b0.append b1⟩
set_option maxRecDepth 100000 in
theorem rc_nm (h:DataW.trod enc Tryz.prog w base sp held fuel 100 cs=some x):∃p:Nm,True∧RC w (nmC p) cs:=by
 obtain⟨hlen,hf⟩:=rc_fields Tryz.underlying100 h;obtain⟨n0,y0,g0'⟩:=hf 0 _ rfl;have g0:DataW.trod enc Tryz.prog w base sp held n0 3 ((cs.drop 0).take (Tryz.prog.cellsOf 3))=some y0:=g0';obtain⟨n1,y1,g1'⟩:=hf 1 _ rfl;have g1:DataW.trod enc Tryz.prog w base sp held n1 3 ((cs.drop 1).take (Tryz.prog.cellsOf 3))=some y1:=g1';rw[show Tryz.prog.cellsOf 3=1 by kernel_rfl] at g0 g1;rw[show Tryz.prog.cellsOf 100=2 by kernel_rfl] at hlen;obtain⟨a,_,b0⟩:=rc_int Tryz.underlying3 g0;obtain⟨b,_,b1⟩:=rc_int Tryz.underlying3 g1
 match cs,hlen with
 |[x,y],_=>exact⟨(a,b),trivial,b0.append b1⟩
def SzZ (z:Zn):Prop:=z.ws.length≤maxLen∧∀w∈z.ws,w.1.length≤maxLen
end
end Go.Proofs.YtneohapkboaplaaGreat
