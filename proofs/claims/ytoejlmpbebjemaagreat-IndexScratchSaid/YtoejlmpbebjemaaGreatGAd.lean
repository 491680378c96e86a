/- Lists of documents as arguments of the rows of layer 39.
  Conditions: none. -/
import Derived.Test.YtoejlmpbebjemaaGreatGArg
set_option linter.all false
set_option maxRecDepth 100000
namespace Go.Proofs.YtoejlmpbebjemaaGreat
open Go.Proofs.Tryz(prog)
open Go Go.Am Go.ChangeShapes Go.WideShapes Go.RowKit eN
section
variable {H : Type} {enc : TypeId × Value -> H} {w : World} {base fuel : Nat} {sp : Nat -> Bool} {held : Bool} {cs : List Value} {x : DataW H × List MemPlace}
theorem Z0 (h:DataW.trod enc prog w base sp held fuel 136 cs=some x):∃p:Wd,p.1.length<=maxLen/\RC w (Ry p) cs:=by
 obtain⟨hlen,hf⟩:=mb Tryz.underlying136 h;obtain⟨n0,y0,NG⟩:=hf 0 _ rfl;have g0:DataW.trod enc prog w base sp held n0 9 ((cs.drop 0).take (prog.cellsOf 9))=some y0:=NG;obtain⟨n1,y1,NF⟩:=hf 1 _ rfl;have g1:DataW.trod enc prog w base sp held n1 3 ((cs.drop 1).take (prog.cellsOf 3))=some y1:=NF;rw[show prog.cellsOf 9=1 by kernel_rfl] at g0;rw[show prog.cellsOf 3=1 by kernel_rfl] at g1;rw[show prog.cellsOf 136=2 by kernel_rfl] at hlen;obtain⟨s,hs,b0⟩:=OE Tryz.underlying9 g0;obtain⟨a,_,b1⟩:=pZ Tryz.underlying3 g1
 match cs,hlen with
 |[x,y],_=>exact⟨(s,a),hs,b0.append b1⟩
theorem Z2 (h:DataW.trod enc prog w base sp held fuel 165 cs=some x):∃p:Nm,True/\RC w (wA p) cs:=by
 obtain⟨hlen,hf⟩:=mb Tryz.underlying165 h;obtain⟨n0,y0,NG⟩:=hf 0 _ rfl;have g0:DataW.trod enc prog w base sp held n0 3 ((cs.drop 0).take (prog.cellsOf 3))=some y0:=NG;obtain⟨n1,y1,NF⟩:=hf 1 _ rfl;have g1:DataW.trod enc prog w base sp held n1 3 ((cs.drop 1).take (prog.cellsOf 3))=some y1:=NF;rw[show prog.cellsOf 3=1 by kernel_rfl] at g0 g1;rw[show prog.cellsOf 165=2 by kernel_rfl] at hlen;obtain⟨a,_,b0⟩:=pZ Tryz.underlying3 g0;obtain⟨b,_,b1⟩:=pZ Tryz.underlying3 g1
 match cs,hlen with
 |[x,y],_=>exact⟨(a,b),trivial,b0.append b1⟩
def SzZ (z:Zn):Prop:=z.ws.length<=maxLen/\∀w∈z.ws,w.1.length<=maxLen
theorem ZZ (h:DataW.trod enc prog w base sp held fuel 117 cs=some x):∃z:Zn,SzZ z/\RC w (o8 z) cs:=by
 obtain⟨hlen,hf⟩:=mb Tryz.underlying117 h;obtain⟨n0,y0,NG⟩:=hf 0 _ rfl;have g0:DataW.trod enc prog w base sp held n0 3 ((cs.drop 0).take (prog.cellsOf 3))=some y0:=NG;obtain⟨n1,y1,NF⟩:=hf 1 _ rfl;have g1:DataW.trod enc prog w base sp held n1 115 ((cs.drop 1).take (prog.cellsOf 115))=some y1:=NF;rw[show prog.cellsOf 3=1 by kernel_rfl] at g0;rw[show prog.cellsOf 115=1 by kernel_rfl] at g1;rw[show prog.cellsOf 117=2 by kernel_rfl] at hlen;obtain⟨a,_,b0⟩:=pZ Tryz.underlying3 g0;obtain⟨l,q1,q2,b1⟩:=B4 (f:=Ry) (R:=λp=>p.1.length<=maxLen) Tryz.underlying115 (by rw[show prog.cellsOf 136=2 by kernel_rfl];omega) (λn c y hy=>Z0 hy) g1
 match cs,hlen with
 |[x,y],_=>exact⟨⟨a,l⟩,⟨q2,q1⟩,b0.append b1⟩
theorem Z3 (h:DataW.trod enc prog w base sp held fuel 26 cs=some x):∃d:Dc,pt d/\RC w (dY d) cs:=by
 obtain⟨hlen,hf⟩:=mb Tryz.underlying26 h;obtain⟨n0,y0,NG⟩:=hf 0 _ rfl;have g0:DataW.trod enc prog w base sp held n0 3 ((cs.drop 0).take (prog.cellsOf 3))=some y0:=NG;obtain⟨n1,y1,NF⟩:=hf 1 _ rfl;have g1:DataW.trod enc prog w base sp held n1 23 ((cs.drop 1).take (prog.cellsOf 23))=some y1:=NF;obtain⟨n2,y2,g2'⟩:=hf 2 _ rfl;have g2:DataW.trod enc prog w base sp held n2 24 ((cs.drop 2).take (prog.cellsOf 24))=some y2:=g2';rw[show prog.cellsOf 3=1 by kernel_rfl] at g0;rw[show prog.cellsOf 23=1 by kernel_rfl] at g1;rw[show prog.cellsOf 24=1 by kernel_rfl] at g2;rw[show prog.cellsOf 26=3 by kernel_rfl] at hlen;obtain⟨a,_,b0⟩:=pZ Tryz.underlying3 g0;obtain⟨zs,p1,p2,b1⟩:=B4 (f:=o8) (R:=SzZ) Tryz.underlying23 (by rw[show prog.cellsOf 117=2 by kernel_rfl];omega) (λn c y hy=>ZZ hy) g1;obtain⟨ns,_,p4,b2⟩:=B4 (f:=wA) (R:=λ_=>True) Tryz.underlying24 (by rw[show prog.cellsOf 165=2 by kernel_rfl];omega) (λn c y hy=>Z2 hy) g2
 match cs,hlen with
 |[x,y,z],_=>exact⟨⟨a,zs,ns⟩,⟨p2,p1,p4⟩,(b0.append b1).append b2⟩
end
end Go.Proofs.YtoejlmpbebjemaaGreat
