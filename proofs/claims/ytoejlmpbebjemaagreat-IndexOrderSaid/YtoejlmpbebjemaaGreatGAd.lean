/- Lists of documents as arguments of the rows of layer 39.
  Conditions: none. -/
import Derived.Test.YtoejlmpbebjemaaGreatGArg
set_option linter.all false
set_option maxRecDepth 100000
namespace Go.Proofs.YtoejlmpbebjemaaGreat
open Go.Proofs.Tryz(prog)
open Go Go.Am Go.ChangeShapes Go.WideShapes Go.RowKit eT
section
variable {H : Type} {enc : TypeId × Value -> H} {w : World} {base fuel : Nat} {sp : Nat -> Bool} {held : Bool} {cs : List Value} {x : DataW H × List MemPlace}
theorem ZU (h:DataW.trod enc prog w base sp held fuel 136 cs=some x):∃p:Wd,p.1.length<=maxLen/\RC w (RG p) cs:=by
 obtain⟨hlen,hf⟩:=nP Tryz.underlying136 h;obtain⟨n0,y0,R7⟩:=hf 0 _ rfl;have g0:DataW.trod enc prog w base sp held n0 9 ((cs.drop 0).take (prog.cellsOf 9))=some y0:=R7;obtain⟨n1,y1,R6⟩:=hf 1 _ rfl;have g1:DataW.trod enc prog w base sp held n1 3 ((cs.drop 1).take (prog.cellsOf 3))=some y1:=R6;rw[show prog.cellsOf 9=1 by kernel_rfl] at g0;rw[show prog.cellsOf 3=1 by kernel_rfl] at g1;rw[show prog.cellsOf 136=2 by kernel_rfl] at hlen;obtain⟨s,hs,b0⟩:=OM Tryz.underlying9 g0;obtain⟨a,_,b1⟩:=pG Tryz.underlying3 g1
 match cs,hlen with
 |[x,y],_=>exact⟨(s,a),hs,b0.append b1⟩
theorem ZV (h:DataW.trod enc prog w base sp held fuel 165 cs=some x):∃p:Nm,True/\RC w (zk p) cs:=by
 obtain⟨hlen,hf⟩:=nP Tryz.underlying165 h;obtain⟨n0,y0,R7⟩:=hf 0 _ rfl;have g0:DataW.trod enc prog w base sp held n0 3 ((cs.drop 0).take (prog.cellsOf 3))=some y0:=R7;obtain⟨n1,y1,R6⟩:=hf 1 _ rfl;have g1:DataW.trod enc prog w base sp held n1 3 ((cs.drop 1).take (prog.cellsOf 3))=some y1:=R6;rw[show prog.cellsOf 3=1 by kernel_rfl] at g0 g1;rw[show prog.cellsOf 165=2 by kernel_rfl] at hlen;obtain⟨a,_,b0⟩:=pG Tryz.underlying3 g0;obtain⟨b,_,b1⟩:=pG Tryz.underlying3 g1
 match cs,hlen with
 |[x,y],_=>exact⟨(a,b),trivial,b0.append b1⟩
def SzZ (z:Zn):Prop:=z.ws.length<=maxLen/\∀w∈z.ws,w.1.length<=maxLen
theorem ZT (h:DataW.trod enc prog w base sp held fuel 117 cs=some x):∃z:Zn,SzZ z/\RC w (oR z) cs:=by
 obtain⟨hlen,hf⟩:=nP Tryz.underlying117 h;obtain⟨n0,y0,R7⟩:=hf 0 _ rfl;have g0:DataW.trod enc prog w base sp held n0 3 ((cs.drop 0).take (prog.cellsOf 3))=some y0:=R7;obtain⟨n1,y1,R6⟩:=hf 1 _ rfl;have g1:DataW.trod enc prog w base sp held n1 115 ((cs.drop 1).take (prog.cellsOf 115))=some y1:=R6;rw[show prog.cellsOf 3=1 by kernel_rfl] at g0;rw[show prog.cellsOf 115=1 by kernel_rfl] at g1;rw[show prog.cellsOf 117=2 by kernel_rfl] at hlen;obtain⟨a,_,b0⟩:=pG Tryz.underlying3 g0;obtain⟨l,q1,q2,b1⟩:=BL (f:=RG) (R:=λp=>p.1.length<=maxLen) Tryz.underlying115 (by rw[show prog.cellsOf 136=2 by kernel_rfl];omega) (λn c y hy=>ZU hy) g1
 match cs,hlen with
 |[x,y],_=>exact⟨⟨a,l⟩,⟨q2,q1⟩,b0.append b1⟩
theorem ZW (h:DataW.trod enc prog w base sp held fuel 26 cs=some x):∃d:Dc,o5 d/\RC w (dP d) cs:=by
 obtain⟨hlen,hf⟩:=nP Tryz.underlying26 h;obtain⟨n0,y0,R7⟩:=hf 0 _ rfl;have g0:DataW.trod enc prog w base sp held n0 3 ((cs.drop 0).take (prog.cellsOf 3))=some y0:=R7;obtain⟨n1,y1,R6⟩:=hf 1 _ rfl;have g1:DataW.trod enc prog w base sp held n1 23 ((cs.drop 1).take (prog.cellsOf 23))=some y1:=R6;obtain⟨n2,y2,g2'⟩:=hf 2 _ rfl;have g2:DataW.trod enc prog w base sp held n2 24 ((cs.drop 2).take (prog.cellsOf 24))=some y2:=g2';rw[show prog.cellsOf 3=1 by kernel_rfl] at g0;rw[show prog.cellsOf 23=1 by kernel_rfl] at g1;rw[show prog.cellsOf 24=1 by kernel_rfl] at g2;rw[show prog.cellsOf 26=3 by kernel_rfl] at hlen;obtain⟨a,_,b0⟩:=pG Tryz.underlying3 g0;obtain⟨zs,p1,p2,b1⟩:=BL (f:=oR) (R:=SzZ) Tryz.underlying23 (by rw[show prog.cellsOf 117=2 by kernel_rfl];omega) (λn c y hy=>ZT hy) g1;obtain⟨ns,_,p4,b2⟩:=BL (f:=zk) (R:=λ_=>True) Tryz.underlying24 (by rw[show prog.cellsOf 165=2 by kernel_rfl];omega) (λn c y hy=>ZV hy) g2
 match cs,hlen with
 |[x,y,z],_=>exact⟨⟨a,zs,ns⟩,⟨p2,p1,p4⟩,(b0.append b1).append b2⟩
def M8 {v:Value}{d:DataW H}{ps:List MemPlace}{r:Reach}{b0:Nat}(kX:Value.okWide prog w r b0 74 v)(h:DataW.Trod enc prog w base sp held 74 v d ps) :
  ∃l:List Dc,(l.length<=maxLen/\∀d∈l,o5 d)/\aY (vU w) 0 [] w (.sl l.length (aM l) .none) v:=by
 obtain⟨es,⟨g1,g2⟩,g3⟩:=Q4 (G:=λa=>∃p:Dc,o5 p/\a=dP p) Tryz.underlying74 (by rw[show prog.cellsOf 26=3 by kernel_rfl];omega) (λn c y hy=>by
  obtain⟨p,hp,hr⟩:=ZW hy;exact⟨_,⟨p,hp,rfl⟩,hr⟩) kX h
 obtain⟨l,k1,k2,k3⟩:=xQ (R:=o5) (f:=dP) es g1;rw[k2,<-k1] at g3;exact⟨l,⟨by omega,k3⟩,g3⟩
end
end Go.Proofs.YtoejlmpbebjemaaGreat
