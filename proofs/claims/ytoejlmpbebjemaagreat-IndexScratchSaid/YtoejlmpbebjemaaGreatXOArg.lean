/- Changes as arguments (layer 40).
  Conditions: none. -/
import Derived.Test.YtoejlmpbebjemaaGreatXZc
import Derived.Test.YtoejlmpbebjemaaGreatGAd
set_option linter.all false
set_option maxRecDepth 100000
namespace Go.Proofs.YtoejlmpbebjemaaGreat
open Go.Proofs.Tryz(prog)
open Go Go.Am Go.ChangeShapes Go.WideShapes Go.RowKit eN
section
variable {H : Type} {enc : TypeId × Value -> H} {w : World} {base : Nat} {sp : Nat -> Bool} {held : Bool} {cs : List Value} {x : DataW H × List MemPlace} {fuel : Nat}
theorem Z1 (h:DataW.trod enc prog w base sp held fuel 101 cs=some x):∃o:oI,pt o.2/\RC w (Xz o) cs:=by
 obtain⟨hlen,hf⟩:=mb Tryz.underlying101 h;obtain⟨n0,y0,NG⟩:=hf 0 _ rfl;have g0:DataW.trod enc prog w base sp held n0 4 ((cs.drop 0).take (prog.cellsOf 4))=some y0:=NG;obtain⟨n1,y1,NF⟩:=hf 1 _ rfl;have g1:DataW.trod enc prog w base sp held n1 26 ((cs.drop 1).take (prog.cellsOf 26))=some y1:=NF;rw[show prog.cellsOf 4=1 by kernel_rfl] at g0;rw[show prog.cellsOf 26=3 by kernel_rfl] at g1;rw[show prog.cellsOf 101=4 by kernel_rfl] at hlen;obtain⟨b,b0⟩:=Te Tryz.underlying4 g0;obtain⟨d,hd,b1⟩:=Z3 g1
 match cs,hlen with
 |[x,y,z,u],_=>exact⟨(b,d),hd,b0.append b1⟩
def Xh {v:Value}{d:DataW H}{ps:List MemPlace}{r:Reach}{b0:Nat}(lN:Value.okWide prog w r b0 22 v)(h:DataW.Trod enc prog w base sp held 22 v d ps) :
  ∃l:List oI,(l.length<=maxLen/\∀o∈l,pt o.2)/\bt (wb w) 0 [] w (.sl l.length (gF l) .none) v:=by
 obtain⟨es,⟨g1,g2⟩,g3⟩:=QS (G:=λa=>∃o:oI,pt o.2/\a=Xz o) Tryz.underlying22 (by rw[show prog.cellsOf 101=4 by kernel_rfl];omega) (λn c y hy=>by
  obtain⟨p,hp,hr⟩:=Z1 hy;exact⟨_,⟨p,hp,rfl⟩,hr⟩) lN h
 obtain⟨l,k1,k2,k3⟩:=x4 (R:=λo:oI=>pt o.2) (f:=Xz) es g1;rw[k2,<-k1] at g3;exact⟨l,⟨zO,k3⟩,g3⟩
end
end Go.Proofs.YtoejlmpbebjemaaGreat
