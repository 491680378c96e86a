/- Segments, documents, questions as arguments of the rows of layer 39.
  Conditions: none. -/
import Derived.Test.YtneohapkboaplaaGreatAmC
import Derived.Test.YtneohapkboaplaaGreatGLA
set_option linter.all false
set_option maxRecDepth 100000
namespace Go.Proofs.YtneohapkboaplaaGreat
open Go Go.Am Go.ChangeShapes Go.WideShapes Go.RowKit Seg
section
variable {H : Type} {enc : TypeId × Value → H} {w : World} {base fuel : Nat} {sp : Nat → Bool} {held : Bool} {cs : List Value} {x : DataW H × List MemPlace}
set_option maxRecDepth 100000 in
theorem rc_ask (h:DataW.trod enc Tryz.prog w base sp held fuel 42 cs=some x):∃p:Int×Bs×Int×Int,p.2.1.length≤maxLen∧RC w [.int .i64 p.1,.str p.2.1,.int .i64 p.2.2.1,.int .i64 p.2.2.2] cs:=by
 obtain⟨hlen,hf⟩:=rc_fields Tryz.underlying42 h;obtain⟨n0,y0,g0'⟩:=hf 0 _ rfl;have g0:DataW.trod enc Tryz.prog w base sp held n0 3 ((cs.drop 0).take (Tryz.prog.cellsOf 3))=some y0:=g0';obtain⟨n1,y1,g1'⟩:=hf 1 _ rfl;have g1:DataW.trod enc Tryz.prog w base sp held n1 9 ((cs.drop 1).take (Tryz.prog.cellsOf 9))=some y1:=g1';obtain⟨n2,y2,g2'⟩:=hf 2 _ rfl;have g2:DataW.trod enc Tryz.prog w base sp held n2 3 ((cs.drop 2).take (Tryz.prog.cellsOf 3))=some y2:=g2';obtain⟨n3,y3,g3'⟩:=hf 3 _ rfl;have g3:DataW.trod enc Tryz.prog w base sp held n3 3 ((cs.drop 3).take (Tryz.prog.cellsOf 3))=some y3:=g3';rw[show Tryz.prog.cellsOf 3=1 by kernel_rfl] at g0 g2 g3;rw[show Tryz.prog.cellsOf 9=1 by kernel_rfl] at g1;rw[show Tryz.prog.cellsOf 42=4 by kernel_rfl] at hlen;obtain⟨a,_,b0⟩:=rc_int Tryz.underlying3 g0;obtain⟨s,hs,b1⟩:=rc_str Tryz.underlying9 g1;obtain⟨c,_,b2⟩:=rc_int Tryz.underlying3 g2;obtain⟨d,_,b3⟩:=rc_int Tryz.underlying3 g3
 match cs,hlen with
 |[x,y,z,u],_=>exact⟨(a,s,c,d),hs,((b0.append b1).append b2).append b3⟩
theorem agg_of {t:TypeId}{v:Value}{r:Reach}{b0:Nat}(hval:Value.okWide Tryz.prog w r b0 t v)(hs:∃fs,Tryz.prog.underlying t=some (.struct fs)):∃l:List Value,v=.agg ⟨l⟩:=by
 unfold Value.okWide at hval;obtain⟨fs,hs⟩:=hs;rw[hs] at hval;obtain⟨⟨l⟩,h,_⟩:=hval;exact⟨l,h⟩
theorem RC.aggRep {a:List AV}{l:List Value}(h:RC w a l):Rep (lay0 w) 0 [] w (.agg a) (.agg ⟨l⟩):=
 (.agg _ _ h.1 (fun j hj=>h.2.1 j hj) (fun j hj hj'=>h.2.2 j hj hj'))
set_option maxRecDepth 100000 in
theorem av_ask {v:Value}{d:DataW H}{ps:List MemPlace}{r:Reach}{b0:Nat}(hval:Value.okWide Tryz.prog w r b0 42 v)(h:DataW.Trod enc Tryz.prog w base sp held 42 v d ps) :
  ∃p:Int×Bs×Int×Int,p.2.1.length≤maxLen∧Rep (lay0 w) 0 [] w (.agg [.int .i64 p.1,.str p.2.1,.int .i64 p.2.2.1,.int .i64 p.2.2.2]) v:=by
 obtain⟨l,rfl⟩:=agg_of hval ⟨_,Tryz.underlying42⟩;obtain⟨fuel,hf⟩:=h;obtain⟨c,h1,q⟩:=rc_ask hf;exact⟨c,h1,RC.aggRep q⟩
end
end Go.Proofs.YtneohapkboaplaaGreat
