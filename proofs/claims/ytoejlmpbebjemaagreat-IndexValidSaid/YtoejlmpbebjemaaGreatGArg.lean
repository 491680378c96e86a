/- Segments, documents, questions as arguments of the rows of layer 39.
  Conditions: none. -/
import Derived.Test.YtoejlmpbebjemaaGreatAmC
import Derived.Test.YtoejlmpbebjemaaGreatGLA
set_option linter.all false
set_option maxRecDepth 100000
namespace Go.Proofs.YtoejlmpbebjemaaGreat
open Go Go.Am Go.ChangeShapes Go.WideShapes Go.RowKit Seg
theorem flat_all {α:Type}{f:α→List AV}{R:α→Prop}:∀es:List (List AV),(∀a∈es,∃x:α,R x∧a=f x)→∃l:List α,l.length=es.length∧es.flatten=l.flatMap f∧∀x∈l,R x
 |[],_=>⟨[],rfl,rfl,fun p hp=>by simp at hp⟩
 |x::es,h=>by
  obtain⟨l,g1,g2,g3⟩:=flat_all es (fun a ha=>h a (by simp[ha]));obtain⟨p,hp,rfl⟩:=h x (by simp);refine⟨p::l,by simp[g1],by rw[List.flatten_cons,g2,List.flatMap_cons],fun q hq=>?_⟩;rcases List.mem_cons.1 hq with rfl|hq
  ·exact hp
  ·exact g3 q hq
section
variable {H : Type} {enc : TypeId × Value → H} {w : World} {base fuel : Nat} {sp : Nat → Bool} {held : Bool} {cs : List Value} {x : DataW H × List MemPlace}
theorem rc_list {α:Type}{f:α→List AV}{R:α→Prop}{t e:TypeId}(ht:Tryz.prog.underlying t=some (.slice e))(hp:0<Tryz.prog.cellsOf e)
  (he:∀n c y,DataW.trod enc Tryz.prog w base sp held n e c=some y→∃a:α,R a∧RC w (f a) c) (h:DataW.trod enc Tryz.prog w base sp held fuel t cs=some x) :
  ∃l:List α,(∀a∈l,R a)∧l.length≤maxLen∧RC w [.sl l.length (l.flatMap f) .none] cs:=by
 obtain⟨es,g1,g2,g3⟩:=rc_slice (G:=fun a=>∃p:α,R p∧a=f p) ht hp (fun n c y hy=>by
  obtain⟨p,hp,hr⟩:=he n c y hy;exact⟨_,⟨p,hp,rfl⟩,hr⟩) h
 obtain⟨l,k1,k2,k3⟩:=flat_all (R:=R) (f:=f) es g1;rw[k2,←k1] at g3;exact⟨l,k3,by omega,g3⟩
theorem rc_it (h:DataW.trod enc Tryz.prog w base sp held fuel 162 cs=some x):∃p:Nm,True∧RC w (nmC p) cs:=by
 obtain⟨hlen,hf⟩:=rc_fields Tryz.underlying162 h;obtain⟨n0,y0,g0'⟩:=hf 0 _ rfl;have g0:DataW.trod enc Tryz.prog w base sp held n0 3 ((cs.drop 0).take (Tryz.prog.cellsOf 3))=some y0:=g0';obtain⟨n1,y1,g1'⟩:=hf 1 _ rfl;have g1:DataW.trod enc Tryz.prog w base sp held n1 3 ((cs.drop 1).take (Tryz.prog.cellsOf 3))=some y1:=g1';rw[show Tryz.prog.cellsOf 3=1 by kernel_rfl] at g0 g1;rw[show Tryz.prog.cellsOf 162=2 by kernel_rfl] at hlen;obtain⟨a,_,b0⟩:=rc_int Tryz.underlying3 g0;obtain⟨b,_,b1⟩:=rc_int Tryz.underlying3 g1
 match cs,hlen with
 |[x,y],_=>exact⟨(a,b),trivial,b0.append b1⟩
theorem rc_ps (h:DataW.trod enc Tryz.prog w base sp held fuel 147 cs=some x):∃p:Ps,p.2.length≤maxLen∧RC w (psC p) cs:=by
 obtain⟨hlen,hf⟩:=rc_fields Tryz.underlying147 h;obtain⟨n0,y0,g0'⟩:=hf 0 _ rfl;have g0:DataW.trod enc Tryz.prog w base sp held n0 3 ((cs.drop 0).take (Tryz.prog.cellsOf 3))=some y0:=g0';obtain⟨n1,y1,g1'⟩:=hf 1 _ rfl;have g1:DataW.trod enc Tryz.prog w base sp held n1 53 ((cs.drop 1).take (Tryz.prog.cellsOf 53))=some y1:=g1';rw[show Tryz.prog.cellsOf 3=1 by kernel_rfl] at g0;rw[show Tryz.prog.cellsOf 53=1 by kernel_rfl] at g1;rw[show Tryz.prog.cellsOf 147=2 by kernel_rfl] at hlen;obtain⟨a,_,b0⟩:=rc_int Tryz.underlying3 g0;obtain⟨b,_,q,b1⟩:=rc_ints Tryz.underlying53 Tryz.underlying3 (by rw[show Tryz.prog.cellsOf 3=1 by kernel_rfl];omega) g1
 match cs,hlen with
 |[x,y],_=>exact⟨(a,b),q,b0.append b1⟩
def SzT (t:Tm):Prop:=t.w.length≤maxLen∧t.l.length≤maxLen∧∀p∈t.l,p.2.length≤maxLen
theorem rc_tm (h:DataW.trod enc Tryz.prog w base sp held fuel 129 cs=some x):∃t:Tm,SzT t∧RC w (tmC t) cs:=by
 obtain⟨hlen,hf⟩:=rc_fields Tryz.underlying129 h;obtain⟨n0,y0,g0'⟩:=hf 0 _ rfl;have g0:DataW.trod enc Tryz.prog w base sp held n0 3 ((cs.drop 0).take (Tryz.prog.cellsOf 3))=some y0:=g0';obtain⟨n1,y1,g1'⟩:=hf 1 _ rfl;have g1:DataW.trod enc Tryz.prog w base sp held n1 9 ((cs.drop 1).take (Tryz.prog.cellsOf 9))=some y1:=g1';obtain⟨n2,y2,g2'⟩:=hf 2 _ rfl;have g2:DataW.trod enc Tryz.prog w base sp held n2 90 ((cs.drop 2).take (Tryz.prog.cellsOf 90))=some y2:=g2';rw[show Tryz.prog.cellsOf 3=1 by kernel_rfl] at g0;rw[show Tryz.prog.cellsOf 9=1 by kernel_rfl] at g1;rw[show Tryz.prog.cellsOf 90=1 by kernel_rfl] at g2;rw[show Tryz.prog.cellsOf 129=3 by kernel_rfl] at hlen;obtain⟨a,_,b0⟩:=rc_int Tryz.underlying3 g0;obtain⟨s,hs,b1⟩:=rc_str Tryz.underlying9 g1;obtain⟨l,q1,q2,b2⟩:=rc_list (f:=psC) (R:=fun p=>p.2.length≤maxLen) Tryz.underlying90 (by rw[show Tryz.prog.cellsOf 147=2 by kernel_rfl];omega) (fun n c y hy=>rc_ps hy) g2
 match cs,hlen with
 |[x,y,z],_=>exact⟨⟨a,s,l⟩,⟨hs,q2,q1⟩,(b0.append b1).append b2⟩
theorem rc_co (h:DataW.trod enc Tryz.prog w base sp held fuel 132 cs=some x):∃c:Cl,c.x.length≤maxLen∧RC w (clC c) cs:=by
 obtain⟨hlen,hf⟩:=rc_fields Tryz.underlying132 h;obtain⟨n0,y0,g0'⟩:=hf 0 _ rfl;have g0:DataW.trod enc Tryz.prog w base sp held n0 3 ((cs.drop 0).take (Tryz.prog.cellsOf 3))=some y0:=g0';obtain⟨n1,y1,g1'⟩:=hf 1 _ rfl;have g1:DataW.trod enc Tryz.prog w base sp held n1 130 ((cs.drop 1).take (Tryz.prog.cellsOf 130))=some y1:=g1';rw[show Tryz.prog.cellsOf 3=1 by kernel_rfl] at g0;rw[show Tryz.prog.cellsOf 130=1 by kernel_rfl] at g1;rw[show Tryz.prog.cellsOf 132=2 by kernel_rfl] at hlen;obtain⟨a,_,b0⟩:=rc_int Tryz.underlying3 g0;obtain⟨l,_,q2,b1⟩:=rc_list (f:=nmC) (R:=fun _=>True) Tryz.underlying130 (by rw[show Tryz.prog.cellsOf 162=2 by kernel_rfl];omega) (fun n c y hy=>rc_it hy) g1
 match cs,hlen with
 |[x,y],_=>exact⟨⟨a,l⟩,q2,b0.append b1⟩
theorem rc_sg (h:DataW.trod enc Tryz.prog w base sp held fuel 57 cs=some x):∃s:Sg,SzA s∧RC w (sgC s) cs:=by
 obtain⟨hlen,hf⟩:=rc_fields Tryz.underlying57 h;obtain⟨n0,y0,g0'⟩:=hf 0 _ rfl;have g0:DataW.trod enc Tryz.prog w base sp held n0 53 ((cs.drop 0).take (Tryz.prog.cellsOf 53))=some y0:=g0';obtain⟨n1,y1,g1'⟩:=hf 1 _ rfl;have g1:DataW.trod enc Tryz.prog w base sp held n1 54 ((cs.drop 1).take (Tryz.prog.cellsOf 54))=some y1:=g1';obtain⟨n2,y2,g2'⟩:=hf 2 _ rfl;have g2:DataW.trod enc Tryz.prog w base sp held n2 55 ((cs.drop 2).take (Tryz.prog.cellsOf 55))=some y2:=g2';rw[show Tryz.prog.cellsOf 53=1 by kernel_rfl] at g0;rw[show Tryz.prog.cellsOf 54=1 by kernel_rfl] at g1;rw[show Tryz.prog.cellsOf 55=1 by kernel_rfl] at g2;rw[show Tryz.prog.cellsOf 57=3 by kernel_rfl] at hlen;obtain⟨a,_,p0,b0⟩:=rc_ints Tryz.underlying53 Tryz.underlying3 (by rw[show Tryz.prog.cellsOf 3=1 by kernel_rfl];omega) g0;obtain⟨t,p1,p2,b1⟩:=rc_list (f:=tmC) (R:=SzT) Tryz.underlying54 (by rw[show Tryz.prog.cellsOf 129=3 by kernel_rfl];omega) (fun n c y hy=>rc_tm hy) g1;obtain⟨l,p3,p4,b2⟩:=rc_list (f:=clC) (R:=fun c=>c.x.length≤maxLen) Tryz.underlying55 (by rw[show Tryz.prog.cellsOf 132=2 by kernel_rfl];omega) (fun n c y hy=>rc_co hy) g2
 match cs,hlen with
 |[x,y,z],_=>exact⟨⟨a,t,l⟩,⟨p0,p2,p1,p4,p3⟩,(b0.append b1).append b2⟩
theorem agg_of {t:TypeId}{v:Value}{r:Reach}{b0:Nat}(hval:Value.okWide Tryz.prog w r b0 t v)(hs:∃fs,Tryz.prog.underlying t=some (.struct fs)):∃l:List Value,v=.agg ⟨l⟩:=by
 unfold Value.okWide at hval;obtain⟨fs,hs⟩:=hs;rw[hs] at hval;obtain⟨⟨l⟩,h,_⟩:=hval;exact⟨l,h⟩
theorem RC.aggRep {a:List AV}{l:List Value}(h:RC w a l):Rep (lay0 w) 0 [] w (.agg a) (.agg ⟨l⟩):=
 (.agg _ _ h.1 (fun j hj=>h.2.1 j hj) (fun j hj hj'=>h.2.2 j hj hj'))
end
end Go.Proofs.YtoejlmpbebjemaaGreat
