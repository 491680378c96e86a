/- Segments, documents, questions as arguments of the rows of layer 39.
  Conditions: none. -/
import Derived.Test.YtneohapkboaplaaGreatAmC
import Derived.Test.YtneohapkboaplaaGreatGLA
set_option linter.all false
set_option maxRecDepth 100000
namespace Go.Proofs.YtneohapkboaplaaGreat
open Go Go.Am Go.ChangeShapes Go.WideShapes Go.RowKit eB
theorem Ag {α:Type}{f:α→List AV}{R:α→Prop}:∀es:List (List AV),(∀a∈es,∃x:α,R x∧a=f x)→∃l:List α,l.length=es.length∧es.flatten=l.flatMap f∧∀x∈l,R x
 |[],_=>⟨[],rfl,rfl,fun p hp=>by simp at hp⟩
 |x::es,h=>by
  obtain⟨l,g1,g2,g3⟩:=Ag es (fun a ha=>h a (by simp[ha]));obtain⟨p,hp,rfl⟩:=h x (by simp);refine⟨p::l,by simp[g1],by rw[List.flatten_cons,g2,List.flatMap_cons],fun q hq=>?_⟩;rcases List.mem_cons.1 hq with rfl|hq
  ·exact hp
  ·exact g3 q hq
section
variable {H : Type} {enc : TypeId × Value → H} {w : World} {base fuel : Nat} {sp : Nat → Bool} {held : Bool} {cs : List Value} {x : DataW H × List MemPlace}
theorem tC {α:Type}{f:α→List AV}{R:α→Prop}{t e:TypeId}(ht:Tryz.prog.underlying t=some (.slice e))(hp:0<Tryz.prog.cellsOf e)
  (he:∀n c y,DataW.trod enc Tryz.prog w base sp held n e c=some y→∃a:α,R a∧RC w (f a) c) (h:DataW.trod enc Tryz.prog w base sp held fuel t cs=some x) :
  ∃l:List α,(∀a∈l,R a)∧l.length≤maxLen∧RC w [.sl l.length (l.flatMap f) .none] cs:=by
 obtain⟨es,g1,g2,g3⟩:=zJ (G:=fun a=>∃p:α,R p∧a=f p) ht hp (fun n c y hy=>by
  obtain⟨p,hp,hr⟩:=he n c y hy;exact⟨_,⟨p,hp,rfl⟩,hr⟩) h
 obtain⟨l,k1,k2,k3⟩:=Ag (R:=R) (f:=f) es g1;rw[k2,←k1] at g3;exact⟨l,k3,by omega,g3⟩
theorem TD (h:DataW.trod enc Tryz.prog w base sp held fuel 144 cs=some x):∃p:Nm,True∧RC w (BR p) cs:=by
 obtain⟨hlen,hf⟩:=lN Tryz.underlying144 h;obtain⟨n0,y0,L7⟩:=hf 0 _ rfl;have g0:DataW.trod enc Tryz.prog w base sp held n0 3 ((cs.drop 0).take (Tryz.prog.cellsOf 3))=some y0:=L7;obtain⟨n1,y1,L6⟩:=hf 1 _ rfl;have g1:DataW.trod enc Tryz.prog w base sp held n1 3 ((cs.drop 1).take (Tryz.prog.cellsOf 3))=some y1:=L6;rw[show Tryz.prog.cellsOf 3=1 by kernel_rfl] at g0 g1;rw[show Tryz.prog.cellsOf 144=2 by kernel_rfl] at hlen;obtain⟨a,_,b0⟩:=rp Tryz.underlying3 g0;obtain⟨b,_,b1⟩:=rp Tryz.underlying3 g1
 match cs,hlen with
 |[x,y],_=>exact⟨(a,b),trivial,b0.append b1⟩
theorem TC (h:DataW.trod enc Tryz.prog w base sp held fuel 102 cs=some x):∃p:Ps,p.2.length≤maxLen∧RC w (RG p) cs:=by
 obtain⟨hlen,hf⟩:=lN Tryz.underlying102 h;obtain⟨n0,y0,L7⟩:=hf 0 _ rfl;have g0:DataW.trod enc Tryz.prog w base sp held n0 3 ((cs.drop 0).take (Tryz.prog.cellsOf 3))=some y0:=L7;obtain⟨n1,y1,L6⟩:=hf 1 _ rfl;have g1:DataW.trod enc Tryz.prog w base sp held n1 25 ((cs.drop 1).take (Tryz.prog.cellsOf 25))=some y1:=L6;rw[show Tryz.prog.cellsOf 3=1 by kernel_rfl] at g0;rw[show Tryz.prog.cellsOf 25=1 by kernel_rfl] at g1;rw[show Tryz.prog.cellsOf 102=2 by kernel_rfl] at hlen;obtain⟨a,_,b0⟩:=rp Tryz.underlying3 g0;obtain⟨b,_,q,b1⟩:=Ej Tryz.underlying25 Tryz.underlying3 (by rw[show Tryz.prog.cellsOf 3=1 by kernel_rfl];omega) g1
 match cs,hlen with
 |[x,y],_=>exact⟨(a,b),q,b0.append b1⟩
def SzT (t:Tm):Prop:=t.w.length≤maxLen∧t.l.length≤maxLen∧∀p∈t.l,p.2.length≤maxLen
theorem Tz (h:DataW.trod enc Tryz.prog w base sp held fuel 127 cs=some x):∃t:Tm,SzT t∧RC w (jb t) cs:=by
 obtain⟨hlen,hf⟩:=lN Tryz.underlying127 h;obtain⟨n0,y0,L7⟩:=hf 0 _ rfl;have g0:DataW.trod enc Tryz.prog w base sp held n0 3 ((cs.drop 0).take (Tryz.prog.cellsOf 3))=some y0:=L7;obtain⟨n1,y1,L6⟩:=hf 1 _ rfl;have g1:DataW.trod enc Tryz.prog w base sp held n1 9 ((cs.drop 1).take (Tryz.prog.cellsOf 9))=some y1:=L6;obtain⟨n2,y2,g2'⟩:=hf 2 _ rfl;have g2:DataW.trod enc Tryz.prog w base sp held n2 50 ((cs.drop 2).take (Tryz.prog.cellsOf 50))=some y2:=g2';rw[show Tryz.prog.cellsOf 3=1 by kernel_rfl] at g0;rw[show Tryz.prog.cellsOf 9=1 by kernel_rfl] at g1;rw[show Tryz.prog.cellsOf 50=1 by kernel_rfl] at g2;rw[show Tryz.prog.cellsOf 127=3 by kernel_rfl] at hlen;obtain⟨a,_,b0⟩:=rp Tryz.underlying3 g0;obtain⟨s,hs,b1⟩:=Ql Tryz.underlying9 g1;obtain⟨l,q1,q2,b2⟩:=tC (f:=RG) (R:=fun p=>p.2.length≤maxLen) Tryz.underlying50 (by rw[show Tryz.prog.cellsOf 102=2 by kernel_rfl];omega) (fun n c y hy=>TC hy) g2
 match cs,hlen with
 |[x,y,z],_=>exact⟨⟨a,s,l⟩,⟨hs,q2,q1⟩,(b0.append b1).append b2⟩
theorem TE (h:DataW.trod enc Tryz.prog w base sp held fuel 131 cs=some x):∃c:Cl,c.x.length≤maxLen∧RC w (e7 c) cs:=by
 obtain⟨hlen,hf⟩:=lN Tryz.underlying131 h;obtain⟨n0,y0,L7⟩:=hf 0 _ rfl;have g0:DataW.trod enc Tryz.prog w base sp held n0 3 ((cs.drop 0).take (Tryz.prog.cellsOf 3))=some y0:=L7;obtain⟨n1,y1,L6⟩:=hf 1 _ rfl;have g1:DataW.trod enc Tryz.prog w base sp held n1 128 ((cs.drop 1).take (Tryz.prog.cellsOf 128))=some y1:=L6;rw[show Tryz.prog.cellsOf 3=1 by kernel_rfl] at g0;rw[show Tryz.prog.cellsOf 128=1 by kernel_rfl] at g1;rw[show Tryz.prog.cellsOf 131=2 by kernel_rfl] at hlen;obtain⟨a,_,b0⟩:=rp Tryz.underlying3 g0;obtain⟨l,_,q2,b1⟩:=tC (f:=BR) (R:=fun _=>True) Tryz.underlying128 (by rw[show Tryz.prog.cellsOf 144=2 by kernel_rfl];omega) (fun n c y hy=>TD hy) g1
 match cs,hlen with
 |[x,y],_=>exact⟨⟨a,l⟩,q2,b0.append b1⟩
theorem TA (h:DataW.trod enc Tryz.prog w base sp held fuel 36 cs=some x):∃s:Sg,SV s∧RC w (cG s) cs:=by
 obtain⟨hlen,hf⟩:=lN Tryz.underlying36 h;obtain⟨n0,y0,L7⟩:=hf 0 _ rfl;have g0:DataW.trod enc Tryz.prog w base sp held n0 25 ((cs.drop 0).take (Tryz.prog.cellsOf 25))=some y0:=L7;obtain⟨n1,y1,L6⟩:=hf 1 _ rfl;have g1:DataW.trod enc Tryz.prog w base sp held n1 33 ((cs.drop 1).take (Tryz.prog.cellsOf 33))=some y1:=L6;obtain⟨n2,y2,g2'⟩:=hf 2 _ rfl;have g2:DataW.trod enc Tryz.prog w base sp held n2 34 ((cs.drop 2).take (Tryz.prog.cellsOf 34))=some y2:=g2';rw[show Tryz.prog.cellsOf 25=1 by kernel_rfl] at g0;rw[show Tryz.prog.cellsOf 33=1 by kernel_rfl] at g1;rw[show Tryz.prog.cellsOf 34=1 by kernel_rfl] at g2;rw[show Tryz.prog.cellsOf 36=3 by kernel_rfl] at hlen;obtain⟨a,_,p0,b0⟩:=Ej Tryz.underlying25 Tryz.underlying3 (by rw[show Tryz.prog.cellsOf 3=1 by kernel_rfl];omega) g0;obtain⟨t,p1,p2,b1⟩:=tC (f:=jb) (R:=SzT) Tryz.underlying33 (by rw[show Tryz.prog.cellsOf 127=3 by kernel_rfl];omega) (fun n c y hy=>Tz hy) g1;obtain⟨l,p3,p4,b2⟩:=tC (f:=e7) (R:=fun c=>c.x.length≤maxLen) Tryz.underlying34 (by rw[show Tryz.prog.cellsOf 131=2 by kernel_rfl];omega) (fun n c y hy=>TE hy) g2
 match cs,hlen with
 |[x,y,z],_=>exact⟨⟨a,t,l⟩,⟨p0,p2,p1,p4,p3⟩,(b0.append b1).append b2⟩
theorem QI {t:TypeId}{v:Value}{r:Reach}{b0:Nat}(kY:Value.okWide Tryz.prog w r b0 t v)(hs:∃fs,Tryz.prog.underlying t=some (.struct fs)):∃l:List Value,v=.agg ⟨l⟩:=by
 unfold Value.okWide at kY;obtain⟨fs,hs⟩:=hs;rw[hs] at kY;obtain⟨⟨l⟩,h,_⟩:=kY;exact⟨l,h⟩
theorem RC.QJ {a:List AV}{l:List Value}(h:RC w a l):aZ (tV w) 0 [] w (.agg a) (.agg ⟨l⟩):=
 (.agg _ _ h.1 (fun j hj=>h.2.1 j hj) (fun j hj bK=>h.2.2 j hj bK))
theorem Ue {v:Value}{d:DataW H}{ps:List MemPlace}{r:Reach}{b0:Nat}(kY:Value.okWide Tryz.prog w r b0 36 v)(h:DataW.Trod enc Tryz.prog w base sp held 36 v d ps):∃s:Sg,SV s∧aZ (tV w) 0 [] w (il s) v:=by
 obtain⟨l,rfl⟩:=QI kY ⟨_,Tryz.underlying36⟩;obtain⟨fuel,hf⟩:=h;obtain⟨c,h1,q⟩:=TA hf;exact⟨c,h1,RC.QJ q⟩
end
end Go.Proofs.YtneohapkboaplaaGreat
