/- Segments, documents, questions as arguments of the rows of layer 39.
  Conditions: none. -/
import Derived.Test.YtoejlmpbebjemaaGreatAmC
import Derived.Test.YtoejlmpbebjemaaGreatGLA
set_option linter.all false
set_option maxRecDepth 100000
namespace Go.Proofs.YtoejlmpbebjemaaGreat
open Go.Proofs.Tryz(prog)
open Go Go.Am Go.ChangeShapes Go.WideShapes Go.RowKit eN
theorem x4 {α:Type}{f:α->List AV}{R:α->Prop}:∀es:List (List AV),(∀a∈es,∃x:α,R x/\a=f x)->∃l:List α,l.length=es.length/\es.flatten=l.flatMap f/\∀x∈l,R x
 |[],_=>⟨[],rfl,rfl,λp hp=>by simp at hp⟩
 |x::es,h=>by
  obtain⟨l,g1,g2,g3⟩:=x4 es (λa ha=>h a (by simp[ha]));obtain⟨p,hp,rfl⟩:=h x zS;refine⟨p::l,by simp[g1],by rw[List.flatten_cons,g2,ahK],λq hq=>?_⟩;rcases ah4.1 hq with rfl|hq
  ·exact hp
  ·exact g3 q hq
section
variable {H : Type} {enc : TypeId × Value -> H} {w : World} {base fuel : Nat} {sp : Nat -> Bool} {held : Bool} {cs : List Value} {x : DataW H × List MemPlace}
def B4 {α:Type}{f:α->List AV}{R:α->Prop}{t e:TypeId}(ht:prog.underlying t=some (.slice e))(hp:0<prog.cellsOf e)
  (he:∀n c y,DataW.trod enc prog w base sp held n e c=some y->∃a:α,R a/\RC w (f a) c) (h:DataW.trod enc prog w base sp held fuel t cs=some x) :
  ∃l:List α,(∀a∈l,R a)/\l.length<=maxLen/\RC w [.sl l.length (l.flatMap f) .none] cs:=by
 obtain⟨es,g1,g2,g3⟩:=El (G:=λa=>∃p:α,R p/\a=f p) ht hp (λn c y hy=>by
  obtain⟨p,hp,hr⟩:=he n c y hy;exact⟨_,⟨p,hp,rfl⟩,hr⟩) h
 obtain⟨l,k1,k2,k3⟩:=x4 (R:=R) (f:=f) es g1;rw[k2,<-k1] at g3;exact⟨l,k3,zO,g3⟩
theorem WV (h:DataW.trod enc prog w base sp held fuel 82 cs=some x):∃p:Int×Bs×Int×Int,p.2.1.length<=maxLen/\RC w [.int .i64 p.1,.str p.2.1,.int .i64 p.2.2.1,.int .i64 p.2.2.2] cs:=by
 obtain⟨hlen,hf⟩:=mb Tryz.underlying82 h;obtain⟨n0,y0,NG⟩:=hf 0 _ rfl;have g0:DataW.trod enc prog w base sp held n0 3 ((cs.drop 0).take (prog.cellsOf 3))=some y0:=NG;obtain⟨n1,y1,NF⟩:=hf 1 _ rfl;have g1:DataW.trod enc prog w base sp held n1 9 ((cs.drop 1).take (prog.cellsOf 9))=some y1:=NF;obtain⟨n2,y2,g2'⟩:=hf 2 _ rfl;have g2:DataW.trod enc prog w base sp held n2 3 ((cs.drop 2).take (prog.cellsOf 3))=some y2:=g2';obtain⟨n3,y3,wC⟩:=hf 3 _ rfl;have g3:DataW.trod enc prog w base sp held n3 3 ((cs.drop 3).take (prog.cellsOf 3))=some y3:=wC;rw[show prog.cellsOf 3=1 by kernel_rfl] at g0 g2 g3;rw[show prog.cellsOf 9=1 by kernel_rfl] at g1;rw[show prog.cellsOf 82=4 by kernel_rfl] at hlen;obtain⟨a,_,b0⟩:=pZ Tryz.underlying3 g0;obtain⟨s,hs,b1⟩:=OE Tryz.underlying9 g1;obtain⟨c,_,b2⟩:=pZ Tryz.underlying3 g2;obtain⟨d,_,b3⟩:=pZ Tryz.underlying3 g3
 match cs,hlen with
 |[x,y,z,u],_=>exact⟨(a,s,c,d),hs,((b0.append b1).append b2).append b3⟩
def Xl {t:TypeId}{v:Value}{r:Reach}{b0:Nat}(lN:Value.okWide prog w r b0 t v)(hs:∃fs,prog.underlying t=some (.struct fs)):∃l:List Value,v=.agg ⟨l⟩:=by
 unfold Value.okWide at lN;obtain⟨fs,hs⟩:=hs;rw[hs] at lN;obtain⟨⟨l⟩,h,_⟩:=lN;exact⟨l,h⟩
def RC.Xm {a:List AV}{l:List Value}(h:RC w a l):bt (wb w) 0 [] w (.agg a) (.agg ⟨l⟩):=
 (.agg _ _ h.1 (λj hj=>h.2.1 j hj) (λj hj bU=>h.2.2 j hj bU))
def Xi {v:Value}{d:DataW H}{ps:List MemPlace}{r:Reach}{b0:Nat}(lN:Value.okWide prog w r b0 82 v)(h:DataW.Trod enc prog w base sp held 82 v d ps) :
  ∃p:Int×Bs×Int×Int,p.2.1.length<=maxLen/\bt (wb w) 0 [] w (.agg [.int .i64 p.1,.str p.2.1,.int .i64 p.2.2.1,.int .i64 p.2.2.2]) v:=by
 obtain⟨l,rfl⟩:=Xl lN ⟨_,Tryz.underlying82⟩;obtain⟨fuel,hf⟩:=h;obtain⟨c,h1,q⟩:=WV hf;exact⟨c,h1,RC.Xm q⟩
end
end Go.Proofs.YtoejlmpbebjemaaGreat
