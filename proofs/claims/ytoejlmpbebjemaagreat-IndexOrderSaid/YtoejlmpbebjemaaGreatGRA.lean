/- The reference's order of terms and items, lists without a common position (layer 39). The reference's Valid (layer 39): the columns. The reference's Valid (layer 39): the terms. The reference's Valid (layer 39): it is the program's.
  Conditions: lengths below 1000 or 1000, as each theorem says. -/
import Derived.Test.YtoejlmpbebjemaaGreatGV
import Derived.Test.YtoejlmpbebjemaaGreatPZ
set_option linter.all false
set_option maxRecDepth 100000
namespace Go.Proofs.YtoejlmpbebjemaaGreat
open Go Go.Am im eT cL
attribute [-simp] List.getD_eq_getElem?_getD in
def vu (x y:Ky)(u v:AV)(H:List az)(T:au)(hu:Below H.length T.length u)(hv:Below H.length T.length v):ar Tryz.prog 136 [.agg [.int .i64 x.1,.str x.2,u],.agg [.int .i64 y.1,.str y.2,v]] H T (Is (.bool (bP x y)) H T):=by
 refine ar.bV ?_ (by simp);generalize hq:bP x y=q;unfold bP at hq;have hu2:=hu.more (n':=H.length+1) (t':=T.length) (by omega) (ahj _);obtain⟨x1,x2⟩:=x;obtain⟨y1,y2⟩:=y;simp only at hq;refine ah 5 [] Tryz.ntmps136 Tryz.func136 rfl (λ_ _=>Tryz.call136 _ _) (by simp) (λHO=>?_);apply ae;intro K Z;simp(disch:=omega);apply Z
 by_cases h1:x1<y1
 ·have b1:decide (x1<y1)=true:=ahm h1;rw[b1] at hq;refine ae λK hK=>?_;simp(disch:=omega)[b1,h1];apply hK;apply ay;simp(disch:=omega) ;rw[<-hq];rfl
 ·have b1:decide (x1<y1)=false:=ahn h1
  by_cases h2:x1=y1
  ·have b2:(x1==y1)=true:=by simpa using h2
   rw[b1,ahm h2,ais,ai2] at hq;refine ae λK hK=>?_;simp(disch:=omega)[b1,h1,b2,h2];apply hK;apply ay;simp(disch:=omega) ;exact hq
  ·have b2:(x1==y1)=false:=by simpa using h2
   rw[b1,ahn h2,Bool.false_and,ai2] at hq;refine ae λK hK=>?_;simp(disch:=omega)[b1,h1,b2,h2];apply hK;apply ay;simp(disch:=omega) ;exact hq.symm
attribute [-simp] List.getD_eq_getElem?_getD in
def FK (x y:Nm)(H:List az)(T:au):ar Tryz.prog 139 [.agg [.int .i64 x.1,.int .i64 x.2],.agg [.int .i64 y.1,.int .i64 y.2]] H T (Is (.bool (dh x y)) H T):=by
 refine ar.bV ?_ (by simp);generalize hq:dh x y=q;unfold dh at hq;obtain⟨x1,x2⟩:=x;obtain⟨y1,y2⟩:=y;simp only at hq;refine ah 5 [] Tryz.ntmps139 Tryz.func139 rfl (λ_ _=>Tryz.call139 _ _) (by simp) (λHO=>?_);apply ae;intro K Z;simp(disch:=omega);apply Z
 by_cases h1:x1<y1
 ·have b1:decide (x1<y1)=true:=ahm h1;rw[b1] at hq;refine ae λK hK=>?_;simp(disch:=omega)[b1,h1];apply hK;apply ay;simp(disch:=omega) ;rw[<-hq];rfl
 ·have b1:decide (x1<y1)=false:=ahn h1
  by_cases h2:x1=y1
  ·have b2:(x1==y1)=true:=by simpa using h2
   rw[b1,ahm h2,ais,ai2] at hq;refine ae λK hK=>?_;simp(disch:=omega)[b1,h1,b2,h2];apply hK;apply ay;simp(disch:=omega) ;exact hq
  ·have b2:(x1==y1)=false:=by simpa using h2
   rw[b1,ahn h2,Bool.false_and,ai2] at hq;refine ae λK hK=>?_;simp(disch:=omega)[b1,h1,b2,h2];apply hK;apply ay;simp(disch:=omega) ;exact hq.symm
def G8 (a b:List Ps):Bool:=(List.range a.length).all λi=>(List.range (posOf b (a.getD i p0).1).length).all λk=>!decide ((posOf b (a.getD i p0).1).getD k 0∈(a.getD i p0).2)
def El {t:Tm}{q:Pl}:q∈pq t↔q.1=t.f/\∃p∈t.l,p.1=q.2.1/\q.2.2∈p.2:=by
 unfold pq fg;rw[ah1]
 constructor
 ·rintro⟨p,hp,hq⟩;obtain⟨a,ha,rfl⟩:=ahl.1 hq;exact⟨rfl,p,hp,rfl,ha⟩
 ·rintro⟨h1,p,hp,h2,h3⟩;exact⟨p,hp,ahl.2 ⟨q.2.2,h3,by obtain⟨a,b,c⟩:=q;simp only at h1 h2 ⊢;rw[h1,h2]⟩⟩
theorem rY {α β:Type}{f:α->List β}:∀{l:List α},(∀x∈l,(f x).Nodup)->(l.Pairwise λx y=>∀z∈f x,z∉f y)->(l.flatMap f).Nodup
 |[],_,_=>by simp
 |x::l,h1,h2=>by
  rw[ahy,ah2];rw[aie] at h2;refine⟨h1 x (by simp),rY (λy hy=>h1 y (aiF _ hy)) h2.2,λa ha b hb=>?_⟩;obtain⟨y,hy,qO⟩:=ah1.1 hb;exact λe=>h2.1 y hy a ha (e▸qO)
def A0 {l:List Int}(h:kz l):l.Nodup:=h.imp λ{a b} hab=>by omega
def H7 {t:Tm}(h:dT t.l=true):(pq t).Nodup:=by
 obtain⟨h1,_,h3⟩:=cU h;refine rY (λp hp=>?_) ?_
 ·unfold fg;have:=A0 (h3 p hp).2.1;exact List.Pairwise.map _ (λa b hab e=>hab (by simpa using e)) this
 ·have:t.l.Pairwise λx y=>x.1<y.1:=ahY.1 h1;refine this.imp λ{a b} hab z hz IZ=>?_;unfold fg at hz IZ;obtain⟨u,_,rfl⟩:=ahl.1 hz;obtain⟨v,_,e⟩:=ahl.1 IZ;simp at e;omega
def IM {a b:List Ps}(hb:dT b=true):G8 a b=true↔∀p∈a,∀q∈b,p.1=q.1->∀z∈q.2,z∉p.2:=by
 obtain⟨h1,_,_⟩:=cU hb;unfold G8
 constructor
 ·intro h p hp q hq e z hz IZ;obtain⟨i,hi,rfl⟩:=bH p0 hp;have VO:posOf b (a.getD i p0).1=q.2:=by rw[e];exact qv h1 hq
  obtain⟨k,hk,rfl⟩:=bH 0 hz;have:=oC (oC h hi) (j:=k) (by rw[VO];exact hk);rw[VO] at this;simp only[ajM,aiD] at this;exact this IZ
 ·intro h;refine iQ λi hi=>iQ λk hk=>?_;have hz:=aS (posOf b (a.getD i p0).1) k 0 hk;obtain⟨q,hq,e1,e2⟩:=um hz;rw[ajM,aiD];exact h _ (aS a i p0 hi) q hq e1.symm _ (by rw[<-e2];exact hz)
def uH {l:List Tm}(h1:∀i,i<l.length->dT (l.getD i t0).l=true)(h2:∀i k,i<l.length->k<i->(l.getD k t0).f=(l.getD i t0).f->G8 (l.getD k t0).l (l.getD i t0).l=true):(qL l).Nodup:=by
 refine rY (λt ht=>?_) ?_
 ·obtain⟨i,hi,rfl⟩:=bH t0 ht;exact H7 (h1 i hi)
 ·rw[ahN];intro k i hk hi hki z hz IZ;have e1:l[k]=l.getD k t0:=by rw[ahg,ahi hk];rfl
  have e2:l[i]=l.getD i t0:=by rw[ahg,ahi hi];rfl
  rw[e1] at hz;rw[e2] at IZ;obtain⟨f1,p,hp,p1,p2⟩:=El.1 hz;obtain⟨f2,q,hq,q1,q2⟩:=El.1 IZ;exact(IM (h1 i hi)).1 (h2 i k hi hki (f1.symm.trans f2)) p hp q hq (p1.trans q1.symm) _ q2 p2
end Go.Proofs.YtoejlmpbebjemaaGreat
