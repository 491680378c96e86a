/- The reference's order of terms and items, lists without a common position (layer 39). The reference's Valid (layer 39): the columns. The reference's Valid (layer 39): the terms. The reference's Valid (layer 39): it is the program's.
  Conditions: lengths below 1000 or 1000, as each theorem says. -/
import Derived.Test.YtoejlmpbebjemaaGreatGV
import Derived.Test.YtoejlmpbebjemaaGreatPZ
set_option linter.all false
set_option maxRecDepth 100000
namespace Go.Proofs.YtoejlmpbebjemaaGreat
open Go Go.Am ia eN cO
attribute [-simp] List.getD_eq_getElem?_getD in
def vb (x y:Ky)(u v:AV)(H:List aA)(T:au)(hu:Below H.length T.length u)(hv:Below H.length T.length v):ar Tryz.prog 136 [.agg [.int .i64 x.1,.str x.2,u],.agg [.int .i64 y.1,.str y.2,v]] H T (Is (.bool (bT x y)) H T):=by
 refine ar.bZ ?_ (by simp);generalize hq:bT x y=q;unfold bT at hq;have hu2:=hu.more (n':=H.length+1) (t':=T.length) (by omega) (agE _);obtain⟨x1,x2⟩:=x;obtain⟨y1,y2⟩:=y;simp only at hq;refine ah 5 [] Tryz.ntmps136 Tryz.func136 rfl (λ_ _=>Tryz.call136 _ _) (by simp) (λHO=>?_);apply ae;intro K Z;simp(disch:=omega);apply Z
 by_cases h1:x1<y1
 ·have b1:decide (x1<y1)=true:=agH h1;rw[b1] at hq;refine ae λK hK=>?_;simp(disch:=omega)[b1,h1];apply hK;apply az;simp(disch:=omega) ;rw[<-hq];rfl
 ·have b1:decide (x1<y1)=false:=agI h1
  by_cases h2:x1=y1
  ·have b2:(x1==y1)=true:=by simpa using h2
   rw[b1,agH h2,ahM,aim] at hq;refine ae λK hK=>?_;simp(disch:=omega)[b1,h1,b2,h2];apply hK;apply az;simp(disch:=omega) ;exact hq
  ·have b2:(x1==y1)=false:=by simpa using h2
   rw[b1,agI h2,Bool.false_and,aim] at hq;refine ae λK hK=>?_;simp(disch:=omega)[b1,h1,b2,h2];apply hK;apply az;simp(disch:=omega) ;exact hq.symm
attribute [-simp] List.getD_eq_getElem?_getD in
def Ff (x y:Nm)(H:List aA)(T:au):ar Tryz.prog 139 [.agg [.int .i64 x.1,.int .i64 x.2],.agg [.int .i64 y.1,.int .i64 y.2]] H T (Is (.bool (dh x y)) H T):=by
 refine ar.bZ ?_ (by simp);generalize hq:dh x y=q;unfold dh at hq;obtain⟨x1,x2⟩:=x;obtain⟨y1,y2⟩:=y;simp only at hq;refine ah 5 [] Tryz.ntmps139 Tryz.func139 rfl (λ_ _=>Tryz.call139 _ _) (by simp) (λHO=>?_);apply ae;intro K Z;simp(disch:=omega);apply Z
 by_cases h1:x1<y1
 ·have b1:decide (x1<y1)=true:=agH h1;rw[b1] at hq;refine ae λK hK=>?_;simp(disch:=omega)[b1,h1];apply hK;apply az;simp(disch:=omega) ;rw[<-hq];rfl
 ·have b1:decide (x1<y1)=false:=agI h1
  by_cases h2:x1=y1
  ·have b2:(x1==y1)=true:=by simpa using h2
   rw[b1,agH h2,ahM,aim] at hq;refine ae λK hK=>?_;simp(disch:=omega)[b1,h1,b2,h2];apply hK;apply az;simp(disch:=omega) ;exact hq
  ·have b2:(x1==y1)=false:=by simpa using h2
   rw[b1,agI h2,Bool.false_and,aim] at hq;refine ae λK hK=>?_;simp(disch:=omega)[b1,h1,b2,h2];apply hK;apply az;simp(disch:=omega) ;exact hq.symm
def GA (a b:List Ps):Bool:=(List.range a.length).all λi=>(List.range (posOf b (a.getD i p0).1).length).all λk=>!decide ((posOf b (a.getD i p0).1).getD k 0∈(a.getD i p0).2)
def DP {t:Tm}{q:Pl}:q∈ph t↔q.1=t.f/\∃p∈t.l,p.1=q.2.1/\q.2.2∈p.2:=by
 unfold ph eW;rw[ahm]
 constructor
 ·rintro⟨p,hp,hq⟩;obtain⟨a,ha,rfl⟩:=agG.1 hq;exact⟨rfl,p,hp,rfl,ha⟩
 ·rintro⟨h1,p,hp,h2,h3⟩;exact⟨p,hp,agG.2 ⟨q.2.2,h3,by obtain⟨a,b,c⟩:=q;simp only at h1 h2 ⊢;rw[h1,h2]⟩⟩
theorem rW {α β:Type}{f:α->List β}:∀{l:List α},(∀x∈l,(f x).Nodup)->(l.Pairwise λx y=>∀z∈f x,z∉f y)->(l.flatMap f).Nodup
 |[],_,_=>by simp
 |x::l,h1,h2=>by
  rw[agT,ahn];rw[ahz] at h2;refine⟨h1 x (by simp),rW (λy hy=>h1 y (ahZ _ hy)) h2.2,λa ha b hb=>?_⟩;obtain⟨y,hy,qK⟩:=ahm.1 hb;exact λe=>h2.1 y hy a ha (e▸qK)
def AG {l:List Int}(h:kn l):l.Nodup:=h.imp λ{a b} jK=>by omega
def Hj {t:Tm}(h:dS t.l=true):(ph t).Nodup:=by
 obtain⟨h1,_,h3⟩:=cU h;refine rW (λp hp=>?_) ?_
 ·unfold eW;have:=AG (h3 p hp).2.1;exact List.Pairwise.map _ (λa b jK e=>jK (by simpa using e)) this
 ·have:t.l.Pairwise λx y=>x.1<y.1:=ahj.1 h1;refine this.imp λ{a b} jK z hz H7=>?_;unfold eW at hz H7;obtain⟨u,_,rfl⟩:=agG.1 hz;obtain⟨v,_,e⟩:=agG.1 H7;simp at e;omega
def HX {a b:List Ps}(hb:dS b=true):GA a b=true↔∀p∈a,∀q∈b,p.1=q.1->∀z∈q.2,z∉p.2:=by
 obtain⟨h1,_,_⟩:=cU hb;unfold GA
 constructor
 ·intro h p hp q hq e z hz H7;obtain⟨i,hi,rfl⟩:=bK p0 hp;have UP:posOf b (a.getD i p0).1=q.2:=by rw[e];exact qq h1 hq
  obtain⟨k,hk,rfl⟩:=bK 0 hz;have:=ow (ow h hi) (j:=k) (by rw[UP];exact hk);rw[UP] at this;simp only[ai7,ahX] at this;exact this H7
 ·intro h;refine iJ λi hi=>iJ λk hk=>?_;have hz:=aT (posOf b (a.getD i p0).1) k 0 hk;obtain⟨q,hq,e1,e2⟩:=ua hz;rw[ai7,ahX];exact h _ (aT a i p0 hi) q hq e1.symm _ (by rw[<-e2];exact hz)
theorem uw {l:List Tm}(h1:∀i,i<l.length->dS (l.getD i t0).l=true)(h2:∀i k,i<l.length->k<i->(l.getD k t0).f=(l.getD i t0).f->GA (l.getD k t0).l (l.getD i t0).l=true):(qH l).Nodup:=by
 refine rW (λt ht=>?_) ?_
 ·obtain⟨i,hi,rfl⟩:=bK t0 ht;exact Hj (h1 i hi)
 ·rw[ag8];intro k i hk hi hki z hz H7;have e1:l[k]=l.getD k t0:=by rw[agB,agD hk];rfl
  have e2:l[i]=l.getD i t0:=by rw[agB,agD hi];rfl
  rw[e1] at hz;rw[e2] at H7;obtain⟨f1,p,hp,p1,p2⟩:=DP.1 hz;obtain⟨f2,q,hq,q1,q2⟩:=DP.1 H7;exact(HX (h1 i hi)).1 (h2 i k hi hki (f1.symm.trans f2)) p hp q hq (p1.trans q1.symm) _ q2 p2
end Go.Proofs.YtoejlmpbebjemaaGreat
