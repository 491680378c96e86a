/- The reference's order of terms and items, lists without a common position (layer 39). The reference's Valid (layer 39): the columns. The reference's Valid (layer 39): the terms. The reference's Valid (layer 39): it is the program's.
  Conditions: lengths below 1000 or 1000, as each theorem says. -/
import Derived.Test.YtoejlmpbebjemaaGreatGV
import Derived.Test.YtoejlmpbebjemaaGreatPZ
set_option linter.all false
set_option maxRecDepth 100000
namespace Go.Proofs.YtoejlmpbebjemaaGreat
open Go Go.Am Sug Seg Post
def apartB (a b:List Ps):Bool:=(List.range a.length).all fun i=>(List.range (posOf b (a.getD i p0).1).length).all fun k=>!decide ((posOf b (a.getD i p0).1).getD k 0∈(a.getD i p0).2)
theorem mem_plsT {t:Tm}{q:Pl}:q∈plsT t↔q.1=t.f∧∃p∈t.l,p.1=q.2.1∧q.2.2∈p.2:=by
 unfold plsT plsP;rw[List.mem_flatMap]
 constructor
 ·rintro⟨p,hp,hq⟩;obtain⟨a,ha,rfl⟩:=List.mem_map.1 hq;exact⟨rfl,p,hp,rfl,ha⟩
 ·rintro⟨h1,p,hp,h2,h3⟩;exact⟨p,hp,List.mem_map.2 ⟨q.2.2,h3,by obtain⟨a,b,c⟩:=q;simp only at h1 h2 ⊢;rw[h1,h2]⟩⟩
theorem nodup_flat {α β:Type}{f:α→List β}:∀{l:List α},(∀x∈l,(f x).Nodup)→(l.Pairwise fun x y=>∀z∈f x,z∉f y)→(l.flatMap f).Nodup
 |[],_,_=>by simp
 |x::l,h1,h2=>by
  rw[List.flatMap_cons,List.nodup_append];rw[List.pairwise_cons] at h2;refine⟨h1 x (by simp),nodup_flat (fun y hy=>h1 y (List.mem_cons_of_mem _ hy)) h2.2,fun a ha b hb=>?_⟩;obtain⟨y,hy,hby⟩:=List.mem_flatMap.1 hb;exact fun e=>h2.1 y hy a ha (e▸hby)
theorem asc_nodup {l:List Int}(h:Asc l):l.Nodup:=h.imp fun {a b} hab=>by omega
theorem nodup_plsT {t:Tm}(h:validL t.l=true):(plsT t).Nodup:=by
 obtain⟨h1,_,h3⟩:=validL_iff h;refine nodup_flat (fun p hp=>?_) ?_
 ·unfold plsP;have:=asc_nodup (h3 p hp).2.1;exact List.Pairwise.map _ (fun a b hab e=>hab (by simpa using e)) this
 ·have:t.l.Pairwise fun x y=>x.1<y.1:=List.pairwise_map.1 h1;refine this.imp fun {a b} hab z hz hz2=>?_;unfold plsP at hz hz2;obtain⟨u,_,rfl⟩:=List.mem_map.1 hz;obtain⟨v,_,e⟩:=List.mem_map.1 hz2;simp at e;omega
theorem apartB_iff {a b:List Ps}(hb:validL b=true):apartB a b=true↔∀p∈a,∀q∈b,p.1=q.1→∀z∈q.2,z∉p.2:=by
 obtain⟨h1,_,_⟩:=validL_iff hb;unfold apartB
 constructor
 ·intro h p hp q hq e z hz hz2;obtain⟨i,hi,rfl⟩:=mem_getD p0 hp;have hpo:posOf b (a.getD i p0).1=q.2:=by rw[e];exact posOf_mem h1 hq
  obtain⟨k,hk,rfl⟩:=mem_getD 0 hz;have:=all_at (all_at h hi) (j:=k) (by rw[hpo];exact hk);rw[hpo] at this;simp only[Bool.not_eq_true',decide_eq_false_iff_not] at this;exact this hz2
 ·intro h;refine all_good fun i hi=>all_good fun k hk=>?_;have hz:=getD_mem (posOf b (a.getD i p0).1) k 0 hk;obtain⟨q,hq,e1,e2⟩:=pos_in hz;rw[Bool.not_eq_true',decide_eq_false_iff_not];exact h _ (getD_mem a i p0 hi) q hq e1.symm _ (by rw[←e2];exact hz)
theorem pls_nodup {l:List Tm}(h1:∀i,i<l.length→validL (l.getD i t0).l=true)(h2:∀i k,i<l.length→k<i→(l.getD k t0).f=(l.getD i t0).f→apartB (l.getD k t0).l (l.getD i t0).l=true):(pls l).Nodup:=by
 refine nodup_flat (fun t ht=>?_) ?_
 ·obtain⟨i,hi,rfl⟩:=mem_getD t0 ht;exact nodup_plsT (h1 i hi)
 ·rw[List.pairwise_iff_getElem];intro k i hk hi hki z hz hz2;have e1:l[k]=l.getD k t0:=by rw[List.getD_eq_getElem?_getD,List.getElem?_eq_getElem hk];rfl
  have e2:l[i]=l.getD i t0:=by rw[List.getD_eq_getElem?_getD,List.getElem?_eq_getElem hi];rfl
  rw[e1] at hz;rw[e2] at hz2;obtain⟨f1,p,hp,p1,p2⟩:=mem_plsT.1 hz;obtain⟨f2,q,hq,q1,q2⟩:=mem_plsT.1 hz2;exact(apartB_iff (h1 i hi)).1 (h2 i k hi hki (f1.symm.trans f2)) p hp q hq (p1.trans q1.symm) _ q2 p2
end Go.Proofs.YtoejlmpbebjemaaGreat
