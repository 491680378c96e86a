/- A scope in which the run jumps back to its first label. Calls with more than one result: what they have made is forgotten. Boxes that are finished become immutable, however deep they lie. Boxes that are finished become immutable; the one they hang on stays a box. A region that draws its order, where two operations with effects may come in either order: both orders are walked. A region that draws its order, whose last operations come behind all others: these are walked as elsewhere. A region that draws its order, in which an alloc may come at any time among operations that change tokens alone; the last operations come behind all others. A region that draws its order, in which one operation with an effect (an append to a box that is held with its capacity) can come out in several ways. Regions that draw their order, in which the operations with an effect stand in a chain, each with several outcomes, and the others have no effect and nothing of the chain ahead of them. From the readings of a law's arguments to abstract values, and from a contract of the machine to the row's post. The arguments of a row, as abstract values. A box whose cell is an empty end gets a token for it: only the abstract state takes the step. A box of several cells, one of which is an empty end, gets a token for it.
  Conditions: as the theorems say. -/
import Derived.Test.YtoejlmpbebjemaaGreatAmA
import Derived.ScopeJumps
import Derived.Test.YtoejlmpbebjemaaGreatAmB
import Derived.WalkKit
import Derived.ProofKit
import Derived.OpenShut
import Derived.JoinedCond
import Derived.Below
import Derived.Carry
import Derived.DataElems
import Derived.ChangeSame
import Derived.ChangeMaps5
import Derived.WideShapes
set_option linter.all false
open Nat (add_comm succ_mul)
open List (append_assoc contains_iff_mem)
namespace Go.Am
open Go
def Jd {C Q s l}(h:Q (.goto l) s):AW C (.goto l) Q s:=λL w a hc=>wp_goto ⟨s,L,h,hc,Ev.refl hc.nb hc.tb⟩
def NL (l:Nat)(J:St->Prop)(Q:Exit->St->Prop):Exit->St->Prop
 |.goto l',s=>l'=l/\J s
 |e,s=>Q e s
@[simp] theorem Xd {l:Nat} {J:St->Prop} {Q:Exit->St->Prop} {s:St}:NL l J Q .ret s=Q .ret s:=rfl
@[simp] theorem Tv {l:Nat} {J:St->Prop} {Q:Exit->St->Prop} {s:St}:NL l J Q .normal s=Q .normal s:=rfl
theorem DT {p:Nat->Prop}{n:Nat}(h:p n):∃k,p k/\∀m,p m->k<=m:=by
 induction n using Nat.strongRecOn with
 |_ n ih=>
  by_cases hs:∃m,m<n/\p m
  ·obtain⟨m,h1,h2⟩:=hs;exact ih m h1 h2
  ·exact⟨n,h,λm hm=>Nat.le_of_not_lt λaZ=>hs ⟨m,aZ,hm⟩⟩
theorem Qa {C:Cx}{d:Code}{l:Nat}{Q s}{X:Type}(st:X->St)(I:X->Prop)(μ:X->Nat)(x0:X)(h0:I x0)(hw:tX C s (st x0))
  (pass:∀x,I x->AW C d (NL l (λs'=>∃x',I x'/\μ x'<μ x/\tX C s' (st x')) Q) (st x)):AW C (.scope (.seq (.label l) d)) Q s:=by
 refine aI (st x0) hw ?_;intro L w a hc
 let J:Nat->Act->World->Prop:=λn a' w'=>∃x L',I x/\eK C (st x) L' w' a'/\Ev C.nb C.tb L (st x0).H.length (st x0).T w L' (st x).H.length (st x).T w'/\μ x=n
 have hd:∀n a1 w1,J n a1 w1->d.wp C.P (Exit.jump l (λa' w'=>∃m,m<n/\J m a' w') (cO C Q L (st x0) w)) a1 w1:=by
  rintro n a1 w1 ⟨x,L1,hI,yC,dB,rfl⟩;refine wp_mono (pass x hI L1 w1 a1 yC) λe a' w' ⟨s',L',q,c',ev⟩=>?_
  cases e with
  |goto l'=>
   obtain⟨rfl,x',U6,aZ,XD⟩:=q;exact⟨rfl,μ x',aZ,x',L',U6,XD.mO c',(dB.trans ev).trans XD.ev,rfl⟩
  |_=>exact⟨s',L',q,c',dB.trans ev⟩
 have hJ0:J (μ x0) a w:=⟨x0,L,h0,hc,Ev.refl hc.nb hc.tb,rfl⟩
 have h1:∀n a1 w1,J n a1 w1->d.wp C.P (Exit.jump l (λa' w'=>∃n,J n a' w') (cO C Q L (st x0) w)) a1 w1:=λn a1 w1 hn=>
  wp_mono (hd n a1 w1 hn) λe a' w' q=>by
   cases e with
   |goto l'=>exact⟨q.1,q.2.elim λm hm=>⟨m,hm.2⟩⟩
   |_=>exact q
 refine wp_scope_jumps l (λa w=>∃n,J n a w) (λa w=>Classical.epsilon λn=>J n a w/\∀m,J m a w->n<=m) (rest:=.seq .skip d) (by simp[findLabel]) ?_ ?_
 ·exact wp_seq (wp_label (h1 _ a w hJ0))
 ·intro a1 w1 ⟨n,hn⟩;obtain⟨hk,aeg⟩:=Classical.epsilon_spec (DT (p:=λn=>J n a1 w1) hn);refine wp_seq (wp_skip (wp_mono (hd _ a1 w1 hk) λe a' w' q=>?_))
  cases e with
  |goto l'=>
   obtain⟨rfl,m,aZ,hm⟩:=q;refine⟨rfl,⟨m,hm⟩,?_⟩;obtain⟨_,NA⟩:=Classical.epsilon_spec (DT (p:=λn=>J n a' w') hm);exact ai0 (NA m hm) aZ
  |_=>exact q
section
variable {P : Program} {f : FuncId} {args : List AV} {H : List aA} {T : au}
end
inductive fU (n0 t0:Nat) (H:List aA):AV->AV->Prop
 |keep {v v':AV} (h:v'=v\/v'=cK v) (hb:Below n0 t0 v'):fU n0 t0 H v v'
 |top (v:AV):fU n0 t0 H v .top
 |cN {i o n:Nat} {vs cs:List AV} (hi:n0<=i) (hH:H[i]?=some (.cells vs)) (hl:o+cs.length<=vs.length) (hc:∀(j:Nat)(h:j<cs.length),fU n0 t0 H (vs.getD (o+j) .top) (cs[j]'h)):fU n0 t0 H (.cN i o n) (.sl n cs .none)
 |bJ {i n cap:Nat} {vs cs:List AV} (hi:n0<=i) (hH:H[i]?=some (.cells vs)) (hl:cs.length<=vs.length) (hc:∀(j:Nat)(h:j<cs.length),fU n0 t0 H (vs.getD j .top) (cs[j]'h)):fU n0 t0 H (.bJ i n cap) (.sl n cs .none)
 |YY {i n:Nat} {vs cs:List AV} (hi:n0<=i) (hH:H[i]?=some (.cells vs)) (hl:cs.length<=vs.length) (hc:∀(j:Nat)(h:j<cs.length),fU n0 t0 H (vs.getD j .top) (cs[j]'h)):fU n0 t0 H (.bJ i n n) (.sl n cs .full)
 |slT {n t:Nat} {cs rq:List AV} (hl:rq.length=cs.length) (ht:t<t0) (hc:∀(j:Nat)(h:j<rq.length),fU n0 t0 H (cs.getD j .top) (rq[j]'h)):fU n0 t0 H (.sl n cs (.own t)) (.sl n rq (.own t))
 |ptr {i o:Nat} {vs cs:List AV} (hi:n0<=i) (hH:H[i]?=some (.cells vs)) (hl:cs.length<=vs.length) (hc:∀(j:Nat)(h:j<cs.length),fU n0 t0 H (vs.getD j .top) (cs[j]'h)):fU n0 t0 H (.ptr i o) (.dZ cs o)
 |sl {n:Nat} {cs rq:List AV} {tg:Tag} (hl:rq.length=cs.length) (hc:∀(j:Nat)(h:j<rq.length),fU n0 t0 H (cs.getD j .top) (rq[j]'h)):fU n0 t0 H (.sl n cs tg) (.sl n rq .none)
 |agg {cs rq:List AV} (hl:rq.length=cs.length) (hc:∀(j:Nat)(h:j<rq.length),fU n0 t0 H (cs.getD j .top) (rq[j]'h)):fU n0 t0 H (.agg cs) (.agg rq)
 |df {cs rq:List AV} (hl:rq.length=cs.length) (hc:∀(j:Nat)(h:j<rq.length),fU n0 t0 H (cs.getD j .top) (rq[j]'h)):fU n0 t0 H (.df cs) (.df rq)
open Classical in
noncomputable def Lay.pf (L:Lay)(n0 n:Nat)(w:World):Lay:=
 { L with m:=λb=>if ∃i,n0<=i/\i<n/\L.bS i=b then max (L.m b) (match w.heap[b]? with|some (.cells c _ _)=>c.size|_=>0) else L.m b }
section
variable {L : Lay} {H : List aA} {T : au} {w : World} {n0 t0 : Nat}
open Classical in
def ou (L:Lay)(n0 n:Nat)(w:World)(b:Nat):L.m b<=(L.pf n0 n w).m b:=by
 show L.m b<=if _ then _ else _
 split
 ·exact Nat.le_max_left _ _
 ·exact agE _
theorem cX.pf {m:Nat}(N:Nat)(T:au):cX L N T w (L.pf n0 m w) N T w:=by
 exact⟨agE _,λ_ _=>rfl,λt u z h=>⟨u,h,agE _,λ_=>rfl⟩,λb=>ou L n0 m w b,λ_ _ _=>rfl,rfl⟩
open Classical in
theorem cg.pf (h:cg L H T w)(hn:n0<=H.length)(hf:cg L (H.take n0) (T.take t0) w):cg (L.pf n0 H.length w) (H.take n0) (T.take t0) w:=by
 have hlen:(H.take n0).length=n0:=by rw[ag5];omega
 have ne:∀b,(¬∃i,n0<=i/\i<H.length/\L.bS i=b)->(L.pf n0 H.length w).m b=L.m b:=λb hb=>agL hb;have W3:∀(t:Nat)(x:Nat×Nat),(T.take t0)[t]?=some x->T[t]?=some x:=by
  intro t x hx;rw[ahu] at hx
  split at hx
  ·exact hx
  ·cases hx
 have Rl:∀i,i<n0->¬∃j,n0<=j/\j<H.length/\L.bS j=L.bS i:=by
  rintro i hi ⟨j,h1,h2,e⟩;have:=h.inj j i h2 (by omega) e;omega
 have Vk:∀t u z,T[t]?=some (u,z)->u<(L.et t).c*z->¬∃j,n0<=j/\j<H.length/\L.bS j=(L.et t).b:=by
  rintro t u z ht hs ⟨j,h1,h2,e⟩;exact h.kq t u z j ht hs h2 e.symm
 refine⟨λi x hx=>?_,hf.inj,λt u z ht=>?_,hf.pg,hf.kq,λx hx=>?_,h.gl.keep (λb=>ou L n0 H.length w b) (λ_ _ _=>rfl)⟩
 ·have hi:=(agC.1 hx).1;refine(hf.box i x hx).stay (cX.pf _ _) hi rfl λh5=>?_;rw[ne _ (Rl i (by omega))];exact h5
 ·obtain⟨h1,h2⟩:=hf.tok t u z ht;refine⟨h1,λhs=>?_⟩;obtain⟨c,e,fr,g1,g2,g3,g4⟩:=h2 hs;exact⟨c,e,fr,g1,g2,g3,by rw[show ((L.pf n0 H.length w).et t).b=(L.et t).b from rfl,ne _ (Vk t u z (W3 t _ ht) hs)];exact g4⟩
 ·rw[ne _ (fun⟨j,h1,h2,e⟩=>by have:=h.lX h2;omega)];exact h.mz x hx
open Classical in
theorem fU.rep (h:cg L H T w)(hn:n0<=H.length){v v':AV}(k:fU n0 t0 H v v'):∀c,ba L H.length T w v c->ba (L.pf n0 H.length w) n0 (T.take t0) w v' c:=by
 have size:∀(i:Nat)(c:Array Value)(t:TypeId)(fr:Nat×Nat),n0<=i->i<H.length->w.heap[L.bS i]?=some (.cells c t fr)->c.size<=(L.pf n0 H.length w).m (L.bS i):=by
  intro i c t fr h1 h2 hh;show _<=if _ then _ else _
  rw[agN ⟨i,h1,h2,rfl⟩,hh];exact Nat.le_max_right _ _
 have row:∀(i o:Nat)(vs cs:List AV),n0<=i->H[i]?=some (.cells vs)->o+cs.length<=vs.length->(∀(j:Nat)(h:j<cs.length)(c:Value),ba L H.length T w (vs.getD (o+j) .top) c->ba (L.pf n0 H.length w) n0 (T.take t0) w (cs[j]'h) c)->
   ∃cv,o+cs.length<=(L.pf n0 H.length w).m (L.bS i)/\cJ (L.pf n0 H.length w) n0 (T.take t0) w cs cv/\∀j,j<cs.length->w.cell? ⟨L.bS i,o+j,none⟩=cv[j]?:=by
  intro i o vs cs hi hH hl ih;obtain⟨c,t,fr,g1,g2,g3,vW,g4,g5⟩:=h.box i _ hH;have hiH:=(agC.1 hH).1;have hs:=size i c t fr hi hiH g1;refine⟨(c.toList.drop o).take cs.length,by omega,⟨by simp;omega,λj hj=>?_,λj hj bQ=>?_⟩,λj hj=>?_⟩
  ·have uU:o+j<c.size:=by simp at hj;omega
   have:=vW (o+j) uU;rw[aiT,List.getElem_drop,ahA];exact this
  ·have uU:o+j<c.size:=by omega
   have:=g4 (o+j) (by omega) uU;rw[aiT,List.getElem_drop,ahA];refine ih j hj _ ?_;rw[agB,agD (by omega)];exact this
  ·rw[gp g1,ahu,agN hj,aii];simp
 induction k with
 |keep hv hb=>
  rename_i v v';intro c hr;have h1:ba L H.length T w v' c:=by
   rcases hv with rfl|rfl
   ·exact hr
   ·exact hr.cK
  exact(h1.drop hb).keep (cX.pf _ _)
 |top v=>intro c _;exact .top _
 |cN hi hH hl hc ih=>
  intro c hr;obtain⟨cap,rfl,cE,aZ⟩:=hr.jX;obtain⟨cv,h1,h2,h3⟩:=row _ _ _ _ hi hH hl ih;exact ba.mD cE h1 h2 h3 trivial
 |bJ hi hH hl hc ih=>
  intro c hr;obtain⟨rfl,cE,aZ⟩:=hr.ij;obtain⟨cv,h1,h2,h3⟩:=row _ 0 _ _ hi hH (by omega) (λj hj c jk=>ih j hj c (by rwa [ahO] at jk));exact ba.mD cE h1 h2 h3 trivial
 |YY hi hH hl hc ih=>
  intro c hr;obtain⟨rfl,cE,aZ⟩:=hr.ij;obtain⟨cv,h1,h2,h3⟩:=row _ 0 _ _ hi hH (by omega) (λj hj c jk=>ih j hj c (by rwa [ahO] at jk));exact ba.mD cE h1 h2 h3 rfl
 |slT hl ht hc ih=>
  rename_i n t cs rq;intro c hr;obtain⟨a,cap,rfl,cE,htg,tJ⟩:=hr.fF;have Vo:lP (L.pf n0 H.length w) (T.take t0) (.own t) n rq.length a cap:=by
   obtain⟨u0,z,g0,g1,g2⟩:=htg;exact⟨u0,z,by rw[ahu,agN ht];exact g0,by omega,λe=>g2 (by omega)⟩
  rcases tJ with⟨e1,e2⟩|⟨b,base,cv,e1,h1,h2,h3⟩
  ·subst e1;subst e2;have:rq=[]:=ahe hl;subst this;exact .yZ (.own t) a cap Vo
  ·subst e1;refine ba.mD (cv:=cv) cE (by rw[hl];exact agJ h1 (ou _ _ _ _ _)) ⟨by rw[hl];exact h2.1,h2.2.1,λj hj bQ=>ih j hj _ ?_⟩ (λj hj=>h3 j (by omega)) Vo;have:=h2.2.2 j (by omega) bQ;rw[agB,agD (by omega)];exact this
 |ptr hi hH hl hc ih=>
  rename_i i o vs cs;intro c hr;obtain⟨rfl,aZ⟩:=hr.oB;obtain⟨cv,h1,h2,h3⟩:=row _ 0 _ _ hi hH (by omega) (λj hj c jk=>ih j hj c (by rwa [ahO] at jk));have:=ba.dZ (L:=L.pf n0 H.length w) (N:=n0) (T:=T.take t0) (w:=w) cs o (L.bS i) 0 (λj=>cv.getD j undef) h1 (λj hj=>?_) (λj hj=>?_) (λj hj=>?_)
  ·rwa [ahO] at this
  ·have bQ:j<cv.length:=by rw[h2.1];exact hj
   rw[h3 j hj];simp[bQ]
  ·have bQ:j<cv.length:=by rw[h2.1];exact hj
   simpa[bQ] using h2.2.1 j bQ
  ·have bQ:j<cv.length:=by rw[h2.1];exact hj
   simpa[bQ] using h2.2.2 j hj bQ
 |sl hl hc ih=>
  rename_i n cs rq tg;intro c hr;obtain⟨a,cap,rfl,cE,ht,tJ⟩:=hr.fF;rcases tJ with⟨e1,e2⟩|⟨b,base,cv,e1,h1,h2,h3⟩
  ·subst e1;subst e2;have:rq=[]:=ahe hl;subst this;exact .yZ .none a cap trivial
  ·subst e1;refine ba.mD (cv:=cv) cE (by rw[hl];exact agJ h1 (ou _ _ _ _ _)) ⟨by rw[hl];exact h2.1,h2.2.1,λj hj bQ=>ih j hj _ ?_⟩ (λj hj=>h3 j (by omega)) trivial;have:=h2.2.2 j (by omega) bQ;rw[agB,agD (by omega)];exact this
 |agg hl hc ih=>
  rename_i cs rq;intro c hr
  cases hr with
  |agg _ cv h1 h2 h3=>
   refine .agg _ _ (by omega) h2 λj hj bQ=>ih j hj _ ?_;have:=h3 j (by omega) bQ;rw[agB,agD (by omega)];exact this
 |df hl hc ih=>
  rename_i cs rq;intro c hr
  cases hr with
  |df _ cv h1 h3=>
   refine .df _ _ (by omega) λj hj bQ=>ih j hj _ ?_;have:=h3 j (by omega) bQ;rw[agB,agD (by omega)];exact this
end
section
variable {P : Program} {f : FuncId} {args : List AV} {H : List aA} {T : au}
def ar.aeQ {r0:AV}(H1:List aA)(T1:au)(hl:H.length<=H1.length)(ht:T.length<=T1.length)(ho:bN H T->bN H1 T1)
  (h:ar P f args H T (λr H' T'=>(∃G,H'=H1++G)/\(∃rT,T'=T1++rT)/\fU H1.length T1.length H' r r0)):ar P f args H T (Is r0 H1 T1):=by
 refine⟨h.1,λL w ca hc jJ hr=>(h.2 L w ca hc jJ hr).mono ?_⟩;rintro e w' ⟨r',H',T',L',cv,⟨⟨G,e1⟩,⟨rT,e2⟩,e3⟩,rfl,cR,dG,dB⟩;subst e1;subst e2;have hf:cg L' H1 T1 w':=cg.front P cR (ho hc.jC);have hn:H1.length<=(H1++G).length:=by rw[agF];omega
 have oU:=cR.pf (n0:=H1.length) (t0:=T1.length) hn (by rw[ahD,ahD]<;>first|exact hf|rfl);have oO:=e3.rep cR hn _ dG;rw[ahD rfl,ahD rfl] at oU;rw[ahD rfl] at oO;have e1:=dB.front hl ht;exact⟨_,H1,T1,_,cv,⟨rfl,rfl,rfl⟩,rfl,oU,oO,⟨e1.n,e1.bS,e1.tok,e1.t,λb=>agJ (e1.m b) (ou _ _ _ _ _),e1.tF,e1.size,e1.frame,e1.wr,e1.os,e1.tape,e1.output,e1.drawn,e1.dr⟩⟩
def ar.pf {r0:AV}(h:ar P f args H T (λr H' T'=>(∃G,H'=H++G)/\(∃rT,T'=T++rT)/\fU H.length T.length H' r r0)):ar P f args H T (Is r0 H T):=
 ar.aeQ H T (agE _) (agE _) id h
def NH (n0 t0:Nat)(H:List aA)(e:Env):Env->Prop
 |[]=>True
 |(s,v)::r=>fU n0 t0 H (bH e s) v/\NH n0 t0 H e r
theorem LR {n0 t0:Nat}{H:List aA}{e:Env}:∀{e':Env},NH n0 t0 H e e'->∀s,fU n0 t0 H (bH e s) (bH e' s):=by
 intro e'
 induction e' with
 |nil=>intro _ s;exact .top _
 |cons x r ih=>
  obtain⟨s0,v⟩:=x;intro h s
  by_cases hs:s0=s
  ·subst hs;simp only[bH,ain];exact h.1
  ·simp only[bH,agL hs];exact ih h.2 s
def Oi {C:Cx}{c:Code}{Q:Exit->St->Prop}{e e':Env}{G:List aA}{rT:au}(gw:C.nb<=H.length)(fQ:C.tb<=T.length)(ho:bN H T)
  (he:NH H.length T.length (H++G) e e') (h:AW C c Q ⟨e',H,T⟩):AW C c Q ⟨e,H++G,T++rT⟩:=λL w a hc=>by
 have hf:cg L H T w:=cg.front C.P hc.mO ho;have hn:H.length<=(H++G).length:=by rw[agF];omega
 have oU:=hc.mO.pf (n0:=H.length) (t0:=T.length) hn (by rw[ahD,ahD]<;>first|exact hf|rfl);rw[ahD rfl,ahD rfl] at oU;have e0:Ev C.nb C.tb L (H++G).length (T++rT) w L (H++G).length (T++rT) w:=Ev.refl hc.nb hc.tb;have e1:=e0.front gw fQ;have e2:Ev C.nb C.tb L (H++G).length (T++rT) w (L.pf H.length (H++G).length w) H.length T w:=⟨e1.n,e1.bS,e1.tok,e1.t,λb=>ou _ _ _ _ _,e1.tF,e1.size,e1.frame,e1.wr,e1.os,e1.tape,e1.output,e1.drawn,e1.dr⟩
 refine wp_mono (h (L.pf H.length (H++G).length w) w a ⟨gw,fQ,oU,hc.size,hc.defers,λt=>?_⟩) λ_ _ _ k=>cO.step (s1:=⟨e',H,T⟩) e2 k;have:=(LR he t).rep hc.mO hn _ (hc.env t)
 rwa [ahD rfl] at this
def dy {C:Cx}{c:Code}{Q:Exit->St->Prop}{s:St}(h:bN s.H s.T->AW C c Q s):AW C c Q s:=λL w a hc=>h hc.mO.jC L w a hc
end
section
variable {n0 t0 : Nat} {H : List aA}
def fU.same {v:AV}(hb:Below n0 t0 v):fU n0 t0 H v v:=.keep (.inl rfl) hb
def fU.all {cs:List AV}(hb:aM n0 t0 cs)(rest:List AV):∀(j:Nat)(h:j<cs.length),fU n0 t0 H ((cs++rest).getD j .top) (cs[j]'h):=λj h=>by
 rw[agB,agK h,agD h];exact .same (hb _ (ahb h))
def fU.M5 {i n:Nat}{cs rest:List AV}(hi:n0<=i)(hH:H[i]?=some (.cells (cs++rest)))(hb:aM n0 t0 cs):fU n0 t0 H (.cN i 0 n) (.sl n cs .none):=
 .cN hi hH (by rw[agF];omega) λj h=>by rw[ahO];exact fU.all hb rest j h
def fU.YZ {i n cap:Nat}{cs rest:List AV}(hi:n0<=i)(hH:H[i]?=some (.cells (cs++rest)))(hb:aM n0 t0 cs):fU n0 t0 H (.bJ i n cap) (.sl n cs .none):=
 .bJ hi hH (by rw[agF];omega) (fU.all hb rest)
theorem fU.pair {a b a' b':AV}(h1:fU n0 t0 H a a')(h2:fU n0 t0 H b b'):fU n0 t0 H (.df [a,b]) (.df [a',b']):=
 .df rfl λj h=>by
  match j,h with
  |0,_=>exact h1
  |1,_=>exact h2
end
section
variable {L : Lay} {Hb G : List aA} {T1 rT : au} {w : World} {vs vs' : List AV}
def cg.NG (h:cg L (Hb++aA.cells vs::G) (T1++rT) w)(hf:cg L Hb T1 w)(hl:vs'.length=vs.length)
  (hv:∀(j:Nat)(hj:j<vs'.length),fU (Hb.length+1) T1.length (Hb++aA.cells vs::G) (vs.getD j .top) (vs'[j]'hj)):cg (L.pf (Hb.length+1) (Hb++aA.cells vs::G).length w) (Hb++[aA.cells vs']) T1 w:=by
 have hlen:(Hb++aA.cells vs::G).length=Hb.length+1+G.length:=by simp;omega
 have hn:Hb.length+1<=(Hb++aA.cells vs::G).length:=by omega
 have ne:∀b,(¬∃i,Hb.length+1<=i/\i<(Hb++aA.cells vs::G).length/\L.bS i=b)->(L.pf (Hb.length+1) (Hb++aA.cells vs::G).length w).m b=L.m b:=λb hb=>agL hb;have Rl:∀i,i<Hb.length+1->¬∃j,Hb.length+1<=j/\j<(Hb++aA.cells vs::G).length/\L.bS j=L.bS i:=by
  rintro i hi ⟨j,h1,h2,e⟩;have:=h.inj j i h2 (by omega) e;omega
 have W3:∀(t:Nat)(x:Nat×Nat),T1[t]?=some x->(T1++rT)[t]?=some x:=λt x hx=>by
  rw[agK ((agC.1 hx).1)];exact hx
 have Vk:∀t u z,(T1++rT)[t]?=some (u,z)->u<(L.et t).c*z->¬∃j,Hb.length+1<=j/\j<(Hb++aA.cells vs::G).length/\L.bS j=(L.et t).b:=by
  rintro t u z ht hs ⟨j,h1,h2,e⟩;exact h.kq t u z j ht hs h2 e.symm
 have hT1:(T1++rT).take T1.length=T1:=by simp
 have hk:cX L Hb.length T1 w (L.pf (Hb.length+1) (Hb++aA.cells vs::G).length w) (Hb++[aA.cells vs']).length T1 w:=
  ⟨by simp,λ_ _=>rfl,λt u z h=>⟨u,h,agE _,λ_=>rfl⟩,λb=>ou L _ _ w b,λ_ _ _=>rfl,rfl⟩
 have uT:(Hb++[aA.cells vs']).length=Hb.length+1:=by simp
 refine⟨λi x hx=>?_,λi j hi hj=>h.inj i j (by omega) (by omega),λt u z ht=>?_,hf.pg,λt u z i ht hs hi=>h.kq t u z i (W3 t _ ht) hs (by omega),λx hx=>?_,h.gl.keep (λb=>ou L _ _ w b) (λ_ _ _=>rfl)⟩
 ·have hi:=(agC.1 hx).1;rcases agM i Hb.length with h1|h1
  ·rw[agK h1] at hx;refine(hf.box i x hx).stay hk h1 rfl λh5=>?_;rw[ne _ (Rl i (by omega))];exact h5
  ·have zh:i=Hb.length:=by omega
   subst zh;rw[agX (agE _),ah1] at hx;simp only[ajl,Option.some.injEq] at hx;subst hx;obtain⟨c,t,fr,g1,g2,g3,vW,g4,g5⟩:=h.box Hb.length (.cells vs) (by rw[agX (agE _),ah1];rfl);refine⟨c,t,fr,g1,g2,by omega,vW,λj hj bQ=>?_,by rw[show (L.pf (Hb.length+1) (Hb++aA.cells vs::G).length w).bS Hb.length=L.bS Hb.length from rfl,ne _ (Rl Hb.length (by omega))];exact g5⟩;have:=(hv j hj).rep h hn (c[j]'bQ) (by
    have:=g4 j (by omega) bQ;rw[agB,agD (by omega)];exact this)
   rw[hT1] at this;rw[uT];exact this
 ·obtain⟨h1,h2⟩:=hf.tok t u z ht;refine⟨h1,λhs=>?_⟩;obtain⟨c,e,fr,g1,g2,g3,g4⟩:=h2 hs;exact⟨c,e,fr,g1,g2,g3,by rw[show ((L.pf (Hb.length+1) (Hb++aA.cells vs::G).length w).et t).b=(L.et t).b from rfl,ne _ (Vk t u z (W3 t _ ht) hs)];exact g4⟩
 ·rw[ne _ (fun⟨j,h1,h2,e⟩=>by have:=h.lX h2;omega)];exact h.mz x hx
end
section
variable {P : Program} {f : FuncId} {args : List AV} {H : List aA} {T : au}
theorem ar.NG {n cap:Nat}{vs':List AV}(H1:List aA)(hl:H.length<=H1.length)(ho:bN H T->bN H1 T)
  (h:ar P f args H T (λr H' T'=>∃vs G,H'=H1++aA.cells vs::G/\(∃rT,T'=T++rT)/\vs'.length=vs.length/\(∀(j:Nat)(hj:j<vs'.length),fU (H1.length+1) T.length H' (vs.getD j .top) (vs'[j]'hj))/\r=.bJ H1.length n cap)) :
  ar P f args H T (Is (.bJ H1.length n cap) (H1++[.cells vs']) T):=by
 refine⟨h.1,λL w ca hc jJ hr=>(h.2 L w ca hc jJ hr).mono ?_⟩;rintro e w' ⟨r',H',T',L',cv,⟨vs,G,e1,⟨rT,e2⟩,e3,e4,e5⟩,rfl,cR,dG,dB⟩;subst e1;subst e2;subst e5;have hf:cg L' H1 T w':=cg.front P cR (ho hc.jC);have oU:=cR.NG hf e3 e4;have zp:Ev H.length T.length L H.length T w L' H1.length T w':=Ev.front (rH:=aA.cells vs::G) (rT:=rT) dB hl (agE _);obtain⟨rfl,cE,aZ⟩:=dG.ij;refine⟨_,H1++[.cells vs'],T,L'.pf (H1.length+1) (H1++aA.cells vs::G).length w',_,⟨rfl,rfl,rfl⟩,rfl,oU,.bJ H1.length n cap (by simp) cE,⟨?_,zp.bS,zp.tok,zp.t,λb=>agJ (zp.m b) (ou _ _ _ _ _),zp.tF,zp.size,zp.frame,?_,zp.os,zp.tape,zp.output,zp.drawn,zp.dr⟩⟩
 ·rw[agF];exact agJ zp.n (Nat.le_add_right _ _)
 ·intro b hb;refine dB.wr b ?_;rcases hb with⟨i,hi,e⟩|⟨t,u,z,ht,hu,e⟩
  ·refine .inl ⟨i,?_,e⟩;rw[agF] at hi ⊢;simp only[ahd,ahV] at hi ⊢;omega
  ·exact .inr ⟨t,u,z,by rw[agK ((agC.1 ht).1)];exact ht,hu,e⟩
end
def sJ:Op->Bool
 |.move _|.assign _|.alloc _|.build _ _|.buildSlice _ _ _|.load _ _|.store _ _ _|.binOp _ _ _ _ _|.fieldAddr _ _ _|.indexAddr _ _ _|.index _ _ _|.convert ..|.slice ..|.extract ..|.unOp ..=>true
 |_=>false
def Gr:Result Next->Prop
 |.ok (.value _) _=>True
 |.ok .skip _=>True
 |.ok _ _=>False
 |.halt _ _=>True
theorem Ko {P:Program}{o:Oper}(h:sJ o.op=true)(ρ:Operand->Value)(w:World):Gr ((execOp ρ o).run P w):=by
 obtain⟨dst,op,type,pos,after,guard⟩:=o;have hv:∀s:Sem Value,Gr ((do pure (Next.value (<-s)):Sem Next).run P w):=λs=>by
  simp only[Sem.run_bind]
  cases s.run P w with
  |ok x w'=>exact trivial
  |halt x w'=>exact trivial
 have hu:∀s:Sem Unit,Gr ((do s;pure Next.skip:Sem Next).run P w):=λs=>by
  simp only[Sem.run_bind]
  cases s.run P w with
  |ok x w'=>exact trivial
  |halt x w'=>exact trivial
 cases op<;>first
  |exact trivial
  |exact hv _
  |exact hu _
  |(revert h;simp[sJ];done)
theorem RY {P:Program}{o:Oper}{a:Act}{w:World}{K1 K2:Act->World->Prop}{Q:Exit->Act->World->Prop}(hs:sJ o.op=true)(h1:o.wp P a w K1 Q)(h2:o.wp P a w K2 Q):o.wp P a w (λa w=>K1 a w/\K2 a w) Q:=by
 have hr:=Ko (P:=P) hs a.eval w;unfold Oper.wp at *;generalize (execOp a.eval o).run P w=r at *
 cases r with
 |ok n w'=>cases n<;>first
  |exact⟨h1,h2⟩
  |exact hr.elim
 |halt x w'=>cases x<;>exact h1
section
variable {P : Program} {Q : Exit -> Act -> World -> Prop}
def Jg (x y:List Oper):Prop:=∀i:Nat,(y[i]?).map (λo=>(o.dst,o.op,o.type,o.guard))=(x[i]?).map (λo=>(o.dst,o.op,o.type,o.guard))
def LN {o o':Oper}(h1:o'.op=o.op)(h2:o'.type=o.type)(ρ:Operand->Value):execOp ρ o'=execOp ρ o:=by
 obtain⟨dst,op,type,pos,after,guard⟩:=o;obtain⟨agA,op',afW,pos',afR,afu⟩:=o';simp only at h1 h2;subst h1;subst h2;rfl
theorem Ac {o o':Oper}(h0:o'.dst=o.dst)(h1:o'.op=o.op)(h2:o'.type=o.type)(a:Act)(w:World)(K:Act->World->Prop):(o'.wp P a w K Q↔o.wp P a w K Q)/\(o'.asks P a w↔o.asks P a w):=by
 have he:=LN h1 h2 a.eval
 constructor
 ·unfold Oper.wp;rw[he];generalize (execOp a.eval o).run P w=r
  cases r with
  |ok n w'=>cases n<;>simp only[Oper.upon,h0]
  |halt x w'=>cases x<;>rfl
 ·unfold Oper.asks;rw[he]
theorem sL {x y:List Oper}(h:Jg x y){i:Nat}{K:Act->World->Prop}{a:Act}{w:World}(hh:wpOp P y.toArray Q i K a w):wpOp P x.toArray Q i K a w:=by
 unfold wpOp at *;rw[agY] at *;have hi:=h i;have hy:∀t j,yielded y.toArray t j=yielded x.toArray t j:=λt j=>by
  unfold yielded;rw[agY,agY];have hj:=h j;have:(y[j]?).bind (·.dst)=(x[j]?).bind (·.dst):=by
   cases hx:x[j]? with
   |none=>rw[hx] at hj;cases hyj:y[j]? with
    |none=>rfl
    |some o'=>rw[hyj] at hj;cases hj
   |some o=>rw[hx] at hj;cases hyj:y[j]? with
    |none=>rw[hyj] at hj;cases hj
    |some o'=>rw[hyj] at hj;simp only[aip,Option.some.injEq,Prod.mk.injEq] at hj;exact hj.1
  rw[this]
 cases hx:x[i]? with
 |none=>
  rw[hx] at hi
  cases Xz:y[i]? with
  |none=>rw[Xz] at hh;exact hh
  |some o'=>rw[Xz] at hi;cases hi
 |some o=>
  rw[hx] at hi
  cases Xz:y[i]? with
  |none=>rw[Xz] at hi;cases hi
  |some o'=>
   rw[Xz] at hi hh;simp only[aip,Option.some.injEq,Prod.mk.injEq] at hi;obtain⟨e0,e1,e2,e3⟩:=hi
   dsimp only at hh ⊢
   have hw:Region.wanted o' (yielded y.toArray a.tmps)=Region.wanted o (yielded x.toArray a.tmps):=by
    unfold Region.wanted;rw[e3]
    cases o.guard with
    |none=>rfl
    |some g=>simp only[hy]
   rw[hw] at hh;obtain⟨g1,g2⟩:=Ac (P:=P) (Q:=Q) e0 e1 e2 a w K
   split at hh
   ·rename_i Cd;rw[agN Cd];rw[g1,g2] at hh;exact hh
   ·rename_i Cd;rw[agL Cd];rw[e0] at hh;exact hh
def iD (ops:List Oper)(b a:Nat):List Oper:=ops.modify b λo=>{ o with after:=o.after.push { on:=a,ground:=.data } }
def EJ (ops:List Oper)(b a i:Nat):(iD ops b a)[i]?=if b=i then (ops[i]?).map (λo=>{ o with after:=o.after.push { on:=a,ground:=.data } }) else ops[i]?:=by
 rw[iD,List.getElem?_modify]
 split
 ·rfl
 ·cases ops[i]?<;>rfl
def oa (ops:List Oper)(b a:Nat):Jg ops (iD ops b a):=by
 intro i;rw[EJ]
 split
 ·cases ops[i]?<;>rfl
 ·rfl
theorem gY {ops:List Oper}{a b i:Nat}{ay:Array Bool}:i∈Region.ready .any (iD ops b a).toArray ay↔i∈Region.ready .any ops.toArray ay/\(i=b->ay.getD a false=true):=by
 rw[mem_ready,mem_ready,agY,agY,EJ]
 by_cases hb:b=i
 ·subst hb;rw[agN rfl]
  cases ops[b]? with
  |none=>simp
  |some o=>
   simp only[aip,Option.some.injEq,exists_eq_left',Array.mem_push,true_imp_iff]
   constructor
   ·rintro⟨h1,h2⟩;exact⟨⟨h1,λe he hb=>h2 e (.inl he) hb⟩,h2 ⟨a,.data⟩ (.inr rfl) rfl⟩
   ·rintro⟨⟨h1,h2⟩,h3⟩;refine⟨h1,λe he hb=>?_⟩;rcases he with he|rfl
    ·exact h2 e he hb
    ·exact h3
 ·rw[agL hb];simp[Ne.symm hb]
theorem AK {ops:List Oper}{a b:Nat}:∀(fuel:Nat)(ay:Array Bool)(s:Act)(w:World),ay.getD a false=true->wpAny P .any (iD ops b a).toArray Q fuel ay s w->wpAny P .any ops.toArray Q fuel ay s w:=by
 intro fuel;have hr:∀ay:Array Bool,ay.getD a false=true->Region.ready .any (iD ops b a).toArray ay=Region.ready .any ops.toArray ay:=λay hl=>by
  have:∀i,i∈Region.ready .any (iD ops b a).toArray ay↔i∈Region.ready .any ops.toArray ay:=λi=>by rw[gY];exact⟨λh=>h.1,λh=>⟨h,λ_=>hl⟩⟩
  unfold Region.ready at this ⊢;have gu:(iD ops b a).toArray.size=ops.toArray.size:=by simp[iD]
  rw[gu] at this ⊢;refine ajg λi hi=>?_;have:=this i;rw[ag0,ag0] at this;rw[ajc];exact⟨λh=>(this.1 ⟨hi,h⟩).2,λh=>(this.2 ⟨hi,h⟩).2⟩
 induction fuel with
 |zero=>
  intro ay s w hl h;exact⟨by rw[<-hr ay hl];exact h.1,h.2⟩
 |succ fuel ih=>
  intro ay s w hl h;refine⟨λhn=>h.1 (by rw[hr ay hl];exact hn),λi hi=>?_⟩;have:=h.2 i (by rw[hr ay hl];exact hi);exact wpOp_mono (λs' w' h'=>ih _ s' w' (getD_set_true hl) h') (sL (oa ops b a) this)
theorem Mc {ops:List Oper}{a b:Nat}(jK:a≠b)(gA:∀(i:Nat)(o:Oper),ops[i]?=some o->i≠a->i≠b->sJ o.op=true):∀(fuel:Nat)(ay:Array Bool)(s:Act)(w:World),ay.size=ops.length->ay.getD a false=false->ay.getD b false=false->
  wpAny P .any (iD ops b a).toArray Q fuel ay s w->wpAny P .any (iD ops a b).toArray Q fuel ay s w->wpAny P .any ops.toArray Q fuel ay s w:=by
 intro fuel
 induction fuel with
 |zero=>
  intro ay s w gu ha hb h1 h2;refine⟨?_,h1.2⟩
  cases hr:Region.ready .any ops.toArray ay with
  |nil=>rfl
  |cons i r=>
   have hi:i∈Region.ready .any ops.toArray ay:=by rw[hr];simp
   by_cases AS:i=b
   ·subst AS;have:i∈Region.ready .any (iD ops a i).toArray ay:=gY.2 ⟨hi,λe=>absurd e.symm jK⟩;rw[h2.1] at this;cases this
   ·have:i∈Region.ready .any (iD ops b a).toArray ay:=gY.2 ⟨hi,λe=>absurd e AS⟩;rw[h1.1] at this;cases this
 |succ fuel ih=>
  intro ay s w gu ha hb h1 h2;refine⟨λhn=>h1.1 ?_,λi hi=>?_⟩
  ·cases hr:Region.ready .any (iD ops b a).toArray ay with
   |nil=>rfl
   |cons i r=>
    have hi:i∈Region.ready .any (iD ops b a).toArray ay:=by rw[hr];simp
    have:=(gY.1 hi).1;rw[hn] at this;cases this
  ·have eH:i<ay.size:=by
    obtain⟨_,o,ho,_⟩:=mem_ready.1 hi;rw[agY] at ho;have:=(agC.1 ho).1;omega
   by_cases AS:i=b
   ·subst AS;have g:=sL (oa ops a i) (h2.2 i (gY.2 ⟨hi,λe=>absurd e.symm jK⟩));exact wpOp_mono (λs' w' h'=>AK _ _ s' w' (by simp[eH]) h') g
   ·by_cases o9:i=a
    ·subst o9;have g:=sL (oa ops b i) (h1.2 i (gY.2 ⟨hi,λe=>absurd e jK⟩));exact wpOp_mono (λs' w' h'=>AK _ _ s' w' (by simp[eH]) h') g
    ·have g1:=sL (oa ops b a) (h1.2 i (gY.2 ⟨hi,λe=>absurd e AS⟩));have g2:=sL (oa ops a b) (h2.2 i (gY.2 ⟨hi,λe=>absurd e o9⟩));have g:wpOp P ops.toArray Q i (λs' w'=>wpAny P .any (iD ops b a).toArray Q fuel (ay.setIfInBounds i true) s' w'/\wpAny P .any (iD ops a b).toArray Q fuel (ay.setIfInBounds i true) s' w') s w:=by
      unfold wpOp at g1 g2 ⊢;rw[agY] at g1 g2 ⊢
      cases ho:ops[i]? with
      |none=>rw[ho] at g1 g2;exact⟨g1,g2⟩
      |some o=>
       rw[ho] at g1 g2
       dsimp only at g1 g2 ⊢
       split at g1
       ·rename_i hw;rw[agN hw] at g2;rw[agN hw];rcases g1 with g1|g1
        ·rcases g2 with g2|g2
         ·exact .inl (RY (gA i o ho o9 AS) g1 g2)
         ·exact .inr g2
        ·exact .inr g1
       ·rename_i hw;rw[agL hw] at g2;rw[agL hw];exact⟨g1,g2⟩
     refine wpOp_mono (λs' w' h'=>ih _ s' w' (by simpa using gu) ?_ ?_ h'.1 h'.2) g
     ·rw[getD_set_ne false o9];exact ha
     ·rw[getD_set_ne false AS];exact hb
def sw (a b i:Nat):Nat:=if i=a then b else if i=b then a else i
def sA (a b i:Nat):sw a b (sw a b i)=i:=by
 unfold sw
 by_cases h1:i=a
 ·subst h1;rw[agN rfl]
  by_cases h2:b=i
  ·rw[agN h2];exact h2
  ·rw[agL h2,agN rfl]
 ·rw[agL h1]
  by_cases h2:i=b
  ·subst h2;rw[agN rfl,agN rfl]
  ·rw[agL h2,agL h1,agL h2]
def CS {a b i n:Nat}(ha:a<n)(hb:b<n)(hi:i<n):sw a b i<n:=by
 unfold sw
 split
 ·exact hb
 ·split
  ·exact ha
  ·exact hi
def AZ (a b:Nat)(o:Oper):Oper:={ o with after:=o.after.map (λe=>{ e with on:=sw a b e.on }),guard:=o.guard.map (λg=>(sw a b g.1,g.2)) }
def kE (a b:Nat)(ops:List Oper):List Oper:=((ops.set a (ops.getD b default)).set b (ops.getD a default)).map (AZ a b)
def ui {a b:Nat}{ops:List Oper}(jK:a≠b)(ha:a<ops.length)(hb:b<ops.length)(i:Nat):(kE a b ops)[i]?=(ops[sw a b i]?).map (AZ a b):=by
 rw[kE,ahJ]
 congr 1
 rw[aji,aji,ahY];unfold sw
 by_cases h1:i=a
 ·subst h1;rw[agL (Ne.symm jK),agN rfl,agN ha,agN rfl,agB,agD hb];rfl
 ·by_cases h2:i=b
  ·subst h2;rw[agN rfl,agN hb,agL h1,agN rfl,agB,agD ha];rfl
  ·rw[agL (Ne.symm h2),agL (Ne.symm h1),agL h1,agL h2]
theorem ve {a b:Nat}{ops:List Oper}(jK:a≠b)(ha:a<ops.length)(hb:b<ops.length){l l2:Array Bool}(hl:l.size=ops.length)(jy:l2.size=ops.length)(hr:∀i,i<ops.length->l2.getD i false=l.getD (sw a b i) false)(i:Nat) :
  i∈Region.ready .any ops.toArray l↔sw a b i∈Region.ready .any (kE a b ops).toArray l2:=by
 rw[mem_ready,mem_ready,agY,agY,ui jK ha hb,sA]
 cases ho:ops[i]? with
 |none=>simp
 |some o=>
  have hi:i<ops.length:=(agC.1 ho).1;have e1:l2.getD (sw a b i) true=l.getD i true:=by
   have:=CS ha hb hi;rw[cQ (by omega),cQ (by omega),hr _ this,sA]
  simp only[aip,Option.some.injEq,exists_eq_left',e1];have e2:(∀e∈o.after,Region.binds .any e=true->l.getD e.on false=true)↔∀e∈(AZ a b o).after,Region.binds .any e=true->l2.getD e.on false=true:=by
   have out:∀(z:Array Bool)(n:Nat),z.size=ops.length->¬n<ops.length->z.getD n false=false:=λz n hz hn=>by
    have:¬n<z.size:=by omega
    simp[this]
   constructor
   ·intro h e he vV;simp only[AZ,Array.mem_map] at he;obtain⟨e',Ci,rfl⟩:=he;have:=h e' Ci vV;have aZ:e'.on<ops.length:=by
     rcases agM e'.on ops.length with h1|h1
     ·exact h1
     ·rw[out l _ hl (by omega)] at this;cases this
    show l2.getD (sw a b e'.on) false=true;rw[hr _ (CS ha hb aZ),sA];exact this
   ·intro h e he vV;have:=h { e with on:=sw a b e.on } (by simp only[AZ,Array.mem_map];exact⟨e,he,rfl⟩) vV;have aZ:sw a b e.on<ops.length:=by
     rcases agM (sw a b e.on) ops.length with h1|h1
     ·exact h1
     ·have h2:=out l2 (sw a b e.on) jy (by omega);rw[show l2.getD (sw a b e.on) false=true from this] at h2;cases h2
    have h3:=hr _ aZ;rw[sA] at h3;rw[<-h3];exact this
  rw[e2]
theorem OB {a b:Nat}{ops:List Oper}(jK:a≠b)(ha:a<ops.length)(hb:b<ops.length){i:Nat}{K:Act->World->Prop}{s:Act}{w:World}(hh:wpOp P (kE a b ops).toArray Q (sw a b i) K s w):wpOp P ops.toArray Q i K s w:=by
 unfold wpOp at *;rw[agY] at *;rw[ui jK ha hb,sA] at hh;have hy:∀t j,yielded (kE a b ops).toArray t (sw a b j)=yielded ops.toArray t j:=λt j=>by
  unfold yielded;rw[agY,agY,ui jK ha hb,sA]
  cases ops[j]?<;>rfl
 cases ho:ops[i]? with
 |none=>rw[ho] at hh;exact hh
 |some o=>
  rw[ho] at hh;simp only[aip] at hh
  dsimp only
  have hw:Region.wanted (AZ a b o) (yielded (kE a b ops).toArray s.tmps)=Region.wanted o (yielded ops.toArray s.tmps):=by
   unfold Region.wanted AZ
   cases o.guard with
   |none=>rfl
   |some g=>simp only[aip,hy]
  rw[hw] at hh;obtain⟨g1,g2⟩:=Ac (P:=P) (Q:=Q) (o:=o) (o':=AZ a b o) rfl rfl rfl s w K
  split at hh
  ·rename_i Cd;rw[agN Cd];rw[g1,g2] at hh;exact hh
  ·rename_i Cd;rw[agL Cd];exact hh
theorem GP {a b:Nat}{ops:List Oper}(jK:a≠b)(ha:a<ops.length)(hb:b<ops.length):∀(fuel:Nat)(l l2:Array Bool)(s:Act)(w:World),l.size=ops.length->l2.size=ops.length->(∀i,i<ops.length->l2.getD i false=l.getD (sw a b i) false)->
  wpAny P .any (kE a b ops).toArray Q fuel l2 s w->wpAny P .any ops.toArray Q fuel l s w:=by
 intro fuel;have YA:∀l l2:Array Bool,l.size=ops.length->l2.size=ops.length->(∀i,i<ops.length->l2.getD i false=l.getD (sw a b i) false)->(Region.ready .any ops.toArray l=[]↔Region.ready .any (kE a b ops).toArray l2=[]):=by
  intro l l2 hl jy hr;have h:=ve jK ha hb hl jy hr
  constructor
  ·intro hn
   cases hx:Region.ready .any (kE a b ops).toArray l2 with
   |nil=>rfl
   |cons j r=>
    have hj:j∈Region.ready .any (kE a b ops).toArray l2:=by rw[hx];simp
    have:=(h (sw a b j)).2 (by rw[sA];exact hj);rw[hn] at this;cases this
  ·intro hn
   cases hx:Region.ready .any ops.toArray l with
   |nil=>rfl
   |cons j r=>
    have hj:j∈Region.ready .any ops.toArray l:=by rw[hx];simp
    have:=(h j).1 hj;rw[hn] at this;cases this
 induction fuel with
 |zero=>intro l l2 s w hl jy hr h;exact⟨(YA l l2 hl jy hr).2 h.1,h.2⟩
 |succ fuel ih=>
  intro l l2 s w hl jy hr h;refine⟨λhn=>h.1 ((YA l l2 hl jy hr).1 hn),λi hi=>?_⟩;have zh:=(ve jK ha hb hl jy hr i).1 hi;have eH:i<ops.length:=by
   obtain⟨_,o,ho,_⟩:=mem_ready.1 hi;rw[agY] at ho;exact(agC.1 ho).1
  have g:=OB jK ha hb (h.2 _ zh);refine wpOp_mono (λs' w' h'=>ih _ _ s' w' (by simpa using hl) (by simpa using jy) (λj hj=>?_) h') g;have WM:=CS ha hb eH;have hsj:=CS ha hb hj
  by_cases rp:j=sw a b i
  ·subst rp;rw[sA];simp[hl,jy,eH,WM]
  ·rw[getD_set_ne false (λe=>rp e.symm),getD_set_ne false (λe=>rp (by rw[e,sA])),hr j hj]
end
def Qb {C:Cx}{id:Nat}{ops:List Oper}{Q:Exit->St->Prop}{s:St}{y:Code}(a b:Nat)(Rz lo1:List Nat)(na1:List (List Nat))(Ry lo2:List Nat)(na2:List (List Nat))(hm:C.P.follows .mixedOrders=true)
  (kD:(decide (a≠b)&&decide (a<ops.length)&&decide (b<ops.length)&&ops.all λo=>sJ o.op)=true) (aeE:iV (iD ops b a) Rz lo1 na1=true) (aez:jH Rz=true) (aeD:iV (kE a b (iD ops a b)) Ry lo2 na2=true) (aey:jH Ry=true)
  (h:∀K:St->Prop,(∀s,AW C y Q s->K s)->gK ⟨C,(iD ops b a).toArray,Rz,lo1,na1,K⟩ (iD ops b a) [] [(s.H,s.T,0)] (prune C.nv s.e)/\
   gK ⟨C,(kE a b (iD ops a b)).toArray,Ry,lo2,na2,K⟩ (kE a b (iD ops a b)) [] [(s.H,s.T,0)] (prune C.nv s.e)):AW C (.seq (.region id ops.toArray true) y) Q s:=by
 simp only[agO,agQ,aha] at kD;obtain⟨⟨⟨jK,ha⟩,hb⟩,gA⟩:=kD;refine w8 λK hK=>λL0 w0 a0 mw=>wp_region_any hm ?_;obtain⟨h1,h2⟩:=h K hK;have g1:=uJ (Q:=Q) K Rz lo1 na1 aeE aez h1 L0 w0 a0 mw;have g2:=uJ (Q:=Q) K Ry lo2 na2 aeD aey h2 L0 w0 a0 mw;have l1:(iD ops b a).toArray.size=ops.toArray.size:=by simp[iD]
 have l2:(kE a b (iD ops a b)).toArray.size=ops.toArray.size:=by simp[iD,kE]
 have l3:(iD ops a b).length=ops.length:=by simp[iD]
 rw[l1] at g1;rw[l2] at g2;have g3:=GP (ops:=iD ops a b) jK (by rw[l3];exact ha) (by rw[l3];exact hb) _ (Array.replicate ops.toArray.size false) (Array.replicate ops.toArray.size false) _ _ (by simp[l3]) (by simp[l3]) (λi hi=>by
  rw[l3] at hi;have:=CS ha hb hi;simp[hi,this]) g2
 exact Mc jK (λi o ho _ _=>gA o (ahW ho)) _ _ _ _ (by simp) (by simp[ha]) (by simp[hb]) g1 g3
def wU (ops:List Oper)(n:Nat):Bool:=
 decide (n<=ops.length) &&
 ((List.range ops.length).all λi=>(ops.getD i default).after.all λe=>!Region.binds .any e||decide (e.on<i)) &&
 ((List.range n).all λi=>match (ops.getD i default).guard with|some (g,_)=>decide (g<n)|none=>true) &&
 ((List.range ops.length).all λi=>decide (i<n)||(List.range i).all λj=>nq (fu ops []) j i)
def pT {ops:List Oper}{n:Nat}(h:wU ops n=true) :
  n<=ops.length/\(∀(i:Nat)(o:Oper),ops[i]?=some o->∀e∈o.after,Region.binds .any e=true->e.on<i)/\
  (∀(i g:Nat)(o:Oper)(b:Bool),i<n->ops[i]?=some o->o.guard=some (g,b)->g<n)/\
  ∀i j,n<=i->i<ops.length->j<i->nq (fu ops []) j i=true:=by
 unfold wU at h;simp only[agO,agQ] at h;obtain⟨⟨⟨h1,h2⟩,h3⟩,h4⟩:=h;have at_:∀{i:Nat} {x:Oper},ops[i]?=some x->i<ops.length/\ops.getD i default=x:=λ{i x} hi=>by
  obtain⟨a,b⟩:=agC.1 hi;exact⟨a,by rw[agB,hi];rfl⟩
 refine⟨h1,λi o ho e he hb=>?_,λi g o b hi ho hg=>?_,λi j hn hi hj=>?_⟩
 ·obtain⟨a1,a2⟩:=at_ ho;have:=Array.all_eq_true_iff_forall_mem.1 (aha.1 h2 i (ag3.2 a1)) e (by rw[a2];exact he);rw[hb] at this;simpa using this
 ·obtain⟨a1,a2⟩:=at_ ho;have:=aha.1 h3 i (ag3.2 hi);rw[a2,hg] at this;simpa using this
 ·have:=aha.1 h4 i (ag3.2 hi);have hf:decide (i<n)=false:=agI (by omega);rw[hf,aim] at this;exact aha.1 this j (ag3.2 hj)
section
variable {P : Program}
theorem De {o:Oper}{a:Act}{w:World}{K K':Act->World->Prop}{Q1 Q2:Exit->Act->World->Prop}(hQ:∀e a w,e≠.normal->Q1 e a w->Q2 e a w)(hK:∀a w,K a w->K' a w)(h:o.wp P a w K Q1):o.wp P a w K' Q2:=by
 unfold Oper.wp at *;generalize (execOp a.eval o).run P w=r at *
 cases r with
 |ok n w'=>
  cases n<;>simp only[Oper.upon] at h ⊢<;>first
   |exact hK _ _ h
   |exact h
   |(refine h.mono ?_
     intro e w3 he
     cases e with
     |returned v=>exact hK _ _ he
     |panicked ch=>exact hQ _ _ _ (by intro hh;cases hh) he
     |outgrown=>obtain⟨a0,w0,h0⟩:=he;exact⟨a0,w0,hQ _ _ _ (by intro hh;cases hh) h0⟩)
   |exact h.mono λv w3 he=>hK _ _ he
 |halt x w'=>cases x<;>simp only[Oper.upon] at h ⊢<;>first|exact hQ _ _ _ (by intro hh;cases hh) h|exact h
def x5 {Q1 Q2:Exit->Act->World->Prop}(hQ:∀e a w,e≠.normal->Q1 e a w->Q2 e a w)(h:LetsOut Q1):LetsOut Q2:=by
 obtain⟨a,w,h⟩:=h;exact⟨a,w,hQ _ _ _ (by intro hh;cases hh) h⟩
theorem Ho {ops:Array Oper}{Q1 Q2:Exit->Act->World->Prop}(hQ:∀e a w,Q1 e a w->Q2 e a w):∀(l:List Oper)(a:Act)(w:World),wpList P ops Q1 l a w->wpList P ops Q2 l a w:=by
 intro l
 induction l with
 |nil=>intro a w h;exact hQ _ _ _ h
 |cons o r ih=>
  intro a w h;unfold wpList at h ⊢
  split
  ·rename_i hw;rw[agN hw] at h;rcases h with h|⟨h1,h2⟩
   ·exact .inl (De (λe a w _=>hQ e a w) ih h)
   ·exact .inr ⟨h1,x5 (λe a w _=>hQ e a w) h2⟩
  ·rename_i hw;rw[agL hw] at h;exact ih _ _ h
def uf (ops:List Oper)(ay:Array Bool):Prop:=∀i j,ay.getD i false=true->nq (fu ops []) j i=true->ay.getD j false=true
def uf.step {ops:List Oper}{ay:Array Bool}(h:uf ops ay){i:Nat}{o:Oper}(ho:ops[i]?=some o)(hr:∀e∈o.after,Region.binds .any e=true->ay.getD e.on false=true)(C6:∀e∈o.after,Region.binds .any e=true->e.on<i):uf ops (ay.setIfInBounds i true):=by
 intro x j hx hj
 by_cases hxi:x=i
 ·subst hxi;exact getD_set_true (iX h ho hr C6 hj)
 ·rw[getD_set_ne false (λe=>hxi e.symm)] at hx;exact getD_set_true (h x j hx hj)
theorem Km {ops:List Oper}{Q:Exit->Act->World->Prop}{n:Nat}(kD:wU ops n=true):∀(l:List Oper)(i:Nat),n<=i->l=ops.drop i->i<=ops.length->∀(fuel:Nat)(ay:Array Bool)(a:Act)(w:World),l.length<=fuel->ay.size=ops.length->
  (∀j,j<ops.length->(ay.getD j false=true↔j<i))->uf ops ay->wpList P ops.toArray Q l a w->wpAny P .any ops.toArray Q fuel ay a w:=by
 obtain⟨c1,c2,c3,c4⟩:=pT kD;intro l
 induction l with
 |nil=>
  intro i hn hl hi fuel ay a w hf gu UU gC h;have eH:i=ops.length:=by
   have:=congrArg List.length hl;rw[ahp,ahV] at this;omega
  have hr:Region.ready .any ops.toArray ay=[]:=by
   rw[ah3];intro k hk;obtain⟨h1,o,ho,_⟩:=mem_ready.1 hk;rw[agY] at ho;have gO:=(agC.1 ho).1;rw[cQ (by omega),(UU k gO).2 (by omega)] at h1
   cases h1
  cases fuel with
  |zero=>exact⟨hr,h⟩
  |succ f=>exact⟨λ_=>h,λk hk=>by rw[hr] at hk;cases hk⟩
 |cons o r ih=>
  intro i hn hl hi fuel ay a w hf gu UU gC h;have eH:i<ops.length:=by
   rcases agM i ops.length with h1|h1
   ·exact h1
   ·rw[aiW h1] at hl;cases hl
  have qc:=ah5 eH;rw[qc] at hl;have ho:ops[i]?=some o:=by rw[agD eH];exact congrArg some (List.cons.inj hl).1.symm
  have UO:=(List.cons.inj hl).2;have Ui:∀e∈o.after,Region.binds .any e=true->ay.getD e.on false=true:=λe he hb=>by
   have:=c2 i o ho e he hb;exact(UU _ (by omega)).2 this
  have fK:i∈Region.ready .any ops.toArray ay:=mem_ready.2 ⟨by
   rw[cQ (by omega)]
   cases WS:ay.getD i false with
   |false=>rfl
   |true=>have:=(UU i eH).1 WS;omega,o,by rw[agY];exact ho,Ui⟩
  have Zp:∀k∈Region.ready .any ops.toArray ay,k=i:=by
   intro k hk;obtain⟨h1,o',vD,h2⟩:=mem_ready.1 hk;rw[agY] at vD;have gO:=(agC.1 vD).1;rw[cQ (by omega)] at h1;rcases ah6 k i with h3|h3|h3
   ·rw[(UU k gO).2 h3] at h1;cases h1
   ·exact h3
   ·have:=iX gC vD h2 (λe he hb=>c2 k o' vD e he hb) (c4 k i (by omega) gO h3);have:=(UU i eH).1 this;omega
  cases fuel with
  |zero=>simp at hf
  |succ f=>
   refine⟨λhn=>(by rw[hn] at fK;cases fK),λk hk=>?_⟩;have:=Zp k hk;subst this;have Mx:=ih (k+1) (by omega) UO (by omega) f (ay.setIfInBounds k true);have aem:∀j,j<ops.length->((ay.setIfInBounds k true).getD j false=true↔j<k+1):=by
    intro j hj
    by_cases Jq:j=k
    ·subst Jq;simp[gu,eH]
    ·rw[getD_set_ne false (λe=>Jq e.symm),UU j hj];omega
   have YH:=λa w=>Mx a w (by simpa using hf) (by simpa using gu) aem (gC.step ho Ui (λe he hb=>c2 k o ho e he hb));unfold wpOp;rw[agY,ho];unfold wpList at h
   dsimp only
   split
   ·rename_i hw;rw[agN hw] at h;rcases h with h|h
    ·exact .inl (Oper.wp_mono YH h)
    ·exact .inr h
   ·rename_i hw;rw[agL hw] at h;exact YH _ _ h
theorem Pg {ops:List Oper}{n i:Nat}{Q1 Q2:Exit->Act->World->Prop}(hQ:∀e a w,e≠.normal->Q1 e a w->Q2 e a w)(hi:i<n)(hg:∀(g:Nat)(o:Oper)(b:Bool),ops[i]?=some o->o.guard=some (g,b)->g<n)
  {K K':Act->World->Prop} (hK:∀a w,K a w->K' a w) {a:Act} {w:World} (h:wpOp P (ops.take n).toArray Q1 i K a w):wpOp P ops.toArray Q2 i K' a w:=by
 unfold wpOp at *;rw[agY] at *;rw[List.getElem?_take_of_lt hi] at h
 cases ho:ops[i]? with
 |none=>rw[ho] at h;exact hK _ _ h
 |some o=>
  rw[ho] at h
  dsimp only at h ⊢
  have hw:Region.wanted o (yielded (ops.take n).toArray a.tmps)=Region.wanted o (yielded ops.toArray a.tmps):=by
   unfold Region.wanted
   cases Mx:o.guard with
   |none=>rfl
   |some gb=>
    obtain⟨g,b⟩:=gb;have WZ:=hg g o b ho Mx;have:yielded (ops.take n).toArray a.tmps g=yielded ops.toArray a.tmps g:=by
     unfold yielded;rw[agY,agY,List.getElem?_take_of_lt WZ]
    simp only[this]
  rw[hw] at h
  split
  ·rename_i Cd;rw[agN Cd] at h;rcases h with h|⟨h1,h2⟩
   ·exact .inl (De hQ hK h)
   ·exact .inr ⟨h1,x5 hQ h2⟩
  ·rename_i Cd;rw[agL Cd] at h;exact hK _ _ h
theorem O5 {ops:List Oper}{Q1 Q2:Exit->Act->World->Prop}{n:Nat}(kD:wU ops n=true)(hQ:∀e a w,e≠.normal->Q1 e a w->Q2 e a w)(yL:∀a w,Q1 .normal a w->wpList P ops.toArray Q2 (ops.drop n) a w) :
  ∀(fuel:Nat)(lp ay:Array Bool)(a:Act)(w:World),lp.size=n->ay.size=ops.length->(∀j,j<n->ay.getD j false=lp.getD j false)->(∀j,n<=j->ay.getD j false=false)->uf ops ay->
   wpAny P .any (ops.take n).toArray Q1 fuel lp a w->wpAny P .any ops.toArray Q2 (fuel+(ops.length-n)) ay a w:=by
 obtain⟨c1,c2,c3,c4⟩:=pT kD;have tk:∀i,i<n->(ops.take n).toArray[i]?=ops[i]?:=λi hi=>by rw[agY,List.getElem?_take_of_lt hi]
 have fh:∀(lp:Array Bool),lp.size=n->Region.ready .any (ops.take n).toArray lp=[]->∀j,j<n->lp.getD j false=true:=by
  intro lp gu hr i
  induction i using Nat.strongRecOn with
  |_ i ih=>
   intro eH
   cases WS:lp.getD i false with
   |true=>rfl
   |false=>
    exfalso;have hio:ops[i]?=some ops[i]:=agD (by omega);have fK:i∈Region.ready .any (ops.take n).toArray lp:=by
     refine mem_ready.2 ⟨by rw[cQ (by omega)];exact WS,ops[i],by rw[tk i eH];exact hio,λe he hb=>?_⟩;have aZ:=c2 i _ hio e he hb;exact ih e.on aZ (by omega)
    rw[hr] at fK
    cases fK
 have mV:∀(fuel:Nat)(lp ay:Array Bool)(a:Act)(w:World),lp.size=n->ay.size=ops.length->(∀j,j<n->ay.getD j false=lp.getD j false)->(∀j,n<=j->ay.getD j false=false)->uf ops ay->
   Region.ready .any (ops.take n).toArray lp=[]->Q1 .normal a w->ops.length-n<=fuel->wpAny P .any ops.toArray Q2 fuel ay a w:=by
  intro fuel lp ay a w hz gu hl ht gC hr hq hf;have jy:=fh lp hz hr;refine Km kD (ops.drop n) n (agE _) rfl c1 fuel ay a w (by rw[ahp];exact hf) gu (λj hj=>?_) gC (yL _ _ hq);rcases agM j n with h1|h1
  ·rw[hl j h1,jy j h1];simp[h1]
  ·rw[ht j h1];simp;omega
 intro fuel
 induction fuel with
 |zero=>
  intro lp ay a w hz gu hl ht gC h;exact mV _ lp ay a w hz gu hl ht gC h.1 h.2 (by omega)
 |succ fuel ih=>
  intro lp ay a w hz gu hl ht gC h
  cases MQ:Region.ready .any (ops.take n).toArray lp with
  |nil=>exact mV _ lp ay a w hz gu hl ht gC MQ (h.1 MQ) (by omega)
  |cons k rest=>
   have hk:k∈Region.ready .any (ops.take n).toArray lp:=by rw[MQ];simp
   have QW:∀i,i∈Region.ready .any (ops.take n).toArray lp->i<n:=by
    intro i hi;obtain⟨_,o,ho,_⟩:=mem_ready.1 hi;rw[agY] at ho;have:=(agC.1 ho).1;rw[ag5] at this;omega
   have hto:∀i,i∈Region.ready .any (ops.take n).toArray lp->i∈Region.ready .any ops.toArray ay:=by
    intro i hi;have tL:=QW i hi;obtain⟨h1,o,ho,h2⟩:=mem_ready.1 hi;rw[tk i tL] at ho;rw[cQ (by omega)] at h1;refine mem_ready.2 ⟨by rw[cQ (by omega),hl i tL];exact h1,o,by rw[agY];exact ho,λe he hb=>?_⟩;have:=c2 i o ho e he hb;rw[hl _ (by omega)];exact h2 e he hb
   have ZA:∀i,i∈Region.ready .any ops.toArray ay->i∈Region.ready .any (ops.take n).toArray lp:=by
    intro i hi;obtain⟨h1,o,ho,h2⟩:=mem_ready.1 hi;rw[agY] at ho;have eH:=(agC.1 ho).1;rw[cQ (by omega)] at h1;rcases agM i n with tL|tL
    ·refine mem_ready.2 ⟨by rw[cQ (by omega),<-hl i tL];exact h1,o,by rw[tk i tL];exact ho,λe he hb=>?_⟩;have:=c2 i o ho e he hb;rw[<-hl _ (by omega)];exact h2 e he hb
    ·exfalso;have qa:=QW k hk;have h3:=iX gC ho h2 (λe he hb=>c2 i o ho e he hb) (c4 i k tL eH (by omega));obtain⟨h4,_⟩:=mem_ready.1 hk;rw[cQ (by omega),<-hl k qa,h3] at h4
     cases h4
   rw[show fuel+1+(ops.length-n)=(fuel+(ops.length-n))+1 by omega];refine⟨λhn=>(by have:=hto k hk;rw[hn] at this;cases this),λi hi=>?_⟩;have hip:=ZA i hi;have tL:=QW i hip;obtain⟨_,o,ho,h2⟩:=mem_ready.1 hi;rw[agY] at ho;refine Pg hQ tL (λg o' b vD hg=>c3 i g o' b tL vD hg) (λa' w' h'=>?_) (h.2 i hip);refine ih (lp.setIfInBounds i true) (ay.setIfInBounds i true) a' w' (by simpa using hz) (by simpa using gu) (λj hj=>?_) (λj hj=>?_) (gC.step ho h2 (λe he hb=>c2 i o ho e he hb)) h'
   ·by_cases rp:j=i
    ·subst rp;have h5:j<ops.length:=by omega
     simp[gu,hz,hj,h5]
    ·rw[getD_set_ne false (λe=>rp e.symm),getD_set_ne false (λe=>rp e.symm),hl j hj]
   ·rw[getD_set_ne false (by omega),ht j hj]
end
def sG (D:vX)(KR:List bX->List mP->Env->Prop):Nat->List Oper->List bX->List mP->Env->Prop
 |0,_,aR,sts,e=>KR aR sts e
 |_+1,[],_,_,_=>False
 |n+1,o::r,aR,sts,e=>match sts.getLast? with
  |some (H,T,_)=>match o.guard with
   |none=>kH D (sG D KR n r) o aR sts e H T
   |some _=>False
  |none=>False
theorem Hz {nx:Nat}{D:vX}{ops:List Oper}{e0:Env}{KR:List bX->List mP->Env->Prop}(kD:jH D.bI=true)(lF:D.bI.contains nx=true\/ops.length<=nx):∀(n:Nat)(l:List Oper)(aR:List bX)(sts:List mP)(e:Env),ik nx D ops e0 aR sts e->ops.drop aR.length=l->sG D KR n l aR sts e->
  ∃bU ew,ik nx D ops e0 bU ew (aW e0 bU)/\bU.length=aR.length+n/\ew[0]?=sts[0]?/\KR bU ew (aW e0 bU):=by
 intro n
 induction n with
 |zero=>
  intro l aR sts e hw hl h;have hc:=hw.cur;subst hc;exact⟨aR,sts,hw,rfl,rfl,h⟩
 |succ n ih=>
  intro l aR sts e hw hl h
  cases l with
  |nil=>exact h.elim
  |cons o r=>
  have nB:ops[aR.length]?=some o:=by
   have:=congrArg (λl=>l[0]?) hl;simpa using this
  have qY:ops.drop (aR.length+1)=r:=by
   have:=congrArg (λl=>l.drop 1) hl;simpa[aiY,add_comm] using this
  have fin:∀{H T i0 v H' T'},sts.getLast?=some (H,T,i0)->o.guard=none->dL D.C.P o e H T v H' T'->(D.bI.contains aR.length=false->H'=H/\T'=T)->AU D (sG D KR n r) o aR sts e true v H' T'->
    ∃bU ew,ik nx D ops e0 bU ew (aW e0 bU)/\bU.length=aR.length+(n+1)/\ew[0]?=sts[0]?/\KR bU ew (aW e0 bU):=by
   intro H T i0 v H' T' dw hg h2 h3 h4;obtain⟨bU,ew,e',g1,g2,g3,g4,_⟩:=qy kD lF hw nB dw (by rw[hg]) (λe=>by cases e) (λ_ _=>h2) h3 h4;obtain⟨r2,s2,k1,k2,k3,k4⟩:=ih r bU ew e' g1 (by rw[g2];exact qY) g3;exact⟨r2,s2,k1,by omega,k3.trans g4,k4⟩
  unfold sG at h
  split at h
  ·rename_i H T i0 dw
   split at h
   ·rename_i hg;unfold kH at h
    split at h
    ·rename_i g as jm;obtain⟨v,H',T',hc,hs,hd⟩:=h;refine fin dw hg ?_ hs hd;unfold dL;rw[jm];exact hc
    ·rename_i jm
     split at h
     ·rename_i v H' T' lE;refine fin dw hg ?_ h.1 h.2;unfold dL;rw[jm];exact lE
     ·exact h.elim
   ·exact h.elim
  ·exact h.elim
def Ib (P:Program)(x:bX)(H1:List aA):List mP->Prop
 |[]=>True
 |(_,T,_)::r=>dL P x.o x.e H1 T x.v H1 T/\Ib P x H1 r
def Yc (P:Program)(H1:List aA)(lo:List Nat)(sts:List mP):List bX->Nat->Prop
 |[],_=>True
 |x::r,i=>(match x.bI with
  |true=>(match sts[x.k]?,sts[x.k+1]? with
   |some a,some b=>dL P x.o x.e H1 a.2.1 x.v H1 b.2.1
   |_,_=>False)
  |false=>Ib P x H1 (sts.drop (lo.getD i 0)))/\Yc P H1 lo sts r (i+1)
def CU (H:List aA):List mP->Prop
 |[]=>True
 |(G,_,_)::r=>G=H/\CU H r
def Ni (C:Cx)(ops:List Oper)(lo:List Nat)(K:St->Prop)(n:Nat)(H:List aA)(aR:List bX)(sts:List mP)(e:Env):Prop:=
 match ops[n]?,sts.getLast? with
 |some al,some (_,T,_)=>al.guard=none/\∃z d,al.dst=some d/\d<C.nt/\(∀e' T',dL C.P al e' H T' (.ptr H.length 0) (H++[z]) T')/\CU H sts/\Yc C.P (H++[z]) lo sts aR 0/\K ⟨lN e d (.ptr H.length 0),H++[z],T⟩
 |_,_=>False
theorem xV {P:Program}{x:bX}{H1:List aA}:∀{l:List mP},Ib P x H1 l->∀(j:Nat)(st:mP),l[j]?=some st->dL P x.o x.e H1 st.2.1 x.v H1 st.2.1
 |[],_,j,st,h=>by simp at h
 |(G,T,i)::r,hs,0,st,h=>by simp at h;subst h;exact hs.1
 |(G,T,i)::r,hs,j+1,st,h=>xV hs.2 j st (by simpa using h)
theorem xX {H:List aA}:∀{l:List mP},CU H l->∀st∈l,st.1=H
 |[],_,st,h=>by simp at h
 |(G,T,i)::r,hs,st,h=>by
  rcases ag6.1 h with rfl|h1
  ·exact hs.1
  ·exact xX hs.2 st h1
theorem Ed {P:Program}{H1:List aA}{lo:List Nat}{sts:List mP}:∀{l:List bX} {i0:Nat},Yc P H1 lo sts l i0->∀(j:Nat)(x:bX),l[j]?=some x->
  (x.bI=true->∀a b,sts[x.k]?=some a->sts[x.k+1]?=some b->dL P x.o x.e H1 a.2.1 x.v H1 b.2.1)/\(x.bI=false->∀k st,sts[k]?=some st->lo.getD (i0+j) 0<=k->dL P x.o x.e H1 st.2.1 x.v H1 st.2.1)
 |[],_,_,j,x,h=>by simp at h
 |y::r,i0,hs,0,x,h=>by
  simp at h;subst h;have h1:=hs.1
  constructor
  ·intro he a b ha hb;rw[he] at h1;simp only[ha,hb] at h1;exact h1
  ·intro he k st hk hl;rw[he] at h1;exact xV h1 (k-lo.getD i0 0) st (by rw[aii,<-hk];congr 1;simp only[ai3] at hl;omega)
 |y::r,i0,hs,j+1,x,h=>by
  have:=Ed hs.2 j x (by simpa using h);rw[show i0+1+j=i0+(j+1) by omega] at this;exact this
theorem Hy {C:Cx}{ops:List Oper}{Q:Exit->St->Prop}{s:St}(K:St->Prop)(n:Nat)(bI lo:List Nat)(na:List (List Nat))(hn:ops.length=n+1)(kD:iV ops bI lo na=true)(qb:jH bI=true)(dN:bI.contains n=false)
  (h:sG ⟨C,ops.toArray,bI,lo,na,K⟩ (Ni C ops lo K n s.H) n ops [] [(s.H,s.T,0)] (prune C.nv s.e)):∀L0 w0 a0,eK C s L0 w0 a0->
   wpAny C.P .any ops.toArray (cO C (dF K Q) L0 s w0) ops.toArray.size (Array.replicate ops.toArray.size false) a0 { w0 with drawn:=w0.drawn+1 }:=by
 intro L0 w0 a0 mw;have hc:eK C ⟨prune C.nv s.e,s.H,s.T⟩ L0 w0 a0:=⟨mw.nb,mw.tb,mw.mO,mw.size,mw.defers,λt=>by
  rcases mq C.nv s.e t with e|e<;>rw[e]
  ·exact mw.env t
  ·exact .top _⟩
 generalize uS:(⟨prune C.nv s.e,s.H,s.T⟩:St)=s' at hc;have Ce:prune C.nv s.e=s'.e:=by rw[<-uS]
 have AO:s.H=s'.H:=by rw[<-uS]
 have FT:s.T=s'.T:=by rw[<-uS]
 rw[Ce,AO,FT] at h;rw[show cO C (dF K Q) L0 s w0=cO C (dF K Q) L0 s' w0 by unfold cO;rw[AO,FT]];clear uS Ce AO FT mw;generalize hD:(⟨C,ops.toArray,bI,lo,na,K⟩:vX)=D at h;have kL:D.C=C:=by rw[<-hD]
 have oV:D.bI=bI:=by rw[<-hD]
 have zl:D.lo=lo:=by rw[<-hD]
 have Q7:D.na=na:=by rw[<-hD]
 have Q8:D.all=ops.toArray:=by rw[<-hD]
 obtain⟨zy,F8,hw,AQ,Vq,mV⟩:=Hz (nx:=ops.length) (D:=D) (ops:=ops) (e0:=s'.e) (by rw[oV];exact qb) (.inr (agE _)) n ops [] [(s'.H,s'.T,0)] s'.e
  ⟨⟨by simp,λi x hx=>by simp at hx⟩,λi x hx=>by simp at hx,λi x hx=>by simp at hx,rfl⟩ (by simp) h
 simp only[ahV,ahO] at AQ;obtain⟨d1,d2,d3,d4,d5,d6,d7⟩:=kj kD;have TH:ops[n]?=some (ops[n]'(by omega)):=agD (by omega);generalize ops[n]'(by omega)=al at TH;unfold Ni at mV;rw[TH] at mV;have Uh:∀m i,bI[m]?=some i->i<n:=λm i TM=>by
  have h1:=(d3 m i TM).1;have h2:i≠n:=by
   rintro rfl;have:bI.contains i=true:=by rw[aik];exact ahW TM
   rw[dN] at this;cases this
  omega
 have M7:F8.length=1+bI.length:=by
  have h1:=hw.st.len;rw[oV,AQ] at h1;rw[h1]
  congr 2
  apply aid.2;intro e he;obtain⟨m,hm,e1⟩:=agW.1 he;have:=Uh m e (by rw[agD hm,e1]);simpa using this
 cases dw:F8.getLast? with
 |none=>rw[dw] at mV;exact mV.elim
 |some st=>
 obtain⟨HL,TL,iL⟩:=st;rw[dw] at mV;obtain⟨ud,z,d,lL,hdn,uW,C0,hob,hK⟩:=mV;have C0:=xX C0;have hob:=Ed hob;obtain⟨x9,Qo⟩:∃x:bX,x=⟨al,[],true,.ptr s'.H.length 0,0,false⟩:=⟨_,rfl⟩
 obtain⟨fi,hP⟩:∃l,l=zy++[x9]:=⟨_,rfl⟩
 have sF:fi.length=ops.length:=by rw[hP];simp[AQ];omega
 have vQ:∀i,i<n->fi[i]?=zy[i]?:=λi hi=>by rw[hP,agK (by omega)]
 have hPn:fi[n]?=some x9:=by rw[hP,agX (by omega),AQ,ah1];rfl
 have MV:∀(i:Nat)(x:bX),fi[i]?=some x->ops[i]?=some x.o:=λi x hx=>by
  rcases agM i n with hi|hi
  ·rw[vQ i hi] at hx;exact(hw.Ji i x hx).o
  ·have eH:=(agC.1 hx).1;have:i=n:=by omega
   subst this;rw[hPn] at hx
   cases hx
   rw[TH,Qo]
 have Gv:∀i,i<=n->fi.take i=zy.take i:=λi hi=>by rw[hP,ahL (by omega)]
 have Ii:fi.map (·.o)=ops:=by
  apply aiw;intro i;rw[ahJ]
  by_cases hi:i<fi.length
  ·rw[agD hi,aip,MV i _ (agD hi)]
  ·rw[ah2 (by omega),ah2 (by omega)];rfl
 obtain⟨CC,Ce⟩:∃l:List mP,l=F8.map λst=>(s'.H++[z],st.2.1,st.2.2):=⟨_,rfl⟩
 have C1:∀k,CC[k]?=(F8[k]?).map λst:mP=>(s'.H++[z],st.2.1,st.2.2):=λk=>by rw[Ce,ahJ]
 have Ij:∀(i:Nat)(x:bX),fi[i]?=some x->i<n->x.e=aW s'.e (fi.take i):=λi x hx hi=>by
  rw[hw.JM i x (by rw[<-vQ i hi];exact hx),Gv i (by omega)]
 have Qw:∀(i:Nat)(x:bX),fi[i]?=some x->i<n->x.k=(D.bI.filter (·<i)).length:=λi x hx hi=>hw.st.k i x (by rw[<-vQ i hi];exact hx);have hR0:∀(i:Nat)(x:bX),fi[i]?=some x->i<n->Bj ops.length D ops F8 fi i x:=λi x hx hi=>by
  have hr:=hw.Ji i x (by rw[<-vQ i hi];exact hx);exact⟨hr.o,hr.k,hr.bI,hr.gate,hr.dst,hr.skip,hr.still,hr.effect⟩
 have hR1:∀(i:Nat)(x:bX),fi[i]?=some x->i<n->Bj ops.length D ops CC fi i x:=λi x hx hi=>by
  have hx0:zy[i]?=some x:=by rw[<-vQ i hi];exact hx
  have hr:=hw.Ji i x hx0;obtain⟨o1,o2⟩:=hob i x hx0;refine⟨hr.o,by rw[Ce,agU];exact hr.k,hr.bI,hr.gate,hr.dst,hr.skip,λcY he k H T e hk Qv _=>?_,λhe=>?_⟩
  ·rw[C1] at hk
   cases MS:F8[k]? with
   |none=>rw[MS] at hk;cases hk
   |some st=>
    rw[MS] at hk
    cases hk
    rw[kL];rw[zl] at Qv;exact o2 he k st MS (by simpa using Qv)
  ·obtain⟨Ha,Ta,ea,Hb,Tb,g1,g2,g3,g4⟩:=hr.effect he;refine⟨s'.H++[z],Ta,ea,s'.H++[z],Tb,by rw[C1,g1];rfl,by rw[C1,g2];rfl,λ_ _=>by rw[kL];exact o1 he _ _ g1 g2,λhf=>⟨rfl,(g4 hf).2⟩⟩
 have gu:ops.toArray.size=ops.length:=by simp
 rw[gu];have ph2:∀(fuel:Nat)(ay:Array Bool)(a:Act)(w:World),Inv D s' fi CC L0 w0 ay a w->ay.getD n false=true->(∀i,i<ops.length->ay.getD i false=true)\/(List.range ops.length).countP (λi=>!ay.getD i false)<=fuel->
   wpAny C.P .any ops.toArray (cO C (dF K Q) L0 s' w0) fuel ay a w:=by
  refine nY (nx:=ops.length) kD qb kL oV zl Q7 Q8 sF MV (λi=>i<n) (λi hi=>by omega) hR1 Ij Qw (λl=>l.getD n false=true) (λl j _ hl=>getD_set_true hl) (λay a w hI _ fh=>?_) (λfuel ay a w hI hJ i hi tK _=>?_)
  ·obtain⟨k,H,T,e,L,hk,gO,qO,cR,gw,fQ,gE,dB⟩:=hI.st;have qa:k=bI.length:=by
    rw[oV] at hk gO;rcases agM k bI.length with aZ|od
    ·have:=(hk k _ (agD aZ)).1 (fh _ (d3 k _ (agD aZ)).1);omega
    ·omega
   have CI:CC[k]?=some (s'.H++[z],TL,iL):=by
    rw[C1,show F8[k]?=some (HL,TL,iL) by rw[<-dw,ajj,M7,qa];congr 1;omega];rfl
   rw[qO] at CI;obtain⟨rfl,rfl,rfl⟩:H=s'.H++[z]/\T=TL/\e=iL:=by injection CI with h1;injection h1 with h1 h2;injection h2 with h2 h3;exact⟨h1,h2,h3⟩
   rw[kL] at dB gw fQ;refine⟨_,L,hK,⟨gw,fQ,cR,by rw[hI.tmps,kL],hI.defers,λt=>?_⟩,dB⟩;obtain⟨v,hv,hr⟩:=gE t;show ba L _ T w (bH (lN (aW s'.e zy) d (.ptr s'.H.length 0)) t) _;have qT:lN (aW s'.e zy) d (.ptr s'.H.length 0)=aW s'.e fi:=by
    rw[hP,iM,Qo];unfold xb Ik;simp only[lL]
   rw[qT];rcases hv with⟨j,x,hx,hd,hl,rfl⟩|⟨oh,rfl⟩
   ·rw[eT fi s'.e t j x hx hd (λi y hy y8=>d1 i j y.o x.o t (MV i y hy) (MV j x hx) y8 hd)];exact hr
   ·rw[cI fi s'.e t (λx hx hd=>by
     obtain⟨j,hj,e1⟩:=agW.1 hx;have h1:=oh j x (by rw[agD hj,e1]) hd;have h2:=fh j (by omega);rw[h1] at h2;cases h2)]
    exact hr
  ·obtain⟨h1,o,ho,_⟩:=mem_ready.1 hi;rw[agY] at ho;have eH:=(agC.1 ho).1;have:i=n:=by omega
   subst this;rw[cQ (by rw[hI.size,sF];exact eH),hJ] at h1
   cases h1
 refine nY (nx:=ops.length) kD qb kL oV zl Q7 Q8 sF MV (λi=>i<n) (λi hi=>by omega) hR0 Ij Qw (λl=>l.getD n false=false)
  (λl i hi hl=>by rw[getD_set_ne false (by omega)];exact hl) (λay a w hI hJ fh=>by rw[fh n (by omega)] at hJ;cases hJ) ?_ ops.length _ a0 _ ⟨by simp[sF],λi j hl _=>?_,⟨0,s'.H,s'.T,0,L0,λm i TM=>?_,agP _,by rw[Vq];rfl,hc.mO.drew rfl,by rw[kL];exact hc.nb,by rw[kL];exact hc.tb,λt=>?_,?_⟩,by rw[kL];exact hc.size,hc.defers⟩ ?_ (.inr ?_)
 rotate_left
 ·exfalso
  by_cases hi:i<ops.length<;>simp[hi] at hl
 ·constructor
  ·intro hl;exfalso
   by_cases hi:i<ops.length<;>simp[hi] at hl
  ·intro h;omega
 ·refine⟨bH s'.e t,.inr ⟨λj x hx hd=>?_,rfl⟩,?_⟩
  ·by_cases hj:j<ops.length<;>simp[hj]
  ·have kd:cX L0 s'.H.length s'.T w0 L0 s'.H.length s'.T { w0 with drawn:=w0.drawn+1 }:=(Ev.drew (H:=s'.H) (T:=s'.T) (L:=L0) (w:=w0) (w':={ w0 with drawn:=w0.drawn+1 }) rfl rfl rfl rfl (ahy _)).keeps;exact(hc.env t).keep kd
 ·rw[kL];exact(Ev.drew (H:=s'.H) (T:=s'.T) (L:=L0) (w:=w0) (w':={ w0 with drawn:=w0.drawn+1 }) rfl rfl rfl rfl (ahy _)).mono hc.nb hc.tb
 ·simp[hn]
 ·refine agJ (List.countP_le_length) ?_;simp
 intro fuel ay a w hI hJ i hi tK A7;obtain⟨QU,o',vD,rM⟩:=mem_ready.1 hi;rw[agY] at vD;have eH:i<ops.length:=(agC.1 vD).1;have tL:i=n:=by omega
 subst tL;have hoo:o'=al:=by rw[vD] at TH;exact Option.some.inj TH
 subst hoo;have gC:∀i j,ay.getD i false=true->nq (fu ops []) j i=true->ay.getD j false=true:=by
  have:=hI.closed;rw[Ii] at this;exact this
 have kF:∀j,nq (fu ops []) j i=true->ay.getD j false=true:=λj hj=>iX gC vD rM (d6 i o' vD) hj;obtain⟨k,H,T,e,L,hk,gO,qO,cR,gw,fQ,gE,dB⟩:=hI.st;rw[oV] at hk gO;rw[kL] at gw fQ dB;have hH:H=s'.H:=C0 _ (ahW qO);subst hH;have sE:Region.wanted o' (yielded ops.toArray a.tmps)=true:=by
  unfold Region.wanted;rw[ud]
 have pn:i<ay.size:=by rw[hI.size,sF];exact eH
 unfold wpOp;rw[agY,vD]
 dsimp only
 rw[agN sE];refine .inl ?_;refine tz (uW [] T) cR (λt=>.top _) λcv w' L' u6 lS oi=>?_;refine ph2 fuel _ _ _ ⟨by simp[hI.size],λi' j' jJ kG=>?_,⟨k,s'.H++[z],T,e,L',λm i' yo=>?_,by rw[oV];exact gO,by rw[C1,qO];rfl,u6,by rw[kL];exact agJ gw oi.n,by rw[kL];exact agJ fQ oi.t,λt=>?_,by rw[kL];exact dB.trans (oi.mono gw fQ)⟩,?_,?_⟩ (by simp[pn]) A7
 ·rw[Ii] at kG
  by_cases AR:i=i'
  ·subst AR;exact getD_set_true (kF j' kG)
  ·rw[getD_set_ne false AR] at jJ;exact getD_set_true (gC i' j' jJ kG)
 ·rw[oV] at yo;have:=Uh m i' yo;rw[getD_set_ne false (by omega)];exact hk m i' yo
 ·have aZ:d<a.tmps.size:=by rw[hI.tmps,kL];exact hdn
  by_cases hd:d=t
  ·subst hd;refine⟨.ptr s'.H.length 0,.inl ⟨i,x9,hPn,by rw[Qo];exact lL,by simp[pn],by rw[Qo]⟩,?_⟩;rw[lL,jv a d d cv aZ,agN rfl];exact lS
  ·obtain⟨v',hv,hr⟩:=gE t;refine⟨v',?_,?_⟩
   ·rcases hv with⟨j,y,hy,y8,hl,rfl⟩|⟨oh,rfl⟩
    ·exact .inl ⟨j,y,hy,y8,getD_set_true hl,rfl⟩
    ·refine .inr ⟨λj y hy y8=>?_,rfl⟩;have jz:i≠j:=by
      rintro rfl;rw[hPn] at hy
      cases hy
      rw[Qo] at y8;rw[lL] at y8;exact hd (Option.some.inj y8)
     rw[getD_set_ne false jz];exact oh j y hy y8
   ·rw[lL,jv a d t cv aZ,agL hd];exact hr.keep oi.keeps
 ·rw[lL,kL];simp[Act.put,hI.tmps,kL]
 ·rw[lL];exact hI.defers
def Wq {C:Cx}{x y:Code}{Q:Exit->St->Prop}{s:St}(st:St)(h1:AW C y Q st)(h2:AW C y Q st->∀K:St->Prop,(∀s,AW C y Q s->K s)->AW C x (dF K Q) s):AW C (.seq x y) Q s:=w8 (h2 h1)
def Mf {C:Cx}{id:Nat}{ops:List Oper}{Q:Exit->St->Prop}{s:St}(K:St->Prop)(n:Nat)(bI lo:List Nat)(na:List (List Nat))(hm:C.P.follows .mixedOrders=true)(vC:wU ops (n+1)=true)(kD:(iV (ops.take (n+1)) bI lo na&&!bI.contains n)=true)(qb:jH bI=true)
  (h:sG ⟨C,(ops.take (n+1)).toArray,bI,lo,na,ie C ops.toArray K (ops.drop (n+1))⟩ (Ni C (ops.take (n+1)) lo (ie C ops.toArray K (ops.drop (n+1))) n s.H) n (ops.take (n+1)) [] [(s.H,s.T,0)] (prune C.nv s.e)):AW C (.region id ops.toArray true) (dF K Q) s:=by
 simp only[agO,ai7] at kD;intro L0 w0 a0 mw;obtain⟨c1,_⟩:=pT vC;refine wp_region_any hm ?_;have hg:=Hy (Q:=Q) (ie C ops.toArray K (ops.drop (n+1))) n bI lo na (by rw[ag5];omega) kD.1 qb kD.2 h L0 w0 a0 mw;have hlen:(ops.take (n+1)).toArray.size=n+1:=by simp;omega
 rw[hlen] at hg;have:=O5 (P:=C.P) (ops:=ops) (n:=n+1) (Q2:=cO C (dF K Q) L0 s w0) vC ?_ ?_ (n+1) (Array.replicate (n+1) false) (Array.replicate ops.length false) a0 _ (by simp) (by simp) ?_ ?_ ?_ hg
 ·rw[show ops.toArray.size=n+1+(ops.length-(n+1)) by simp;omega];rw[show ops.length=n+1+(ops.length-(n+1)) by omega] at this;simpa using this
 ·rintro e a w dN ⟨s',L',q,r⟩;refine⟨s',L',?_,r⟩
  cases e<;>first|exact absurd rfl dN|exact q
 ·rintro a w ⟨s',L',q,hc,dB⟩;refine Ho ?_ _ _ _ (yg (ops.drop (n+1)) s' q L' w a L0 s w0 hc dB);rintro e a w ⟨s',L',q,r⟩;refine⟨s',L',?_,r⟩
  cases e<;>first|exact q|exact q.elim
 ·intro j hj;have:j<ops.length:=by omega
  simp[hj,this]
 ·intro j hj
  by_cases h1:j<ops.length<;>simp[h1]
 ·intro i j hi;exfalso
  by_cases h1:i<ops.length<;>simp[h1] at hi
section
variable {D : vX} {KR : List bX -> List mP -> Env -> Prop} {o : Oper} {r : List Oper} {aR : List bX} {sts : List mP} {e : Env}
@[simp] theorem WD {l:List Oper}:sG D KR 0 l aR sts e=KR aR sts e:=by cases l<;>rfl
@[simp] theorem WE {n:Nat}:sG D KR (n+1) (o::r) aR sts e=(match sts.getLast? with
  |some (H,T,_)=>match o.guard with
   |none=>kH D (sG D KR n r) o aR sts e H T
   |some _=>False
  |none=>False):=rfl
end
attribute [simp] Ib Yc CU Ni
def gJ (C:Cx)(o:Oper)(e:Env)(H:List aA)(T:au)(κ:AV->List aA->au->Prop):Prop:=
 match kJ C.P C.bx o e H with
 |some (m,ys,z)=>∀nc:Nat,m<=nc->κ (.bJ H.length m nc) (H++[.cells (ys++List.replicate ((nc-m)*z) .top)]) T
 |none=>match ss o e with
  |some (t,t2,i,n,cap,x)=>∃(el:TypeId) (vs xs:List AV) (m:Nat),C.P.underlying t=some (.slice el)/\H[i]?=some (.cells vs)/\vs.length=cap*C.P.cellsOf el/\gN H (C.P.cellsOf el) x=some (m,xs)/\(n+m)*C.P.bytesOf el<=140737488355328/\n+m<=9223372036854775807/\
    jN C.P t2=true/\(bc C.P el).isSome=true/\
    (n+m<=cap->κ (.bJ i (n+m) cap) (H.set i (.cells (vs.take (n*C.P.cellsOf el)++xs++vs.drop ((n+m)*C.P.cellsOf el)))) T)/\
    ∀nc,cap<n+m->n+m<=nc->κ (.bJ H.length (n+m) nc) (H++[.cells (vs.take (n*C.P.cellsOf el)++xs++List.replicate ((nc-(n+m))*C.P.cellsOf el) .top)]) T
  |none=>False
def yh {o:Oper}{e e':Env}(h:∀x∈o.op.operands,bR e x=bR e' x):ss o e=ss o e':=by
 unfold ss
 cases ho:o.op<;>try rfl
 rename_i c;rw[ho] at h;obtain⟨callee,args,Cn⟩:=c
 cases callee<;>try rfl
 rename_i bi
 cases bi<;>try rfl
 have h2:args.toList.map (bR e)=args.toList.map (bR e'):=ahh λx hx=>h x (by simp only[Op.operands,Call.operands];exact aiz.2 (.inr (ah7.1 hx)));simp only[h2]
def vy {P:Program}{bx:List Nat}{o:Oper}{e e':Env}{H:List aA}(h:∀x∈o.op.operands,bR e x=bR e' x):kJ P bx o e H=kJ P bx o e' H:=by
 obtain⟨dst,op,type,pos,after,guard⟩:=o;unfold kJ;simp only at h ⊢
 cases op<;>try rfl
 rename_i c;obtain⟨callee,args,Cn⟩:=c
 cases callee<;>try rfl
 rename_i bi
 cases bi<;>try rfl
 cases dst<;>try rfl
 have h2:args.toList.map (bR e)=args.toList.map (bR e'):=ahh λx hx=>h x (by simp only[Op.operands,Call.operands];exact aiz.2 (.inr (ah7.1 hx)));simp only[h2]
def vm {C:Cx}{o:Oper}{e e':Env}{H:List aA}{T:au}{κ:AV->List aA->au->Prop}(h:∀x∈o.op.operands,bR e x=bR e' x)(k:gJ C o e H T κ):gJ C o e' H T κ:=by
 unfold gJ at k ⊢;rw[<-vy h,<-yh h];exact k
theorem xw {C:Cx}{o:Oper}{e:Env}{H:List aA}{T:au}{κ:AV->List aA->au->Prop}(k:gJ C o e H T κ){L:Lay}{w:World}{a:Act}(hc:cg L H T w)(he:fm L H.length T w e a){K:Act->World->Prop}{Q:Exit->Act->World->Prop}
  (hk:∀v H' T' cv w' L',κ v H' T'->cg L' H' T' w'->ba L' H'.length T' w' v cv->Ev H.length T.length L H.length T w L' H'.length T' w'->K (a.put o.dst cv) w'):o.wp C.P a w K Q:=by
 unfold gJ at k
 split at k
 ·rename_i m ys z AT;obtain⟨nc,ll,cv,w',L',cY,cR,dG,dB⟩:=zY AT hc he;unfold Oper.wp;rw[cY];exact hk _ _ _ _ _ _ (k nc ll) cR dG dB
 ·split at k
  ·rename_i t t2 i n cap x Js;obtain⟨el,vs,xs,m,hu,hH,Mv,mT,qK,tP,tK,qI,FU,fX⟩:=k;unfold ss at Js
   split at Js
   ·rename_i args Cn lE
    split at Js
    ·rename_i t' t2' i' n' kV x' Ct fe
     cases Js
     have rB:Cn=#[t,t2]:=by rw[<-Array.toList_inj];exact Ct
     subst rB;have jy:args.toList.length=2:=by have:=congrArg List.length fe;simpa using this
     match uW:args.toList,jy,fe with
     |[p,q],_,fe=>
      simp only[ahi,aiB,List.cons.injEq,ajm] at fe;obtain⟨e1,e2⟩:=fe;have h0:=he.bR p;have h1:=he.bR q;rw[e1] at h0;rw[e2] at h1;have ot:args=#[p,q]:=by rw[<-Array.toList_inj];exact uW
      subst ot;have hex:∀cv w',(Builtin.append_ #[t,t2] o.type #[a.eval p,a.eval q]).run C.P w=.ok cv w'->(execOp a.eval o).run C.P w=.ok (.value cv) w':=λcv w' hr=>by
       simp only[execOp,lE,resolve,Sem.run_bind,Sem.run_pure,Result.andThen_ok,invoke,builtin,List.map_toArray,ahi,aiB,hr]
      rcases Dx (ty:=o.type) hc h0 h1 hu hH Mv mT qK tP tK qI with⟨hle,cv,w',L',cY,cR,dG,dB⟩|⟨aZ,nc,ll,cv,w',L',cY,cR,dG,dB⟩
      ·unfold Oper.wp;rw[hex _ _ cY];exact hk _ _ _ _ _ _ (FU hle) cR dG dB
      ·unfold Oper.wp;rw[hex _ _ cY];exact hk _ _ _ _ _ _ (fX nc aZ ll) cR dG dB
    ·cases Js
   ·cases Js
  ·exact k.elim
def iC (D:vX):Nat->List Oper->List bX->List mP->Env->Prop
 |_,[],_,_,_=>False
 |0,o::r,aR,sts,e=>match sts.getLast? with
  |some (H,T,_)=>match o.guard with
   |none=>gJ D.C o e H T (λv H' T'=>AU D (gK D r) o aR sts e true v H' T')
   |some _=>False
  |none=>False
 |n+1,o::r,aR,sts,e=>match sts.getLast? with
  |some (H,T,_)=>match o.guard with
   |none=>kH D (iC D n r) o aR sts e H T
   |some (j,want)=>match o6 D.all j e with
    |some b=>if b=some want then kH D (iC D n r) o aR sts e H T else AU D (iC D n r) o aR sts e false (.df []) H T
    |none=>False
  |none=>False
theorem Fe {nx:Nat}{D:vX}{ops:List Oper}{e0:Env}(kD:jH D.bI=true)(lF:D.bI.contains nx=true):∀(n:Nat)(l:List Oper)(aR:List bX)(sts:List mP)(e:Env),ik nx D ops e0 aR sts e->ops.drop aR.length=l->aR.length<=ops.length->aR.length+n=nx->iC D n l aR sts e->
  ∃bU ew H T i o r,ik nx D ops e0 bU ew (aW e0 bU)/\bU.length=nx/\ew.getLast?=some (H,T,i)/\ew[0]?=sts[0]?/\ops.drop nx=o::r/\o.guard=none/\gJ D.C o (aW e0 bU) H T (λv H' T'=>AU D (gK D r) o bU ew (aW e0 bU) true v H' T'):=by
 intro n
 induction n with
 |zero=>
  intro l aR sts e hw hl hle hn h
  cases l with
  |nil=>exact h.elim
  |cons o r=>
   unfold iC at h
   split at h
   ·rename_i H T i dw
    split at h
    ·rename_i hg;have hc:=hw.cur;subst hc;exact⟨aR,sts,H,T,i,o,r,hw,by omega,dw,rfl,by rw[<-hl];congr 1;omega,hg,h⟩
    ·exact h.elim
   ·exact h.elim
 |succ n ih=>
  intro l aR sts e hw hl hle hn h
  cases l with
  |nil=>exact h.elim
  |cons o r=>
  have aZ:aR.length<ops.length:=by
   have:=congrArg List.length hl;simp at this;omega
  have nB:ops[aR.length]?=some o:=by
   have:=congrArg (λl=>l[0]?) hl;simpa using this
  have qY:ops.drop (aR.length+1)=r:=by
   have:=congrArg (λl=>l.drop 1) hl;simpa[aiY,add_comm] using this
  have fin:∀{H T i0 run v H' T'},sts.getLast?=some (H,T,i0)->(match o.guard with|none=>run=true|some (j,want)=>∃b,o6 D.all j e=some b/\run=(b==some want))->(run=false->v=.df []/\H'=H/\T'=T)->(run=true->aR.length≠nx->dL D.C.P o e H T v H' T')->
    (D.bI.contains aR.length=false->H'=H/\T'=T)->AU D (iC D n r) o aR sts e run v H' T'->∃bU ew H T i o r,ik nx D ops e0 bU ew (aW e0 bU)/\bU.length=nx/\ew.getLast?=some (H,T,i)/\ew[0]?=sts[0]?/\ops.drop nx=o::r/\o.guard=none/\gJ D.C o (aW e0 bU) H T (λv H' T'=>AU D (gK D r) o bU ew (aW e0 bU) true v H' T'):=by
   intro H T i0 run v H' T' dw hg h1 h2 h3 h4;obtain⟨bU,ew,e',g1,g2,g3,g4,_⟩:=qy kD (.inl lF) hw nB dw hg h1 h2 h3 h4;obtain⟨r2,s2,H2,T2,i2,o2,q2,k1,k2,k3,k4,k5⟩:=ih r bU ew e' g1 (by rw[g2];exact qY) (by omega) (by omega) g3;exact⟨r2,s2,H2,T2,i2,o2,q2,k1,k2,k3,k4.trans g4,k5⟩
  have exec:∀{H T i0},sts.getLast?=some (H,T,i0)->(match o.guard with|none=>true=true|some (j,want)=>∃b,o6 D.all j e=some b/\true=(b==some want))->kH D (iC D n r) o aR sts e H T->
    ∃bU ew H T i o r,ik nx D ops e0 bU ew (aW e0 bU)/\bU.length=nx/\ew.getLast?=some (H,T,i)/\ew[0]?=sts[0]?/\ops.drop nx=o::r/\o.guard=none/\gJ D.C o (aW e0 bU) H T (λv H' T'=>AU D (gK D r) o bU ew (aW e0 bU) true v H' T'):=by
   intro H T i0 dw hg hx;unfold kH at hx
   split at hx
   ·rename_i g as jm;obtain⟨v,H',T',hc,hs,hd⟩:=hx;refine fin (run:=true) dw hg (λe=>by cases e) (λ_ _=>?_) hs hd;unfold dL;rw[jm];exact hc
   ·rename_i jm
    split at hx
    ·rename_i v H' T' lE;refine fin (run:=true) dw hg (λe=>by cases e) (λ_ _=>?_) hx.1 hx.2;unfold dL;rw[jm];exact lE
    ·exact hx.elim
  unfold iC at h
  split at h
  ·rename_i H T i0 dw
   split at h
   ·rename_i hg;exact exec dw (by rw[hg]) h
   ·rename_i j want hg
    split at h
    ·rename_i b hb
     split at h
     ·rename_i yE;exact exec dw (by rw[hg];exact⟨b,hb,by simp[yE]⟩) h
     ·rename_i yE;exact fin (run:=false) dw (by rw[hg];exact⟨b,hb,by simp[yE]⟩) (λ_=>⟨rfl,rfl,rfl⟩) (λe=>by cases e) (λ_=>⟨rfl,rfl⟩) h
    ·exact h.elim
  ·exact h.elim
def mCk (ops:List Oper)(bI:List Nat)(nx:Nat):Bool:=
 (bI[0]?==some nx)&&(List.range ops.length).all λi=>decide (i<=nx)||nq (fu ops []) nx i
theorem HB {C:Cx}{ops:List Oper}{Q:Exit->St->Prop}{s:St}(K:St->Prop)(nx:Nat)(bI lo:List Nat)(na:List (List Nat))(kD:iV ops bI lo na=true)(qb:jH bI=true)(hm:mCk ops bI nx=true)
  (h:iC ⟨C,ops.toArray,bI,lo,na,K⟩ nx ops [] [(s.H,s.T,0)] (prune C.nv s.e)):∀L0 w0 a0,eK C s L0 w0 a0->
   wpAny C.P .any ops.toArray (cO C (dF K Q) L0 s w0) ops.toArray.size (Array.replicate ops.toArray.size false) a0 { w0 with drawn:=w0.drawn+1 }:=by
 intro L0 w0 a0 mw;have hc:eK C ⟨prune C.nv s.e,s.H,s.T⟩ L0 w0 a0:=⟨mw.nb,mw.tb,mw.mO,mw.size,mw.defers,λt=>by
  rcases mq C.nv s.e t with e|e<;>rw[e]
  ·exact mw.env t
  ·exact .top _⟩
 generalize uS:(⟨prune C.nv s.e,s.H,s.T⟩:St)=s' at hc;have Ce:prune C.nv s.e=s'.e:=by rw[<-uS]
 have AO:s.H=s'.H:=by rw[<-uS]
 have FT:s.T=s'.T:=by rw[<-uS]
 rw[Ce,AO,FT] at h;rw[show cO C (dF K Q) L0 s w0=cO C (dF K Q) L0 s' w0 by unfold cO;rw[AO,FT]];clear uS Ce AO FT mw;generalize hD:(⟨C,ops.toArray,bI,lo,na,K⟩:vX)=D at h;have kL:D.C=C:=by rw[<-hD]
 have oV:D.bI=bI:=by rw[<-hD]
 have zl:D.lo=lo:=by rw[<-hD]
 have Q7:D.na=na:=by rw[<-hD]
 have Q8:D.all=ops.toArray:=by rw[<-hD]
 have hDK:D.K=K:=by rw[<-hD]
 unfold mCk at hm;simp only[agO,aiu,aha,ag3,ahx,agQ] at hm;obtain⟨QV,hmA⟩:=hm;have aec:bI.contains nx=true:=by rw[aik];exact ahW QV
 have JD:D.bI.contains nx=true:=by rw[oV];exact aec
 have YJ:(bI.filter (·<nx)).length=0:=by
  have:=aha.1 qb 0 (ag3.2 (agC.1 QV).1);simp only[agO,aiu,agB,QV,aie] at this;exact this.1
 have af3:∀m i,bI[m]?=some i->nx<=i:=λm i TM=>by
  rcases agM i nx with h1|h1
  ·have:i∈bI.filter (·<nx):=ag0.2 ⟨ahW TM,by simpa using h1⟩;rw[aho.1 YJ] at this;simp at this
  ·exact h1
 obtain⟨uZ,CC,H1,T1,i1,o,r,yu,uT,Ob,Zj,qY,ud,hmx⟩:=Fe (D:=D) (ops:=ops) (e0:=s'.e) (by rw[oV];exact qb) JD nx ops [] [(s'.H,s'.T,0)] s'.e
  ⟨⟨by simp,λi x hx=>by simp at hx⟩,λi x hx=>by simp at hx,λi x hx=>by simp at hx,rfl⟩ (by simp) (by simp) (by simp) h
 obtain⟨d1,d2,d3,d4,d5,d6,d7⟩:=kj kD;have Vu:nx<ops.length:=(d3 0 nx QV).1;have TH:ops[nx]?=some o:=by
  have:=congrArg (λl=>l[0]?) qY;simpa using this
 have ad3:CC.length=1:=by
  have:=yu.st.len;rw[oV,uT,YJ] at this;exact this
 have Zi:CC=[(s'.H,s'.T,0)]:=by
  match CC,ad3,Zj with
  |[x],_,h0=>simpa using h0
 subst Zi;simp only[List.getLast?_singleton,Option.some.injEq,Prod.mk.injEq] at Ob;obtain⟨rfl,rfl,rfl⟩:=Ob;obtain⟨fi,hP⟩:∃l,l=uZ++(ops.drop nx).map λo=>(⟨o,[],false,.top,0,false⟩:bX):=⟨_,rfl⟩
 have sF:fi.length=ops.length:=by rw[hP];simp[uT];omega
 have vQ:∀i,i<nx->fi[i]?=uZ[i]?:=λi hi=>by rw[hP,agK (by omega)]
 have MV:∀(i:Nat)(x:bX),fi[i]?=some x->ops[i]?=some x.o:=λi x hx=>by
  rcases agM i nx with hi|hi
  ·rw[vQ i hi] at hx;exact(yu.Ji i x hx).o
  ·rw[hP,agX (by omega),uT,ahJ,aii,show nx+(i-nx)=i by omega] at hx
   cases ho:ops[i]? with
   |none=>rw[ho] at hx;cases hx
   |some z=>rw[ho] at hx;cases hx;rfl
 have Gv:fi.take nx=uZ:=by rw[hP,ahL (by omega),<-uT,agZ]
 have Ii:fi.map (·.o)=ops:=by
  apply aiw;intro i;rw[ahJ]
  by_cases hi:i<fi.length
  ·rw[agD hi,aip,MV i _ (agD hi)]
  ·rw[ah2 (by omega),ah2 (by omega)];rfl
 have gu:ops.toArray.size=ops.length:=by simp
 rw[gu];refine nY (sts:=[(s'.H,s'.T,0)]) kD qb kL oV zl Q7 Q8 sF MV (λi=>i<nx) (nx:=nx) (λi hi=>by omega) (λi x hx hi=>by have hr:=yu.Ji i x (by rw[<-vQ i hi];exact hx);exact⟨hr.o,hr.k,hr.bI,hr.gate,hr.dst,hr.skip,hr.still,hr.effect⟩) (λi x hx hi=>?_) (λi x hx hi=>yu.st.k i x (by rw[<-vQ i hi];exact hx)) (λl=>l.getD nx false=false)
  (λl i hi hl=>by rw[getD_set_ne false (by omega)];exact hl) (λay a w hI hJ fh=>by rw[fh nx Vu] at hJ;cases hJ) ?_ ops.length _ a0 _ ⟨by simp[sF],λi j hl _=>?_,⟨0,s'.H,s'.T,0,L0,λm i TM=>?_,agP _,rfl,hc.mO.drew rfl,by rw[kL];exact hc.nb,by rw[kL];exact hc.tb,λt=>?_,?_⟩,by rw[kL];exact hc.size,hc.defers⟩ ?_ (.inr ?_)
 ·rw[yu.JM i x (by rw[<-vQ i hi];exact hx)]
  congr 1
  rw[hP,ahL (by omega)]
 rotate_left
 ·exfalso
  by_cases hi:i<ops.length<;>simp[hi] at hl
 ·constructor
  ·intro hl;exfalso
   by_cases hi:i<ops.length<;>simp[hi] at hl
  ·intro h;omega
 ·refine⟨bH s'.e t,.inr ⟨λj x hx hd=>?_,rfl⟩,?_⟩
  ·by_cases hj:j<ops.length<;>simp[hj]
  ·have kd:cX L0 s'.H.length s'.T w0 L0 s'.H.length s'.T { w0 with drawn:=w0.drawn+1 }:=(Ev.drew (H:=s'.H) (T:=s'.T) (L:=L0) (w:=w0) (w':={ w0 with drawn:=w0.drawn+1 }) rfl rfl rfl rfl (ahy _)).keeps;exact(hc.env t).keep kd
 ·rw[kL];exact(Ev.drew (H:=s'.H) (T:=s'.T) (L:=L0) (w:=w0) (w':={ w0 with drawn:=w0.drawn+1 }) rfl rfl rfl rfl (ahy _)).mono hc.nb hc.tb
 ·simp[Vu]
 ·refine agJ (List.countP_le_length) ?_;simp
 intro fuel ay a w hI hJ i hi hnr A7;obtain⟨QU,o',vD,rM⟩:=mem_ready.1 hi;rw[agY] at vD;have eH:i<ops.length:=(agC.1 vD).1;have gC:∀i j,ay.getD i false=true->nq (fu ops []) j i=true->ay.getD j false=true:=by
  have:=hI.closed;rw[Ii] at this;exact this
 have kF:∀j,nq (fu ops []) j i=true->ay.getD j false=true:=λj hj=>iX gC vD rM (d6 i o' vD) hj;have aer:i=nx:=by
  rcases hmA i eH with h1|h1
  ·omega
  ·have:=kF nx h1;rw[hJ] at this;cases this
 subst aer;have hoo:o'=o:=by rw[vD] at TH;exact Option.some.inj TH
 subst hoo;have Oa:∀j,i<j->j<ops.length->ay.getD j false=false:=λj hj qJ=>by
  rcases hmA j qJ with h1|h1
  ·omega
  ·cases hlj:ay.getD j false with
   |false=>rfl
   |true=>have:=gC j i hlj h1;rw[hJ] at this;cases this
 obtain⟨k,H,T,e,L,hk,gO,qO,cR,gw,fQ,gE,dB⟩:=hI.st;rw[oV] at hk gO;rw[kL] at gw fQ dB;have MS:k=0:=by
  have:=(hk 0 i QV)
  rw[hJ] at this;have h2:¬0<k:=λhh=>by have:=this.2 hh;cases this
  omega
 subst MS;simp at qO;obtain⟨rfl,rfl,rfl⟩:=qO;have eB:∀t∈o'.looksAt ops.toArray,∀v,VS fi ay s'.e t v->v=bH (aW s'.e uZ) t:=by
  intro t ht v hv;rw[<-Gv];have Qp:∀(j:Nat)(z:bX),fi[j]?=some z->z.o.dst=some t->i≠j/\((j<i/\nq (fu ops []) j i=true)\/(i<j/\nq (fu ops []) i j=true)):=λj z hz hd=>d2 i j o' z.o t vD (MV j z hz) ht hd;rcases hv with⟨j,z,hz,hd,hl,rfl⟩|⟨oh,rfl⟩
  ·obtain⟨dN,h1|h1⟩:=Qp j z hz hd
   ·rw[eT (fi.take i) s'.e t j z (by rw[ahu,agN h1.1];exact hz) hd (λi' y' Jo XT=>by
     rw[ahu] at Jo
     split at Jo
     ·exact d1 i' j y'.o z.o t (MV i' y' Jo) (MV j z hz) XT hd
     ·cases Jo)]
   ·have:=gC j i hl h1.2;rw[hJ] at this;cases this
  ·rw[cI (fi.take i) s'.e t (λz hz hd=>by
    obtain⟨j,hj,e1⟩:=agW.1 hz;simp at hj;have Jn:fi[j]?=some z:=by rw[agD (by omega),<-e1];simp
    have hf:=oh j z Jn hd;obtain⟨dN,h1|h1⟩:=Qp j z Jn hd
    ·have:=kF j h1.2;rw[hf] at this;cases this
    ·omega)]
 have tR:fm L s'.H.length s'.T w (oo (aW s'.e uZ) (o'.looksAt ops.toArray)) a:=by
  intro t;rw[hZ]
  split
  ·rename_i ht;obtain⟨v,hv,hr⟩:=gE t;rw[<-eB t ht v hv];exact hr
  ·exact .top _
 have Gh:∀z∈o'.op.operands,bR (aW s'.e uZ) z=bR (oo (aW s'.e uZ) (o'.looksAt ops.toArray)) z:=by
  intro z hz
  cases z with
  |tmp t=>
   have:t∈o'.looksAt ops.toArray:=by
    unfold Oper.looksAt;exact agR.2 (.inl (List.mem_filterMap.2 ⟨_,ah7.2 hz,rfl⟩))
   simp only[bR,hZ,agN this]
  |_=>rfl
 have sE:Region.wanted o' (yielded ops.toArray a.tmps)=true:=by
  unfold Region.wanted;rw[ud]
 have pn:i<ay.size:=by rw[hI.size];omega
 unfold wpOp;rw[agY,vD]
 dsimp only
 rw[agN sE];refine .inl ?_;rw[kL] at hmx;refine xw (vm Gh hmx) cR tR λv H' T' cv w' L' Mx u6 lS oi=>?_;obtain⟨bU,ew,e',g1,g2,g3,g4,_,⟨x9,g9,gx⟩,_,g8⟩:=qy (nx:=i) (ops:=ops) (e0:=s'.e) (H:=s'.H) (T:=s'.T) (i0:=0) (by rw[oV];exact qb) (.inl JD) yu (by rw[uT];exact vD) rfl (by rw[ud]) (λhh=>by cases hh) (λ_ dN=>absurd uT dN) (λhh=>by rw[uT,JD] at hh;cases hh) Mx;have Qo:=gx (by rw[uT];exact JD);have hs9:=g8 (by rw[uT];exact JD);obtain⟨uY,Vd,HL,TL,iL,k1,k2,k3,k4,k5,⟨q6,k6⟩,⟨q7,k7⟩⟩:=vx (nx:=i) (D:=D) (ops:=ops) (e0:=s'.e) (by rw[oV];exact qb) (.inl JD) r bU ew e' g1 (by
  rw[g2,uT];have:=congrArg (λl=>l.drop 1) qY;simpa[aiY,add_comm] using this) (by rw[g2,uT];omega) g3
 have Uc:∀j,j<i->uY[j]?=uZ[j]?:=λj hj=>by rw[k6,g9,agV,agK (by omega)]
 have Nz:uY[i]?=some x9:=by rw[k6,g9,agV,agX (by omega),uT,ah1];rfl
 have M8:∀(j:Nat)(x:bX),uY[j]?=some x->ops[j]?=some x.o:=λj x hx=>(k1.Ji j x hx).o;have Zt:uY.map (·.o)=ops:=by
  apply aiw;intro j;rw[ahJ]
  by_cases hj:j<uY.length
  ·rw[agD hj,aip,M8 j _ (agD hj)]
  ·rw[ah2 (by omega),ah2 (by omega)];rfl
 have ad2:Vd[1]?=some (H',T',i):=by
  rw[k7,hs9,uT];rfl
 have M7:Vd.length=1+bI.length:=by
  have h1:=k1.st.len;rw[oV] at h1;rw[h1]
  congr 2
  apply aid.2;intro e he;obtain⟨m,hm,e1⟩:=agW.1 he;have:=(d3 m e (by rw[agD hm,e1])).1;simp;omega
 refine nY kD qb kL oV zl Q7 Q8 k2 M8 (λj=>j≠i) (nx:=i) (λj hj=>hj) (λj x hx _=>k1.Ji j x hx) (λj x hx _=>k1.JM j x hx) (λj x hx _=>k1.st.k j x hx) (λl=>l.getD i false=true)
  (λl j _ hl=>getD_set_true hl) (λay a w X4 _ fh=>?_) (λfuel ay a w X4 iQ j hj dN _=>?_) fuel _ _ _ ⟨by simp[hI.size,sF,k2],λi' j' jJ kG=>?_,⟨1,H',T',i,L',λm i' yo=>?_,?_,ad2,u6,by rw[kL];exact agJ gw oi.n,by rw[kL];exact agJ fQ oi.t,λt=>?_,by rw[kL];exact dB.trans (oi.mono gw fQ)⟩,?_,?_⟩ ?_ A7
 ·
  obtain⟨k,H,T,e,L,hk,gO,qO,cR,gw,fQ,gE,dB⟩:=X4.st;have qa:k=bI.length:=by
   rw[oV] at hk gO;rcases agM k bI.length with aZ|od
   ·have:=(hk k _ (agD aZ)).1 (fh _ (d3 k _ (agD aZ)).1);omega
   ·omega
  have CI:Vd[k]?=some (HL,TL,iL):=by rw[<-k3,ajj,M7,qa];congr 1;omega
  rw[qO] at CI;obtain⟨rfl,rfl,rfl⟩:H=HL/\T=TL/\e=iL:=by injection CI with h1;injection h1 with h1 h2;injection h2 with h2 h3;exact⟨h1,h2,h3⟩
  rw[hDK] at k4;rw[kL] at dB gw fQ;refine⟨_,L,k4,⟨gw,fQ,cR,by rw[X4.tmps,kL],X4.defers,λt=>?_⟩,dB⟩;obtain⟨v,hv,hr⟩:=gE t;show ba L H.length T w (bH (aW s'.e uY) t) _;rcases hv with⟨j,x,hx,hd,hl,rfl⟩|⟨oh,rfl⟩
  ·rw[eT uY s'.e t j x hx hd (λi y hy y8=>d1 i j y.o x.o t (M8 i y hy) (M8 j x hx) y8 hd)];exact hr
  ·rw[cI uY s'.e t (λx hx hd=>by
    obtain⟨j,hj,e1⟩:=agW.1 hx;have h1:=oh j x (by rw[agD hj,e1]) hd;have h2:=fh j (by omega);rw[h1] at h2;cases h2)]
   exact hr
 ·have:j=i:=Classical.byContradiction dN;subst this;obtain⟨h1,z,hz,_⟩:=mem_ready.1 hj;rw[cQ (by rw[X4.size,k2];exact Vu),iQ] at h1
  cases h1
 ·rw[Zt] at kG
  by_cases AR:i=i'
  ·subst AR;have:=kF j' kG
   by_cases jz:i=j'
   ·subst jz;rw[hJ] at this;cases this
   ·rw[getD_set_ne false jz];exact this
  ·rw[getD_set_ne false AR] at jJ;have:=gC i' j' jJ kG;exact getD_set_true this
 ·rw[oV] at yo;have yK:=(agC.1 yo).1
  by_cases aei:m=0
  ·subst aei;rw[QV] at yo
   cases yo
   simp[pn]
  ·have dN:i≠i':=by
    rintro rfl;have h1:=aha.1 qb m (ag3.2 yK);simp only[agO,aiu,agB,yo,aie] at h1;omega
   rw[getD_set_ne false dN,hk m i' yo];omega
 ·rw[oV];have:=(agC.1 QV).1;omega
 ·by_cases hd:o'.dst=some t
  ·refine⟨x9.v,.inl ⟨i,x9,Nz,by rw[Qo];exact hd,by simp[pn],rfl⟩,?_⟩;have mN:=(k1.Ji i x9 Nz).dst t (by rw[Qo];exact hd);have aZ:t<a.tmps.size:=by rw[hI.tmps];exact mN
   rw[hd,jv a t t cv aZ,agN rfl,Qo];exact lS
  ·obtain⟨v',hv,hr⟩:=gE t;refine⟨v',?_,?_⟩
   ·rcases hv with⟨j,z,hz,AN,hl,rfl⟩|⟨oh,rfl⟩
    ·have qJ:j<ops.length:=by have:=(agC.1 hz).1;omega
     have rp:j<i:=by
      rcases ah6 j i with h1|h1|h1
      ·exact h1
      ·subst h1;rw[hJ] at hl;cases hl
      ·rw[Oa j h1 qJ] at hl;cases hl
     exact .inl ⟨j,z,by rw[Uc j rp,<-vQ j rp];exact hz,AN,getD_set_true hl,rfl⟩
    ·refine .inr ⟨λj z hz AN=>?_,rfl⟩;have qJ:j<ops.length:=by have:=(agC.1 hz).1;omega
     have jz:i≠j:=by
      rintro rfl;have:=M8 i z hz;rw[vD] at this;have:=Option.some.inj this;rw[<-this] at AN;exact hd AN
     rw[getD_set_ne false jz];rcases agM j i with h1|h1
     ·exact oh j z (by rw[vQ j h1,<-Uc j h1];exact hz) AN
     ·exact Oa j (by omega) qJ
   ·have e1:(a.put o'.dst cv).tmps.getD t undef=a.tmps.getD t undef:=by
     cases lL:o'.dst with
     |none=>rfl
     |some d=>
      have aZ:d<a.tmps.size:=by rw[hI.tmps];exact(k1.Ji i x9 Nz).dst d (by rw[Qo];exact lL)
      rw[jv a d t cv aZ,agL (λe=>hd (by rw[lL,e]))]
    rw[e1];exact hr.keep oi.keeps
 ·simp[Act.put];cases o'.dst<;>simp[hI.tmps]
 ·cases o'.dst<;>exact hI.defers
 ·simp[pn]
def Mg {C:Cx}{id:Nat}{ops:List Oper}{Q:Exit->St->Prop}{s:St}(K:St->Prop)(nx:Nat)(bI lo:List Nat)(na:List (List Nat))(hm:C.P.follows .mixedOrders=true)(kD:iV ops bI lo na=true)(qb:jH bI=true)(WR:mCk ops bI nx=true)
  (h:iC ⟨C,ops.toArray,bI,lo,na,K⟩ nx ops [] [(s.H,s.T,0)] (prune C.nv s.e)):AW C (.region id ops.toArray true) (dF K Q) s:=
 λL0 w0 a0 mw=>wp_region_any hm (HB K nx bI lo na kD qb WR h L0 w0 a0 mw)
def qE {C:Cx}{id:Nat}{ops:List Oper}{Q:Exit->St->Prop}{s:St}(nx:Nat)(bI lo:List Nat)(na:List (List Nat))(hm:C.P.follows .mixedOrders=true)(kD:iV ops bI lo na=true)(qb:jH bI=true)(WR:mCk ops bI nx=true)
  (h:∀K:St->Prop,(∀s,Q .normal s->K s)->iC ⟨C,ops.toArray,bI,lo,na,K⟩ nx ops [] [(s.H,s.T,0)] (prune C.nv s.e)):AW C (.region id ops.toArray true) Q s:=
 (Mg (Q:=Q) (λs=>Q .normal s) nx bI lo na hm kD qb WR (h _ λ_ h=>h)).mono λe s q=>by cases e<;>exact q
section
variable {D : vX} {o : Oper} {r : List Oper} {aR : List bX} {sts : List mP} {e : Env}
@[simp] theorem UB:iC D 0 (o::r) aR sts e=(match sts.getLast? with
  |some (H,T,_)=>match o.guard with
   |none=>gJ D.C o e H T (λv H' T'=>AU D (gK D r) o aR sts e true v H' T')
   |some _=>False
  |none=>False):=rfl
@[simp] theorem UC {n:Nat}:iC D (n+1) (o::r) aR sts e=(match sts.getLast? with
  |some (H,T,_)=>match o.guard with
   |none=>kH D (iC D n r) o aR sts e H T
   |some (j,want)=>match o6 D.all j e with
    |some b=>if b=some want then kH D (iC D n r) o aR sts e H T else AU D (iC D n r) o aR sts e false (.df []) H T
    |none=>False
  |none=>False):=rfl
end
attribute [simp] gJ
def FA {P:Program}{o:Oper}{e e':Env}{H:List aA}(h:∀x∈o.op.operands,bR e x=bR e' x):mF P o e H=mF P o e' H:=by
 unfold mF
 cases ho:o.op<;>try rfl
 rename_i c;rw[ho] at h;obtain⟨callee,args,Cn⟩:=c
 cases callee<;>try rfl
 rename_i bi
 cases bi<;>try rfl
 have h2:args.toList.map (bR e)=args.toList.map (bR e'):=ahh λx hx=>h x (by simp only[Op.operands,Call.operands];exact aiz.2 (.inr (ah7.1 hx)));simp only[h2]
def jb (C:Cx)(o:Oper)(e:Env)(H:List aA)(T:au)(κ:AV->List aA->au->Prop):Prop:=
 if mF C.P o e H=true then κ (.sl 0 [] .full) H T else
 match kJ C.P C.bx o e H with
 |some _=>gJ C o e H T κ
 |none=>match ss o e with
  |some _=>gJ C o e H T κ
  |none=>match gL o e with
   |some _=>False
   |none=>match ME C.P o e H T with
    |some (v,H',T')=>κ v H' T'
    |none=>False
def Fw {C:Cx}{o:Oper}{e e':Env}{H:List aA}{T:au}{κ:AV->List aA->au->Prop}(h:∀x∈o.op.operands,bR e x=bR e' x)(k:jb C o e H T κ):jb C o e' H T κ:=by
 have hm:gJ C o e H T κ->gJ C o e' H T κ:=vm h;unfold jb at k ⊢;rw[<-FA h,<-vy h,<-yh h,<-rk h,<-AI H T h]
 split
 ·rename_i h1;rw[agN h1] at k;exact k
 ·rename_i h1;rw[agL h1] at k
  split
  ·rename_i h2;rw[h2] at k;exact hm k
  ·rename_i h2;rw[h2] at k
   dsimp only at k
   split
   ·rename_i h3;rw[h3] at k;exact hm k
   ·rename_i h3;rw[h3] at k;exact k
def P3 {C:Cx}{o:Oper}{e:Env}{H:List aA}{T:au}{κ:AV->List aA->au->Prop}(k:jb C o e H T κ){L:Lay}{w:World}{a:Act}(hc:cg L H T w)(he:fm L H.length T w e a){K:Act->World->Prop}{Q:Exit->Act->World->Prop}
  (hk:∀v H' T' cv w' L',κ v H' T'->cg L' H' T' w'->ba L' H'.length T' w' v cv->Ev H.length T.length L H.length T w L' H'.length T' w'->K (a.put o.dst cv) w'):o.wp C.P a w K Q:=by
 unfold jb at k
 split at k
 ·rename_i hz;obtain⟨cv,cY,dG⟩:=zX hz hc he;unfold Oper.wp;rw[cY];exact hk _ _ _ _ _ _ k hc dG (Ev.refl (agE _) (agE _))
 ·split at k
  ·exact xw k hc he hk
  ·split at k
   ·exact xw k hc he hk
   ·split at k
    ·exact k.elim
    ·rename_i jm
     split at k
     ·rename_i v H' T' lE;exact tz (v:=v) (H':=H') (T':=T') (by unfold dL;rw[jm];exact lE) hc he λcv w' L' g1 g2 g3=>hk _ _ _ _ _ _ k g1 g2 g3
     ·exact k.elim
def CD (P:Program)(H:List aA)(T:au):List bX->Prop
 |[]=>True
 |x::r=>dL P x.o x.e H T x.v H T/\CD P H T r
def light (C:Cx)(ch:List Nat)(H:List aA)(T:au)(κ:List bX->Env->Prop):List Oper->Nat->List bX->Env->Prop
 |[],_,R,e=>κ R e
 |o::r,i,R,e=>if ch.contains i=true then light C ch H T κ r (i+1) R e else
  match gL o e with
  |some _=>False
  |none=>match ME C.P o e H T with
   |some (v,H',T')=>H'=H/\T'=T/\wE C.nt o.dst v e (light C ch H T κ r (i+1) (R++[⟨o,e,true,v,i,false⟩]))
   |none=>False
def W9 (C:Cx)(K:St->Prop)(R:List bX):List Oper->Env->List aA->au->Prop
 |[],e,H,T=>K ⟨e,H,T⟩
 |o::r,e,H,T=>jb C o e H T (λv H' T'=>CD C.P H' T' R/\wE C.nt o.dst v e (λe'=>W9 C K R r e' H' T'))
def Im (C:Cx)(K:St->Prop)(ch:List Nat)(ops:List Oper)(H:List aA)(T:au)(e:Env):Prop:=
 light C ch H T (λR e'=>W9 C K R (ch.map λi=>ops.getD i default) e' H T) ops 0 [] e
def RA (ops:List Oper)(ch:List Nat):Bool:=
 iV ops ch [] (ch.map λ_=>List.range ops.length)&&jH ch&&((List.range ops.length).all λi=>ch.contains i||ch.all λc=>!nq (fu ops []) c i)&&ops.all λo=>o.guard.isNone
structure LOk (C:Cx)(ch:List Nat)(ops:List Oper)(H:List aA)(T:au)(e0:Env)(n:Nat)(R:List bX):Prop where
 aR:∀(j:Nat)(x:bX),R[j]?=some x->ops[x.k]?=some x.o/\x.k<n/\ch.contains x.k=false/\x.e=aW e0 (R.take j)/\dL C.P x.o x.e H T x.v H T/\(∀d,x.o.dst=some d->d<C.nt)
 all:∀i,i<n->ch.contains i=false->∃x∈R,x.k=i
 ord:R.Pairwise λx y=>x.k<y.k
theorem Hp {C:Cx}{ch:List Nat}{ops:List Oper}{H:List aA}{T:au}{e0:Env}{κ:List bX->Env->Prop}:∀(l:List Oper)(n:Nat)(R:List bX),ops.drop n=l->n<=ops.length->LOk C ch ops H T e0 n R->light C ch H T κ l n R (aW e0 R)->
  ∃R',LOk C ch ops H T e0 ops.length R'/\κ R' (aW e0 R'):=by
 intro l
 induction l with
 |nil=>
  intro n R hl hn hR h;have:n=ops.length:=by have:=congrArg List.length hl;simp at this;omega
  subst this;exact⟨R,hR,h⟩
 |cons o r ih=>
  intro n R hl hn hR h;have aZ:n<ops.length:=by
   rcases agM n ops.length with h1|h1
   ·exact h1
   ·rw[List.drop_eq_nil_of_le h1] at hl;cases hl
  have ho:ops[n]?=some o:=by
   have:=congrArg (λl=>l[0]?) hl;simpa using this
  have hr:ops.drop (n+1)=r:=by
   rw[<-List.tail_drop,hl];rfl
  rw[light] at h
  split at h
  ·rename_i hc;exact ih (n+1) R hr (by omega) ⟨λj x hx=>by obtain⟨a1,a2,a3⟩:=hR.aR j x hx;exact⟨a1,by omega,a3⟩,λi hi tK=>by
    rcases agM i n with h1|h1
    ·exact hR.all i h1 tK
    ·have:i=n:=by omega
     subst this;rw[hc] at tK;exact absurd tK (by simp),hR.ord⟩ h
  ·rename_i hc
   split at h
   ·exact h.elim
   ·rename_i jm
    split at h
    ·rename_i v H' T' lE;obtain⟨rfl,rfl,h⟩:=h;obtain⟨hd,h⟩:=qo h;have hc:ch.contains n=false:=by simpa using hc
     refine ih (n+1) (R++[⟨o,aW e0 R,true,v,n,false⟩]) hr (by omega) ⟨λj x hx=>?_,λi hi tK=>?_,?_⟩ (by rw[iM];exact h)
     ·rcases agM j R.length with h1|h1
      ·rw[agK h1] at hx;obtain⟨a1,a2,a3,a4,a5⟩:=hR.aR j x hx;refine⟨a1,by omega,a3,?_,a5⟩;rw[ahL (by omega)];exact a4
      ·rw[agX h1] at hx;have hj:j=R.length:=by
        rcases agM (j-R.length) 1 with h2|h2
        ·omega
        ·rw[ah2 (by simpa using h2)] at hx;cases hx
       subst hj;simp at hx;subst hx;refine⟨ho,by show n<n+1;omega,hc,?_,?_,hd⟩
       ·rw[ahD rfl]
       ·show dL _ _ _ _ _ _ _ _;unfold dL;dsimp only;rw[jm];exact lE
     ·rcases agM i n with h1|h1
      ·obtain⟨x,hx,e1⟩:=hR.all i h1 tK;exact⟨x,ag1 _ hx,e1⟩
      ·have:i=n:=by omega
       subst this;exact⟨_,aiN _ (ahl.2 rfl),rfl⟩
     ·rw[aio];refine⟨hR.ord,List.pairwise_singleton _ _,λx hx y hy=>?_⟩;rw[ahl] at hy;subst hy;obtain⟨j,hj,e1⟩:=agW.1 hx;exact(hR.aR j x (by rw[agD hj,e1])).2.1
    ·exact h.elim
theorem OE {P:Program}{H:List aA}{T:au}:∀{R:List bX},CD P H T R->∀x∈R,dL P x.o x.e H T x.v H T:=by
 intro R
 induction R with
 |nil=>intro _ x hx;simp at hx
 |cons y r ih=>
  intro h x hx;rcases ag6.1 hx with rfl|hx
  ·exact h.1
  ·exact ih h.2 x hx
theorem R8 {P:Program}{H:List aA}{T:au}:∀{R:List bX},(∀x∈R,dL P x.o x.e H T x.v H T)->CD P H T R:=by
 intro R
 induction R with
 |nil=>intro _;trivial
 |cons y r ih=>intro h;exact⟨h y (by simp),ih λx hx=>h x (by simp[hx])⟩
def BG {e0:Env}{R:List bX}{t:Nat}{x:bX}(hx:x∈R)(hd:x.o.dst=some t)(hn:R.Pairwise λx y=>x.k≠y.k)(hu:∀y∈R,y.o.dst=some t->y.k=x.k):bH (aW e0 R) t=x.v:=by
 obtain⟨j,hj,e1⟩:=agW.1 hx;refine eT R e0 t j x (by rw[agD hj,e1]) hd λi y hy y8=>?_;obtain⟨hi,e2⟩:=agC.1 hy;have hk:y.k=x.k:=hu y (by rw[<-e2];exact ahb hi) y8;rcases ah6 i j with h1|h1|h1
 ·have:=ag8.1 hn i j hi hj h1;rw[e2,e1] at this;exact absurd hk this
 ·exact h1
 ·have:=ag8.1 hn j i hj hi h1;rw[e2,e1] at this;exact absurd hk.symm this
def VC (R:List bX)(ay:Array Bool)(e0:Env)(t:Nat)(v:AV):Prop:=
 (∃x∈R,x.o.dst=some t/\ay.getD x.k false=true/\v=x.v)\/((∀x∈R,x.o.dst=some t->ay.getD x.k false=false)/\v=bH e0 t)
structure RK (C:Cx)(K:St->Prop)(ch:List Nat)(ops:List Oper)(R0:List bX)(s:St)(L0:Lay)(w0:World)(ay:Array Bool)(a:Act)(w:World):Prop where
 size:ay.size=ops.length
 closed:∀i j,ay.getD i false=true->nq (fu ops []) j i=true->ay.getD j false=true
 st:∃(k:Nat) (Rc:List bX) (H:List aA) (T:au) (L:Lay),(∀(m i:Nat),ch[m]?=some i->(ay.getD i false=true↔m<k))/\k<=ch.length/\Rc.length=k/\
  (∀(m:Nat)(x:bX),Rc[m]?=some x->ch[m]?=some x.k/\ops[x.k]?=some x.o/\(∀d,x.o.dst=some d->d<C.nt))/\CD C.P H T R0/\
  W9 C K R0 ((ch.drop k).map λi=>ops.getD i default) (aW s.e (R0++Rc)) H T/\cg L H T w/\C.nb<=H.length/\C.tb<=T.length/\
  (∀t,∃v,VC (R0++Rc) ay s.e t v/\ba L H.length T w v (a.tmps.getD t undef))/\Ev C.nb C.tb L0 s.H.length s.T w0 L H.length T w
 tmps:a.tmps.size=C.nt
 defers:a.defers=[]
theorem HN {C:Cx}{ops:List Oper}{Q:Exit->St->Prop}{s:St}(K:St->Prop)(ch:List Nat)(kD:RA ops ch=true)
  (h:Im C K ch ops s.H s.T (prune C.nv s.e)):∀L0 w0 a0,eK C s L0 w0 a0->
   wpAny C.P .any ops.toArray (cO C (dF K Q) L0 s w0) ops.toArray.size (Array.replicate ops.toArray.size false) a0 { w0 with drawn:=w0.drawn+1 }:=by
 intro L0 w0 a0 mw;have hc:eK C ⟨prune C.nv s.e,s.H,s.T⟩ L0 w0 a0:=⟨mw.nb,mw.tb,mw.mO,mw.size,mw.defers,λt=>by
  rcases mq C.nv s.e t with e|e<;>rw[e]
  ·exact mw.env t
  ·exact .top _⟩
 generalize uS:(⟨prune C.nv s.e,s.H,s.T⟩:St)=s' at hc;have Ce:prune C.nv s.e=s'.e:=by rw[<-uS]
 have AO:s.H=s'.H:=by rw[<-uS]
 have FT:s.T=s'.T:=by rw[<-uS]
 rw[Ce,AO,FT] at h;rw[show cO C (dF K Q) L0 s w0=cO C (dF K Q) L0 s' w0 by unfold cO;rw[AO,FT]];clear uS Ce AO FT mw;unfold RA at kD;simp only[agO] at kD;obtain⟨⟨⟨QA,qb⟩,hlc⟩,hgd⟩:=kD;obtain⟨d1,d2,d3,_,_,d6,d7⟩:=kj QA;have N9:∀i c,i<ops.length->ch.contains i=false->c∈ch->nq (fu ops []) c i=false:=by
  intro i c hi hn hcc;have:=aha.1 hlc i (ag3.2 hi);rw[hn,aim] at this;simpa using aha.1 this c hcc
 have ud:∀(i:Nat)(o:Oper),ops[i]?=some o->o.guard=none:=λi o ho=>by
  have:=aha.1 hgd o (ahW ho);simpa using this
 obtain⟨R0,hR,Mx⟩:=Hp (C:=C) (ch:=ch) (ops:=ops) (H:=s'.H) (T:=s'.T) (e0:=s'.e) ops 0 [] rfl (agP _) ⟨λj x hx=>by simp at hx,λi hi=>by omega,List.Pairwise.nil⟩ h;have JI:∀x∈R0,∃j,R0[j]?=some x:=λx hx=>by
  obtain⟨j,hj,e1⟩:=agW.1 hx;exact⟨j,by rw[agD hj,e1]⟩
 have YN:∀(m m' c:Nat),ch[m]?=some c->ch[m']?=some c->m=m':=by
  intro m m' c h1 h2;have key:∀m,ch[m]?=some c->m=(ch.filter (·<c)).length:=by
   intro m hm;have kC:=(agC.1 hm).1;have:=aha.1 qb m (ag3.2 kC);simp only[agO,aiu,agB,hm,aie] at this;exact this.1.symm
  rw[key m h1,key m' h2]
 have Yz:∀(Rc:List bX),(∀(m:Nat)(x:bX),Rc[m]?=some x->ch[m]?=some x.k/\ops[x.k]?=some x.o/\(∀d,x.o.dst=some d->d<C.nt))->(R0++Rc).Pairwise λx y=>x.k≠y.k:=by
  intro Rc wB;rw[aio];refine⟨hR.ord.imp λh=>by omega,?_,λx hx y hy=>?_⟩
  ·rw[ag8];intro i j hi hj jz e;have h1:=(wB i _ (agD hi)).1;have h2:=(wB j _ (agD hj)).1;rw[e] at h1;have:=YN _ _ _ h1 h2;omega
  ·obtain⟨j,hj⟩:=JI x hx;obtain⟨m,hm,e1⟩:=agW.1 hy;have h1:=(hR.aR j x hj).2.2.1;have h2:=ahW (wB m y (by rw[agD hm,e1])).1;intro e;rw[e] at h1;rw[<-contains_iff_mem] at h2;rw[h2] at h1;cases h1
 have nB:∀(Rc:List bX),(∀(m:Nat)(x:bX),Rc[m]?=some x->ch[m]?=some x.k/\ops[x.k]?=some x.o/\(∀d,x.o.dst=some d->d<C.nt))->∀x∈R0++Rc,ops[x.k]?=some x.o/\(∀d,x.o.dst=some d->d<C.nt):=by
  intro Rc wB x hx;rcases agR.1 hx with hx|hx
  ·obtain⟨j,hj⟩:=JI x hx;obtain⟨a1,_,_,_,_,a6⟩:=hR.aR j x hj;exact⟨a1,a6⟩
  ·obtain⟨m,hm,e1⟩:=agW.1 hx;exact(wB m x (by rw[agD hm,e1])).2
 have done:∀(ay:Array Bool)(a:Act)(w:World),RK C K ch ops R0 s' L0 w0 ay a w->(∀i,i<ops.length->ay.getD i false=true)->cO C (dF K Q) L0 s' w0 .normal a w:=by
  intro ay a w hI fh;obtain⟨k,Rc,H,T,L,hk,gO,Rs,wB,Nv,zB,cR,gw,fQ,gE,dB⟩:=hI.st;have qa:k=ch.length:=by
   rcases agM k ch.length with aZ|od
   ·have:=(hk k _ (agD aZ)).1 (fh _ (d3 k _ (agD aZ)).1);omega
   ·omega
  rw[qa,ahH] at zB;refine⟨⟨aW s'.e (R0++Rc),H,T⟩,L,zB,⟨gw,fQ,cR,hI.tmps,hI.defers,λt=>?_⟩,dB⟩;obtain⟨v,hv,hr⟩:=gE t;show ba L H.length T w (bH (aW s'.e (R0++Rc)) t) _;rcases hv with⟨x,hx,hd,hl,rfl⟩|⟨oh,rfl⟩
  ·rw[BG hx hd (Yz Rc wB) (λy hy y8=>d1 y.k x.k y.o x.o t (nB Rc wB y hy).1 (nB Rc wB x hx).1 y8 hd)];exact hr
  ·rw[cI (R0++Rc) s'.e t (λx hx hd=>by
    have h1:=oh x hx hd;have h2:=fh x.k (agC.1 (nB Rc wB x hx).1).1;rw[h1] at h2;cases h2)]
   exact hr
 have stp:∀(ay:Array Bool)(a:Act)(w:World)(i:Nat)(KK:Act->World->Prop),RK C K ch ops R0 s' L0 w0 ay a w->i∈Region.ready .any ops.toArray ay->
   (∀a' w',RK C K ch ops R0 s' L0 w0 (ay.setIfInBounds i true) a' w'->KK a' w')->wpOp C.P ops.toArray (cO C (dF K Q) L0 s' w0) i KK a w:=by
  intro ay a w i KK hI hi VJ;obtain⟨QU,o,ho,rM⟩:=mem_ready.1 hi;rw[agY] at ho;have eH:i<ops.length:=(agC.1 ho).1;have pn:i<ay.size:=by rw[hI.size];omega
  have yK:ay.getD i false=false:=by rw[<-cQ pn];exact QU
  have gC:=hI.closed;have kF:∀j,nq (fu ops []) j i=true->ay.getD j false=true:=λj hj=>iX gC ho rM (d6 i o ho) hj;obtain⟨k,Rc,H,T,L,hk,gO,Rs,wB,Nv,zB,cR,gw,fQ,gE,dB⟩:=hI.st;have WZ:=ud i o ho;have sE:Region.wanted o (yielded ops.toArray a.tmps)=true:=by unfold Region.wanted;rw[WZ]
  have cY:∀(ex:Env),(∀t∈o.looksAt ops.toArray,∀v,VC (R0++Rc) ay s'.e t v->v=bH ex t)->
    fm L H.length T w (oo ex (o.looksAt ops.toArray)) a/\∀z∈o.op.operands,bR ex z=bR (oo ex (o.looksAt ops.toArray)) z:=by
   intro ex eB;refine⟨λt=>?_,λz hz=>?_⟩
   ·rw[hZ]
    split
    ·rename_i ht;obtain⟨v,hv,hr⟩:=gE t;rw[<-eB t ht v hv];exact hr
    ·exact .top _
   ·cases z with
    |tmp t=>
     have:t∈o.looksAt ops.toArray:=by
      unfold Oper.looksAt;exact agR.2 (.inl (List.mem_filterMap.2 ⟨_,ah7.2 hz,rfl⟩))
     simp only[bR,hZ,agN this]
    |_=>rfl
  have behind:∀(x:bX)(H':List aA)(T':au)(cv:Value)(w':World)(L':Lay)(k':Nat)(T4:List bX),x.k=i->x.o=o->(∀d,o.dst=some d->d<C.nt)->x∈R0++T4->(∀y∈R0++T4,y=x\/y∈R0++Rc)->(∀y∈R0++Rc,y∈R0++T4)->
    (∀(m j:Nat),ch[m]?=some j->((ay.setIfInBounds i true).getD j false=true↔m<k'))->k'<=ch.length->T4.length=k'->
    (∀(m:Nat)(x:bX),T4[m]?=some x->ch[m]?=some x.k/\ops[x.k]?=some x.o/\(∀d,x.o.dst=some d->d<C.nt))->CD C.P H' T' R0->
    W9 C K R0 ((ch.drop k').map λi=>ops.getD i default) (aW s'.e (R0++T4)) H' T'->
    cg L' H' T' w'->ba L' H'.length T' w' x.v cv->Ev H.length T.length L H.length T w L' H'.length T' w'->KK (a.put o.dst cv) w':=by
   intro x H' T' cv w' L' k' T4 Cr hxo lL XB C6 aew nw aeq ZF aeL Wf Wi u6 lS oi;refine VJ _ _ ⟨by simp[hI.size],λi' j' jJ kG=>?_,⟨k',T4,H',T',L',nw,aeq,ZF,aeL,Wf,Wi,u6,agJ gw oi.n,agJ fQ oi.t,λt=>?_,dB.trans (oi.mono gw fQ)⟩,?_,by cases o.dst<;>exact hI.defers⟩
   ·by_cases AR:i=i'
    ·subst AR;have:=kF j' kG
     by_cases jz:i=j'
     ·subst jz;rw[yK] at this;cases this
     ·rw[getD_set_ne false jz];exact this
    ·rw[getD_set_ne false AR] at jJ;have:=gC i' j' jJ kG;exact getD_set_true this
   ·by_cases hd:o.dst=some t
    ·refine⟨x.v,.inl ⟨x,XB,by rw[hxo];exact hd,by rw[Cr];simp[pn],rfl⟩,?_⟩;have aZ:t<a.tmps.size:=by rw[hI.tmps];exact lL t hd
     rw[hd,jv a t t cv aZ,agN rfl];exact lS
    ·obtain⟨v,hv,hr⟩:=gE t;refine⟨v,?_,?_⟩
     ·rcases hv with⟨z,hz,AN,hl,rfl⟩|⟨oh,rfl⟩
      ·exact .inl ⟨z,aew z hz,AN,getD_set_true hl,rfl⟩
      ·refine .inr ⟨λz hz AN=>?_,rfl⟩;rcases C6 z hz with rfl|Jn
       ·rw[hxo] at AN;exact absurd AN hd
       ·have jz:i≠z.k:=by
         intro e;have h1:=(nB Rc wB z Jn).1;rw[<-e,ho] at h1
         injection h1 with h1
         rw[<-h1] at AN;exact hd AN
        rw[getD_set_ne false jz];exact oh z Jn AN
     ·have e1:(a.put o.dst cv).tmps.getD t undef=a.tmps.getD t undef:=by
       cases Uj:o.dst with
       |none=>rfl
       |some d=>
        have aZ:d<a.tmps.size:=by rw[hI.tmps];exact lL d Uj
        rw[jv a d t cv aZ,agL (λe=>hd (by rw[Uj,e]))]
      rw[e1];exact hr.keep oi.keeps
   ·simp[Act.put];cases o.dst<;>simp[hI.tmps]
  unfold wpOp;rw[agY,ho]
  dsimp only
  rw[agN sE];refine .inl ?_
  cases XV:ch.contains i with
  |false=>
   obtain⟨x,XB,Cr⟩:=hR.all i eH XV;obtain⟨j,hj⟩:=JI x XB;obtain⟨a1,a2,a3,a4,a5,a6⟩:=hR.aR j x hj;have MR:x.o=o:=by rw[Cr,ho] at a1;injection a1 with a1;exact a1.symm
   have eB:∀t∈o.looksAt ops.toArray,∀v,VC (R0++Rc) ay s'.e t v->v=bH x.e t:=by
    intro t ht v hv;rw[a4];have Qp:∀z∈R0++Rc,z.o.dst=some t->i≠z.k/\((z.k<i/\nq (fu ops []) z.k i=true)\/(i<z.k/\nq (fu ops []) i z.k=true)):=λz hz hd=>d2 i z.k o z.o t ho (nB Rc wB z hz).1 ht hd;rcases hv with⟨z,hz,hd,hl,rfl⟩|⟨oh,rfl⟩
    ·obtain⟨dN,h1|h1⟩:=Qp z hz hd
     ·have tH:z∈R0:=by
       rcases agR.1 hz with hz|hz
       ·exact hz
       ·exfalso;obtain⟨m,hm,e1⟩:=agW.1 hz;have h2:=ahW (wB m z (by rw[agD hm,e1])).1;rw[N9 i z.k eH XV h2] at h1
        cases h1.2
      obtain⟨j',bQ⟩:=JI z tH;have aZ:j'<j:=by
       obtain⟨b1,b2⟩:=agC.1 hj;obtain⟨c1,c2⟩:=agC.1 bQ;rcases ah6 j' j with h3|h3|h3
       ·exact h3
       ·subst h3;rw[hj] at bQ;injection bQ with bQ
        rw[<-bQ,Cr] at h1;omega
       ·have:=ag8.1 hR.ord j j' b1 c1 h3;rw[b2,c2,Cr] at this;omega
      have hzt:z∈R0.take j:=ahW (i:=j') (by rw[ahu,agN aZ];exact bQ);rw[BG hzt hd ((hR.ord.imp λh=>by omega).sublist (List.take_sublist _ _)) (λy hy y8=>d1 y.k z.k y.o z.o t (nB Rc wB y (ag1 _ (aiR hy))).1 (nB Rc wB z hz).1 y8 hd)]
     ·have:=gC z.k i hl h1.2;rw[yK] at this;cases this
    ·rw[cI (R0.take j) s'.e t (λz hz hd=>by
      have tH:=aiR hz;have hf:=oh z (ag1 _ tH) hd;obtain⟨j',bQ,e1⟩:=agW.1 hz;simp at bQ;obtain⟨dN,h1|h1⟩:=Qp z (ag1 _ tH) hd
      ·have:=kF z.k h1.2;rw[hf] at this;cases this
      ·obtain⟨b1,b2⟩:=agC.1 hj;have:=ag8.1 hR.ord j' j (by omega) b1 (by omega);rw[aiT] at e1;rw[b2,e1,Cr] at this;omega)]
   obtain⟨tR,Gh⟩:=cY x.e eB;have hex:=OE Nv x XB;rw[MR] at hex;refine tz (vw Gh hex) cR tR λcv w' L' g1 g2 g3=>behind x H T cv w' L' k Rc Cr MR (by rw[<-MR];exact a6) (ag1 _ XB) (λy hy=>.inr hy) (λy hy=>hy) (λm j' hm=>?_) gO Rs wB Nv zB g1 g2 g3;have jz:i≠j':=by
    rintro rfl;have:=ahW hm;rw[<-contains_iff_mem] at this;rw[XV] at this;cases this
   rw[getD_set_ne false jz];exact hk m j' hm
  |true=>
   obtain⟨e1,_⟩:=oI qb XV;have UX:ch[k]?=some i:=by
    have od:k<=(ch.filter (·<i)).length:=by
     rcases agM (ch.filter (·<i)).length k with h1|h1
     ·have:=(hk _ i e1).2 h1;rw[yK] at this;cases this
     ·exact h1
    have hle:(ch.filter (·<i)).length<=k:=by
     rcases ahc (ch.filter (·<i)).length with h0|h0
     ·omega
     ·obtain⟨e',h1,h2⟩:=(d3 _ i e1).2 h0;have:=(hk _ e' h1).1 (kF e' h2);omega
    rw[show k=(ch.filter (·<i)).length by omega];exact e1
   have aep:=(agC.1 UX).1;have qY:(ch.drop k).map (λi=>ops.getD i default)=o::(ch.drop (k+1)).map (λi=>ops.getD i default):=by
    rw[ah5 aep,ahi]
    congr 1
    rw[(agC.1 UX).2,agB,ho];rfl
   rw[qY,W9] at zB;have eB:∀t∈o.looksAt ops.toArray,∀v,VC (R0++Rc) ay s'.e t v->v=bH (aW s'.e (R0++Rc)) t:=by
    intro t ht v hv;have Qp:∀z∈R0++Rc,z.o.dst=some t->i≠z.k/\((z.k<i/\nq (fu ops []) z.k i=true)\/(i<z.k/\nq (fu ops []) i z.k=true)):=λz hz hd=>d2 i z.k o z.o t ho (nB Rc wB z hz).1 ht hd;rcases hv with⟨z,hz,hd,hl,rfl⟩|⟨oh,rfl⟩
    ·rw[BG hz hd (Yz Rc wB) (λy hy y8=>d1 y.k z.k y.o z.o t (nB Rc wB y hy).1 (nB Rc wB z hz).1 y8 hd)]
    ·rw[cI (R0++Rc) s'.e t (λz hz hd=>by
      have hf:=oh z hz hd;obtain⟨dN,h1|h1⟩:=Qp z hz hd
      ·have:=kF z.k h1.2;rw[hf] at this;cases this
      ·rcases agR.1 hz with tH|hzc
       ·obtain⟨j,hj⟩:=JI z tH;obtain⟨b1,_,b3,_⟩:=hR.aR j z hj;have:=N9 z.k i (agC.1 b1).1 b3 (aik.1 XV);rw[this] at h1;cases h1.2
       ·obtain⟨m,hm,e2⟩:=agW.1 hzc;have h2:=(wB m z (by rw[agD hm,e2])).1;have:=(hk m z.k h2).2 (by omega);rw[hf] at this;cases this)]
   obtain⟨tR,Gh⟩:=cY _ eB;refine P3 (Fw Gh zB) cR tR λv H' T' cv w' L' hκ g1 g2 g3=>?_;obtain⟨Vr,iS⟩:=hκ;obtain⟨lL,iS⟩:=qo iS;refine behind ⟨o,aW s'.e (R0++Rc),true,v,i,true⟩ H' T' cv w' L' (k+1) (Rc++[⟨o,aW s'.e (R0++Rc),true,v,i,true⟩]) rfl rfl lL (by simp) (λy hy=>?_) (λy hy=>?_) (λm j hm=>?_) (by omega) (by simp[Rs]) (λm x hx=>?_) Vr ?_ g1 g2 g3
   ·rw[<-append_assoc] at hy;rcases agR.1 hy with hy|hy
    ·exact .inr hy
    ·exact .inl (ahl.1 hy)
   ·rw[<-append_assoc];exact ag1 _ hy
   ·by_cases jz:i=j
    ·subst jz;have:=YN _ _ _ hm UX;simp[pn];omega
    ·rw[getD_set_ne false jz,hk m j hm]
     constructor
     ·intro h;omega
     ·intro h;rcases agM m k with h1|h1
      ·exact h1
      ·have:m=k:=by omega
       subst this;rw[UX] at hm
       injection hm with hm
       exact absurd hm jz
   ·rcases agM m Rc.length with h1|h1
    ·rw[agK h1] at hx;exact wB m x hx
    ·rw[agX h1] at hx;have hm:m=Rc.length:=by
      rcases agM (m-Rc.length) 1 with h2|h2
      ·omega
      ·rw[ah2 (by simpa using h2)] at hx;cases hx
     subst hm;simp at hx;subst hx;exact⟨by rw[Rs];exact UX,ho,lL⟩
   ·rw[<-append_assoc,iM];exact iS
 have key:=EG (Q:=cO C (dF K Q) L0 s' w0) (P:=C.P) d6 (RK C K ch ops R0 s' L0 w0) (λ_ _ _ h=>h.size) done (λ_ l a w h i hi _ hk=>stp l a w i _ h hi hk);have gu:ops.toArray.size=ops.length:=by simp
 rw[gu];refine key ops.length _ a0 _ ⟨by simp,λi j hl _=>?_,⟨0,[],s'.H,s'.T,L0,λm i TM=>?_,agP _,rfl,λm x hx=>by simp at hx,R8 λx hx=>?_,by simpa using Mx,hc.mO.drew rfl,hc.nb,hc.tb,λt=>?_,?_⟩,hc.size,hc.defers⟩ (.inr ?_)
 ·exfalso
  by_cases hi:i<ops.length<;>simp[hi] at hl
 ·constructor
  ·intro hl;exfalso
   by_cases hi:i<ops.length<;>simp[hi] at hl
  ·intro h;omega
 ·obtain⟨j,hj⟩:=JI x hx;exact(hR.aR j x hj).2.2.2.2.1
 ·refine⟨bH s'.e t,.inr ⟨λx hx hd=>?_,rfl⟩,?_⟩
  ·by_cases hj:x.k<ops.length<;>simp[hj]
  ·have kd:cX L0 s'.H.length s'.T w0 L0 s'.H.length s'.T { w0 with drawn:=w0.drawn+1 }:=(Ev.drew (H:=s'.H) (T:=s'.T) (L:=L0) (w:=w0) (w':={ w0 with drawn:=w0.drawn+1 }) rfl rfl rfl rfl (ahy _)).keeps;exact(hc.env t).keep kd
 ·exact(Ev.drew (H:=s'.H) (T:=s'.T) (L:=L0) (w:=w0) (w':={ w0 with drawn:=w0.drawn+1 }) rfl rfl rfl rfl (ahy _)).mono hc.nb hc.tb
 ·refine agJ (List.countP_le_length) ?_;simp
def Mh {C:Cx}{id:Nat}{ops:List Oper}{Q:Exit->St->Prop}{s:St}(K:St->Prop)(ch:List Nat)(hm:C.P.follows .mixedOrders=true)(kD:RA ops ch=true)
  (h:Im C K ch ops s.H s.T (prune C.nv s.e)):AW C (.region id ops.toArray true) (dF K Q) s:=
 λL0 w0 a0 mw=>wp_region_any hm (HN K ch kD h L0 w0 a0 mw)
def uP {C:Cx}{id:Nat}{ops:List Oper}{Q:Exit->St->Prop}{s:St}(ch:List Nat)(hm:C.P.follows .mixedOrders=true)(kD:RA ops ch=true)
  (h:∀K:St->Prop,(∀s,Q .normal s->K s)->Im C K ch ops s.H s.T (prune C.nv s.e)):AW C (.region id ops.toArray true) Q s:=
 (Mh (Q:=Q) (λs=>Q .normal s) ch hm kD (h _ λ_ h=>h)).mono λe s q=>by cases e<;>exact q
def x4 {C:Cx}{o:Oper}{e:Env}{H:List aA}{T:au}{κ κ':AV->List aA->au->Prop}(h:∀v J U,κ v J U->κ' v J U)(k:gJ C o e H T κ):gJ C o e H T κ':=by
 unfold gJ at k ⊢
 split at k
 ·exact λnc ll=>h _ _ _ (k nc ll)
 ·split at k
  ·obtain⟨el,vs,xs,m,a1,a2,a3,a4,a5,a6,a7,a8,k1,k2⟩:=k;exact⟨el,vs,xs,m,a1,a2,a3,a4,a5,a6,a7,a8,λx=>h _ _ _ (k1 x),λnc x y=>h _ _ _ (k2 nc x y)⟩
  ·exact k.elim
def HP {C:Cx}{o:Oper}{e:Env}{H:List aA}{T:au}{κ κ':AV->List aA->au->Prop}(h:∀v J U,κ v J U->κ' v J U)(k:jb C o e H T κ):jb C o e H T κ':=by
 unfold jb at k ⊢
 split at k
 ·rename_i h1;rw[agN h1];exact h _ _ _ k
 ·rename_i h1;rw[agL h1]
  split at k
  ·exact x4 h k
  ·split at k
   ·exact x4 h k
   ·split at k
    ·exact k.elim
    ·split at k
     ·exact h _ _ _ k
     ·exact k.elim
def CO (C:Cx)(K:St->Prop)(P:List aA->au->Prop):List Oper->Env->List aA->au->Prop
 |[],e,H,T=>K ⟨e,H,T⟩
 |o::r,e,H,T=>jb C o e H T (λv H' T'=>P H' T'/\wE C.nt o.dst v e (λe'=>CO C K P r e' H' T'))
theorem KW {nt:Nat}{dst:Option Tmp}{v:AV}{e:Env}{k k':Env->Prop}(h:∀e,k e->k' e)(x:wE nt dst v e k):wE nt dst v e k':=by
 cases dst with
 |none=>exact h _ x
 |some d=>exact⟨x.1,h _ x.2⟩
theorem Bd {C:Cx}{K:St->Prop}{R:List bX}(P:List aA->au->Prop)(h1:∀J U,P J U->CD C.P J U R):∀{l:List Oper} {e:Env} {H:List aA} {T:au},CO C K P l e H T->W9 C K R l e H T
 |[],_,_,_,h=>h
 |o::r,e,H,T,h=>HP (λv J U ⟨a,b⟩=>⟨h1 J U a,KW (λe' x=>Bd P h1 x) b⟩) h
def P2 {C:Cx}{K:St->Prop}{P:List aA->au->Prop}{e:Env}{H:List aA}{T:au}:CO C K P [] e H T=K ⟨e,H,T⟩:=rfl
def lD {C:Cx}{K:St->Prop}{P:List aA->au->Prop}{o:Oper}{r:List Oper}{e:Env}{H:List aA}{T:au}:CO C K P (o::r) e H T=jb C o e H T (λv H' T'=>P H' T'/\wE C.nt o.dst v e (λe'=>CO C K P r e' H' T')):=rfl
def lC {nt d:Nat}{v:AV}{e:Env}{k:Env->Prop}(h:d<nt)(x:k (lN e d v)):wE nt (some d) v e k:=⟨h,x⟩
def Th {C:Cx}{o:Oper}{e:Env}{H:List aA}{T:au}{κ:AV->List aA->au->Prop}(hz:mF C.P o e H=true)(k:κ (.sl 0 [] .full) H T):jb C o e H T κ:=by
 unfold jb;rw[agN hz];exact k
def ya {C:Cx}{o:Oper}{e:Env}{H:List aA}{T:au}{κ:AV->List aA->au->Prop}{m z:Nat}{ys:List AV}(hz:mF C.P o e H=false)(h0:kJ C.P C.bx o e H=some (m,ys,z))
  (k:∀nc,m<=nc->κ (.bJ H.length m nc) (H++[.cells (ys++List.replicate ((nc-m)*z) .top)]) T):jb C o e H T κ:=by
 unfold jb;rw[agL (by rw[hz];simp),h0]
 dsimp only
 unfold gJ;rw[h0];exact k
def P4 {C:Cx}{o:Oper}{e:Env}{H H':List aA}{T T':au}{κ:AV->List aA->au->Prop}{v:AV}(hz:mF C.P o e H=false)(h0:kJ C.P C.bx o e H=none)(hc:ss o e=none)(hl:gL o e=none)(ho:ME C.P o e H T=some (v,H',T'))(k:κ v H' T'):jb C o e H T κ:=by
 unfold jb;rw[agL (by rw[hz];simp),h0,hc,hl,ho];exact k
def AB {C:Cx}{o:Oper}{e:Env}{H:List aA}{T:au}{κ:AV->List aA->au->Prop}{t t2:TypeId}{i n cap:Nat}{x:AV}(el:TypeId)(A B xs:List AV)(m:Nat)
  (hz:mF C.P o e H=false) (h0:kJ C.P C.bx o e H=none) (hc:ss o e=some (t,t2,i,n,cap,x)) (hu:C.P.underlying t=some (.slice el)) (hH:H[i]?=some (.cells (A++B))) (hA:A.length=n*C.P.cellsOf el) (hl:(A++B).length=cap*C.P.cellsOf el)
  (hs:gN H (C.P.cellsOf el) x=some (m,xs)) (hxs:xs.length=m*C.P.cellsOf el) (qK:(n+m)*C.P.bytesOf el<=140737488355328) (hmx:n+m<=9223372036854775807) (tK:jN C.P t2=true) (qI:(bc C.P el).isSome=true)
  (k:∀(i' kV:Nat)(B':List AV)(J':List aA),(J'=H.set i (.cells (A++xs++B'))/\i'=i\/J'=H++[.cells (A++xs++B')]/\i'=H.length)->(A++xs++B').length=kV*C.P.cellsOf el->n+m<=kV->κ (.bJ i' (n+m) kV) J' T):jb C o e H T κ:=by
 unfold jb;rw[agL (by rw[hz];simp),h0,hc]
 dsimp only
 unfold gJ;rw[h0,hc]
 dsimp only
 have iz:(A++B).take (n*C.P.cellsOf el)=A:=by rw[<-hA,ahD rfl]
 refine⟨el,A++B,xs,m,hu,hH,hl,hs,qK,hmx,tK,qI,λhle=>?_,λnc aZ ll=>?_⟩
 ·have h1:(n+m)*C.P.cellsOf el<=cap*C.P.cellsOf el:=ahF _ hle;rw[iz];refine k i cap _ _ (.inl ⟨rfl,rfl⟩) ?_ hle;rw[agF,agF,ahp,hA,hxs,hl];rw[ahU] at h1 ⊢;omega
 ·have h1:(n+m)*C.P.cellsOf el<=nc*C.P.cellsOf el:=ahF _ ll;rw[iz];refine k H.length nc _ _ (.inr ⟨rfl,rfl⟩) ?_ ll;rw[agF,agF,ajd,hA,hxs,Nat.sub_mul];rw[ahU] at h1 ⊢;omega
attribute [simp] Im light jb mF CD
open Go.ChangeShapes Go.WideShapes
def m0 (w:World)(b:Nat):Nat:=match w.heap[b]? with
 |some (.cells c _ _)=>c.size
 |_=>0
def vL (w:World):Lay:=⟨λ_=>0,λ_=>⟨0,0,0⟩,m0 w,true⟩
theorem P5 {w:World}{b o:Nat}{v:Value}(h:w.cell? ⟨b,o,none⟩=some v):o<m0 w b:=by
 unfold World.cell? at h;unfold m0;simp only at h
 cases hb:w.heap[b]? with
 |none=>rw[hb] at h;simp at h
 |some x=>
  rw[hb] at h
  cases x with
  |cells c t fr=>
   simp only at h ⊢;rcases agM o c.size with g|g
   ·exact g
   ·rw[ah8 g] at h;simp at h
  |_=>simp at h
def Y0 (w:World)(hg:∀x∈zC,∃m,w.cell? ⟨x.1,x.2,none⟩=some (.int .i64 m)):cg (vL w) [] [] w:=by
 refine⟨λi b h=>by simp at h,λi j h=>by simp at h,λt u z h=>by simp at h,λt u z t' u' z' h=>by simp at h,λt u z i h=>by simp at h,λb hb=>?_,λx hx=>by obtain⟨m,hm⟩:=hg x hx;exact⟨P5 hm,m,hm⟩⟩;show m0 w b=0;unfold m0;rw[ah8 hb]
theorem Ti {w:World}{b o:Nat}{v:Value}(h:w.cell? ⟨b,o,none⟩=some v):o<m0 w b:=by
 unfold World.cell? at h;unfold m0;simp only at h
 cases hb:w.heap[b]? with
 |none=>rw[hb] at h;simp at h
 |some x=>
  rw[hb] at h
  cases x with
  |cells c t fr=>
   simp only at h ⊢;rcases agM o c.size with g|g
   ·exact g
   ·rw[ah8 g] at h;simp at h
  |_=>simp at h
abbrev RC (w:World)(vs:List AV)(c:List Value):Prop:=cJ (vL w) 0 [] w vs c
def RC.one {w : World} {a : AV} {v : Value} (h : ba (vL w) 0 [] w a v) (h1 : v.oneCell' = true) : RC w [a] [v] :=
  ⟨rfl, λj hj => by have : j = 0 := by simp at hj; omega
                    subst this; exact h1, λj hj bQ => by
    have : j = 0 := by simp at hj; omega
    subst this; exact h⟩
def RC.rep {w:World}{a:AV}{v:Value}(h:RC w [a] [v]):ba (vL w) 0 [] w a v:=h.2.2 0 (by simp) (by simp)
def RC.append {w:World}{a b:List AV}{c d:List Value}(h:RC w a c)(k:RC w b d):RC w (a++b) (c++d):=by
 refine⟨by simp[h.1,k.1],λj hj=>?_,λj hj bQ=>?_⟩
 ·rw[aiH]
  split
  ·exact h.2.1 _ _
  ·exact k.2.1 _ _
 ·rw[aiH,aiH]
  by_cases aZ:j<a.length
  ·rw[ajo aZ,ajo (by rw[h.1];exact aZ)];exact h.2.2 _ _ _
  ·rw[ajp aZ,ajp (by rw[h.1];exact aZ)];have:=k.2.2 (j-a.length) (by simp at hj;omega) (by simp at bQ;rw[h.1] at bQ;omega);simpa[h.1] using this
section
variable {H : Type} {enc : TypeId × Value -> H} {P : Program} {w : World} {base fuel : Nat} {sp : Nat -> Bool} {held : Bool} {t e : TypeId} {cs : List Value} {x : DataW H × List MemPlace}
def pB {k:IntKind}(ht:P.underlying t=some (.int k))(h:DataW.trod enc P w base sp held fuel t cs=some x):∃n,(Lit.int k n).wf=true/\RC w [.int k n] cs:=by
 obtain⟨n,rfl,_,hw⟩:=DataW.trod_int ht h;exact⟨n,hw,RC.one (.int k n) rfl⟩
def NS (ht:P.underlying t=some .string)(h:DataW.trod enc P w base sp held fuel t cs=some x):∃s:List UInt8,s.length<=maxLen/\RC w [.str s] cs:=by
 obtain⟨s,rfl,_,hs⟩:=DataW.trod_string ht h;obtain⟨⟨l⟩⟩:=s;refine⟨l,by simpa[ByteArray.size] using hs,RC.one ?_ rfl⟩;exact ba.str l
theorem PH {α:Type}{c:Nat}(es:List (List α))(hc:∀a∈es,a.length=c)(i j:Nat)(hi:i<es.length)(hj:j<c):es.flatten[i*c+j]?=(es[i]'hi)[j]?:=by
 induction es generalizing i with
 |nil=>simp at hi
 |cons a r ih=>
  have ha:=hc a (by simp)
  cases i with
  |zero=>simp only[Nat.zero_mul,ahO,List.flatten_cons,ahC];rw[agK (by omega)]
  |succ i=>
   simp only[List.flatten_cons,aiE];rw[agX (by rw[ha,succ_mul];omega)];have:=ih (λb hb=>hc b (by simp[hb])) i (by simpa using hi);rw[<-this]
   congr 1
   rw[ha,succ_mul];omega
theorem iI {α:Type}{c:Nat}(es:List (List α))(hc:∀a∈es,a.length=c):es.flatten.length=es.length*c:=by
 induction es with
 |nil=>simp
 |cons a r ih=>simp[hc a (by simp),ih (λb hb=>hc b (by simp[hb])),succ_mul];omega
theorem RC.flatten {c:Nat}:∀(es:List (List AV)) (T3:List (List Value)),es.length=T3.length->(∀i (h:i<es.length) (h':i<T3.length),RC w (es[i]'h) (T3[i]'h'))->RC w es.flatten T3.flatten:=by
 intro es
 induction es with
 |nil=>intro T3 hl _;cases T3 with
  |nil=>exact⟨rfl,λ_ h=>by simp at h,λ_ h=>by simp at h⟩
  |cons _ _=>simp at hl
 |cons a r ih=>
  intro T3 hl h
  cases T3 with
  |nil=>simp at hl
  |cons b s=>
   simp only[List.flatten_cons];refine RC.append (h 0 (by simp) (by simp)) (ih s (by simpa using hl) λi hi iP=>?_);exact h (i+1) (by simpa using hi) (by simpa using iP)
def DA {G:List AV->Prop}(ht:P.underlying t=some (.slice e))(hp:0<P.cellsOf e)(he:∀n c y,DataW.trod enc P w base sp held n e c=some y->∃a,G a/\RC w a c)
  (h:DataW.trod enc P w base sp held fuel t cs=some x):∃es:List (List AV),(∀a∈es,G a)/\es.length<=maxLen/\RC w [.sl es.length es.flatten .none] cs:=by
 rcases DataW.trod_slice ht h with⟨rfl,_⟩|⟨a,len,cap,elems,rest,n,_,rfl,_,hb,hlc,hm,Ch,uW,_,_⟩
 ·exact⟨[],λa h=>by simp at h,agP _,RC.one (.yZ _ _ _ trivial) rfl⟩
 ·have key:∀i,i<len->∃(c:List Value) (av:List AV),G av/\RC w av c/\c.length=P.cellsOf e/\∀j,j<P.cellsOf e->w.cell? ((a.add (i*P.cellsOf e)).add j)=c[j]?:=by
   intro i hi;have h1:=uW i hi;rw[agD (by omega)] at h1;obtain⟨c,h2,h3⟩:=Option.bind_eq_some_iff.1 h1;obtain⟨_,h4,h5⟩:=World.cells?_some h2;obtain⟨av,h6,h7⟩:=he _ _ _ h3;exact⟨c,av,h6,h7,h4,h5⟩
  rcases ahc len with h0|h0
  ·subst h0;exact⟨[],λa h=>by simp at h,agP _,RC.one (.yZ _ _ _ trivial) rfl⟩
  have Ub:a.spot=none:=by
   obtain⟨c,_,_,_,h4,h5⟩:=key 0 h0;have:=h5 0 hp;rw[agD (by omega)] at this;have h6:=World.cell?_spot (a:=(a.add (0*P.cellsOf e)).add 0) this;simpa[Addr.add] using h6
  obtain⟨ab,ao,as⟩:=a;simp only at Ub;subst Ub
  let C:Nat->List Value:=λi=>if h:i<len then Classical.choose (key i h) else []
  let A:Nat->List AV:=λi=>if h:i<len then Classical.choose (Classical.choose_spec (key i h)) else []
  have X8:∀i,i<len->G (A i)/\RC w (A i) (C i)/\(C i).length=P.cellsOf e/\∀j,j<P.cellsOf e->w.cell? ⟨ab,ao+(i*P.cellsOf e+j),none⟩=(C i)[j]?:=by
   intro i hi;have:=Classical.choose_spec (Classical.choose_spec (key i hi));simp only[C,A,ajo hi];refine⟨this.1,this.2.1,this.2.2.1,λj hj=>?_⟩;rw[<-this.2.2.2 j hj];rw[Addr.add_add];unfold Addr.add
   split
   ·rename_i h0;rw[h0];rfl
   ·rfl
  refine⟨(List.range len).map A,λav hav=>?_,?_,?_⟩
  ·obtain⟨i,hi,rfl⟩:=agG.1 hav;exact(X8 i (ag3.1 hi)).1
  ·simp;exact agJ hlc hm
  ·have hA:∀av∈(List.range len).map A,av.length=P.cellsOf e:=by
    intro av hav;obtain⟨i,hi,rfl⟩:=agG.1 hav;obtain⟨_,h1,h2,_⟩:=X8 i (ag3.1 hi);rw[<-h1.1];exact h2
   have hC:∀c∈(List.range len).map C,c.length=P.cellsOf e:=by
    intro c hc;obtain⟨i,hi,rfl⟩:=agG.1 hc;exact(X8 i (ag3.1 hi)).2.2.1
   have hlA:=iI _ hA;have hlC:=iI _ hC;simp only[agU,List.length_range] at hlA hlC;have lV:∀j,j<len*P.cellsOf e->w.cell? ⟨ab,ao+j,none⟩=((List.range len).map C).flatten[j]?:=by
    intro j hj;have hi:j / P.cellsOf e<len:=by rw[Nat.div_lt_iff_lt_mul hp];exact hj
    have hr:j % P.cellsOf e<P.cellsOf e:=aiS _ hp;have e1:j / P.cellsOf e*P.cellsOf e+j % P.cellsOf e=j:=by rw[ai4];exact Nat.div_add_mod _ _
    have h1:=(X8 _ hi).2.2.2 _ hr;have h2:=PH _ hC (j / P.cellsOf e) (j % P.cellsOf e) (by simpa using hi) hr;rw[e1] at h1 h2;rw[h1,h2];simp
   refine RC.one ?_ rfl;have hlen:((List.range len).map A).length=len:=by simp
   have dG:RC w ((List.range len).map A).flatten ((List.range len).map C).flatten:=RC.flatten (c:=0) _ _ (by simp) λi hi iP=>by
    simp only[ahv,ai9];exact(X8 i (by simpa using hi)).2.1
   rw[hlen];refine ba.mD hlc ?_ dG (λj hj=>lV j (by rw[hlA] at hj;exact hj)) trivial;rw[hlA];have eO:0<len*P.cellsOf e:=Nat.mul_pos h0 hp;have dw:=lV (len*P.cellsOf e-1) (by omega);rw[agD (by rw[hlC];omega)] at dw;have:=Ti dw;show ao+len*P.cellsOf e<=m0 w ab;omega
end
section
variable {H : Type} {enc : TypeId × Value -> H} {P : Program} {w : World} {base fuel : Nat} {sp : Nat -> Bool} {held : Bool} {t : TypeId} {cs : List Value} {x : DataW H × List MemPlace} {fs : Array Field}
def nM (ht:P.underlying t=some (.struct fs))(h:DataW.trod enc P w base sp held fuel t cs=some x):cs.length=P.cellsOf t/\
  ∀(i:Nat)(f:Field),fs[i]?=some f->∃n y,DataW.trod enc P w base sp held n f.type ((cs.drop f.offset).take (P.cellsOf f.type))=some y:=by
 obtain⟨xs,n,_,_,hl,hx,hf⟩:=DataW.trod_struct ht h;refine⟨hl,λi f hi=>?_⟩;have aZ:i<xs.length:=by rw[hx];exact(Array.getElem?_eq_some_iff.1 hi).1
 exact⟨n,xs[i],by rw[hf i f hi,agD aZ]⟩
end
theorem ar.law {P:Program}{f:FuncId}{avs:List AV}{w:World}{args:Array Value}(h:ar P f avs [] [] (λr _ _=>r=.bool true))(hg:∀x∈zC,∃m,w.cell? ⟨x.1,x.2,none⟩=some (.int .i64 m))(hs:args.size=avs.length)
  (hr:∀(j:Nat)(h:j<avs.length)(h':j<args.size),ba (vL w) 0 [] w (avs[j]'h) (args[j]'h')) :
  Calls P f args w λe w'=>e=.returned (.bool true)/\Go.RowKit.Below w.heap.size w w':=by
 refine(h.2 (vL w) w args (Y0 w hg) hs hr).mono ?_;rintro e w' ⟨r,H',T',L',cv,rfl,rfl,_,dG,dB⟩
 cases dG with
 |bool _=>exact⟨rfl,dB.os,dB.tape,dB.output,dB.size,λk hk=>dB.frame k hk (λhw=>by
   rcases hw with⟨i,hi,_⟩|⟨t,u,z,ht,_⟩
   ·exact ag9 _ hi
   ·simp at ht)⟩
section
open Go.RowKit
variable {H : Type} {enc : TypeId × Value -> H} {P : Program}
def yS {f:Func}{s:ChangeSpec}{apart fresh handsOn again:Bool}{W W':World}{args:Array Value}{v:Value}{ds gs:List (DataW H)}{before pa pv:List MemPlace}
  (hW:DataW.Whole enc P f.params.toList s.vars apart W args.toList ds gs before)
  (yI:∀(b:Nat)(sp:Nat->Bool)(hd:Bool),DataW.TrodAll enc P W' b sp hd f.resultTypes.toList (v.resultList f.resultTypes.size) (s.fn H (ds++gs)).results [])
  (fe:∀sp:Nat->Bool,(∀p∈before,sp p.block=true)->DataW.TrodAll enc P W' 0 sp true f.params.toList args.toList (s.fn H (ds++gs)).args pa)
  (Ua:∀sp:Nat->Bool,(∀p∈before,sp p.block=true)->DataW.TrodVars enc P W' sp s.vars (s.fn H (ds++gs)).vars pv)
  (tI:before=pa++pv) (hb:Go.RowKit.Below W.heap.size W W')
  (jC:∀(j:Nat)(t:TypeId)(r:Value),f.resultTypes[j]?=some t->(v.resultList f.resultTypes.size)[j]?=some r->Value.okWide P W' .any 0 t r) :
  s.post enc P f apart fresh handsOn again W args v W':=by
 have aZ:∀p∈before,p.block<W.heap.size:=λp hp=>hW.lt p hp;have hold:∀p∈before,(λb=>decide (b<W.heap.size)) p.block=true:=λp hp=>by simpa using aZ p hp
 refine⟨ds,gs,before,[],pa,pv,hW,yI _ _ _,fe _ hold,Ua _ hold,World.keptBut_mono (λp hp=>⟨hp,?_⟩) (hb.frame (·∈before)),λ_=>?_⟩
 ·rw[tI,agR] at hp;exact Or.inr hp
 ·obtain⟨_,_,_,_,_,hz,hn⟩:=hW;refine⟨jC,_,_,([]++pa)++pv,⟨[]++pa,pv,trodAll_append (fe _ (λ_ _=>rfl)) (yI _ _ _),Ua _ (λ_ _=>rfl),rfl,?_,?_⟩,?_⟩
  ·intro b off hp;have tL:MemPlace.cell b off∈before:=by rw[tI];simpa using hp
   rw[hb.frozen (aZ _ tL)];exact hz b off tL
  ·intro ha;have:=hn ha;rw[tI] at this;simpa using this
  ·intro p hp _;rw[tI];simpa using hp
theorem yP (hl:laidOutB P=true){W W':World}(hb:Go.RowKit.Below W.heap.size W W'){sp:Nat->Bool}:∀{ts:List TypeId} {vs:List Value} {ds:List (DataW H)} {ps:List MemPlace},DataW.TrodAll enc P W 0 (λ_=>true) true ts vs ds ps->
  (∀t∈ts,P.readableRec t=true/\t<P.types.size)->(∀x∈ps,x.block<W.heap.size)->(∀x∈ps,sp x.block=true)->DataW.TrodAll enc P W' 0 sp true ts vs ds ps:=by
 intro ts
 induction ts with
 |nil=>
  intro vs ds ps h _ _ _;obtain⟨rfl,rfl,rfl⟩:=trodAll_nil h;exact trodAll_mk0
 |cons t ts ih=>
  intro vs ds ps h ht aZ FQ;obtain⟨v0,vs0,d0,ds0,p0,q0,rfl,rfl,rfl,h0,r0⟩:=trodAll_cons h;have h1:=ht t (by simp);exact trodAll_cons_mk (WideElems.Trod_stays hl h1.1 h1.2 h0 (λx hx=>hb.same (aZ x (by simp[hx]))) (λx hx=>FQ x (by simp[hx])))
   (ih r0 (λt' h'=>ht t' (by simp[h'])) (λx hx=>aZ x (by simp[hx])) (λx hx=>FQ x (by simp[hx])))
def Lu {f:Func}{s:ChangeSpec}{apart fresh handsOn again:Bool}{W W':World}{args:Array Value}{ds gs:List (DataW H)}{before:List MemPlace}{tb:TypeId}
  (hW:DataW.Whole enc P f.params.toList s.vars apart W args.toList ds gs before) (hv:s.vars=[]) (XR:s.fn H ds={ results:=[.lit (.bool true)],args:=ds }) (hr:f.resultTypes=#[tb]) (fQ:P.underlying tb=some .bool)
  (hl:laidOutB P=true) (Ct:∀t∈f.params.toList,P.readableRec t=true/\t<P.types.size) (hb:Go.RowKit.Below W.heap.size W W') :
  s.post enc P f apart fresh handsOn again W args (.bool true) W':=by
 have XX:=hW;obtain⟨p,q,hA,hV,rfl,hfz,mM⟩:=hW;rw[hv] at hV;obtain⟨rfl,rfl⟩:=trodVars_none hV;simp only[ag2] at XX;have aZ:∀x∈p,x.block<W.heap.size:=λx hx=>XX.lt x hx;refine yS (pa:=p) (pv:=[]) XX (λb sp hd=>?_) (λsp FQ=>?_) (λsp FQ=>?_) (by simp) hb (ok_one hr rfl (okWide_bool_mk fQ _))
 ·rw[ag2,XR,hr];exact trodAll_cons_mk (shut_bool fQ _) trodAll_mk0
 ·rw[ag2,XR];exact yP hl hb hA Ct aZ FQ
 ·rw[ag2,XR,hv];rfl
end
section
variable {H : Type} {enc : TypeId × Value -> H} {P : Program} {w : World} {b0 base : Nat} {sp : Nat -> Bool} {held : Bool} {t e : TypeId} {v : Value} {d : DataW H} {ps : List MemPlace} {r : Reach}
def Qc {G:List AV->Prop}(ht:P.underlying t=some (.slice e))(hp:0<P.cellsOf e)(he:∀n c y,DataW.trod enc P w base sp held n e c=some y->∃a,G a/\RC w a c)(kS:Value.okWide P w r b0 t v)(h:DataW.Trod enc P w base sp held t v d ps) :
  ∃es:List (List AV),((∀a∈es,G a)/\es.length<=maxLen)/\ba (vL w) 0 [] w (.sl es.length es.flatten .none) v:=by
 obtain⟨a,l,c,rfl⟩:=okWide_slice ht kS;obtain⟨fuel,hf⟩:=h;obtain⟨m,h1,h2,h3⟩:=DA ht hp he hf;exact⟨m,⟨h1,h2⟩,h3.rep⟩
end
section
variable {H : List aA} {T : au} {L : Lay} {w : World}
def cg.adW {n z:Nat}{cs:List AV}(h:cg L (H++[.cells [.sl n cs .full]]) T w)(hz:0<z) :
  cg (L.bt T.length ⟨0,0,0⟩) (H++[.cells [.sl n cs (.own T.length)]]) (T++[(cs.length,z)]) w:=by
 have h1:=h.own cs.length hz;have el:(H++[aA.cells [.sl n cs .full]]).length=(H++[aA.cells [.sl n cs (.own T.length)]]).length:=by simp
 refine⟨λi b hi=>?_,λi j hi hj=>h1.inj i j (by rw[el];exact hi) (by rw[el];exact hj),h1.tok,h1.pg,λt u z' i ht hu hi=>h1.kq t u z' i ht hu (by rw[el];exact hi),h1.mz,h1.gl⟩;rw[<-el];rcases agM i H.length with hl|hl
 ·rw[agK hl] at hi;exact h1.box i b (by rw[agK hl];exact hi)
 ·have iP:=(agC.1 hi).1;have:i=H.length:=by simp at iP;omega
  subst this;rw[IM] at hi;simp at hi;subst hi;obtain⟨c,t,fr,g1,g2,g3,vW,g4,g5⟩:=h.box H.length (.cells [.sl n cs .full]) (by simp);refine⟨c,t,fr,g1,g2,by simpa using g3,vW,λj hj bQ=>?_,g5⟩;have:j=0:=by simp at hj;omega
  subst this;exact(g4 0 (by simp) bQ).own
def Jc {C:Cx}{c:Code}{Q:Exit->St->Prop}{s:St}(z:Nat)(H:List aA)(n:Nat)(cs:List AV)(hz:0<z)(hH:s.H=H++[.cells [.sl n cs .full]])
  (h:AW C c Q ⟨s.e,H++[.cells [.sl n cs (.own s.T.length)]],s.T++[(cs.length,z)]⟩):AW C c Q s:=by
 obtain⟨e,H0,T⟩:=s;simp only at hH h;subst hH;intro L w a hc;have el:(H++[aA.cells [.sl n cs .full]]).length=(H++[aA.cells [.sl n cs (.own T.length)]]).length:=by simp
 have ev:=Ev.own (H:=H++[.cells [.sl n cs .full]]) (T:=T) (L:=L) (w:=w) cs.length z;have ev':=ev.mono hc.nb hc.tb;have ek:cX L (H++[aA.cells [.sl n cs .full]]).length T w (L.bt T.length ⟨0,0,0⟩) (H++[aA.cells [.sl n cs (.own T.length)]]).length (T++[(cs.length,z)]) w:=by
  rw[<-el];exact ev.keeps
 refine wp_mono (h (L.bt T.length ⟨0,0,0⟩) w a ⟨by rw[<-el];exact hc.nb,by simp;have:=hc.tb;simp at this;omega,hc.mO.adW hz,hc.size,hc.defers,λt=>(hc.env t).keep ek⟩) λ_ _ _ k=>
  cO.step (s1:=⟨e,H++[.cells [.sl n cs (.own T.length)]],T++[(cs.length,z)]⟩) (by rw[<-el];exact ev') k
end
section
variable {H : List aA} {T : au} {L : Lay} {w : World}
def cg.adV {n z k:Nat}{cs vs:List AV}(h:cg L (H++[.cells vs]) T w)(hk:vs[k]?=some (.sl n cs .full))(hz:0<z) :
  cg (L.bt T.length ⟨0,0,0⟩) (H++[.cells (vs.set k (.sl n cs (.own T.length)))]) (T++[(cs.length,z)]) w:=by
 have h1:=h.own cs.length hz;have ev:=Ev.own (H:=H++[.cells vs]) (T:=T) (L:=L) (w:=w) cs.length z;have el:(H++[aA.cells vs]).length=(H++[aA.cells (vs.set k (.sl n cs (.own T.length)))]).length:=by simp
 refine⟨λi b hi=>?_,λi j hi hj=>h1.inj i j (by rw[el];exact hi) (by rw[el];exact hj),h1.tok,h1.pg,λt u z' i ht hu hi=>h1.kq t u z' i ht hu (by rw[el];exact hi),h1.mz,h1.gl⟩;rw[<-el];rcases agM i H.length with hl|hl
 ·rw[agK hl] at hi;exact h1.box i b (by rw[agK hl];exact hi)
 ·have iP:=(agC.1 hi).1;have:i=H.length:=by simp at iP;omega
  subst this;rw[IM] at hi;simp at hi;subst hi;obtain⟨c,t,fr,g1,g2,g3,vW,g4,g5⟩:=h.box H.length (.cells vs) (by simp);refine⟨c,t,fr,g1,g2,by simpa using g3,vW,λj hj bQ=>?_,g5⟩
  by_cases e:k=j
  ·subst e;have yy:k<vs.length:=by simpa using hj
   rw[agD yy] at hk;have:=g4 k yy bQ;rw[Option.some.inj hk] at this;rw[List.getElem_set_self];exact this.own
  ·rw[List.getElem_set_ne e];exact(g4 j (by simpa using hj) bQ).keep ev.keeps
def BN {C:Cx}{c:Code}{Q:Exit->St->Prop}{s:St}(z k:Nat)(H:List aA)(vs:List AV)(n:Nat)(cs:List AV)(hz:0<z)(hk:vs[k]?=some (.sl n cs .full))(hH:s.H=H++[.cells vs])
  (h:AW C c Q ⟨s.e,H++[.cells (vs.set k (.sl n cs (.own s.T.length)))],s.T++[(cs.length,z)]⟩):AW C c Q s:=by
 obtain⟨e,H0,T⟩:=s;simp only at hH h;subst hH;intro L w a hc;have el:(H++[aA.cells vs]).length=(H++[aA.cells (vs.set k (.sl n cs (.own T.length)))]).length:=by simp
 have ev:=Ev.own (H:=H++[.cells vs]) (T:=T) (L:=L) (w:=w) cs.length z;have ev':=ev.mono hc.nb hc.tb;have ek:cX L (H++[aA.cells vs]).length T w (L.bt T.length ⟨0,0,0⟩) (H++[aA.cells (vs.set k (.sl n cs (.own T.length)))]).length (T++[(cs.length,z)]) w:=by
  rw[<-el];exact ev.keeps
 refine wp_mono (h (L.bt T.length ⟨0,0,0⟩) w a ⟨by rw[<-el];exact hc.nb,by simp;have:=hc.tb;simp at this;omega,hc.mO.adV hk hz,hc.size,hc.defers,λt=>(hc.env t).keep ek⟩) λ_ _ _ kk=>
  cO.step (s1:=⟨e,H++[.cells (vs.set k (.sl n cs (.own T.length)))],T++[(cs.length,z)]⟩) (by rw[<-el];exact ev') kk
end
def rJ:AV->AV
 |.agg cs=>.agg (cs.map cK)
 |v=>cK v
theorem ba.Qf {L:Lay}{N:Nat}{T:au}{w:World}{cs:List AV}{v:Value}(h:ba L N T w (.agg cs) v):ba L N T w (.agg (cs.map Am.cK)) v:=by
 cases h with
 |agg cs cv h1 h2 hr=>exact .agg _ cv (by simpa using h1) h2 (λj hj bQ=>by
   rw[ahv];exact(hr j (by simpa using hj) bQ).cK)
theorem ba.rJ {L:Lay}{N:Nat}{T:au}{w:World}{v:AV}{c:Value}(h:ba L N T w v c):ba L N T w (rJ v) c:=by
 cases v with
 |agg cs=>exact h.Qf
 |_=>exact h.cK
theorem ar.Gy {P:Program}{f:FuncId}{args:List AV}{H:List aA}{T:au}{rs:List AV}(h:ar P f args H T (λr H' T'=>(∃rH,H'=H++rH)/\(∃rT,T'=T++rT)/\∃vs,r=.df vs/\vs.map Am.rJ=rs))(hb:∀v∈rs,Below H.length T.length v):ar P f args H T (Is (.df rs) H T):=by
 refine⟨h.1,λL w ca hc jJ hr=>(h.2 L w ca hc jJ hr).mono ?_⟩;rintro e w' ⟨r',H',T',L',cv,⟨⟨rH,e1⟩,⟨rT,e2⟩,vs,e3,e4⟩,rfl,cR,dG,dB⟩;subst e1;subst e2;subst e3;refine⟨_,H,T,L',cv,⟨rfl,rfl,rfl⟩,rfl,cg.front P cR hc.jC,?_,dB.front (agE _) (agE _)⟩;have lS:ba L' (H++rH).length (T++rT) w' (.df (vs.map Am.rJ)) cv:=by
  cases dG with
  |df _ cv h1 hr=>
   refine .df _ cv (by simpa using h1) (λj hj bQ=>?_);rw[ahv];exact(hr j (by simpa using hj) bQ).rJ
 rw[e4] at lS;have:=lS.drop (.df _ hb);simpa using this
def ar.Uw {P:Program}{f:FuncId}{args:List AV}{H:List aA}{T:au}{r0:AV}(h:ar P f args H T (λr H' T'=>(∃rH,H'=H++rH)/\(∃rT,T'=T++rT)/\Am.rJ r=r0))(hb:Below H.length T.length r0):ar P f args H T (Is r0 H T):=by
 refine⟨h.1,λL w ca hc jJ hr=>(h.2 L w ca hc jJ hr).mono ?_⟩;rintro e w' ⟨r',H',T',L',cv,⟨⟨rH,e1⟩,⟨rT,e2⟩,e4⟩,rfl,cR,dG,dB⟩;subst e1;subst e2;refine⟨_,H,T,L',cv,⟨rfl,rfl,rfl⟩,rfl,cg.front P cR hc.jC,?_,dB.front (agE _) (agE _)⟩;have lS:=dG.rJ;rw[e4] at lS;have:=lS.drop hb;simpa using this
end Go.Am
