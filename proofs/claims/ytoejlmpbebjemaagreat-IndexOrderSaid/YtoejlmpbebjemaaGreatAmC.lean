/- A scope in which the run jumps back to its first label. Calls with more than one result: what they have made is forgotten. Boxes that are finished become immutable, however deep they lie. Boxes that are finished become immutable; the one they hang on stays a box. A region that draws its order, where two operations with effects may come in either order: both orders are walked. A region that draws its order, whose last operations come behind all others: these are walked as elsewhere. A region that draws its order, in which an alloc may come at any time among operations that change tokens alone; the last operations come behind all others. A region that draws its order, in which one operation with an effect (an append to a box that is held with its capacity) can come out in several ways. Regions that draw their order, in which the operations with an effect stand in a chain, each with several outcomes, and the others have no effect and nothing of the chain ahead of them. From the readings of a law's arguments to abstract values, and from a contract of the machine to the row's post. The arguments of a row, as abstract values. A box whose cell is an empty end gets a token for it: only the abstract state takes the step. A box of several cells, one of which is an empty end, gets a token for it.
  Conditions: as the theorems say. -/
import Derived.Test.YtoejlmpbebjemaaGreatAmA
import Derived.ScopeJumps
import Derived.Test.YtoejlmpbebjemaaGreatAmB
import Derived.WalkKit
import Derived.ProofKit
import Derived.OpenShut
import Derived.JoinedCond
import Derived.Below
import Derived.Carry
import Derived.DataElems
import Derived.ChangeSame
import Derived.ChangeMaps5
import Derived.WideShapes
set_option linter.all false
open Nat (add_comm succ_mul)
open List (append_assoc contains_iff_mem)
namespace Go.Am
open Go
def JZ {C Q s l}(h:Q (.goto l) s):AW C (.goto l) Q s:=λL w a hc=>wp_goto ⟨s,L,h,hc,Ev.refl hc.nb hc.tb⟩
def OE (l:Nat)(J:St->Prop)(Q:Exit->St->Prop):Exit->St->Prop
 |.goto l',s=>l'=l/\J s
 |e,s=>Q e s
@[simp] theorem XZ {l:Nat} {J:St->Prop} {Q:Exit->St->Prop} {s:St}:OE l J Q .ret s=Q .ret s:=rfl
@[simp] theorem Ux {l:Nat} {J:St->Prop} {Q:Exit->St->Prop} {s:St}:OE l J Q .normal s=Q .normal s:=rfl
theorem Eo {p:Nat->Prop}{n:Nat}(h:p n):∃k,p k/\∀m,p m->k<=m:=by
 induction n using Nat.strongRecOn with
 |_ n ih=>
  by_cases hs:∃m,m<n/\p m
  ·obtain⟨m,h1,h2⟩:=hs;exact ih m h1 h2
  ·exact⟨n,h,λm hm=>Nat.le_of_not_lt λhlt=>hs ⟨m,hlt,hm⟩⟩
theorem Q0 {C:Cx}{d:Code}{l:Nat}{Q s}{X:Type}(st:X->St)(I:X->Prop)(μ:X->Nat)(x0:X)(h0:I x0)(hw:ui C s (st x0))
  (pass:∀x,I x->AW C d (OE l (λs'=>∃x',I x'/\μ x'<μ x/\ui C s' (st x')) Q) (st x)):AW C (.scope (.seq (.label l) d)) Q s:=by
 refine aH (st x0) hw ?_;intro L w a hc
 let J:Nat->Act->World->Prop:=λn a' w'=>∃x L',I x/\eQ C (st x) L' w' a'/\Ev C.nb C.tb L (st x0).H.length (st x0).T w L' (st x).H.length (st x).T w'/\μ x=n
 have hd:∀n a1 w1,J n a1 w1->d.wp C.P (Exit.jump l (λa' w'=>∃m,m<n/\J m a' w') (cL C Q L (st x0) w)) a1 w1:=by
  rintro n a1 w1 ⟨x,L1,hI,yO,dD,rfl⟩;refine wp_mono (pass x hI L1 w1 a1 yO) λe a' w' ⟨s',L',q,c',ev⟩=>?_
  cases e with
  |goto l'=>
   obtain⟨rfl,x',hI',hlt,Yo⟩:=q;exact⟨rfl,μ x',hlt,x',L',hI',Yo.mV c',(dD.trans ev).trans Yo.ev,rfl⟩
  |_=>exact⟨s',L',q,c',dD.trans ev⟩
 have hJ0:J (μ x0) a w:=⟨x0,L,h0,hc,Ev.refl hc.nb hc.tb,rfl⟩
 have h1:∀n a1 w1,J n a1 w1->d.wp C.P (Exit.jump l (λa' w'=>∃n,J n a' w') (cL C Q L (st x0) w)) a1 w1:=λn a1 w1 hn=>
  wp_mono (hd n a1 w1 hn) λe a' w' q=>by
   cases e with
   |goto l'=>exact⟨q.1,q.2.elim λm hm=>⟨m,hm.2⟩⟩
   |_=>exact q
 refine wp_scope_jumps l (λa w=>∃n,J n a w) (λa w=>Classical.epsilon λn=>J n a w/\∀m,J m a w->n<=m) (rest:=.seq .skip d) (by simp[findLabel]) ?_ ?_
 ·exact wp_seq (wp_label (h1 _ a w hJ0))
 ·intro a1 w1 ⟨n,hn⟩;obtain⟨hk,ae0⟩:=Classical.epsilon_spec (Eo (p:=λn=>J n a1 w1) hn);refine wp_seq (wp_skip (wp_mono (hd _ a1 w1 hk) λe a' w' q=>?_))
  cases e with
  |goto l'=>
   obtain⟨rfl,m,hlt,hm⟩:=q;refine⟨rfl,⟨m,hm⟩,?_⟩;obtain⟨_,Ou⟩:=Classical.epsilon_spec (Eo (p:=λn=>J n a' w') hm);exact ajH (Ou m hm) hlt
  |_=>exact q
section
variable {P : Program} {f : FuncId} {args : List AV} {H : List az} {T : au}
end
inductive gj (n0 t0:Nat) (H:List az):AV->AV->Prop
 |keep {v v':AV} (h:v'=v\/v'=cG v) (hb:Below n0 t0 v'):gj n0 t0 H v v'
 |top (v:AV):gj n0 t0 H v .top
 |cK {i o n:Nat} {vs cs:List AV} (hi:n0<=i) (hH:H[i]?=some (.cells vs)) (hl:o+cs.length<=vs.length) (hc:∀(j:Nat)(h:j<cs.length),gj n0 t0 H (vs.getD (o+j) .top) (cs[j]'h)):gj n0 t0 H (.cK i o n) (.sl n cs .none)
 |bG {i n cap:Nat} {vs cs:List AV} (hi:n0<=i) (hH:H[i]?=some (.cells vs)) (hl:cs.length<=vs.length) (hc:∀(j:Nat)(h:j<cs.length),gj n0 t0 H (vs.getD j .top) (cs[j]'h)):gj n0 t0 H (.bG i n cap) (.sl n cs .none)
 |ZI {i n:Nat} {vs cs:List AV} (hi:n0<=i) (hH:H[i]?=some (.cells vs)) (hl:cs.length<=vs.length) (hc:∀(j:Nat)(h:j<cs.length),gj n0 t0 H (vs.getD j .top) (cs[j]'h)):gj n0 t0 H (.bG i n n) (.sl n cs .full)
 |slT {n t:Nat} {cs cs':List AV} (hl:cs'.length=cs.length) (ht:t<t0) (hc:∀(j:Nat)(h:j<cs'.length),gj n0 t0 H (cs.getD j .top) (cs'[j]'h)):gj n0 t0 H (.sl n cs (.own t)) (.sl n cs' (.own t))
 |ptr {i o:Nat} {vs cs:List AV} (hi:n0<=i) (hH:H[i]?=some (.cells vs)) (hl:cs.length<=vs.length) (hc:∀(j:Nat)(h:j<cs.length),gj n0 t0 H (vs.getD j .top) (cs[j]'h)):gj n0 t0 H (.ptr i o) (.eh cs o)
 |sl {n:Nat} {cs cs':List AV} {tg:Tag} (hl:cs'.length=cs.length) (hc:∀(j:Nat)(h:j<cs'.length),gj n0 t0 H (cs.getD j .top) (cs'[j]'h)):gj n0 t0 H (.sl n cs tg) (.sl n cs' .none)
 |agg {cs cs':List AV} (hl:cs'.length=cs.length) (hc:∀(j:Nat)(h:j<cs'.length),gj n0 t0 H (cs.getD j .top) (cs'[j]'h)):gj n0 t0 H (.agg cs) (.agg cs')
 |df {cs cs':List AV} (hl:cs'.length=cs.length) (hc:∀(j:Nat)(h:j<cs'.length),gj n0 t0 H (cs.getD j .top) (cs'[j]'h)):gj n0 t0 H (.df cs) (.df cs')
open Classical in
noncomputable def Lay.pn (L:Lay)(n0 n:Nat)(w:World):Lay:=
 { L with m:=λb=>if ∃i,n0<=i/\i<n/\L.bO i=b then max (L.m b) (match w.heap[b]? with|some (.cells c _ _)=>c.size|_=>0) else L.m b }
section
variable {L : Lay} {H : List az} {T : au} {w : World} {n0 t0 : Nat}
open Classical in
def oB (L:Lay)(n0 n:Nat)(w:World)(b:Nat):L.m b<=(L.pn n0 n w).m b:=by
 show L.m b<=if _ then _ else _
 split
 ·exact Nat.le_max_left _ _
 ·exact ahj _
theorem cX.pn {m:Nat}(N:Nat)(T:au):cX L N T w (L.pn n0 m w) N T w:=by
 exact⟨ahj _,λ_ _=>rfl,λt u z h=>⟨u,h,ahj _,λ_=>rfl⟩,λb=>oB L n0 m w b,λ_ _ _=>rfl,rfl⟩
open Classical in
theorem bW.pn (h:bW L H T w)(hn:n0<=H.length)(hf:bW L (H.take n0) (T.take t0) w):bW (L.pn n0 H.length w) (H.take n0) (T.take t0) w:=by
 have hlen:(H.take n0).length=n0:=by rw[ahJ];omega
 have ne:∀b,(¬∃i,n0<=i/\i<H.length/\L.bO i=b)->(L.pn n0 H.length w).m b=L.m b:=λb hb=>ahq hb;have XP:∀(t:Nat)(x:Nat×Nat),(T.take t0)[t]?=some x->T[t]?=some x:=by
  intro t x hx;rw[ah9] at hx
  split at hx
  ·exact hx
  ·cases hx
 have Sf:∀i,i<n0->¬∃j,n0<=j/\j<H.length/\L.bO j=L.bO i:=by
  rintro i hi ⟨j,h1,h2,e⟩;have:=h.inj j i h2 (by omega) e;omega
 have Wa:∀t u z,T[t]?=some (u,z)->u<(L.ew t).c*z->¬∃j,n0<=j/\j<H.length/\L.bO j=(L.ew t).b:=by
  rintro t u z ht hs ⟨j,h1,h2,e⟩;exact h.kD t u z j ht hs h2 e.symm
 refine⟨λi x hx=>?_,hf.inj,λt u z ht=>?_,hf.po,hf.kD,λx hx=>?_,h.gl.keep (λb=>oB L n0 H.length w b) (λ_ _ _=>rfl)⟩
 ·have hi:=(ahh.1 hx).1;refine(hf.box i x hx).stay (cX.pn _ _) hi rfl λh5=>?_;rw[ne _ (Sf i (by omega))];exact h5
 ·obtain⟨h1,h2⟩:=hf.tok t u z ht;refine⟨h1,λhs=>?_⟩;obtain⟨c,e,fr,g1,g2,g3,g4⟩:=h2 hs;exact⟨c,e,fr,g1,g2,g3,by rw[show ((L.pn n0 H.length w).ew t).b=(L.ew t).b from rfl,ne _ (Wa t u z (XP t _ ht) hs)];exact g4⟩
 ·rw[ne _ (fun⟨j,h1,h2,e⟩=>by have:=h.me h2;omega)];exact h.mz x hx
open Classical in
theorem gj.rep (h:bW L H T w)(hn:n0<=H.length){v v':AV}(k:gj n0 t0 H v v'):∀c,aY L H.length T w v c->aY (L.pn n0 H.length w) n0 (T.take t0) w v' c:=by
 have size:∀(i:Nat)(c:Array Value)(t:TypeId)(fr:Nat×Nat),n0<=i->i<H.length->w.heap[L.bO i]?=some (.cells c t fr)->c.size<=(L.pn n0 H.length w).m (L.bO i):=by
  intro i c t fr h1 h2 hh;show _<=if _ then _ else _
  rw[ahs ⟨i,h1,h2,rfl⟩,hh];exact Nat.le_max_right _ _
 have row:∀(i o:Nat)(vs cs:List AV),n0<=i->H[i]?=some (.cells vs)->o+cs.length<=vs.length->(∀(j:Nat)(h:j<cs.length)(c:Value),aY L H.length T w (vs.getD (o+j) .top) c->aY (L.pn n0 H.length w) n0 (T.take t0) w (cs[j]'h) c)->
   ∃cv,o+cs.length<=(L.pn n0 H.length w).m (L.bO i)/\cF (L.pn n0 H.length w) n0 (T.take t0) w cs cv/\∀j,j<cs.length->w.cell? ⟨L.bO i,o+j,none⟩=cv[j]?:=by
  intro i o vs cs hi hH hl ih;obtain⟨c,t,fr,g1,g2,g3,wg,g4,g5⟩:=h.box i _ hH;have hiH:=(ahh.1 hH).1;have hs:=size i c t fr hi hiH g1;refine⟨(c.toList.drop o).take cs.length,by omega,⟨by simp;omega,λj hj=>?_,λj hj hj'=>?_⟩,λj hj=>?_⟩
  ·have u9:o+j<c.size:=by simp at hj;omega
   have:=wg (o+j) u9;rw[ajy,List.getElem_drop,aif];exact this
  ·have u9:o+j<c.size:=by omega
   have:=g4 (o+j) (by omega) u9;rw[ajy,List.getElem_drop,aif];refine ih j hj _ ?_;rw[ahg,ahi (by omega)];exact this
  ·rw[gE g1,ah9,ahs hj,aiX];simp
 induction k with
 |keep hv hb=>
  rename_i v v';intro c hr;have h1:aY L H.length T w v' c:=by
   rcases hv with rfl|rfl
   ·exact hr
   ·exact hr.cG
  exact(h1.drop hb).keep (cX.pn _ _)
 |top v=>intro c _;exact .top _
 |cK hi hH hl hc ih=>
  intro c hr;obtain⟨cap,rfl,hcap,hlt⟩:=hr.j6;obtain⟨cv,h1,h2,h3⟩:=row _ _ _ _ hi hH hl ih;exact aY.mM hcap h1 h2 h3 trivial
 |bG hi hH hl hc ih=>
  intro c hr;obtain⟨rfl,hcap,hlt⟩:=hr.iv;obtain⟨cv,h1,h2,h3⟩:=row _ 0 _ _ hi hH (by omega) (λj hj c jt=>ih j hj c (by rwa [aiv] at jt));exact aY.mM hcap h1 h2 h3 trivial
 |ZI hi hH hl hc ih=>
  intro c hr;obtain⟨rfl,hcap,hlt⟩:=hr.iv;obtain⟨cv,h1,h2,h3⟩:=row _ 0 _ _ hi hH (by omega) (λj hj c jt=>ih j hj c (by rwa [aiv] at jt));exact aY.mM hcap h1 h2 h3 rfl
 |slT hl ht hc ih=>
  rename_i n t cs cs';intro c hr;obtain⟨a,cap,rfl,hcap,htg,tW⟩:=hr.fM;have Wh:lY (L.pn n0 H.length w) (T.take t0) (.own t) n cs'.length a cap:=by
   obtain⟨u0,z,g0,g1,g2⟩:=htg;exact⟨u0,z,by rw[ah9,ahs ht];exact g0,by omega,λe=>g2 (by omega)⟩
  rcases tW with⟨e1,e2⟩|⟨b,base,cv,e1,h1,h2,h3⟩
  ·subst e1;subst e2;have:cs'=[]:=ahT hl;subst this;exact .zj (.own t) a cap Wh
  ·subst e1;refine aY.mM (cv:=cv) hcap (by rw[hl];exact aho h1 (oB _ _ _ _ _)) ⟨by rw[hl];exact h2.1,h2.2.1,λj hj hj'=>ih j hj _ ?_⟩ (λj hj=>h3 j (by omega)) Wh;have:=h2.2.2 j (by omega) hj';rw[ahg,ahi (by omega)];exact this
 |ptr hi hH hl hc ih=>
  rename_i i o vs cs;intro c hr;obtain⟨rfl,hlt⟩:=hr.oF;obtain⟨cv,h1,h2,h3⟩:=row _ 0 _ _ hi hH (by omega) (λj hj c jt=>ih j hj c (by rwa [aiv] at jt));have:=aY.eh (L:=L.pn n0 H.length w) (N:=n0) (T:=T.take t0) (w:=w) cs o (L.bO i) 0 (λj=>cv.getD j undef) h1 (λj hj=>?_) (λj hj=>?_) (λj hj=>?_)
  ·rwa [aiv] at this
  ·have hj':j<cv.length:=by rw[h2.1];exact hj
   rw[h3 j hj];simp[hj']
  ·have hj':j<cv.length:=by rw[h2.1];exact hj
   simpa[hj'] using h2.2.1 j hj'
  ·have hj':j<cv.length:=by rw[h2.1];exact hj
   simpa[hj'] using h2.2.2 j hj hj'
 |sl hl hc ih=>
  rename_i n cs cs' tg;intro c hr;obtain⟨a,cap,rfl,hcap,ht,tW⟩:=hr.fM;rcases tW with⟨e1,e2⟩|⟨b,base,cv,e1,h1,h2,h3⟩
  ·subst e1;subst e2;have:cs'=[]:=ahT hl;subst this;exact .zj .none a cap trivial
  ·subst e1;refine aY.mM (cv:=cv) hcap (by rw[hl];exact aho h1 (oB _ _ _ _ _)) ⟨by rw[hl];exact h2.1,h2.2.1,λj hj hj'=>ih j hj _ ?_⟩ (λj hj=>h3 j (by omega)) trivial;have:=h2.2.2 j (by omega) hj';rw[ahg,ahi (by omega)];exact this
 |agg hl hc ih=>
  rename_i cs cs';intro c hr
  cases hr with
  |agg _ cv h1 h2 h3=>
   refine .agg _ _ (by omega) h2 λj hj hj'=>ih j hj _ ?_;have:=h3 j (by omega) hj';rw[ahg,ahi (by omega)];exact this
 |df hl hc ih=>
  rename_i cs cs';intro c hr
  cases hr with
  |df _ cv h1 h3=>
   refine .df _ _ (by omega) λj hj hj'=>ih j hj _ ?_;have:=h3 j (by omega) hj';rw[ahg,ahi (by omega)];exact this
end
section
variable {P : Program} {f : FuncId} {args : List AV} {H : List az} {T : au}
def ar.afy {r0:AV}(H1:List az)(T1:au)(hl:H.length<=H1.length)(ht:T.length<=T1.length)(ho:bJ H T->bJ H1 T1)
  (h:ar P f args H T (λr H' T'=>(∃G,H'=H1++G)/\(∃rT,T'=T1++rT)/\gj H1.length T1.length H' r r0)):ar P f args H T (Is r0 H1 T1):=by
 refine⟨h.1,λL w ca hc jR hr=>(h.2 L w ca hc jR hr).mono ?_⟩;rintro e w' ⟨r',H',T',L',cv,⟨⟨G,e1⟩,⟨rT,e2⟩,e3⟩,rfl,cO,dI,dD⟩;subst e1;subst e2;have hf:bW L' H1 T1 w':=bW.front P cO (ho hc.jK);have hn:H1.length<=(H1++G).length:=by rw[ahk];omega
 have hc2:=cO.pn (n0:=H1.length) (t0:=T1.length) hn (by rw[aij,aij]<;>first|exact hf|rfl);have oS:=e3.rep cO hn _ dI;rw[aij rfl,aij rfl] at hc2;rw[aij rfl] at oS;have e1:=dD.front hl ht;exact⟨_,H1,T1,_,cv,⟨rfl,rfl,rfl⟩,rfl,hc2,oS,⟨e1.n,e1.bO,e1.tok,e1.t,λb=>aho (e1.m b) (oB _ _ _ _ _),e1.tS,e1.size,e1.frame,e1.wr,e1.os,e1.tape,e1.output,e1.drawn,e1.dr⟩⟩
def ar.pn {r0:AV}(h:ar P f args H T (λr H' T'=>(∃G,H'=H++G)/\(∃rT,T'=T++rT)/\gj H.length T.length H' r r0)):ar P f args H T (Is r0 H T):=
 ar.afy H T (ahj _) (ahj _) id h
def OA (n0 t0:Nat)(H:List az)(e:Env):Env->Prop
 |[]=>True
 |(s,v)::r=>gj n0 t0 H (bE e s) v/\OA n0 t0 H e r
theorem MJ {n0 t0:Nat}{H:List az}{e:Env}:∀{e':Env},OA n0 t0 H e e'->∀s,gj n0 t0 H (bE e s) (bE e' s):=by
 intro e'
 induction e' with
 |nil=>intro _ s;exact .top _
 |cons x r ih=>
  obtain⟨s0,v⟩:=x;intro h s
  by_cases hs:s0=s
  ·subst hs;simp only[bE,ai1];exact h.1
  ·simp only[bE,ahq hs];exact ih h.2 s
def Pb {C:Cx}{c:Code}{Q:Exit->St->Prop}{e e':Env}{G:List az}{rT:au}(gG:C.nb<=H.length)(fY:C.tb<=T.length)(ho:bJ H T)
  (he:OA H.length T.length (H++G) e e') (h:AW C c Q ⟨e',H,T⟩):AW C c Q ⟨e,H++G,T++rT⟩:=λL w a hc=>by
 have hf:bW L H T w:=bW.front C.P hc.mV ho;have hn:H.length<=(H++G).length:=by rw[ahk];omega
 have hc2:=hc.mV.pn (n0:=H.length) (t0:=T.length) hn (by rw[aij,aij]<;>first|exact hf|rfl);rw[aij rfl,aij rfl] at hc2;have e0:Ev C.nb C.tb L (H++G).length (T++rT) w L (H++G).length (T++rT) w:=Ev.refl hc.nb hc.tb;have e1:=e0.front gG fY;have e2:Ev C.nb C.tb L (H++G).length (T++rT) w (L.pn H.length (H++G).length w) H.length T w:=⟨e1.n,e1.bO,e1.tok,e1.t,λb=>oB _ _ _ _ _,e1.tS,e1.size,e1.frame,e1.wr,e1.os,e1.tape,e1.output,e1.drawn,e1.dr⟩
 refine wp_mono (h (L.pn H.length (H++G).length w) w a ⟨gG,fY,hc2,hc.size,hc.defers,λt=>?_⟩) λ_ _ _ k=>cL.step (s1:=⟨e',H,T⟩) e2 k;have:=(MJ he t).rep hc.mV hn _ (hc.env t)
 rwa [aij rfl] at this
def dA {C:Cx}{c:Code}{Q:Exit->St->Prop}{s:St}(h:bJ s.H s.T->AW C c Q s):AW C c Q s:=λL w a hc=>h hc.mV.jK L w a hc
end
section
variable {n0 t0 : Nat} {H : List az}
def gj.same {v:AV}(hb:Below n0 t0 v):gj n0 t0 H v v:=.keep (.inl rfl) hb
def gj.all {cs:List AV}(hb:aK n0 t0 cs)(rest:List AV):∀(j:Nat)(h:j<cs.length),gj n0 t0 H ((cs++rest).getD j .top) (cs[j]'h):=λj h=>by
 rw[ahg,ahp h,ahi h];exact .same (hb _ (ahP h))
def gj.NT {i n:Nat}{cs rest:List AV}(hi:n0<=i)(hH:H[i]?=some (.cells (cs++rest)))(hb:aK n0 t0 cs):gj n0 t0 H (.cK i 0 n) (.sl n cs .none):=
 .cK hi hH (by rw[ahk];omega) λj h=>by rw[aiv];exact gj.all hb rest j h
def gj.ZJ {i n cap:Nat}{cs rest:List AV}(hi:n0<=i)(hH:H[i]?=some (.cells (cs++rest)))(hb:aK n0 t0 cs):gj n0 t0 H (.bG i n cap) (.sl n cs .none):=
 .bG hi hH (by rw[ahk];omega) (gj.all hb rest)
theorem gj.pair {a b a' b':AV}(h1:gj n0 t0 H a a')(h2:gj n0 t0 H b b'):gj n0 t0 H (.df [a,b]) (.df [a',b']):=
 .df rfl λj h=>by
  match j,h with
  |0,_=>exact h1
  |1,_=>exact h2
end
section
variable {L : Lay} {Hb G : List az} {T1 rT : au} {w : World} {vs vs' : List AV}
def bW.Oz (h:bW L (Hb++az.cells vs::G) (T1++rT) w)(hf:bW L Hb T1 w)(hl:vs'.length=vs.length)
  (hv:∀(j:Nat)(hj:j<vs'.length),gj (Hb.length+1) T1.length (Hb++az.cells vs::G) (vs.getD j .top) (vs'[j]'hj)):bW (L.pn (Hb.length+1) (Hb++az.cells vs::G).length w) (Hb++[az.cells vs']) T1 w:=by
 have hlen:(Hb++az.cells vs::G).length=Hb.length+1+G.length:=by simp;omega
 have hn:Hb.length+1<=(Hb++az.cells vs::G).length:=by omega
 have ne:∀b,(¬∃i,Hb.length+1<=i/\i<(Hb++az.cells vs::G).length/\L.bO i=b)->(L.pn (Hb.length+1) (Hb++az.cells vs::G).length w).m b=L.m b:=λb hb=>ahq hb;have Sf:∀i,i<Hb.length+1->¬∃j,Hb.length+1<=j/\j<(Hb++az.cells vs::G).length/\L.bO j=L.bO i:=by
  rintro i hi ⟨j,h1,h2,e⟩;have:=h.inj j i h2 (by omega) e;omega
 have XP:∀(t:Nat)(x:Nat×Nat),T1[t]?=some x->(T1++rT)[t]?=some x:=λt x hx=>by
  rw[ahp ((ahh.1 hx).1)];exact hx
 have Wa:∀t u z,(T1++rT)[t]?=some (u,z)->u<(L.ew t).c*z->¬∃j,Hb.length+1<=j/\j<(Hb++az.cells vs::G).length/\L.bO j=(L.ew t).b:=by
  rintro t u z ht hs ⟨j,h1,h2,e⟩;exact h.kD t u z j ht hs h2 e.symm
 have hT1:(T1++rT).take T1.length=T1:=by simp
 have hk:cX L Hb.length T1 w (L.pn (Hb.length+1) (Hb++az.cells vs::G).length w) (Hb++[az.cells vs']).length T1 w:=
  ⟨by simp,λ_ _=>rfl,λt u z h=>⟨u,h,ahj _,λ_=>rfl⟩,λb=>oB L _ _ w b,λ_ _ _=>rfl,rfl⟩
 have u7:(Hb++[az.cells vs']).length=Hb.length+1:=by simp
 refine⟨λi x hx=>?_,λi j hi hj=>h.inj i j (by omega) (by omega),λt u z ht=>?_,hf.po,λt u z i ht hs hi=>h.kD t u z i (XP t _ ht) hs (by omega),λx hx=>?_,h.gl.keep (λb=>oB L _ _ w b) (λ_ _ _=>rfl)⟩
 ·have hi:=(ahh.1 hx).1;rcases ahr i Hb.length with h1|h1
  ·rw[ahp h1] at hx;refine(hf.box i x hx).stay hk h1 rfl λh5=>?_;rw[ne _ (Sf i (by omega))];exact h5
  ·have hi2:i=Hb.length:=by omega
   subst hi2;rw[ahC (ahj _),aiH] at hx;simp only[aj0,Option.some.injEq] at hx;subst hx;obtain⟨c,t,fr,g1,g2,g3,wg,g4,g5⟩:=h.box Hb.length (.cells vs) (by rw[ahC (ahj _),aiH];rfl);refine⟨c,t,fr,g1,g2,by omega,wg,λj hj hj'=>?_,by rw[show (L.pn (Hb.length+1) (Hb++az.cells vs::G).length w).bO Hb.length=L.bO Hb.length from rfl,ne _ (Sf Hb.length (by omega))];exact g5⟩;have:=(hv j hj).rep h hn (c[j]'hj') (by
    have:=g4 j (by omega) hj';rw[ahg,ahi (by omega)];exact this)
   rw[hT1] at this;rw[u7];exact this
 ·obtain⟨h1,h2⟩:=hf.tok t u z ht;refine⟨h1,λhs=>?_⟩;obtain⟨c,e,fr,g1,g2,g3,g4⟩:=h2 hs;exact⟨c,e,fr,g1,g2,g3,by rw[show ((L.pn (Hb.length+1) (Hb++az.cells vs::G).length w).ew t).b=(L.ew t).b from rfl,ne _ (Wa t u z (XP t _ ht) hs)];exact g4⟩
 ·rw[ne _ (fun⟨j,h1,h2,e⟩=>by have:=h.me h2;omega)];exact h.mz x hx
end
section
variable {P : Program} {f : FuncId} {args : List AV} {H : List az} {T : au}
theorem ar.Oz {n cap:Nat}{vs':List AV}(H1:List az)(hl:H.length<=H1.length)(ho:bJ H T->bJ H1 T)
  (h:ar P f args H T (λr H' T'=>∃vs G,H'=H1++az.cells vs::G/\(∃rT,T'=T++rT)/\vs'.length=vs.length/\(∀(j:Nat)(hj:j<vs'.length),gj (H1.length+1) T.length H' (vs.getD j .top) (vs'[j]'hj))/\r=.bG H1.length n cap)) :
  ar P f args H T (Is (.bG H1.length n cap) (H1++[.cells vs']) T):=by
 refine⟨h.1,λL w ca hc jR hr=>(h.2 L w ca hc jR hr).mono ?_⟩;rintro e w' ⟨r',H',T',L',cv,⟨vs,G,e1,⟨rT,e2⟩,e3,e4,e5⟩,rfl,cO,dI,dD⟩;subst e1;subst e2;subst e5;have hf:bW L' H1 T w':=bW.front P cO (ho hc.jK);have hc2:=cO.Oz hf e3 e4;have zC:Ev H.length T.length L H.length T w L' H1.length T w':=Ev.front (rH:=az.cells vs::G) (rT:=rT) dD hl (ahj _);obtain⟨rfl,hcap,hlt⟩:=dI.iv;refine⟨_,H1++[.cells vs'],T,L'.pn (H1.length+1) (H1++az.cells vs::G).length w',_,⟨rfl,rfl,rfl⟩,rfl,hc2,.bG H1.length n cap (by simp) hcap,⟨?_,zC.bO,zC.tok,zC.t,λb=>aho (zC.m b) (oB _ _ _ _ _),zC.tS,zC.size,zC.frame,?_,zC.os,zC.tape,zC.output,zC.drawn,zC.dr⟩⟩
 ·rw[ahk];exact aho zC.n (Nat.le_add_right _ _)
 ·intro b hb;refine dD.wr b ?_;rcases hb with⟨i,hi,e⟩|⟨t,u,z,ht,hu,e⟩
  ·refine .inl ⟨i,?_,e⟩;rw[ahk] at hi ⊢;simp only[ahS,aiB] at hi ⊢;omega
  ·exact .inr ⟨t,u,z,by rw[ahp ((ahh.1 ht).1)];exact ht,hu,e⟩
end
def sU:Op->Bool
 |.move _|.assign _|.alloc _|.build _ _|.buildSlice _ _ _|.load _ _|.store _ _ _|.binOp _ _ _ _ _|.fieldAddr _ _ _|.indexAddr _ _ _|.index _ _ _|.convert ..|.slice ..|.extract ..|.unOp ..=>true
 |_=>false
def GV:Result Next->Prop
 |.ok (.value _) _=>True
 |.ok .skip _=>True
 |.ok _ _=>False
 |.halt _ _=>True
theorem Li {P:Program}{o:Oper}(h:sU o.op=true)(ρ:Operand->Value)(w:World):GV ((execOp ρ o).run P w):=by
 obtain⟨dst,op,type,pos,after,guard⟩:=o;have hv:∀s:Sem Value,GV ((do pure (Next.value (<-s)):Sem Next).run P w):=λs=>by
  simp only[Sem.run_bind]
  cases s.run P w with
  |ok x w'=>exact trivial
  |halt x w'=>exact trivial
 have hu:∀s:Sem Unit,GV ((do s;pure Next.skip:Sem Next).run P w):=λs=>by
  simp only[Sem.run_bind]
  cases s.run P w with
  |ok x w'=>exact trivial
  |halt x w'=>exact trivial
 cases op<;>first
  |exact trivial
  |exact hv _
  |exact hu _
  |(revert h;simp[sU];done)
theorem S7 {P:Program}{o:Oper}{a:Act}{w:World}{K1 K2:Act->World->Prop}{Q:Exit->Act->World->Prop}(hs:sU o.op=true)(h1:o.wp P a w K1 Q)(h2:o.wp P a w K2 Q):o.wp P a w (λa w=>K1 a w/\K2 a w) Q:=by
 have hr:=Li (P:=P) hs a.eval w;unfold Oper.wp at *;generalize (execOp a.eval o).run P w=r at *
 cases r with
 |ok n w'=>cases n<;>first
  |exact⟨h1,h2⟩
  |exact hr.elim
 |halt x w'=>cases x<;>exact h1
section
variable {P : Program} {Q : Exit -> Act -> World -> Prop}
def Ka (x y:List Oper):Prop:=∀i:Nat,(y[i]?).map (λo=>(o.dst,o.op,o.type,o.guard))=(x[i]?).map (λo=>(o.dst,o.op,o.type,o.guard))
def MC {o o':Oper}(h1:o'.op=o.op)(h2:o'.type=o.type)(ρ:Operand->Value):execOp ρ o'=execOp ρ o:=by
 obtain⟨dst,op,type,pos,after,guard⟩:=o;obtain⟨ahf,op',agF,pos',agA,agc⟩:=o';simp only at h1 h2;subst h1;subst h2;rfl
theorem Al {o o':Oper}(h0:o'.dst=o.dst)(h1:o'.op=o.op)(h2:o'.type=o.type)(a:Act)(w:World)(K:Act->World->Prop):(o'.wp P a w K Q↔o.wp P a w K Q)/\(o'.asks P a w↔o.asks P a w):=by
 have he:=MC h1 h2 a.eval
 constructor
 ·unfold Oper.wp;rw[he];generalize (execOp a.eval o).run P w=r
  cases r with
  |ok n w'=>cases n<;>simp only[Oper.upon,h0]
  |halt x w'=>cases x<;>rfl
 ·unfold Oper.asks;rw[he]
theorem sW {x y:List Oper}(h:Ka x y){i:Nat}{K:Act->World->Prop}{a:Act}{w:World}(hh:wpOp P y.toArray Q i K a w):wpOp P x.toArray Q i K a w:=by
 unfold wpOp at *;rw[ahD] at *;have hi:=h i;have hy:∀t j,yielded y.toArray t j=yielded x.toArray t j:=λt j=>by
  unfold yielded;rw[ahD,ahD];have hj:=h j;have:(y[j]?).bind (·.dst)=(x[j]?).bind (·.dst):=by
   cases hx:x[j]? with
   |none=>rw[hx] at hj;cases hyj:y[j]? with
    |none=>rfl
    |some o'=>rw[hyj] at hj;cases hj
   |some o=>rw[hx] at hj;cases hyj:y[j]? with
    |none=>rw[hyj] at hj;cases hj
    |some o'=>rw[hyj] at hj;simp only[ai4,Option.some.injEq,Prod.mk.injEq] at hj;exact hj.1
  rw[this]
 cases hx:x[i]? with
 |none=>
  rw[hx] at hi
  cases Yk:y[i]? with
  |none=>rw[Yk] at hh;exact hh
  |some o'=>rw[Yk] at hi;cases hi
 |some o=>
  rw[hx] at hi
  cases Yk:y[i]? with
  |none=>rw[Yk] at hi;cases hi
  |some o'=>
   rw[Yk] at hi hh;simp only[ai4,Option.some.injEq,Prod.mk.injEq] at hi;obtain⟨e0,e1,e2,e3⟩:=hi
   dsimp only at hh ⊢
   have hw:Region.wanted o' (yielded y.toArray a.tmps)=Region.wanted o (yielded x.toArray a.tmps):=by
    unfold Region.wanted;rw[e3]
    cases o.guard with
    |none=>rfl
    |some g=>simp only[hy]
   rw[hw] at hh;obtain⟨g1,g2⟩:=Al (P:=P) (Q:=Q) e0 e1 e2 a w K
   split at hh
   ·rename_i CB;rw[ahs CB];rw[g1,g2] at hh;exact hh
   ·rename_i CB;rw[ahq CB];rw[e0] at hh;exact hh
def iJ (ops:List Oper)(b a:Nat):List Oper:=ops.modify b λo=>{ o with after:=o.after.push { on:=a,ground:=.data } }
def Ff (ops:List Oper)(b a i:Nat):(iJ ops b a)[i]?=if b=i then (ops[i]?).map (λo=>{ o with after:=o.after.push { on:=a,ground:=.data } }) else ops[i]?:=by
 rw[iJ,List.getElem?_modify]
 split
 ·rfl
 ·cases ops[i]?<;>rfl
def og (ops:List Oper)(b a:Nat):Ka ops (iJ ops b a):=by
 intro i;rw[Ff]
 split
 ·cases ops[i]?<;>rfl
 ·rfl
theorem ig {ops:List Oper}{a b i:Nat}{listed:Array Bool}:i∈Region.ready .any (iJ ops b a).toArray listed↔i∈Region.ready .any ops.toArray listed/\(i=b->listed.getD a false=true):=by
 rw[mem_ready,mem_ready,ahD,ahD,Ff]
 by_cases hb:b=i
 ·subst hb;rw[ahs rfl]
  cases ops[b]? with
  |none=>simp
  |some o=>
   simp only[ai4,Option.some.injEq,exists_eq_left',Array.mem_push,true_imp_iff]
   constructor
   ·rintro⟨h1,h2⟩;exact⟨⟨h1,λe he hb=>h2 e (.inl he) hb⟩,h2 ⟨a,.data⟩ (.inr rfl) rfl⟩
   ·rintro⟨⟨h1,h2⟩,h3⟩;refine⟨h1,λe he hb=>?_⟩;rcases he with he|rfl
    ·exact h2 e he hb
    ·exact h3
 ·rw[ahq hb];simp[Ne.symm hb]
theorem A6 {ops:List Oper}{a b:Nat}:∀(fuel:Nat)(listed:Array Bool)(s:Act)(w:World),listed.getD a false=true->wpAny P .any (iJ ops b a).toArray Q fuel listed s w->wpAny P .any ops.toArray Q fuel listed s w:=by
 intro fuel;have hr:∀listed:Array Bool,listed.getD a false=true->Region.ready .any (iJ ops b a).toArray listed=Region.ready .any ops.toArray listed:=λlisted hl=>by
  have:∀i,i∈Region.ready .any (iJ ops b a).toArray listed↔i∈Region.ready .any ops.toArray listed:=λi=>by rw[ig];exact⟨λh=>h.1,λh=>⟨h,λ_=>hl⟩⟩
  unfold Region.ready at this ⊢;have hsz:(iJ ops b a).toArray.size=ops.toArray.size:=by simp[iJ]
  rw[hsz] at this ⊢;refine ajV λi hi=>?_;have:=this i;rw[ahF,ahF] at this;rw[ajT];exact⟨λh=>(this.1 ⟨hi,h⟩).2,λh=>(this.2 ⟨hi,h⟩).2⟩
 induction fuel with
 |zero=>
  intro listed s w hl h;exact⟨by rw[<-hr listed hl];exact h.1,h.2⟩
 |succ fuel ih=>
  intro listed s w hl h;refine⟨λhn=>h.1 (by rw[hr listed hl];exact hn),λi hi=>?_⟩;have:=h.2 i (by rw[hr listed hl];exact hi);exact wpOp_mono (λs' w' h'=>ih _ s' w' (getD_set_true hl) h') (sW (og ops b a) this)
theorem M1 {ops:List Oper}{a b:Nat}(hab:a≠b)(hst:∀(i:Nat)(o:Oper),ops[i]?=some o->i≠a->i≠b->sU o.op=true):∀(fuel:Nat)(listed:Array Bool)(s:Act)(w:World),listed.size=ops.length->listed.getD a false=false->listed.getD b false=false->
  wpAny P .any (iJ ops b a).toArray Q fuel listed s w->wpAny P .any (iJ ops a b).toArray Q fuel listed s w->wpAny P .any ops.toArray Q fuel listed s w:=by
 intro fuel
 induction fuel with
 |zero=>
  intro listed s w hsz ha hb h1 h2;refine⟨?_,h1.2⟩
  cases hr:Region.ready .any ops.toArray listed with
  |nil=>rfl
  |cons i r=>
   have hi:i∈Region.ready .any ops.toArray listed:=by rw[hr];simp
   by_cases hib:i=b
   ·subst hib;have:i∈Region.ready .any (iJ ops a i).toArray listed:=ig.2 ⟨hi,λe=>absurd e.symm hab⟩;rw[h2.1] at this;cases this
   ·have:i∈Region.ready .any (iJ ops b a).toArray listed:=ig.2 ⟨hi,λe=>absurd e hib⟩;rw[h1.1] at this;cases this
 |succ fuel ih=>
  intro listed s w hsz ha hb h1 h2;refine⟨λhn=>h1.1 ?_,λi hi=>?_⟩
  ·cases hr:Region.ready .any (iJ ops b a).toArray listed with
   |nil=>rfl
   |cons i r=>
    have hi:i∈Region.ready .any (iJ ops b a).toArray listed:=by rw[hr];simp
    have:=(ig.1 hi).1;rw[hn] at this;cases this
  ·have eN:i<listed.size:=by
    obtain⟨_,o,ho,_⟩:=mem_ready.1 hi;rw[ahD] at ho;have:=(ahh.1 ho).1;omega
   by_cases hib:i=b
   ·subst hib;have g:=sW (og ops a i) (h2.2 i (ig.2 ⟨hi,λe=>absurd e.symm hab⟩));exact wpOp_mono (λs' w' h'=>A6 _ _ s' w' (by simp[eN]) h') g
   ·by_cases pj:i=a
    ·subst pj;have g:=sW (og ops b i) (h1.2 i (ig.2 ⟨hi,λe=>absurd e hab⟩));exact wpOp_mono (λs' w' h'=>A6 _ _ s' w' (by simp[eN]) h') g
    ·have g1:=sW (og ops b a) (h1.2 i (ig.2 ⟨hi,λe=>absurd e hib⟩));have g2:=sW (og ops a b) (h2.2 i (ig.2 ⟨hi,λe=>absurd e pj⟩));have g:wpOp P ops.toArray Q i (λs' w'=>wpAny P .any (iJ ops b a).toArray Q fuel (listed.setIfInBounds i true) s' w'/\wpAny P .any (iJ ops a b).toArray Q fuel (listed.setIfInBounds i true) s' w') s w:=by
      unfold wpOp at g1 g2 ⊢;rw[ahD] at g1 g2 ⊢
      cases ho:ops[i]? with
      |none=>rw[ho] at g1 g2;exact⟨g1,g2⟩
      |some o=>
       rw[ho] at g1 g2
       dsimp only at g1 g2 ⊢
       split at g1
       ·rename_i hw;rw[ahs hw] at g2;rw[ahs hw];rcases g1 with g1|g1
        ·rcases g2 with g2|g2
         ·exact .inl (S7 (hst i o ho pj hib) g1 g2)
         ·exact .inr g2
        ·exact .inr g1
       ·rename_i hw;rw[ahq hw] at g2;rw[ahq hw];exact⟨g1,g2⟩
     refine wpOp_mono (λs' w' h'=>ih _ s' w' (by simpa using hsz) ?_ ?_ h'.1 h'.2) g
     ·rw[getD_set_ne false pj];exact ha
     ·rw[getD_set_ne false hib];exact hb
def sw (a b i:Nat):Nat:=if i=a then b else if i=b then a else i
def sK (a b i:Nat):sw a b (sw a b i)=i:=by
 unfold sw
 by_cases h1:i=a
 ·subst h1;rw[ahs rfl]
  by_cases h2:b=i
  ·rw[ahs h2];exact h2
  ·rw[ahq h2,ahs rfl]
 ·rw[ahq h1]
  by_cases h2:i=b
  ·subst h2;rw[ahs rfl,ahs rfl]
  ·rw[ahq h2,ahq h1,ahq h2]
def Dl {a b i n:Nat}(ha:a<n)(hb:b<n)(hi:i<n):sw a b i<n:=by
 unfold sw
 split
 ·exact hb
 ·split
  ·exact ha
  ·exact hi
def Bf (a b:Nat)(o:Oper):Oper:={ o with after:=o.after.map (λe=>{ e with on:=sw a b e.on }),guard:=o.guard.map (λg=>(sw a b g.1,g.2)) }
def kJ (a b:Nat)(ops:List Oper):List Oper:=((ops.set a (ops.getD b default)).set b (ops.getD a default)).map (Bf a b)
def uy {a b:Nat}{ops:List Oper}(hab:a≠b)(ha:a<ops.length)(hb:b<ops.length)(i:Nat):(kJ a b ops)[i]?=(ops[sw a b i]?).map (Bf a b):=by
 rw[kJ,aip]
 congr 1
 rw[ajW,ajW,aiE];unfold sw
 by_cases h1:i=a
 ·subst h1;rw[ahq (Ne.symm hab),ahs rfl,ahs ha,ahs rfl,ahg,ahi hb];rfl
 ·by_cases h2:i=b
  ·subst h2;rw[ahs rfl,ahs hb,ahq h1,ahs rfl,ahg,ahi ha];rfl
  ·rw[ahq (Ne.symm h2),ahq (Ne.symm h1),ahq h1,ahq h2]
theorem vv {a b:Nat}{ops:List Oper}(hab:a≠b)(ha:a<ops.length)(hb:b<ops.length){l l2:Array Bool}(hl:l.size=ops.length)(jH:l2.size=ops.length)(hr:∀i,i<ops.length->l2.getD i false=l.getD (sw a b i) false)(i:Nat) :
  i∈Region.ready .any ops.toArray l↔sw a b i∈Region.ready .any (kJ a b ops).toArray l2:=by
 rw[mem_ready,mem_ready,ahD,ahD,uy hab ha hb,sK]
 cases ho:ops[i]? with
 |none=>simp
 |some o=>
  have hi:i<ops.length:=(ahh.1 ho).1;have e1:l2.getD (sw a b i) true=l.getD i true:=by
   have:=Dl ha hb hi;rw[cN (by omega),cN (by omega),hr _ this,sK]
  simp only[ai4,Option.some.injEq,exists_eq_left',e1];have e2:(∀e∈o.after,Region.binds .any e=true->l.getD e.on false=true)↔∀e∈(Bf a b o).after,Region.binds .any e=true->l2.getD e.on false=true:=by
   have out:∀(z:Array Bool)(n:Nat),z.size=ops.length->¬n<ops.length->z.getD n false=false:=λz n hz hn=>by
    have:¬n<z.size:=by omega
    simp[this]
   constructor
   ·intro h e he hbd;simp only[Bf,Array.mem_map] at he;obtain⟨e',CG,rfl⟩:=he;have:=h e' CG hbd;have hlt:e'.on<ops.length:=by
     rcases ahr e'.on ops.length with h1|h1
     ·exact h1
     ·rw[out l _ hl (by omega)] at this;cases this
    show l2.getD (sw a b e'.on) false=true;rw[hr _ (Dl ha hb hlt),sK];exact this
   ·intro h e he hbd;have:=h { e with on:=sw a b e.on } (by simp only[Bf,Array.mem_map];exact⟨e,he,rfl⟩) hbd;have hlt:sw a b e.on<ops.length:=by
     rcases ahr (sw a b e.on) ops.length with h1|h1
     ·exact h1
     ·have h2:=out l2 (sw a b e.on) jH (by omega);rw[show l2.getD (sw a b e.on) false=true from this] at h2;cases h2
    have h3:=hr _ hlt;rw[sK] at h3;rw[<-h3];exact this
  rw[e2]
theorem Pt {a b:Nat}{ops:List Oper}(hab:a≠b)(ha:a<ops.length)(hb:b<ops.length){i:Nat}{K:Act->World->Prop}{s:Act}{w:World}(hh:wpOp P (kJ a b ops).toArray Q (sw a b i) K s w):wpOp P ops.toArray Q i K s w:=by
 unfold wpOp at *;rw[ahD] at *;rw[uy hab ha hb,sK] at hh;have hy:∀t j,yielded (kJ a b ops).toArray t (sw a b j)=yielded ops.toArray t j:=λt j=>by
  unfold yielded;rw[ahD,ahD,uy hab ha hb,sK]
  cases ops[j]?<;>rfl
 cases ho:ops[i]? with
 |none=>rw[ho] at hh;exact hh
 |some o=>
  rw[ho] at hh;simp only[ai4] at hh
  dsimp only
  have hw:Region.wanted (Bf a b o) (yielded (kJ a b ops).toArray s.tmps)=Region.wanted o (yielded ops.toArray s.tmps):=by
   unfold Region.wanted Bf
   cases o.guard with
   |none=>rfl
   |some g=>simp only[ai4,hy]
  rw[hw] at hh;obtain⟨g1,g2⟩:=Al (P:=P) (Q:=Q) (o:=o) (o':=Bf a b o) rfl rfl rfl s w K
  split at hh
  ·rename_i CB;rw[ahs CB];rw[g1,g2] at hh;exact hh
  ·rename_i CB;rw[ahq CB];exact hh
theorem Hr {a b:Nat}{ops:List Oper}(hab:a≠b)(ha:a<ops.length)(hb:b<ops.length):∀(fuel:Nat)(l l2:Array Bool)(s:Act)(w:World),l.size=ops.length->l2.size=ops.length->(∀i,i<ops.length->l2.getD i false=l.getD (sw a b i) false)->
  wpAny P .any (kJ a b ops).toArray Q fuel l2 s w->wpAny P .any ops.toArray Q fuel l s w:=by
 intro fuel;have Zj:∀l l2:Array Bool,l.size=ops.length->l2.size=ops.length->(∀i,i<ops.length->l2.getD i false=l.getD (sw a b i) false)->(Region.ready .any ops.toArray l=[]↔Region.ready .any (kJ a b ops).toArray l2=[]):=by
  intro l l2 hl jH hr;have h:=vv hab ha hb hl jH hr
  constructor
  ·intro hn
   cases hx:Region.ready .any (kJ a b ops).toArray l2 with
   |nil=>rfl
   |cons j r=>
    have hj:j∈Region.ready .any (kJ a b ops).toArray l2:=by rw[hx];simp
    have:=(h (sw a b j)).2 (by rw[sK];exact hj);rw[hn] at this;cases this
  ·intro hn
   cases hx:Region.ready .any ops.toArray l with
   |nil=>rfl
   |cons j r=>
    have hj:j∈Region.ready .any ops.toArray l:=by rw[hx];simp
    have:=(h j).1 hj;rw[hn] at this;cases this
 induction fuel with
 |zero=>intro l l2 s w hl jH hr h;exact⟨(Zj l l2 hl jH hr).2 h.1,h.2⟩
 |succ fuel ih=>
  intro l l2 s w hl jH hr h;refine⟨λhn=>h.1 ((Zj l l2 hl jH hr).1 hn),λi hi=>?_⟩;have hi2:=(vv hab ha hb hl jH hr i).1 hi;have eN:i<ops.length:=by
   obtain⟨_,o,ho,_⟩:=mem_ready.1 hi;rw[ahD] at ho;exact(ahh.1 ho).1
  have g:=Pt hab ha hb (h.2 _ hi2);refine wpOp_mono (λs' w' h'=>ih _ _ s' w' (by simpa using hl) (by simpa using jH) (λj hj=>?_) h') g;have XC:=Dl ha hb eN;have hsj:=Dl ha hb hj
  by_cases hji:j=sw a b i
  ·subst hji;rw[sK];simp[hl,jH,eN,XC]
  ·rw[getD_set_ne false (λe=>hji e.symm),getD_set_ne false (λe=>hji (by rw[e,sK])),hr j hj]
end
def Q3 {C:Cx}{id:Nat}{ops:List Oper}{Q:Exit->St->Prop}{s:St}{y:Code}(a b:Nat)(Sw lo1:List Nat)(na1:List (List Nat))(Sv lo2:List Nat)(na2:List (List Nat))(hm:C.P.follows .mixedOrders=true)
  (kI:(decide (a≠b)&&decide (a<ops.length)&&decide (b<ops.length)&&ops.all λo=>sU o.op)=true) (afm:jb (iJ ops b a) Sw lo1 na1=true) (afi:jP Sw=true) (afl:jb (kJ a b (iJ ops a b)) Sv lo2 na2=true) (afh:jP Sv=true)
  (h:∀K:St->Prop,(∀s,AW C y Q s->K s)->gQ ⟨C,(iJ ops b a).toArray,Sw,lo1,na1,K⟩ (iJ ops b a) [] [(s.H,s.T,0)] (prune C.nv s.e)/\
   gQ ⟨C,(kJ a b (iJ ops a b)).toArray,Sv,lo2,na2,K⟩ (kJ a b (iJ ops a b)) [] [(s.H,s.T,0)] (prune C.nv s.e)):AW C (.seq (.region id ops.toArray true) y) Q s:=by
 simp only[aht,ahv,ahQ] at kI;obtain⟨⟨⟨hab,ha⟩,hb⟩,hst⟩:=kI;refine xq λK hK=>λL0 w0 a0 mG=>wp_region_any hm ?_;obtain⟨h1,h2⟩:=h K hK;have g1:=uU (Q:=Q) K Sw lo1 na1 afm afi h1 L0 w0 a0 mG;have g2:=uU (Q:=Q) K Sv lo2 na2 afl afh h2 L0 w0 a0 mG;have l1:(iJ ops b a).toArray.size=ops.toArray.size:=by simp[iJ]
 have l2:(kJ a b (iJ ops a b)).toArray.size=ops.toArray.size:=by simp[iJ,kJ]
 have l3:(iJ ops a b).length=ops.length:=by simp[iJ]
 rw[l1] at g1;rw[l2] at g2;have g3:=Hr (ops:=iJ ops a b) hab (by rw[l3];exact ha) (by rw[l3];exact hb) _ (Array.replicate ops.toArray.size false) (Array.replicate ops.toArray.size false) _ _ (by simp[l3]) (by simp[l3]) (λi hi=>by
  rw[l3] at hi;have:=Dl ha hb hi;simp[hi,this]) g2
 exact M1 hab (λi o ho _ _=>hst o (aiC ho)) _ _ _ _ (by simp) (by simp[ha]) (by simp[hb]) g1 g3
def xg (ops:List Oper)(n:Nat):Bool:=
 decide (n<=ops.length) &&
 ((List.range ops.length).all λi=>(ops.getD i default).after.all λe=>!Region.binds .any e||decide (e.on<i)) &&
 ((List.range n).all λi=>match (ops.getD i default).guard with|some (g,_)=>decide (g<n)|none=>true) &&
 ((List.range ops.length).all λi=>decide (i<n)||(List.range i).all λj=>nw (fF ops []) j i)
def p7 {ops:List Oper}{n:Nat}(h:xg ops n=true) :
  n<=ops.length/\(∀(i:Nat)(o:Oper),ops[i]?=some o->∀e∈o.after,Region.binds .any e=true->e.on<i)/\
  (∀(i g:Nat)(o:Oper)(b:Bool),i<n->ops[i]?=some o->o.guard=some (g,b)->g<n)/\
  ∀i j,n<=i->i<ops.length->j<i->nw (fF ops []) j i=true:=by
 unfold xg at h;simp only[aht,ahv] at h;obtain⟨⟨⟨h1,h2⟩,h3⟩,h4⟩:=h;have at_:∀{i:Nat} {x:Oper},ops[i]?=some x->i<ops.length/\ops.getD i default=x:=λ{i x} hi=>by
  obtain⟨a,b⟩:=ahh.1 hi;exact⟨a,by rw[ahg,hi];rfl⟩
 refine⟨h1,λi o ho e he hb=>?_,λi g o b hi ho hg=>?_,λi j hn hi hj=>?_⟩
 ·obtain⟨a1,a2⟩:=at_ ho;have:=Array.all_eq_true_iff_forall_mem.1 (ahQ.1 h2 i (ahI.2 a1)) e (by rw[a2];exact he);rw[hb] at this;simpa using this
 ·obtain⟨a1,a2⟩:=at_ ho;have:=ahQ.1 h3 i (ahI.2 hi);rw[a2,hg] at this;simpa using this
 ·have:=ahQ.1 h4 i (ahI.2 hi);have hf:decide (i<n)=false:=ahn (by omega);rw[hf,ai2] at this;exact ahQ.1 this j (ahI.2 hj)
section
variable {P : Program}
theorem DG {o:Oper}{a:Act}{w:World}{K K':Act->World->Prop}{Q1 Q2:Exit->Act->World->Prop}(hQ:∀e a w,e≠.normal->Q1 e a w->Q2 e a w)(hK:∀a w,K a w->K' a w)(h:o.wp P a w K Q1):o.wp P a w K' Q2:=by
 unfold Oper.wp at *;generalize (execOp a.eval o).run P w=r at *
 cases r with
 |ok n w'=>
  cases n<;>simp only[Oper.upon] at h ⊢<;>first
   |exact hK _ _ h
   |exact h
   |(refine h.mono ?_
     intro e w3 he
     cases e with
     |returned v=>exact hK _ _ he
     |panicked ch=>exact hQ _ _ _ (by intro hh;cases hh) he
     |outgrown=>obtain⟨a0,w0,h0⟩:=he;exact⟨a0,w0,hQ _ _ _ (by intro hh;cases hh) h0⟩)
   |exact h.mono λv w3 he=>hK _ _ he
 |halt x w'=>cases x<;>simp only[Oper.upon] at h ⊢<;>first|exact hQ _ _ _ (by intro hh;cases hh) h|exact h
def yo {Q1 Q2:Exit->Act->World->Prop}(hQ:∀e a w,e≠.normal->Q1 e a w->Q2 e a w)(h:LetsOut Q1):LetsOut Q2:=by
 obtain⟨a,w,h⟩:=h;exact⟨a,w,hQ _ _ _ (by intro hh;cases hh) h⟩
theorem Ib {ops:Array Oper}{Q1 Q2:Exit->Act->World->Prop}(hQ:∀e a w,Q1 e a w->Q2 e a w):∀(l:List Oper)(a:Act)(w:World),wpList P ops Q1 l a w->wpList P ops Q2 l a w:=by
 intro l
 induction l with
 |nil=>intro a w h;exact hQ _ _ _ h
 |cons o r ih=>
  intro a w h;unfold wpList at h ⊢
  split
  ·rename_i hw;rw[ahs hw] at h;rcases h with h|⟨h1,h2⟩
   ·exact .inl (DG (λe a w _=>hQ e a w) ih h)
   ·exact .inr ⟨h1,yo (λe a w _=>hQ e a w) h2⟩
  ·rename_i hw;rw[ahq hw] at h;exact ih _ _ h
def uv (ops:List Oper)(listed:Array Bool):Prop:=∀i j,listed.getD i false=true->nw (fF ops []) j i=true->listed.getD j false=true
def uv.step {ops:List Oper}{listed:Array Bool}(h:uv ops listed){i:Nat}{o:Oper}(ho:ops[i]?=some o)(hr:∀e∈o.after,Region.binds .any e=true->listed.getD e.on false=true)(Dy:∀e∈o.after,Region.binds .any e=true->e.on<i):uv ops (listed.setIfInBounds i true):=by
 intro x j hx hj
 by_cases hxi:x=i
 ·subst hxi;exact getD_set_true (je h ho hr Dy hj)
 ·rw[getD_set_ne false (λe=>hxi e.symm)] at hx;exact getD_set_true (h x j hx hj)
theorem Lg {ops:List Oper}{Q:Exit->Act->World->Prop}{n:Nat}(kI:xg ops n=true):∀(l:List Oper)(i:Nat),n<=i->l=ops.drop i->i<=ops.length->∀(fuel:Nat)(listed:Array Bool)(a:Act)(w:World),l.length<=fuel->listed.size=ops.length->
  (∀j,j<ops.length->(listed.getD j false=true↔j<i))->uv ops listed->wpList P ops.toArray Q l a w->wpAny P .any ops.toArray Q fuel listed a w:=by
 obtain⟨c1,c2,c3,c4⟩:=p7 kI;intro l
 induction l with
 |nil=>
  intro i hn hl hi fuel listed a w hf hsz VT hcl h;have eN:i=ops.length:=by
   have:=congrArg List.length hl;rw[ah4,aiB] at this;omega
  have hr:Region.ready .any ops.toArray listed=[]:=by
   rw[aiJ];intro k hk;obtain⟨h1,o,ho,_⟩:=mem_ready.1 hk;rw[ahD] at ho;have gV:=(ahh.1 ho).1;rw[cN (by omega),(VT k gV).2 (by omega)] at h1
   cases h1
  cases fuel with
  |zero=>exact⟨hr,h⟩
  |succ f=>exact⟨λ_=>h,λk hk=>by rw[hr] at hk;cases hk⟩
 |cons o r ih=>
  intro i hn hl hi fuel listed a w hf hsz VT hcl h;have eN:i<ops.length:=by
   rcases ahr i ops.length with h1|h1
   ·exact h1
   ·rw[ajB h1] at hl;cases hl
  have hdr:=aiK eN;rw[hdr] at hl;have ho:ops[i]?=some o:=by rw[ahi eN];exact congrArg some (List.cons.inj hl).1.symm
  have VN:=(List.cons.inj hl).2;have Vg:∀e∈o.after,Region.binds .any e=true->listed.getD e.on false=true:=λe he hb=>by
   have:=c2 i o ho e he hb;exact(VT _ (by omega)).2 this
  have fS:i∈Region.ready .any ops.toArray listed:=mem_ready.2 ⟨by
   rw[cN (by omega)]
   cases XH:listed.getD i false with
   |false=>rfl
   |true=>have:=(VT i eN).1 XH;omega,o,by rw[ahD];exact ho,Vg⟩
  have Z8:∀k∈Region.ready .any ops.toArray listed,k=i:=by
   intro k hk;obtain⟨h1,o',vM,h2⟩:=mem_ready.1 hk;rw[ahD] at vM;have gV:=(ahh.1 vM).1;rw[cN (by omega)] at h1;rcases aiM k i with h3|h3|h3
   ·rw[(VT k gV).2 h3] at h1;cases h1
   ·exact h3
   ·have:=je hcl vM h2 (λe he hb=>c2 k o' vM e he hb) (c4 k i (by omega) gV h3);have:=(VT i eN).1 this;omega
  cases fuel with
  |zero=>simp at hf
  |succ f=>
   refine⟨λhn=>(by rw[hn] at fS;cases fS),λk hk=>?_⟩;have:=Z8 k hk;subst this;have Np:=ih (k+1) (by omega) VN (by omega) f (listed.setIfInBounds k true);have ae6:∀j,j<ops.length->((listed.setIfInBounds k true).getD j false=true↔j<k+1):=by
    intro j hj
    by_cases hjk:j=k
    ·subst hjk;simp[hsz,eN]
    ·rw[getD_set_ne false (λe=>hjk e.symm),VT j hj];omega
   have Zr:=λa w=>Np a w (by simpa using hf) (by simpa using hsz) ae6 (hcl.step ho Vg (λe he hb=>c2 k o ho e he hb));unfold wpOp;rw[ahD,ho];unfold wpList at h
   dsimp only
   split
   ·rename_i hw;rw[ahs hw] at h;rcases h with h|h
    ·exact .inl (Oper.wp_mono Zr h)
    ·exact .inr h
   ·rename_i hw;rw[ahq hw] at h;exact Zr _ _ h
theorem Qc {ops:List Oper}{n i:Nat}{Q1 Q2:Exit->Act->World->Prop}(hQ:∀e a w,e≠.normal->Q1 e a w->Q2 e a w)(hi:i<n)(hg:∀(g:Nat)(o:Oper)(b:Bool),ops[i]?=some o->o.guard=some (g,b)->g<n)
  {K K':Act->World->Prop} (hK:∀a w,K a w->K' a w) {a:Act} {w:World} (h:wpOp P (ops.take n).toArray Q1 i K a w):wpOp P ops.toArray Q2 i K' a w:=by
 unfold wpOp at *;rw[ahD] at *;rw[List.getElem?_take_of_lt hi] at h
 cases ho:ops[i]? with
 |none=>rw[ho] at h;exact hK _ _ h
 |some o=>
  rw[ho] at h
  dsimp only at h ⊢
  have hw:Region.wanted o (yielded (ops.take n).toArray a.tmps)=Region.wanted o (yielded ops.toArray a.tmps):=by
   unfold Region.wanted
   cases Np:o.guard with
   |none=>rfl
   |some gb=>
    obtain⟨g,b⟩:=gb;have XM:=hg g o b ho Np;have:yielded (ops.take n).toArray a.tmps g=yielded ops.toArray a.tmps g:=by
     unfold yielded;rw[ahD,ahD,List.getElem?_take_of_lt XM]
    simp only[this]
  rw[hw] at h
  split
  ·rename_i CB;rw[ahs CB] at h;rcases h with h|⟨h1,h2⟩
   ·exact .inl (DG hQ hK h)
   ·exact .inr ⟨h1,yo hQ h2⟩
  ·rename_i CB;rw[ahq CB] at h;exact hK _ _ h
theorem P1 {ops:List Oper}{Q1 Q2:Exit->Act->World->Prop}{n:Nat}(kI:xg ops n=true)(hQ:∀e a w,e≠.normal->Q1 e a w->Q2 e a w)(yW:∀a w,Q1 .normal a w->wpList P ops.toArray Q2 (ops.drop n) a w) :
  ∀(fuel:Nat)(lp listed:Array Bool)(a:Act)(w:World),lp.size=n->listed.size=ops.length->(∀j,j<n->listed.getD j false=lp.getD j false)->(∀j,n<=j->listed.getD j false=false)->uv ops listed->
   wpAny P .any (ops.take n).toArray Q1 fuel lp a w->wpAny P .any ops.toArray Q2 (fuel+(ops.length-n)) listed a w:=by
 obtain⟨c1,c2,c3,c4⟩:=p7 kI;have tk:∀i,i<n->(ops.take n).toArray[i]?=ops[i]?:=λi hi=>by rw[ahD,List.getElem?_take_of_lt hi]
 have hall:∀(lp:Array Bool),lp.size=n->Region.ready .any (ops.take n).toArray lp=[]->∀j,j<n->lp.getD j false=true:=by
  intro lp hsz hr i
  induction i using Nat.strongRecOn with
  |_ i ih=>
   intro eN
   cases XH:lp.getD i false with
   |true=>rfl
   |false=>
    exfalso;have hio:ops[i]?=some ops[i]:=ahi (by omega);have fS:i∈Region.ready .any (ops.take n).toArray lp:=by
     refine mem_ready.2 ⟨by rw[cN (by omega)];exact XH,ops[i],by rw[tk i eN];exact hio,λe he hb=>?_⟩;have hlt:=c2 i _ hio e he hb;exact ih e.on hlt (by omega)
    rw[hr] at fS
    cases fS
 have hend:∀(fuel:Nat)(lp listed:Array Bool)(a:Act)(w:World),lp.size=n->listed.size=ops.length->(∀j,j<n->listed.getD j false=lp.getD j false)->(∀j,n<=j->listed.getD j false=false)->uv ops listed->
   Region.ready .any (ops.take n).toArray lp=[]->Q1 .normal a w->ops.length-n<=fuel->wpAny P .any ops.toArray Q2 fuel listed a w:=by
  intro fuel lp listed a w hz hsz hl ht hcl hr hq hf;have jH:=hall lp hz hr;refine Lg kI (ops.drop n) n (ahj _) rfl c1 fuel listed a w (by rw[ah4];exact hf) hsz (λj hj=>?_) hcl (yW _ _ hq);rcases ahr j n with h1|h1
  ·rw[hl j h1,jH j h1];simp[h1]
  ·rw[ht j h1];simp;omega
 intro fuel
 induction fuel with
 |zero=>
  intro lp listed a w hz hsz hl ht hcl h;exact hend _ lp listed a w hz hsz hl ht hcl h.1 h.2 (by omega)
 |succ fuel ih=>
  intro lp listed a w hz hsz hl ht hcl h
  cases NG:Region.ready .any (ops.take n).toArray lp with
  |nil=>exact hend _ lp listed a w hz hsz hl ht hcl NG (h.1 NG) (by omega)
  |cons k rest=>
   have hk:k∈Region.ready .any (ops.take n).toArray lp:=by rw[NG];simp
   have RQ:∀i,i∈Region.ready .any (ops.take n).toArray lp->i<n:=by
    intro i hi;obtain⟨_,o,ho,_⟩:=mem_ready.1 hi;rw[ahD] at ho;have:=(ahh.1 ho).1;rw[ahJ] at this;omega
   have hto:∀i,i∈Region.ready .any (ops.take n).toArray lp->i∈Region.ready .any ops.toArray listed:=by
    intro i hi;have tY:=RQ i hi;obtain⟨h1,o,ho,h2⟩:=mem_ready.1 hi;rw[tk i tY] at ho;rw[cN (by omega)] at h1;refine mem_ready.2 ⟨by rw[cN (by omega),hl i tY];exact h1,o,by rw[ahD];exact ho,λe he hb=>?_⟩;have:=c2 i o ho e he hb;rw[hl _ (by omega)];exact h2 e he hb
   have aal:∀i,i∈Region.ready .any ops.toArray listed->i∈Region.ready .any (ops.take n).toArray lp:=by
    intro i hi;obtain⟨h1,o,ho,h2⟩:=mem_ready.1 hi;rw[ahD] at ho;have eN:=(ahh.1 ho).1;rw[cN (by omega)] at h1;rcases ahr i n with tY|tY
    ·refine mem_ready.2 ⟨by rw[cN (by omega),<-hl i tY];exact h1,o,by rw[tk i tY];exact ho,λe he hb=>?_⟩;have:=c2 i o ho e he hb;rw[<-hl _ (by omega)];exact h2 e he hb
    ·exfalso;have hkk:=RQ k hk;have h3:=je hcl ho h2 (λe he hb=>c2 i o ho e he hb) (c4 i k tY eN (by omega));obtain⟨h4,_⟩:=mem_ready.1 hk;rw[cN (by omega),<-hl k hkk,h3] at h4
     cases h4
   rw[show fuel+1+(ops.length-n)=(fuel+(ops.length-n))+1 by omega];refine⟨λhn=>(by have:=hto k hk;rw[hn] at this;cases this),λi hi=>?_⟩;have hip:=aal i hi;have tY:=RQ i hip;obtain⟨_,o,ho,h2⟩:=mem_ready.1 hi;rw[ahD] at ho;refine Qc hQ tY (λg o' b vM hg=>c3 i g o' b tY vM hg) (λa' w' h'=>?_) (h.2 i hip);refine ih (lp.setIfInBounds i true) (listed.setIfInBounds i true) a' w' (by simpa using hz) (by simpa using hsz) (λj hj=>?_) (λj hj=>?_) (hcl.step ho h2 (λe he hb=>c2 i o ho e he hb)) h'
   ·by_cases hji:j=i
    ·subst hji;have h5:j<ops.length:=by omega
     simp[hsz,hz,hj,h5]
    ·rw[getD_set_ne false (λe=>hji e.symm),getD_set_ne false (λe=>hji e.symm),hl j hj]
   ·rw[getD_set_ne false (by omega),ht j hj]
end
def sR (D:wh)(KR:List bT->List mW->Env->Prop):Nat->List Oper->List bT->List mW->Env->Prop
 |0,_,aQ,sts,e=>KR aQ sts e
 |_+1,[],_,_,_=>False
 |n+1,o::r,aQ,sts,e=>match sts.getLast? with
  |some (H,T,_)=>match o.guard with
   |none=>kM D (sR D KR n r) o aQ sts e H T
   |some _=>False
  |none=>False
theorem Io {nx:Nat}{D:wh}{ops:List Oper}{e0:Env}{KR:List bT->List mW->Env->Prop}(kI:jP D.bF=true)(lM:D.bF.contains nx=true\/ops.length<=nx):∀(n:Nat)(l:List Oper)(aQ:List bT)(sts:List mW)(e:Env),iw nx D ops e0 aQ sts e->ops.drop aQ.length=l->sR D KR n l aQ sts e->
  ∃bQ eC,iw nx D ops e0 bQ eC (aV e0 bQ)/\bQ.length=aQ.length+n/\eC[0]?=sts[0]?/\KR bQ eC (aV e0 bQ):=by
 intro n
 induction n with
 |zero=>
  intro l aQ sts e hw hl h;have hc:=hw.cur;subst hc;exact⟨aQ,sts,hw,rfl,rfl,h⟩
 |succ n ih=>
  intro l aQ sts e hw hl h
  cases l with
  |nil=>exact h.elim
  |cons o r=>
  have nE:ops[aQ.length]?=some o:=by
   have:=congrArg (λl=>l[0]?) hl;simpa using this
  have ri:ops.drop (aQ.length+1)=r:=by
   have:=congrArg (λl=>l.drop 1) hl;simpa[ajG,add_comm] using this
  have fin:∀{H T i0 v H' T'},sts.getLast?=some (H,T,i0)->o.guard=none->dN D.C.P o e H T v H' T'->(D.bF.contains aQ.length=false->H'=H/\T'=T)->Bc D (sR D KR n r) o aQ sts e true v H' T'->
    ∃bQ eC,iw nx D ops e0 bQ eC (aV e0 bQ)/\bQ.length=aQ.length+(n+1)/\eC[0]?=sts[0]?/\KR bQ eC (aV e0 bQ):=by
   intro H T i0 v H' T' dy hg h2 h3 h4;obtain⟨bQ,eC,e',g1,g2,g3,g4,_⟩:=qC kI lM hw nE dy (by rw[hg]) (λe=>by cases e) (λ_ _=>h2) h3 h4;obtain⟨r2,s2,k1,k2,k3,k4⟩:=ih r bQ eC e' g1 (by rw[g2];exact ri) g3;exact⟨r2,s2,k1,by omega,k3.trans g4,k4⟩
  unfold sR at h
  split at h
  ·rename_i H T i0 dy
   split at h
   ·rename_i hg;unfold kM at h
    split at h
    ·rename_i g as jx;obtain⟨v,H',T',hc,hs,hd⟩:=h;refine fin dy hg ?_ hs hd;unfold dN;rw[jx];exact hc
    ·rename_i jx
     split at h
     ·rename_i v H' T' lL;refine fin dy hg ?_ h.1 h.2;unfold dN;rw[jx];exact lL
     ·exact h.elim
   ·exact h.elim
  ·exact h.elim
def I4 (P:Program)(x:bT)(H1:List az):List mW->Prop
 |[]=>True
 |(_,T,_)::r=>dN P x.o x.e H1 T x.v H1 T/\I4 P x H1 r
def YW (P:Program)(H1:List az)(lo:List Nat)(sts:List mW):List bT->Nat->Prop
 |[],_=>True
 |x::r,i=>(match x.bF with
  |true=>(match sts[x.k]?,sts[x.k+1]? with
   |some a,some b=>dN P x.o x.e H1 a.2.1 x.v H1 b.2.1
   |_,_=>False)
  |false=>I4 P x H1 (sts.drop (lo.getD i 0)))/\YW P H1 lo sts r (i+1)
def Dn (H:List az):List mW->Prop
 |[]=>True
 |(G,_,_)::r=>G=H/\Dn H r
def N8 (C:Cx)(ops:List Oper)(lo:List Nat)(K:St->Prop)(n:Nat)(H:List az)(aQ:List bT)(sts:List mW)(e:Env):Prop:=
 match ops[n]?,sts.getLast? with
 |some al,some (_,T,_)=>al.guard=none/\∃z d,al.dst=some d/\d<C.nt/\(∀e' T',dN C.P al e' H T' (.ptr H.length 0) (H++[z]) T')/\Dn H sts/\YW C.P (H++[z]) lo sts aQ 0/\K ⟨lW e d (.ptr H.length 0),H++[z],T⟩
 |_,_=>False
theorem yh {P:Program}{x:bT}{H1:List az}:∀{l:List mW},I4 P x H1 l->∀(j:Nat)(st:mW),l[j]?=some st->dN P x.o x.e H1 st.2.1 x.v H1 st.2.1
 |[],_,j,st,h=>by simp at h
 |(G,T,i)::r,hs,0,st,h=>by simp at h;subst h;exact hs.1
 |(G,T,i)::r,hs,j+1,st,h=>yh hs.2 j st (by simpa using h)
theorem yj {H:List az}:∀{l:List mW},Dn H l->∀st∈l,st.1=H
 |[],_,st,h=>by simp at h
 |(G,T,i)::r,hs,st,h=>by
  rcases ahL.1 h with rfl|h1
  ·exact hs.1
  ·exact yj hs.2 st h1
theorem EI {P:Program}{H1:List az}{lo:List Nat}{sts:List mW}:∀{l:List bT} {i0:Nat},YW P H1 lo sts l i0->∀(j:Nat)(x:bT),l[j]?=some x->
  (x.bF=true->∀a b,sts[x.k]?=some a->sts[x.k+1]?=some b->dN P x.o x.e H1 a.2.1 x.v H1 b.2.1)/\(x.bF=false->∀k st,sts[k]?=some st->lo.getD (i0+j) 0<=k->dN P x.o x.e H1 st.2.1 x.v H1 st.2.1)
 |[],_,_,j,x,h=>by simp at h
 |y::r,i0,hs,0,x,h=>by
  simp at h;subst h;have h1:=hs.1
  constructor
  ·intro he a b ha hb;rw[he] at h1;simp only[ha,hb] at h1;exact h1
  ·intro he k st hk hl;rw[he] at h1;exact yh h1 (k-lo.getD i0 0) st (by rw[aiX,<-hk];congr 1;simp only[ajJ] at hl;omega)
 |y::r,i0,hs,j+1,x,h=>by
  have:=EI hs.2 j x (by simpa using h);rw[show i0+1+j=i0+(j+1) by omega] at this;exact this
theorem Im {C:Cx}{ops:List Oper}{Q:Exit->St->Prop}{s:St}(K:St->Prop)(n:Nat)(bF lo:List Nat)(na:List (List Nat))(hn:ops.length=n+1)(kI:jb ops bF lo na=true)(qg:jP bF=true)(hne:bF.contains n=false)
  (h:sR ⟨C,ops.toArray,bF,lo,na,K⟩ (N8 C ops lo K n s.H) n ops [] [(s.H,s.T,0)] (prune C.nv s.e)):∀L0 w0 a0,eQ C s L0 w0 a0->
   wpAny C.P .any ops.toArray (cL C (dH K Q) L0 s w0) ops.toArray.size (Array.replicate ops.toArray.size false) a0 { w0 with drawn:=w0.drawn+1 }:=by
 intro L0 w0 a0 mG;have hc:eQ C ⟨prune C.nv s.e,s.H,s.T⟩ L0 w0 a0:=⟨mG.nb,mG.tb,mG.mV,mG.size,mG.defers,λt=>by
  rcases mC C.nv s.e t with e|e<;>rw[e]
  ·exact mG.env t
  ·exact .top _⟩
 generalize hs':(⟨prune C.nv s.e,s.H,s.T⟩:St)=s' at hc;have hs1:prune C.nv s.e=s'.e:=by rw[<-hs']
 have hs2:s.H=s'.H:=by rw[<-hs']
 have Gn:s.T=s'.T:=by rw[<-hs']
 rw[hs1,hs2,Gn] at h;rw[show cL C (dH K Q) L0 s w0=cL C (dH K Q) L0 s' w0 by unfold cL;rw[hs2,Gn]];clear hs' hs1 hs2 Gn mG;generalize hD:(⟨C,ops.toArray,bF,lo,na,K⟩:wh)=D at h;have kQ:D.C=C:=by rw[<-hD]
 have oY:D.bF=bF:=by rw[<-hD]
 have zz:D.lo=lo:=by rw[<-hD]
 have hDn:D.na=na:=by rw[<-hD]
 have R5:D.all=ops.toArray:=by rw[<-hD]
 obtain⟨zI,Gy,hw,hl0,Wj,hend⟩:=Io (nx:=ops.length) (D:=D) (ops:=ops) (e0:=s'.e) (by rw[oY];exact qg) (.inr (ahj _)) n ops [] [(s'.H,s'.T,0)] s'.e
  ⟨⟨by simp,λi x hx=>by simp at hx⟩,λi x hx=>by simp at hx,λi x hx=>by simp at hx,rfl⟩ (by simp) h
 simp only[aiB,aiv] at hl0;obtain⟨d1,d2,d3,d4,d5,d6,d7⟩:=ku kI;have UI:ops[n]?=some (ops[n]'(by omega)):=ahi (by omega);generalize ops[n]'(by omega)=al at UI;unfold N8 at hend;rw[UI] at hend;have Vf:∀m i,bF[m]?=some i->i<n:=λm i UL=>by
  have h1:=(d3 m i UL).1;have h2:i≠n:=by
   rintro rfl;have:bF.contains i=true:=by rw[aiZ];exact aiC UL
   rw[hne] at this;cases this
  omega
 have NV:Gy.length=1+bF.length:=by
  have h1:=hw.st.len;rw[oY,hl0] at h1;rw[h1]
  congr 2
  apply aiT.2;intro e he;obtain⟨m,hm,e1⟩:=ahB.1 he;have:=Vf m e (by rw[ahi hm,e1]);simpa using this
 cases dy:Gy.getLast? with
 |none=>rw[dy] at hend;exact hend.elim
 |some st=>
 obtain⟨HL,TL,iL⟩:=st;rw[dy] at hend;obtain⟨ur,z,d,lS,hdn,vb,Dt,hob,hK⟩:=hend;have Dt:=yj Dt;have hob:=EI hob;obtain⟨x9,Rh⟩:∃x:bT,x=⟨al,[],true,.ptr s'.H.length 0,0,false⟩:=⟨_,rfl⟩
 obtain⟨fw,hP⟩:∃l,l=zI++[x9]:=⟨_,rfl⟩
 have sQ:fw.length=ops.length:=by rw[hP];simp[hl0];omega
 have vZ:∀i,i<n->fw[i]?=zI[i]?:=λi hi=>by rw[hP,ahp (by omega)]
 have hPn:fw[n]?=some x9:=by rw[hP,ahC (by omega),hl0,aiH];rfl
 have NK:∀(i:Nat)(x:bT),fw[i]?=some x->ops[i]?=some x.o:=λi x hx=>by
  rcases ahr i n with hi|hi
  ·rw[vZ i hi] at hx;exact(hw.Kb i x hx).o
  ·have eN:=(ahh.1 hx).1;have:i=n:=by omega
   subst this;rw[hPn] at hx
   cases hx
   rw[UI,Rh]
 have G0:∀i,i<=n->fw.take i=zI.take i:=λi hi=>by rw[hP,air (by omega)]
 have I9:fw.map (·.o)=ops:=by
  apply aja;intro i;rw[aip]
  by_cases hi:i<fw.length
  ·rw[ahi hi,ai4,NK i _ (ahi hi)]
  ·rw[aiI (by omega),aiI (by omega)];rfl
 obtain⟨C4,hs1⟩:∃l:List mW,l=Gy.map λst=>(s'.H++[z],st.2.1,st.2.2):=⟨_,rfl⟩
 have Du:∀k,C4[k]?=(Gy[k]?).map λst:mW=>(s'.H++[z],st.2.1,st.2.2):=λk=>by rw[hs1,aip]
 have Ja:∀(i:Nat)(x:bT),fw[i]?=some x->i<n->x.e=aV s'.e (fw.take i):=λi x hx hi=>by
  rw[hw.KE i x (by rw[<-vZ i hi];exact hx),G0 i (by omega)]
 have Rp:∀(i:Nat)(x:bT),fw[i]?=some x->i<n->x.k=(D.bF.filter (·<i)).length:=λi x hx hi=>hw.st.k i x (by rw[<-vZ i hi];exact hx);have hR0:∀(i:Nat)(x:bT),fw[i]?=some x->i<n->BB ops.length D ops Gy fw i x:=λi x hx hi=>by
  have hr:=hw.Kb i x (by rw[<-vZ i hi];exact hx);exact⟨hr.o,hr.k,hr.bF,hr.gate,hr.dst,hr.skip,hr.still,hr.effect⟩
 have hR1:∀(i:Nat)(x:bT),fw[i]?=some x->i<n->BB ops.length D ops C4 fw i x:=λi x hx hi=>by
  have hx0:zI[i]?=some x:=by rw[<-vZ i hi];exact hx
  have hr:=hw.Kb i x hx0;obtain⟨o1,o2⟩:=hob i x hx0;refine⟨hr.o,by rw[hs1,ahz];exact hr.k,hr.bF,hr.gate,hr.dst,hr.skip,λcY he k H T e hk hlo _=>?_,λhe=>?_⟩
  ·rw[Du] at hk
   cases hk0:Gy[k]? with
   |none=>rw[hk0] at hk;cases hk
   |some st=>
    rw[hk0] at hk
    cases hk
    rw[kQ];rw[zz] at hlo;exact o2 he k st hk0 (by simpa using hlo)
  ·obtain⟨Ha,Ta,ea,Hb,Tb,g1,g2,g3,g4⟩:=hr.effect he;refine⟨s'.H++[z],Ta,ea,s'.H++[z],Tb,by rw[Du,g1];rfl,by rw[Du,g2];rfl,λ_ _=>by rw[kQ];exact o1 he _ _ g1 g2,λhf=>⟨rfl,(g4 hf).2⟩⟩
 have hsz:ops.toArray.size=ops.length:=by simp
 rw[hsz];have ph2:∀(fuel:Nat)(listed:Array Bool)(a:Act)(w:World),Inv D s' fw C4 L0 w0 listed a w->listed.getD n false=true->(∀i,i<ops.length->listed.getD i false=true)\/(List.range ops.length).countP (λi=>!listed.getD i false)<=fuel->
   wpAny C.P .any ops.toArray (cL C (dH K Q) L0 s' w0) fuel listed a w:=by
  refine oc (nx:=ops.length) kI qg kQ oY zz hDn R5 sQ NK (λi=>i<n) (λi hi=>by omega) hR1 Ja Rp (λl=>l.getD n false=true) (λl j _ hl=>getD_set_true hl) (λlisted a w hI _ hall=>?_) (λfuel listed a w hI hJ i hi tX _=>?_)
  ·obtain⟨k,H,T,e,L,hk,gV,qS,cO,gG,fY,gK,dD⟩:=hI.st;have hkk:k=bF.length:=by
    rw[oY] at hk gV;rcases ahr k bF.length with hlt|hge
    ·have:=(hk k _ (ahi hlt)).1 (hall _ (d3 k _ (ahi hlt)).1);omega
    ·omega
   have Da:C4[k]?=some (s'.H++[z],TL,iL):=by
    rw[Du,show Gy[k]?=some (HL,TL,iL) by rw[<-dy,ajY,NV,hkk];congr 1;omega];rfl
   rw[qS] at Da;obtain⟨rfl,rfl,rfl⟩:H=s'.H++[z]/\T=TL/\e=iL:=by injection Da with h1;injection h1 with h1 h2;injection h2 with h2 h3;exact⟨h1,h2,h3⟩
   rw[kQ] at dD gG fY;refine⟨_,L,hK,⟨gG,fY,cO,by rw[hI.tmps,kQ],hI.defers,λt=>?_⟩,dD⟩;obtain⟨v,hv,hr⟩:=gK t;show aY L _ T w (bE (lW (aV s'.e zI) d (.ptr s'.H.length 0)) t) _;have qX:lW (aV s'.e zI) d (.ptr s'.H.length 0)=aV s'.e fw:=by
    rw[hP,iS,Rh];unfold xw Jb;simp only[lS]
   rw[qX];rcases hv with⟨j,x,hx,hd,hl,rfl⟩|⟨hno,rfl⟩
   ·rw[fe fw s'.e t j x hx hd (λi y hy zo=>d1 i j y.o x.o t (NK i y hy) (NK j x hx) zo hd)];exact hr
   ·rw[cE fw s'.e t (λx hx hd=>by
     obtain⟨j,hj,e1⟩:=ahB.1 hx;have h1:=hno j x (by rw[ahi hj,e1]) hd;have h2:=hall j (by omega);rw[h1] at h2;cases h2)]
    exact hr
  ·obtain⟨h1,o,ho,_⟩:=mem_ready.1 hi;rw[ahD] at ho;have eN:=(ahh.1 ho).1;have:i=n:=by omega
   subst this;rw[cN (by rw[hI.size,sQ];exact eN),hJ] at h1
   cases h1
 refine oc (nx:=ops.length) kI qg kQ oY zz hDn R5 sQ NK (λi=>i<n) (λi hi=>by omega) hR0 Ja Rp (λl=>l.getD n false=false)
  (λl i hi hl=>by rw[getD_set_ne false (by omega)];exact hl) (λlisted a w hI hJ hall=>by rw[hall n (by omega)] at hJ;cases hJ) ?_ ops.length _ a0 _ ⟨by simp[sQ],λi j hl _=>?_,⟨0,s'.H,s'.T,0,L0,λm i UL=>?_,ahu _,by rw[Wj];rfl,hc.mV.drew rfl,by rw[kQ];exact hc.nb,by rw[kQ];exact hc.tb,λt=>?_,?_⟩,by rw[kQ];exact hc.size,hc.defers⟩ ?_ (.inr ?_)
 rotate_left
 ·exfalso
  by_cases hi:i<ops.length<;>simp[hi] at hl
 ·constructor
  ·intro hl;exfalso
   by_cases hi:i<ops.length<;>simp[hi] at hl
  ·intro h;omega
 ·refine⟨bE s'.e t,.inr ⟨λj x hx hd=>?_,rfl⟩,?_⟩
  ·by_cases hj:j<ops.length<;>simp[hj]
  ·have kd:cX L0 s'.H.length s'.T w0 L0 s'.H.length s'.T { w0 with drawn:=w0.drawn+1 }:=(Ev.drew (H:=s'.H) (T:=s'.T) (L:=L0) (w:=w0) (w':={ w0 with drawn:=w0.drawn+1 }) rfl rfl rfl rfl (aid _)).keeps;exact(hc.env t).keep kd
 ·rw[kQ];exact(Ev.drew (H:=s'.H) (T:=s'.T) (L:=L0) (w:=w0) (w':={ w0 with drawn:=w0.drawn+1 }) rfl rfl rfl rfl (aid _)).mono hc.nb hc.tb
 ·simp[hn]
 ·refine aho (List.countP_le_length) ?_;simp
 intro fuel listed a w hI hJ i hi tX Bn;obtain⟨RO,o',vM,rO⟩:=mem_ready.1 hi;rw[ahD] at vM;have eN:i<ops.length:=(ahh.1 vM).1;have tY:i=n:=by omega
 subst tY;have hoo:o'=al:=by rw[vM] at UI;exact Option.some.inj UI
 subst hoo;have hcl:∀i j,listed.getD i false=true->nw (fF ops []) j i=true->listed.getD j false=true:=by
  have:=hI.closed;rw[I9] at this;exact this
 have kK:∀j,nw (fF ops []) j i=true->listed.getD j false=true:=λj hj=>je hcl vM rO (d6 i o' vM) hj;obtain⟨k,H,T,e,L,hk,gV,qS,cO,gG,fY,gK,dD⟩:=hI.st;rw[oY] at hk gV;rw[kQ] at gG fY dD;have hH:H=s'.H:=Dt _ (aiC qS);subst hH;have sP:Region.wanted o' (yielded ops.toArray a.tmps)=true:=by
  unfold Region.wanted;rw[ur]
 have px:i<listed.size:=by rw[hI.size,sQ];exact eN
 unfold wpOp;rw[ahD,vM]
 dsimp only
 rw[ahs sP];refine .inl ?_;refine tM (vb [] T) cO (λt=>.top _) λcv w' L' vm ma oq=>?_;refine ph2 fuel _ _ _ ⟨by simp[hI.size],λi' j' jR kL=>?_,⟨k,s'.H++[z],T,e,L',λm i' yG=>?_,by rw[oY];exact gV,by rw[Du,qS];rfl,vm,by rw[kQ];exact aho gG oq.n,by rw[kQ];exact aho fY oq.t,λt=>?_,by rw[kQ];exact dD.trans (oq.mono gG fY)⟩,?_,?_⟩ (by simp[px]) Bn
 ·rw[I9] at kL
  by_cases hii:i=i'
  ·subst hii;exact getD_set_true (kK j' kL)
  ·rw[getD_set_ne false hii] at jR;exact getD_set_true (hcl i' j' jR kL)
 ·rw[oY] at yG;have:=Vf m i' yG;rw[getD_set_ne false (by omega)];exact hk m i' yG
 ·have hlt:d<a.tmps.size:=by rw[hI.tmps,kQ];exact hdn
  by_cases hd:d=t
  ·subst hd;refine⟨.ptr s'.H.length 0,.inl ⟨i,x9,hPn,by rw[Rh];exact lS,by simp[px],by rw[Rh]⟩,?_⟩;rw[lS,jE a d d cv hlt,ahs rfl];exact ma
  ·obtain⟨v',hv,hr⟩:=gK t;refine⟨v',?_,?_⟩
   ·rcases hv with⟨j,y,hy,zo,hl,rfl⟩|⟨hno,rfl⟩
    ·exact .inl ⟨j,y,hy,zo,getD_set_true hl,rfl⟩
    ·refine .inr ⟨λj y hy zo=>?_,rfl⟩;have hij:i≠j:=by
      rintro rfl;rw[hPn] at hy
      cases hy
      rw[Rh] at zo;rw[lS] at zo;exact hd (Option.some.inj zo)
     rw[getD_set_ne false hij];exact hno j y hy zo
   ·rw[lS,jE a d t cv hlt,ahq hd];exact hr.keep oq.keeps
 ·rw[lS,kQ];simp[Act.put,hI.tmps,kQ]
 ·rw[lS];exact hI.defers
def Xj {C:Cx}{x y:Code}{Q:Exit->St->Prop}{s:St}(st:St)(h1:AW C y Q st)(h2:AW C y Q st->∀K:St->Prop,(∀s,AW C y Q s->K s)->AW C x (dH K Q) s):AW C (.seq x y) Q s:=xq (h2 h1)
def M5 {C:Cx}{id:Nat}{ops:List Oper}{Q:Exit->St->Prop}{s:St}(K:St->Prop)(n:Nat)(bF lo:List Nat)(na:List (List Nat))(hm:C.P.follows .mixedOrders=true)(vL:xg ops (n+1)=true)(kI:(jb (ops.take (n+1)) bF lo na&&!bF.contains n)=true)(qg:jP bF=true)
  (h:sR ⟨C,(ops.take (n+1)).toArray,bF,lo,na,ir C ops.toArray K (ops.drop (n+1))⟩ (N8 C (ops.take (n+1)) lo (ir C ops.toArray K (ops.drop (n+1))) n s.H) n (ops.take (n+1)) [] [(s.H,s.T,0)] (prune C.nv s.e)):AW C (.region id ops.toArray true) (dH K Q) s:=by
 simp only[aht,ajM] at kI;intro L0 w0 a0 mG;obtain⟨c1,_⟩:=p7 vL;refine wp_region_any hm ?_;have hg:=Im (Q:=Q) (ir C ops.toArray K (ops.drop (n+1))) n bF lo na (by rw[ahJ];omega) kI.1 qg kI.2 h L0 w0 a0 mG;have hlen:(ops.take (n+1)).toArray.size=n+1:=by simp;omega
 rw[hlen] at hg;have:=P1 (P:=C.P) (ops:=ops) (n:=n+1) (Q2:=cL C (dH K Q) L0 s w0) vL ?_ ?_ (n+1) (Array.replicate (n+1) false) (Array.replicate ops.length false) a0 _ (by simp) (by simp) ?_ ?_ ?_ hg
 ·rw[show ops.toArray.size=n+1+(ops.length-(n+1)) by simp;omega];rw[show ops.length=n+1+(ops.length-(n+1)) by omega] at this;simpa using this
 ·rintro e a w hne ⟨s',L',q,r⟩;refine⟨s',L',?_,r⟩
  cases e<;>first|exact absurd rfl hne|exact q
 ·rintro a w ⟨s',L',q,hc,dD⟩;refine Ib ?_ _ _ _ (yz (ops.drop (n+1)) s' q L' w a L0 s w0 hc dD);rintro e a w ⟨s',L',q,r⟩;refine⟨s',L',?_,r⟩
  cases e<;>first|exact q|exact q.elim
 ·intro j hj;have:j<ops.length:=by omega
  simp[hj,this]
 ·intro j hj
  by_cases h1:j<ops.length<;>simp[h1]
 ·intro i j hi;exfalso
  by_cases h1:i<ops.length<;>simp[h1] at hi
section
variable {D : wh} {KR : List bT -> List mW -> Env -> Prop} {o : Oper} {r : List Oper} {aQ : List bT} {sts : List mW} {e : Env}
@[simp] theorem Xu {l:List Oper}:sR D KR 0 l aQ sts e=KR aQ sts e:=by cases l<;>rfl
@[simp] theorem Xv {n:Nat}:sR D KR (n+1) (o::r) aQ sts e=(match sts.getLast? with
  |some (H,T,_)=>match o.guard with
   |none=>kM D (sR D KR n r) o aQ sts e H T
   |some _=>False
  |none=>False):=rfl
end
attribute [simp] I4 YW Dn N8
def gP (C:Cx)(o:Oper)(e:Env)(H:List az)(T:au)(κ:AV->List az->au->Prop):Prop:=
 match kO C.P C.bx o e H with
 |some (m,ys,z)=>∀nc:Nat,m<=nc->κ (.bG H.length m nc) (H++[.cells (ys++List.replicate ((nc-m)*z) .top)]) T
 |none=>match sG o e with
  |some (t,t2,i,n,cap,x)=>∃(el:TypeId) (vs xs:List AV) (m:Nat),C.P.underlying t=some (.slice el)/\H[i]?=some (.cells vs)/\vs.length=cap*C.P.cellsOf el/\gT H (C.P.cellsOf el) x=some (m,xs)/\(n+m)*C.P.bytesOf el<=140737488355328/\n+m<=9223372036854775807/\
    jT C.P t2=true/\(aZ C.P el).isSome=true/\
    (n+m<=cap->κ (.bG i (n+m) cap) (H.set i (.cells (vs.take (n*C.P.cellsOf el)++xs++vs.drop ((n+m)*C.P.cellsOf el)))) T)/\
    ∀nc,cap<n+m->n+m<=nc->κ (.bG H.length (n+m) nc) (H++[.cells (vs.take (n*C.P.cellsOf el)++xs++List.replicate ((nc-(n+m))*C.P.cellsOf el) .top)]) T
  |none=>False
def yA {o:Oper}{e e':Env}(h:∀x∈o.op.operands,bN e x=bN e' x):sG o e=sG o e':=by
 unfold sG
 cases ho:o.op<;>try rfl
 rename_i c;rw[ho] at h;obtain⟨callee,args,CL⟩:=c
 cases callee<;>try rfl
 rename_i bi
 cases bi<;>try rfl
 have h2:args.toList.map (bN e)=args.toList.map (bN e'):=ahW λx hx=>h x (by simp only[Op.operands,Call.operands];exact aje.2 (.inr (aiN.1 hx)));simp only[h2]
def vI {P:Program}{bx:List Nat}{o:Oper}{e e':Env}{H:List az}(h:∀x∈o.op.operands,bN e x=bN e' x):kO P bx o e H=kO P bx o e' H:=by
 obtain⟨dst,op,type,pos,after,guard⟩:=o;unfold kO;simp only at h ⊢
 cases op<;>try rfl
 rename_i c;obtain⟨callee,args,CL⟩:=c
 cases callee<;>try rfl
 rename_i bi
 cases bi<;>try rfl
 cases dst<;>try rfl
 have h2:args.toList.map (bN e)=args.toList.map (bN e'):=ahW λx hx=>h x (by simp only[Op.operands,Call.operands];exact aje.2 (.inr (aiN.1 hx)));simp only[h2]
def vA {C:Cx}{o:Oper}{e e':Env}{H:List az}{T:au}{κ:AV->List az->au->Prop}(h:∀x∈o.op.operands,bN e x=bN e' x)(k:gP C o e H T κ):gP C o e' H T κ:=by
 unfold gP at k ⊢;rw[<-vI h,<-yA h];exact k
theorem xL {C:Cx}{o:Oper}{e:Env}{H:List az}{T:au}{κ:AV->List az->au->Prop}(k:gP C o e H T κ){L:Lay}{w:World}{a:Act}(hc:bW L H T w)(he:fD L H.length T w e a){K:Act->World->Prop}{Q:Exit->Act->World->Prop}
  (hk:∀v H' T' cv w' L',κ v H' T'->bW L' H' T' w'->aY L' H'.length T' w' v cv->Ev H.length T.length L H.length T w L' H'.length T' w'->K (a.put o.dst cv) w'):o.wp C.P a w K Q:=by
 unfold gP at k
 split at k
 ·rename_i m ys z Bb;obtain⟨nc,lC,cv,w',L',cY,cO,dI,dD⟩:=Ae Bb hc he;unfold Oper.wp;rw[cY];exact hk _ _ _ _ _ _ (k nc lC) cO dI dD
 ·split at k
  ·rename_i t t2 i n cap x Ki;obtain⟨el,vs,xs,m,hu,hH,Nl,m5,qO,ub,tX,qM,hk1,gq⟩:=k;unfold sG at Ki
   split at Ki
   ·rename_i args CL lL
    split at Ki
    ·rename_i t' t2' i' n' cap' x' CR fm
     cases Ki
     have rE:CL=#[t,t2]:=by rw[<-Array.toList_inj];exact CR
     subst rE;have jH:args.toList.length=2:=by have:=congrArg List.length fm;simpa using this
     match vb:args.toList,jH,fm with
     |[p,q],_,fm=>
      simp only[ahX,ajg,List.cons.injEq,aj1] at fm;obtain⟨e1,e2⟩:=fm;have h0:=he.bN p;have h1:=he.bN q;rw[e1] at h0;rw[e2] at h1;have oA:args=#[p,q]:=by rw[<-Array.toList_inj];exact vb
      subst oA;have hex:∀cv w',(Builtin.append_ #[t,t2] o.type #[a.eval p,a.eval q]).run C.P w=.ok cv w'->(execOp a.eval o).run C.P w=.ok (.value cv) w':=λcv w' hr=>by
       simp only[execOp,lL,resolve,Sem.run_bind,Sem.run_pure,Result.andThen_ok,invoke,builtin,List.map_toArray,ahX,ajg,hr]
      rcases D4 (ty:=o.type) hc h0 h1 hu hH Nl m5 qO ub tX qM with⟨hle,cv,w',L',cY,cO,dI,dD⟩|⟨hlt,nc,lC,cv,w',L',cY,cO,dI,dD⟩
      ·unfold Oper.wp;rw[hex _ _ cY];exact hk _ _ _ _ _ _ (hk1 hle) cO dI dD
      ·unfold Oper.wp;rw[hex _ _ cY];exact hk _ _ _ _ _ _ (gq nc hlt lC) cO dI dD
    ·cases Ki
   ·cases Ki
  ·exact k.elim
def iI (D:wh):Nat->List Oper->List bT->List mW->Env->Prop
 |_,[],_,_,_=>False
 |0,o::r,aQ,sts,e=>match sts.getLast? with
  |some (H,T,_)=>match o.guard with
   |none=>gP D.C o e H T (λv H' T'=>Bc D (gQ D r) o aQ sts e true v H' T')
   |some _=>False
  |none=>False
 |n+1,o::r,aQ,sts,e=>match sts.getLast? with
  |some (H,T,_)=>match o.guard with
   |none=>kM D (iI D n r) o aQ sts e H T
   |some (j,want)=>match pe D.all j e with
    |some b=>if b=some want then kM D (iI D n r) o aQ sts e H T else Bc D (iI D n r) o aQ sts e false (.df []) H T
    |none=>False
  |none=>False
theorem FJ {nx:Nat}{D:wh}{ops:List Oper}{e0:Env}(kI:jP D.bF=true)(lM:D.bF.contains nx=true):∀(n:Nat)(l:List Oper)(aQ:List bT)(sts:List mW)(e:Env),iw nx D ops e0 aQ sts e->ops.drop aQ.length=l->aQ.length<=ops.length->aQ.length+n=nx->iI D n l aQ sts e->
  ∃bQ eC H T i o r,iw nx D ops e0 bQ eC (aV e0 bQ)/\bQ.length=nx/\eC.getLast?=some (H,T,i)/\eC[0]?=sts[0]?/\ops.drop nx=o::r/\o.guard=none/\gP D.C o (aV e0 bQ) H T (λv H' T'=>Bc D (gQ D r) o bQ eC (aV e0 bQ) true v H' T'):=by
 intro n
 induction n with
 |zero=>
  intro l aQ sts e hw hl hle hn h
  cases l with
  |nil=>exact h.elim
  |cons o r=>
   unfold iI at h
   split at h
   ·rename_i H T i dy
    split at h
    ·rename_i hg;have hc:=hw.cur;subst hc;exact⟨aQ,sts,H,T,i,o,r,hw,by omega,dy,rfl,by rw[<-hl];congr 1;omega,hg,h⟩
    ·exact h.elim
   ·exact h.elim
 |succ n ih=>
  intro l aQ sts e hw hl hle hn h
  cases l with
  |nil=>exact h.elim
  |cons o r=>
  have hlt:aQ.length<ops.length:=by
   have:=congrArg List.length hl;simp at this;omega
  have nE:ops[aQ.length]?=some o:=by
   have:=congrArg (λl=>l[0]?) hl;simpa using this
  have ri:ops.drop (aQ.length+1)=r:=by
   have:=congrArg (λl=>l.drop 1) hl;simpa[ajG,add_comm] using this
  have fin:∀{H T i0 run v H' T'},sts.getLast?=some (H,T,i0)->(match o.guard with|none=>run=true|some (j,want)=>∃b,pe D.all j e=some b/\run=(b==some want))->(run=false->v=.df []/\H'=H/\T'=T)->(run=true->aQ.length≠nx->dN D.C.P o e H T v H' T')->
    (D.bF.contains aQ.length=false->H'=H/\T'=T)->Bc D (iI D n r) o aQ sts e run v H' T'->∃bQ eC H T i o r,iw nx D ops e0 bQ eC (aV e0 bQ)/\bQ.length=nx/\eC.getLast?=some (H,T,i)/\eC[0]?=sts[0]?/\ops.drop nx=o::r/\o.guard=none/\gP D.C o (aV e0 bQ) H T (λv H' T'=>Bc D (gQ D r) o bQ eC (aV e0 bQ) true v H' T'):=by
   intro H T i0 run v H' T' dy hg h1 h2 h3 h4;obtain⟨bQ,eC,e',g1,g2,g3,g4,_⟩:=qC kI (.inl lM) hw nE dy hg h1 h2 h3 h4;obtain⟨r2,s2,H2,T2,i2,o2,q2,k1,k2,k3,k4,k5⟩:=ih r bQ eC e' g1 (by rw[g2];exact ri) (by omega) (by omega) g3;exact⟨r2,s2,H2,T2,i2,o2,q2,k1,k2,k3,k4.trans g4,k5⟩
  have exec:∀{H T i0},sts.getLast?=some (H,T,i0)->(match o.guard with|none=>true=true|some (j,want)=>∃b,pe D.all j e=some b/\true=(b==some want))->kM D (iI D n r) o aQ sts e H T->
    ∃bQ eC H T i o r,iw nx D ops e0 bQ eC (aV e0 bQ)/\bQ.length=nx/\eC.getLast?=some (H,T,i)/\eC[0]?=sts[0]?/\ops.drop nx=o::r/\o.guard=none/\gP D.C o (aV e0 bQ) H T (λv H' T'=>Bc D (gQ D r) o bQ eC (aV e0 bQ) true v H' T'):=by
   intro H T i0 dy hg hx;unfold kM at hx
   split at hx
   ·rename_i g as jx;obtain⟨v,H',T',hc,hs,hd⟩:=hx;refine fin (run:=true) dy hg (λe=>by cases e) (λ_ _=>?_) hs hd;unfold dN;rw[jx];exact hc
   ·rename_i jx
    split at hx
    ·rename_i v H' T' lL;refine fin (run:=true) dy hg (λe=>by cases e) (λ_ _=>?_) hx.1 hx.2;unfold dN;rw[jx];exact lL
    ·exact hx.elim
  unfold iI at h
  split at h
  ·rename_i H T i0 dy
   split at h
   ·rename_i hg;exact exec dy (by rw[hg]) h
   ·rename_i j want hg
    split at h
    ·rename_i b hb
     split at h
     ·rename_i yQ;exact exec dy (by rw[hg];exact⟨b,hb,by simp[yQ]⟩) h
     ·rename_i yQ;exact fin (run:=false) dy (by rw[hg];exact⟨b,hb,by simp[yQ]⟩) (λ_=>⟨rfl,rfl,rfl⟩) (λe=>by cases e) (λ_=>⟨rfl,rfl⟩) h
    ·exact h.elim
  ·exact h.elim
def mCk (ops:List Oper)(bF:List Nat)(nx:Nat):Bool:=
 (bF[0]?==some nx)&&(List.range ops.length).all λi=>decide (i<=nx)||nw (fF ops []) nx i
theorem Iq {C:Cx}{ops:List Oper}{Q:Exit->St->Prop}{s:St}(K:St->Prop)(nx:Nat)(bF lo:List Nat)(na:List (List Nat))(kI:jb ops bF lo na=true)(qg:jP bF=true)(hm:mCk ops bF nx=true)
  (h:iI ⟨C,ops.toArray,bF,lo,na,K⟩ nx ops [] [(s.H,s.T,0)] (prune C.nv s.e)):∀L0 w0 a0,eQ C s L0 w0 a0->
   wpAny C.P .any ops.toArray (cL C (dH K Q) L0 s w0) ops.toArray.size (Array.replicate ops.toArray.size false) a0 { w0 with drawn:=w0.drawn+1 }:=by
 intro L0 w0 a0 mG;have hc:eQ C ⟨prune C.nv s.e,s.H,s.T⟩ L0 w0 a0:=⟨mG.nb,mG.tb,mG.mV,mG.size,mG.defers,λt=>by
  rcases mC C.nv s.e t with e|e<;>rw[e]
  ·exact mG.env t
  ·exact .top _⟩
 generalize hs':(⟨prune C.nv s.e,s.H,s.T⟩:St)=s' at hc;have hs1:prune C.nv s.e=s'.e:=by rw[<-hs']
 have hs2:s.H=s'.H:=by rw[<-hs']
 have Gn:s.T=s'.T:=by rw[<-hs']
 rw[hs1,hs2,Gn] at h;rw[show cL C (dH K Q) L0 s w0=cL C (dH K Q) L0 s' w0 by unfold cL;rw[hs2,Gn]];clear hs' hs1 hs2 Gn mG;generalize hD:(⟨C,ops.toArray,bF,lo,na,K⟩:wh)=D at h;have kQ:D.C=C:=by rw[<-hD]
 have oY:D.bF=bF:=by rw[<-hD]
 have zz:D.lo=lo:=by rw[<-hD]
 have hDn:D.na=na:=by rw[<-hD]
 have R5:D.all=ops.toArray:=by rw[<-hD]
 have hDK:D.K=K:=by rw[<-hD]
 unfold mCk at hm;simp only[aht,ajb,ahQ,ahI,aic,ahv] at hm;obtain⟨RP,hmA⟩:=hm;have aeW:bF.contains nx=true:=by rw[aiZ];exact aiC RP
 have Ku:D.bF.contains nx=true:=by rw[oY];exact aeW
 have Zt:(bF.filter (·<nx)).length=0:=by
  have:=ahQ.1 qg 0 (ahI.2 (ahh.1 RP).1);simp only[aht,ajb,ahg,RP,aiU] at this;exact this.1
 have agM:∀m i,bF[m]?=some i->nx<=i:=λm i UL=>by
  rcases ahr i nx with h1|h1
  ·have:i∈bF.filter (·<nx):=ahF.2 ⟨aiC UL,by simpa using h1⟩;rw[ah3.1 Zt] at this;simp at this
  ·exact h1
 obtain⟨vg,C4,H1,T1,i1,o,r,hw1,u7,O5,Z3,ri,ur,hmx⟩:=FJ (D:=D) (ops:=ops) (e0:=s'.e) (by rw[oY];exact qg) Ku nx ops [] [(s'.H,s'.T,0)] s'.e
  ⟨⟨by simp,λi x hx=>by simp at hx⟩,λi x hx=>by simp at hx,λi x hx=>by simp at hx,rfl⟩ (by simp) (by simp) (by simp) h
 obtain⟨d1,d2,d3,d4,d5,d6,d7⟩:=ku kI;have Wn:nx<ops.length:=(d3 0 nx RP).1;have UI:ops[nx]?=some o:=by
  have:=congrArg (λl=>l[0]?) ri;simpa using this
 have aeN:C4.length=1:=by
  have:=hw1.st.len;rw[oY,u7,Zt] at this;exact this
 have Z2:C4=[(s'.H,s'.T,0)]:=by
  match C4,aeN,Z3 with
  |[x],_,h0=>simpa using h0
 subst Z2;simp only[List.getLast?_singleton,Option.some.injEq,Prod.mk.injEq] at O5;obtain⟨rfl,rfl,rfl⟩:=O5;obtain⟨fw,hP⟩:∃l,l=vg++(ops.drop nx).map λo=>(⟨o,[],false,.top,0,false⟩:bT):=⟨_,rfl⟩
 have sQ:fw.length=ops.length:=by rw[hP];simp[u7];omega
 have vZ:∀i,i<nx->fw[i]?=vg[i]?:=λi hi=>by rw[hP,ahp (by omega)]
 have NK:∀(i:Nat)(x:bT),fw[i]?=some x->ops[i]?=some x.o:=λi x hx=>by
  rcases ahr i nx with hi|hi
  ·rw[vZ i hi] at hx;exact(hw1.Kb i x hx).o
  ·rw[hP,ahC (by omega),u7,aip,aiX,show nx+(i-nx)=i by omega] at hx
   cases ho:ops[i]? with
   |none=>rw[ho] at hx;cases hx
   |some z=>rw[ho] at hx;cases hx;rfl
 have G0:fw.take nx=vg:=by rw[hP,air (by omega),<-u7,ahE]
 have I9:fw.map (·.o)=ops:=by
  apply aja;intro i;rw[aip]
  by_cases hi:i<fw.length
  ·rw[ahi hi,ai4,NK i _ (ahi hi)]
  ·rw[aiI (by omega),aiI (by omega)];rfl
 have hsz:ops.toArray.size=ops.length:=by simp
 rw[hsz];refine oc (sts:=[(s'.H,s'.T,0)]) kI qg kQ oY zz hDn R5 sQ NK (λi=>i<nx) (nx:=nx) (λi hi=>by omega) (λi x hx hi=>by have hr:=hw1.Kb i x (by rw[<-vZ i hi];exact hx);exact⟨hr.o,hr.k,hr.bF,hr.gate,hr.dst,hr.skip,hr.still,hr.effect⟩) (λi x hx hi=>?_) (λi x hx hi=>hw1.st.k i x (by rw[<-vZ i hi];exact hx)) (λl=>l.getD nx false=false)
  (λl i hi hl=>by rw[getD_set_ne false (by omega)];exact hl) (λlisted a w hI hJ hall=>by rw[hall nx Wn] at hJ;cases hJ) ?_ ops.length _ a0 _ ⟨by simp[sQ],λi j hl _=>?_,⟨0,s'.H,s'.T,0,L0,λm i UL=>?_,ahu _,rfl,hc.mV.drew rfl,by rw[kQ];exact hc.nb,by rw[kQ];exact hc.tb,λt=>?_,?_⟩,by rw[kQ];exact hc.size,hc.defers⟩ ?_ (.inr ?_)
 ·rw[hw1.KE i x (by rw[<-vZ i hi];exact hx)]
  congr 1
  rw[hP,air (by omega)]
 rotate_left
 ·exfalso
  by_cases hi:i<ops.length<;>simp[hi] at hl
 ·constructor
  ·intro hl;exfalso
   by_cases hi:i<ops.length<;>simp[hi] at hl
  ·intro h;omega
 ·refine⟨bE s'.e t,.inr ⟨λj x hx hd=>?_,rfl⟩,?_⟩
  ·by_cases hj:j<ops.length<;>simp[hj]
  ·have kd:cX L0 s'.H.length s'.T w0 L0 s'.H.length s'.T { w0 with drawn:=w0.drawn+1 }:=(Ev.drew (H:=s'.H) (T:=s'.T) (L:=L0) (w:=w0) (w':={ w0 with drawn:=w0.drawn+1 }) rfl rfl rfl rfl (aid _)).keeps;exact(hc.env t).keep kd
 ·rw[kQ];exact(Ev.drew (H:=s'.H) (T:=s'.T) (L:=L0) (w:=w0) (w':={ w0 with drawn:=w0.drawn+1 }) rfl rfl rfl rfl (aid _)).mono hc.nb hc.tb
 ·simp[Wn]
 ·refine aho (List.countP_le_length) ?_;simp
 intro fuel listed a w hI hJ i hi hnr Bn;obtain⟨RO,o',vM,rO⟩:=mem_ready.1 hi;rw[ahD] at vM;have eN:i<ops.length:=(ahh.1 vM).1;have hcl:∀i j,listed.getD i false=true->nw (fF ops []) j i=true->listed.getD j false=true:=by
  have:=hI.closed;rw[I9] at this;exact this
 have kK:∀j,nw (fF ops []) j i=true->listed.getD j false=true:=λj hj=>je hcl vM rO (d6 i o' vM) hj;have afb:i=nx:=by
  rcases hmA i eN with h1|h1
  ·omega
  ·have:=kK nx h1;rw[hJ] at this;cases this
 subst afb;have hoo:o'=o:=by rw[vM] at UI;exact Option.some.inj UI
 subst hoo;have O4:∀j,i<j->j<ops.length->listed.getD j false=false:=λj hj qN=>by
  rcases hmA j qN with h1|h1
  ·omega
  ·cases hlj:listed.getD j false with
   |false=>rfl
   |true=>have:=hcl j i hlj h1;rw[hJ] at this;cases this
 obtain⟨k,H,T,e,L,hk,gV,qS,cO,gG,fY,gK,dD⟩:=hI.st;rw[oY] at hk gV;rw[kQ] at gG fY dD;have hk0:k=0:=by
  have:=(hk 0 i RP)
  rw[hJ] at this;have h2:¬0<k:=λhh=>by have:=this.2 hh;cases this
  omega
 subst hk0;simp at qS;obtain⟨rfl,rfl,rfl⟩:=qS;have eE:∀t∈o'.looksAt ops.toArray,∀v,VS fw listed s'.e t v->v=bE (aV s'.e vg) t:=by
  intro t ht v hv;rw[<-G0];have Ri:∀(j:Nat)(z:bT),fw[j]?=some z->z.o.dst=some t->i≠j/\((j<i/\nw (fF ops []) j i=true)\/(i<j/\nw (fF ops []) i j=true)):=λj z hz hd=>d2 i j o' z.o t vM (NK j z hz) ht hd;rcases hv with⟨j,z,hz,hd,hl,rfl⟩|⟨hno,rfl⟩
  ·obtain⟨hne,h1|h1⟩:=Ri j z hz hd
   ·rw[fe (fw.take i) s'.e t j z (by rw[ah9,ahs h1.1];exact hz) hd (λi' y' hy' YB=>by
     rw[ah9] at hy'
     split at hy'
     ·exact d1 i' j y'.o z.o t (NK i' y' hy') (NK j z hz) YB hd
     ·cases hy')]
   ·have:=hcl j i hl h1.2;rw[hJ] at this;cases this
  ·rw[cE (fw.take i) s'.e t (λz hz hd=>by
    obtain⟨j,hj,e1⟩:=ahB.1 hz;simp at hj;have hz':fw[j]?=some z:=by rw[ahi (by omega),<-e1];simp
    have hf:=hno j z hz' hd;obtain⟨hne,h1|h1⟩:=Ri j z hz' hd
    ·have:=kK j h1.2;rw[hf] at this;cases this
    ·omega)]
 have uc:fD L s'.H.length s'.T w (ow (aV s'.e vg) (o'.looksAt ops.toArray)) a:=by
  intro t;rw[ik]
  split
  ·rename_i ht;obtain⟨v,hv,hr⟩:=gK t;rw[<-eE t ht v hv];exact hr
  ·exact .top _
 have GJ:∀z∈o'.op.operands,bN (aV s'.e vg) z=bN (ow (aV s'.e vg) (o'.looksAt ops.toArray)) z:=by
  intro z hz
  cases z with
  |tmp t=>
   have:t∈o'.looksAt ops.toArray:=by
    unfold Oper.looksAt;exact ahw.2 (.inl (List.mem_filterMap.2 ⟨_,aiN.2 hz,rfl⟩))
   simp only[bN,ik,ahs this]
  |_=>rfl
 have sP:Region.wanted o' (yielded ops.toArray a.tmps)=true:=by
  unfold Region.wanted;rw[ur]
 have px:i<listed.size:=by rw[hI.size];omega
 unfold wpOp;rw[ahD,vM]
 dsimp only
 rw[ahs sP];refine .inl ?_;rw[kQ] at hmx;refine xL (vA GJ hmx) cO uc λv H' T' cv w' L' Np vm ma oq=>?_;obtain⟨bQ,eC,e',g1,g2,g3,g4,_,⟨x9,g9,gx⟩,_,g8⟩:=qC (nx:=i) (ops:=ops) (e0:=s'.e) (H:=s'.H) (T:=s'.T) (i0:=0) (by rw[oY];exact qg) (.inl Ku) hw1 (by rw[u7];exact vM) rfl (by rw[ur]) (λhh=>by cases hh) (λ_ hne=>absurd u7 hne) (λhh=>by rw[u7,Ku] at hh;cases hh) Np;have Rh:=gx (by rw[u7];exact Ku);have hs9:=g8 (by rw[u7];exact Ku);obtain⟨vf,V3,HL,TL,iL,k1,k2,k3,k4,k5,⟨q6,k6⟩,⟨q7,k7⟩⟩:=vH (nx:=i) (D:=D) (ops:=ops) (e0:=s'.e) (by rw[oY];exact qg) (.inl Ku) r bQ eC e' g1 (by
  rw[g2,u7];have:=congrArg (λl=>l.drop 1) ri;simpa[ajG,add_comm] using this) (by rw[g2,u7];omega) g3
 have Va:∀j,j<i->vf[j]?=vg[j]?:=λj hj=>by rw[k6,g9,ahA,ahp (by omega)]
 have Ot:vf[i]?=some x9:=by rw[k6,g9,ahA,ahC (by omega),u7,aiH];rfl
 have NW:∀(j:Nat)(x:bT),vf[j]?=some x->ops[j]?=some x.o:=λj x hx=>(k1.Kb j x hx).o;have aae:vf.map (·.o)=ops:=by
  apply aja;intro j;rw[aip]
  by_cases hj:j<vf.length
  ·rw[ahi hj,ai4,NW j _ (ahi hj)]
  ·rw[aiI (by omega),aiI (by omega)];rfl
 have aeM:V3[1]?=some (H',T',i):=by
  rw[k7,hs9,u7];rfl
 have NV:V3.length=1+bF.length:=by
  have h1:=k1.st.len;rw[oY] at h1;rw[h1]
  congr 2
  apply aiT.2;intro e he;obtain⟨m,hm,e1⟩:=ahB.1 he;have:=(d3 m e (by rw[ahi hm,e1])).1;simp;omega
 refine oc kI qg kQ oY zz hDn R5 k2 NW (λj=>j≠i) (nx:=i) (λj hj=>hj) (λj x hx _=>k1.Kb j x hx) (λj x hx _=>k1.KE j x hx) (λj x hx _=>k1.st.k j x hx) (λl=>l.getD i false=true)
  (λl j _ hl=>getD_set_true hl) (λlisted a w YL _ hall=>?_) (λfuel listed a w YL iW j hj hne _=>?_) fuel _ _ _ ⟨by simp[hI.size,sQ,k2],λi' j' jR kL=>?_,⟨1,H',T',i,L',λm i' yG=>?_,?_,aeM,vm,by rw[kQ];exact aho gG oq.n,by rw[kQ];exact aho fY oq.t,λt=>?_,by rw[kQ];exact dD.trans (oq.mono gG fY)⟩,?_,?_⟩ ?_ Bn
 ·
  obtain⟨k,H,T,e,L,hk,gV,qS,cO,gG,fY,gK,dD⟩:=YL.st;have hkk:k=bF.length:=by
   rw[oY] at hk gV;rcases ahr k bF.length with hlt|hge
   ·have:=(hk k _ (ahi hlt)).1 (hall _ (d3 k _ (ahi hlt)).1);omega
   ·omega
  have Da:V3[k]?=some (HL,TL,iL):=by rw[<-k3,ajY,NV,hkk];congr 1;omega
  rw[qS] at Da;obtain⟨rfl,rfl,rfl⟩:H=HL/\T=TL/\e=iL:=by injection Da with h1;injection h1 with h1 h2;injection h2 with h2 h3;exact⟨h1,h2,h3⟩
  rw[hDK] at k4;rw[kQ] at dD gG fY;refine⟨_,L,k4,⟨gG,fY,cO,by rw[YL.tmps,kQ],YL.defers,λt=>?_⟩,dD⟩;obtain⟨v,hv,hr⟩:=gK t;show aY L H.length T w (bE (aV s'.e vf) t) _;rcases hv with⟨j,x,hx,hd,hl,rfl⟩|⟨hno,rfl⟩
  ·rw[fe vf s'.e t j x hx hd (λi y hy zo=>d1 i j y.o x.o t (NW i y hy) (NW j x hx) zo hd)];exact hr
  ·rw[cE vf s'.e t (λx hx hd=>by
    obtain⟨j,hj,e1⟩:=ahB.1 hx;have h1:=hno j x (by rw[ahi hj,e1]) hd;have h2:=hall j (by omega);rw[h1] at h2;cases h2)]
   exact hr
 ·have:j=i:=Classical.byContradiction hne;subst this;obtain⟨h1,z,hz,_⟩:=mem_ready.1 hj;rw[cN (by rw[YL.size,k2];exact Wn),iW] at h1
  cases h1
 ·rw[aae] at kL
  by_cases hii:i=i'
  ·subst hii;have:=kK j' kL
   by_cases hij:i=j'
   ·subst hij;rw[hJ] at this;cases this
   ·rw[getD_set_ne false hij];exact this
  ·rw[getD_set_ne false hii] at jR;have:=hcl i' j' jR kL;exact getD_set_true this
 ·rw[oY] at yG;have yV:=(ahh.1 yG).1
  by_cases ae2:m=0
  ·subst ae2;rw[RP] at yG
   cases yG
   simp[px]
  ·have hne:i≠i':=by
    rintro rfl;have h1:=ahQ.1 qg m (ahI.2 yV);simp only[aht,ajb,ahg,yG,aiU] at h1;omega
   rw[getD_set_ne false hne,hk m i' yG];omega
 ·rw[oY];have:=(ahh.1 RP).1;omega
 ·by_cases hd:o'.dst=some t
  ·refine⟨x9.v,.inl ⟨i,x9,Ot,by rw[Rh];exact hd,by simp[px],rfl⟩,?_⟩;have hdl:=(k1.Kb i x9 Ot).dst t (by rw[Rh];exact hd);have hlt:t<a.tmps.size:=by rw[hI.tmps];exact hdl
   rw[hd,jE a t t cv hlt,ahs rfl,Rh];exact ma
  ·obtain⟨v',hv,hr⟩:=gK t;refine⟨v',?_,?_⟩
   ·rcases hv with⟨j,z,hz,A9,hl,rfl⟩|⟨hno,rfl⟩
    ·have qN:j<ops.length:=by have:=(ahh.1 hz).1;omega
     have hji:j<i:=by
      rcases aiM j i with h1|h1|h1
      ·exact h1
      ·subst h1;rw[hJ] at hl;cases hl
      ·rw[O4 j h1 qN] at hl;cases hl
     exact .inl ⟨j,z,by rw[Va j hji,<-vZ j hji];exact hz,A9,getD_set_true hl,rfl⟩
    ·refine .inr ⟨λj z hz A9=>?_,rfl⟩;have qN:j<ops.length:=by have:=(ahh.1 hz).1;omega
     have hij:i≠j:=by
      rintro rfl;have:=NW i z hz;rw[vM] at this;have:=Option.some.inj this;rw[<-this] at A9;exact hd A9
     rw[getD_set_ne false hij];rcases ahr j i with h1|h1
     ·exact hno j z (by rw[vZ j h1,<-Va j h1];exact hz) A9
     ·exact O4 j (by omega) qN
   ·have e1:(a.put o'.dst cv).tmps.getD t undef=a.tmps.getD t undef:=by
     cases lS:o'.dst with
     |none=>rfl
     |some d=>
      have hlt:d<a.tmps.size:=by rw[hI.tmps];exact(k1.Kb i x9 Ot).dst d (by rw[Rh];exact lS)
      rw[jE a d t cv hlt,ahq (λe=>hd (by rw[lS,e]))]
    rw[e1];exact hr.keep oq.keeps
 ·simp[Act.put];cases o'.dst<;>simp[hI.tmps]
 ·cases o'.dst<;>exact hI.defers
 ·simp[px]
def M6 {C:Cx}{id:Nat}{ops:List Oper}{Q:Exit->St->Prop}{s:St}(K:St->Prop)(nx:Nat)(bF lo:List Nat)(na:List (List Nat))(hm:C.P.follows .mixedOrders=true)(kI:jb ops bF lo na=true)(qg:jP bF=true)(XG:mCk ops bF nx=true)
  (h:iI ⟨C,ops.toArray,bF,lo,na,K⟩ nx ops [] [(s.H,s.T,0)] (prune C.nv s.e)):AW C (.region id ops.toArray true) (dH K Q) s:=
 λL0 w0 a0 mG=>wp_region_any hm (Iq K nx bF lo na kI qg XG h L0 w0 a0 mG)
def qI {C:Cx}{id:Nat}{ops:List Oper}{Q:Exit->St->Prop}{s:St}(nx:Nat)(bF lo:List Nat)(na:List (List Nat))(hm:C.P.follows .mixedOrders=true)(kI:jb ops bF lo na=true)(qg:jP bF=true)(XG:mCk ops bF nx=true)
  (h:∀K:St->Prop,(∀s,Q .normal s->K s)->iI ⟨C,ops.toArray,bF,lo,na,K⟩ nx ops [] [(s.H,s.T,0)] (prune C.nv s.e)):AW C (.region id ops.toArray true) Q s:=
 (M6 (Q:=Q) (λs=>Q .normal s) nx bF lo na hm kI qg XG (h _ λ_ h=>h)).mono λe s q=>by cases e<;>exact q
section
variable {D : wh} {o : Oper} {r : List Oper} {aQ : List bT} {sts : List mW} {e : Env}
@[simp] theorem Vz:iI D 0 (o::r) aQ sts e=(match sts.getLast? with
  |some (H,T,_)=>match o.guard with
   |none=>gP D.C o e H T (λv H' T'=>Bc D (gQ D r) o aQ sts e true v H' T')
   |some _=>False
  |none=>False):=rfl
@[simp] theorem VA {n:Nat}:iI D (n+1) (o::r) aQ sts e=(match sts.getLast? with
  |some (H,T,_)=>match o.guard with
   |none=>kM D (iI D n r) o aQ sts e H T
   |some (j,want)=>match pe D.all j e with
    |some b=>if b=some want then kM D (iI D n r) o aQ sts e H T else Bc D (iI D n r) o aQ sts e false (.df []) H T
    |none=>False
  |none=>False):=rfl
end
attribute [simp] gP
def F7 {P:Program}{o:Oper}{e e':Env}{H:List az}(h:∀x∈o.op.operands,bN e x=bN e' x):mO P o e H=mO P o e' H:=by
 unfold mO
 cases ho:o.op<;>try rfl
 rename_i c;rw[ho] at h;obtain⟨callee,args,CL⟩:=c
 cases callee<;>try rfl
 rename_i bi
 cases bi<;>try rfl
 have h2:args.toList.map (bN e)=args.toList.map (bN e'):=ahW λx hx=>h x (by simp only[Op.operands,Call.operands];exact aje.2 (.inr (aiN.1 hx)));simp only[h2]
def ji (C:Cx)(o:Oper)(e:Env)(H:List az)(T:au)(κ:AV->List az->au->Prop):Prop:=
 if mO C.P o e H=true then κ (.sl 0 [] .full) H T else
 match kO C.P C.bx o e H with
 |some _=>gP C o e H T κ
 |none=>match sG o e with
  |some _=>gP C o e H T κ
  |none=>match gR o e with
   |some _=>False
   |none=>match Nw C.P o e H T with
    |some (v,H',T')=>κ v H' T'
    |none=>False
def F0 {C:Cx}{o:Oper}{e e':Env}{H:List az}{T:au}{κ:AV->List az->au->Prop}(h:∀x∈o.op.operands,bN e x=bN e' x)(k:ji C o e H T κ):ji C o e' H T κ:=by
 have hm:gP C o e H T κ->gP C o e' H T κ:=vA h;unfold ji at k ⊢;rw[<-F7 h,<-vI h,<-yA h,<-ru h,<-A4 H T h]
 split
 ·rename_i h1;rw[ahs h1] at k;exact k
 ·rename_i h1;rw[ahq h1] at k
  split
  ·rename_i h2;rw[h2] at k;exact hm k
  ·rename_i h2;rw[h2] at k
   dsimp only at k
   split
   ·rename_i h3;rw[h3] at k;exact hm k
   ·rename_i h3;rw[h3] at k;exact k
def QT {C:Cx}{o:Oper}{e:Env}{H:List az}{T:au}{κ:AV->List az->au->Prop}(k:ji C o e H T κ){L:Lay}{w:World}{a:Act}(hc:bW L H T w)(he:fD L H.length T w e a){K:Act->World->Prop}{Q:Exit->Act->World->Prop}
  (hk:∀v H' T' cv w' L',κ v H' T'->bW L' H' T' w'->aY L' H'.length T' w' v cv->Ev H.length T.length L H.length T w L' H'.length T' w'->K (a.put o.dst cv) w'):o.wp C.P a w K Q:=by
 unfold ji at k
 split at k
 ·rename_i hz;obtain⟨cv,cY,dI⟩:=Ad hz hc he;unfold Oper.wp;rw[cY];exact hk _ _ _ _ _ _ k hc dI (Ev.refl (ahj _) (ahj _))
 ·split at k
  ·exact xL k hc he hk
  ·split at k
   ·exact xL k hc he hk
   ·split at k
    ·exact k.elim
    ·rename_i jx
     split at k
     ·rename_i v H' T' lL;exact tM (v:=v) (H':=H') (T':=T') (by unfold dN;rw[jx];exact lL) hc he λcv w' L' g1 g2 g3=>hk _ _ _ _ _ _ k g1 g2 g3
     ·exact k.elim
def C5 (P:Program)(H:List az)(T:au):List bT->Prop
 |[]=>True
 |x::r=>dN P x.o x.e H T x.v H T/\C5 P H T r
def light (C:Cx)(ch:List Nat)(H:List az)(T:au)(κ:List bT->Env->Prop):List Oper->Nat->List bT->Env->Prop
 |[],_,R,e=>κ R e
 |o::r,i,R,e=>if ch.contains i=true then light C ch H T κ r (i+1) R e else
  match gR o e with
  |some _=>False
  |none=>match Nw C.P o e H T with
   |some (v,H',T')=>H'=H/\T'=T/\wP C.nt o.dst v e (light C ch H T κ r (i+1) (R++[⟨o,e,true,v,i,false⟩]))
   |none=>False
def XV (C:Cx)(K:St->Prop)(R:List bT):List Oper->Env->List az->au->Prop
 |[],e,H,T=>K ⟨e,H,T⟩
 |o::r,e,H,T=>ji C o e H T (λv H' T'=>C5 C.P H' T' R/\wP C.nt o.dst v e (λe'=>XV C K R r e' H' T'))
def Jd (C:Cx)(K:St->Prop)(ch:List Nat)(ops:List Oper)(H:List az)(T:au)(e:Env):Prop:=
 light C ch H T (λR e'=>XV C K R (ch.map λi=>ops.getD i default) e' H T) ops 0 [] e
def Sy (ops:List Oper)(ch:List Nat):Bool:=
 jb ops ch [] (ch.map λ_=>List.range ops.length)&&jP ch&&((List.range ops.length).all λi=>ch.contains i||ch.all λc=>!nw (fF ops []) c i)&&ops.all λo=>o.guard.isNone
structure LOk (C:Cx)(ch:List Nat)(ops:List Oper)(H:List az)(T:au)(e0:Env)(n:Nat)(R:List bT):Prop where
 aQ:∀(j:Nat)(x:bT),R[j]?=some x->ops[x.k]?=some x.o/\x.k<n/\ch.contains x.k=false/\x.e=aV e0 (R.take j)/\dN C.P x.o x.e H T x.v H T/\(∀d,x.o.dst=some d->d<C.nt)
 all:∀i,i<n->ch.contains i=false->∃x∈R,x.k=i
 ord:R.Pairwise λx y=>x.k<y.k
theorem Ic {C:Cx}{ch:List Nat}{ops:List Oper}{H:List az}{T:au}{e0:Env}{κ:List bT->Env->Prop}:∀(l:List Oper)(n:Nat)(R:List bT),ops.drop n=l->n<=ops.length->LOk C ch ops H T e0 n R->light C ch H T κ l n R (aV e0 R)->
  ∃R',LOk C ch ops H T e0 ops.length R'/\κ R' (aV e0 R'):=by
 intro l
 induction l with
 |nil=>
  intro n R hl hn hR h;have:n=ops.length:=by have:=congrArg List.length hl;simp at this;omega
  subst this;exact⟨R,hR,h⟩
 |cons o r ih=>
  intro n R hl hn hR h;have hlt:n<ops.length:=by
   rcases ahr n ops.length with h1|h1
   ·exact h1
   ·rw[List.drop_eq_nil_of_le h1] at hl;cases hl
  have ho:ops[n]?=some o:=by
   have:=congrArg (λl=>l[0]?) hl;simpa using this
  have hr:ops.drop (n+1)=r:=by
   rw[<-List.tail_drop,hl];rfl
  rw[light] at h
  split at h
  ·rename_i hc;exact ih (n+1) R hr (by omega) ⟨λj x hx=>by obtain⟨a1,a2,a3⟩:=hR.aQ j x hx;exact⟨a1,by omega,a3⟩,λi hi tX=>by
    rcases ahr i n with h1|h1
    ·exact hR.all i h1 tX
    ·have:i=n:=by omega
     subst this;rw[hc] at tX;exact absurd tX (by simp),hR.ord⟩ h
  ·rename_i hc
   split at h
   ·exact h.elim
   ·rename_i jx
    split at h
    ·rename_i v H' T' lL;obtain⟨rfl,rfl,h⟩:=h;obtain⟨hd,h⟩:=qt h;have hc:ch.contains n=false:=by simpa using hc
     refine ih (n+1) (R++[⟨o,aV e0 R,true,v,n,false⟩]) hr (by omega) ⟨λj x hx=>?_,λi hi tX=>?_,?_⟩ (by rw[iS];exact h)
     ·rcases ahr j R.length with h1|h1
      ·rw[ahp h1] at hx;obtain⟨a1,a2,a3,a4,a5⟩:=hR.aQ j x hx;refine⟨a1,by omega,a3,?_,a5⟩;rw[air (by omega)];exact a4
      ·rw[ahC h1] at hx;have hj:j=R.length:=by
        rcases ahr (j-R.length) 1 with h2|h2
        ·omega
        ·rw[aiI (by simpa using h2)] at hx;cases hx
       subst hj;simp at hx;subst hx;refine⟨ho,by show n<n+1;omega,hc,?_,?_,hd⟩
       ·rw[aij rfl]
       ·show dN _ _ _ _ _ _ _ _;unfold dN;dsimp only;rw[jx];exact lL
     ·rcases ahr i n with h1|h1
      ·obtain⟨x,hx,e1⟩:=hR.all i h1 tX;exact⟨x,ahG _ hx,e1⟩
      ·have:i=n:=by omega
       subst this;exact⟨_,ajp _ (ah0.2 rfl),rfl⟩
     ·rw[ai3];refine⟨hR.ord,List.pairwise_singleton _ _,λx hx y hy=>?_⟩;rw[ah0] at hy;subst hy;obtain⟨j,hj,e1⟩:=ahB.1 hx;exact(hR.aQ j x (by rw[ahi hj,e1])).2.1
    ·exact h.elim
theorem Pw {P:Program}{H:List az}{T:au}:∀{R:List bT},C5 P H T R->∀x∈R,dN P x.o x.e H T x.v H T:=by
 intro R
 induction R with
 |nil=>intro _ x hx;simp at hx
 |cons y r ih=>
  intro h x hx;rcases ahL.1 hx with rfl|hx
  ·exact h.1
  ·exact ih h.2 x hx
theorem Tf {P:Program}{H:List az}{T:au}:∀{R:List bT},(∀x∈R,dN P x.o x.e H T x.v H T)->C5 P H T R:=by
 intro R
 induction R with
 |nil=>intro _;trivial
 |cons y r ih=>intro h;exact⟨h y (by simp),ih λx hx=>h x (by simp[hx])⟩
def B6 {e0:Env}{R:List bT}{t:Nat}{x:bT}(hx:x∈R)(hd:x.o.dst=some t)(hn:R.Pairwise λx y=>x.k≠y.k)(hu:∀y∈R,y.o.dst=some t->y.k=x.k):bE (aV e0 R) t=x.v:=by
 obtain⟨j,hj,e1⟩:=ahB.1 hx;refine fe R e0 t j x (by rw[ahi hj,e1]) hd λi y hy zo=>?_;obtain⟨hi,e2⟩:=ahh.1 hy;have hk:y.k=x.k:=hu y (by rw[<-e2];exact ahP hi) zo;rcases aiM i j with h1|h1|h1
 ·have:=ahN.1 hn i j hi hj h1;rw[e2,e1] at this;exact absurd hk this
 ·exact h1
 ·have:=ahN.1 hn j i hj hi h1;rw[e2,e1] at this;exact absurd hk.symm this
def VC (R:List bT)(listed:Array Bool)(e0:Env)(t:Nat)(v:AV):Prop:=
 (∃x∈R,x.o.dst=some t/\listed.getD x.k false=true/\v=x.v)\/((∀x∈R,x.o.dst=some t->listed.getD x.k false=false)/\v=bE e0 t)
structure SI (C:Cx)(K:St->Prop)(ch:List Nat)(ops:List Oper)(R0:List bT)(s:St)(L0:Lay)(w0:World)(listed:Array Bool)(a:Act)(w:World):Prop where
 size:listed.size=ops.length
 closed:∀i j,listed.getD i false=true->nw (fF ops []) j i=true->listed.getD j false=true
 st:∃(k:Nat) (Rc:List bT) (H:List az) (T:au) (L:Lay),(∀(m i:Nat),ch[m]?=some i->(listed.getD i false=true↔m<k))/\k<=ch.length/\Rc.length=k/\
  (∀(m:Nat)(x:bT),Rc[m]?=some x->ch[m]?=some x.k/\ops[x.k]?=some x.o/\(∀d,x.o.dst=some d->d<C.nt))/\C5 C.P H T R0/\
  XV C K R0 ((ch.drop k).map λi=>ops.getD i default) (aV s.e (R0++Rc)) H T/\bW L H T w/\C.nb<=H.length/\C.tb<=T.length/\
  (∀t,∃v,VC (R0++Rc) listed s.e t v/\aY L H.length T w v (a.tmps.getD t undef))/\Ev C.nb C.tb L0 s.H.length s.T w0 L H.length T w
 tmps:a.tmps.size=C.nt
 defers:a.defers=[]
theorem ID {C:Cx}{ops:List Oper}{Q:Exit->St->Prop}{s:St}(K:St->Prop)(ch:List Nat)(kI:Sy ops ch=true)
  (h:Jd C K ch ops s.H s.T (prune C.nv s.e)):∀L0 w0 a0,eQ C s L0 w0 a0->
   wpAny C.P .any ops.toArray (cL C (dH K Q) L0 s w0) ops.toArray.size (Array.replicate ops.toArray.size false) a0 { w0 with drawn:=w0.drawn+1 }:=by
 intro L0 w0 a0 mG;have hc:eQ C ⟨prune C.nv s.e,s.H,s.T⟩ L0 w0 a0:=⟨mG.nb,mG.tb,mG.mV,mG.size,mG.defers,λt=>by
  rcases mC C.nv s.e t with e|e<;>rw[e]
  ·exact mG.env t
  ·exact .top _⟩
 generalize hs':(⟨prune C.nv s.e,s.H,s.T⟩:St)=s' at hc;have hs1:prune C.nv s.e=s'.e:=by rw[<-hs']
 have hs2:s.H=s'.H:=by rw[<-hs']
 have Gn:s.T=s'.T:=by rw[<-hs']
 rw[hs1,hs2,Gn] at h;rw[show cL C (dH K Q) L0 s w0=cL C (dH K Q) L0 s' w0 by unfold cL;rw[hs2,Gn]];clear hs' hs1 hs2 Gn mG;unfold Sy at kI;simp only[aht] at kI;obtain⟨⟨⟨hdk,qg⟩,hlc⟩,hgd⟩:=kI;obtain⟨d1,d2,d3,_,_,d6,d7⟩:=ku hdk;have O3:∀i c,i<ops.length->ch.contains i=false->c∈ch->nw (fF ops []) c i=false:=by
  intro i c hi hn hcc;have:=ahQ.1 hlc i (ahI.2 hi);rw[hn,ai2] at this;simpa using ahQ.1 this c hcc
 have ur:∀(i:Nat)(o:Oper),ops[i]?=some o->o.guard=none:=λi o ho=>by
  have:=ahQ.1 hgd o (aiC ho);simpa using this
 obtain⟨R0,hR,Np⟩:=Ic (C:=C) (ch:=ch) (ops:=ops) (H:=s'.H) (T:=s'.T) (e0:=s'.e) ops 0 [] rfl (ahu _) ⟨λj x hx=>by simp at hx,λi hi=>by omega,List.Pairwise.nil⟩ h;have Kz:∀x∈R0,∃j,R0[j]?=some x:=λx hx=>by
  obtain⟨j,hj,e1⟩:=ahB.1 hx;exact⟨j,by rw[ahi hj,e1]⟩
 have Zx:∀(m m' c:Nat),ch[m]?=some c->ch[m']?=some c->m=m':=by
  intro m m' c h1 h2;have key:∀m,ch[m]?=some c->m=(ch.filter (·<c)).length:=by
   intro m hm;have kH:=(ahh.1 hm).1;have:=ahQ.1 qg m (ahI.2 kH);simp only[aht,ajb,ahg,hm,aiU] at this;exact this.1.symm
  rw[key m h1,key m' h2]
 have Zi:∀(Rc:List bT),(∀(m:Nat)(x:bT),Rc[m]?=some x->ch[m]?=some x.k/\ops[x.k]?=some x.o/\(∀d,x.o.dst=some d->d<C.nt))->(R0++Rc).Pairwise λx y=>x.k≠y.k:=by
  intro Rc wM;rw[ai3];refine⟨hR.ord.imp λh=>by omega,?_,λx hx y hy=>?_⟩
  ·rw[ahN];intro i j hi hj hij e;have h1:=(wM i _ (ahi hi)).1;have h2:=(wM j _ (ahi hj)).1;rw[e] at h1;have:=Zx _ _ _ h1 h2;omega
  ·obtain⟨j,hj⟩:=Kz x hx;obtain⟨m,hm,e1⟩:=ahB.1 hy;have h1:=(hR.aQ j x hj).2.2.1;have h2:=aiC (wM m y (by rw[ahi hm,e1])).1;intro e;rw[e] at h1;rw[<-contains_iff_mem] at h2;rw[h2] at h1;cases h1
 have nE:∀(Rc:List bT),(∀(m:Nat)(x:bT),Rc[m]?=some x->ch[m]?=some x.k/\ops[x.k]?=some x.o/\(∀d,x.o.dst=some d->d<C.nt))->∀x∈R0++Rc,ops[x.k]?=some x.o/\(∀d,x.o.dst=some d->d<C.nt):=by
  intro Rc wM x hx;rcases ahw.1 hx with hx|hx
  ·obtain⟨j,hj⟩:=Kz x hx;obtain⟨a1,_,_,_,_,a6⟩:=hR.aQ j x hj;exact⟨a1,a6⟩
  ·obtain⟨m,hm,e1⟩:=ahB.1 hx;exact(wM m x (by rw[ahi hm,e1])).2
 have done:∀(listed:Array Bool)(a:Act)(w:World),SI C K ch ops R0 s' L0 w0 listed a w->(∀i,i<ops.length->listed.getD i false=true)->cL C (dH K Q) L0 s' w0 .normal a w:=by
  intro listed a w hI hall;obtain⟨k,Rc,H,T,L,hk,gV,Sp,wM,Om,zM,cO,gG,fY,gK,dD⟩:=hI.st;have hkk:k=ch.length:=by
   rcases ahr k ch.length with hlt|hge
   ·have:=(hk k _ (ahi hlt)).1 (hall _ (d3 k _ (ahi hlt)).1);omega
   ·omega
  rw[hkk,aim] at zM;refine⟨⟨aV s'.e (R0++Rc),H,T⟩,L,zM,⟨gG,fY,cO,hI.tmps,hI.defers,λt=>?_⟩,dD⟩;obtain⟨v,hv,hr⟩:=gK t;show aY L H.length T w (bE (aV s'.e (R0++Rc)) t) _;rcases hv with⟨x,hx,hd,hl,rfl⟩|⟨hno,rfl⟩
  ·rw[B6 hx hd (Zi Rc wM) (λy hy zo=>d1 y.k x.k y.o x.o t (nE Rc wM y hy).1 (nE Rc wM x hx).1 zo hd)];exact hr
  ·rw[cE (R0++Rc) s'.e t (λx hx hd=>by
    have h1:=hno x hx hd;have h2:=hall x.k (ahh.1 (nE Rc wM x hx).1).1;rw[h1] at h2;cases h2)]
   exact hr
 have stp:∀(listed:Array Bool)(a:Act)(w:World)(i:Nat)(KK:Act->World->Prop),SI C K ch ops R0 s' L0 w0 listed a w->i∈Region.ready .any ops.toArray listed->
   (∀a' w',SI C K ch ops R0 s' L0 w0 (listed.setIfInBounds i true) a' w'->KK a' w')->wpOp C.P ops.toArray (cL C (dH K Q) L0 s' w0) i KK a w:=by
  intro listed a w i KK hI hi WB;obtain⟨RO,o,ho,rO⟩:=mem_ready.1 hi;rw[ahD] at ho;have eN:i<ops.length:=(ahh.1 ho).1;have px:i<listed.size:=by rw[hI.size];omega
  have yV:listed.getD i false=false:=by rw[<-cN px];exact RO
  have hcl:=hI.closed;have kK:∀j,nw (fF ops []) j i=true->listed.getD j false=true:=λj hj=>je hcl ho rO (d6 i o ho) hj;obtain⟨k,Rc,H,T,L,hk,gV,Sp,wM,Om,zM,cO,gG,fY,gK,dD⟩:=hI.st;have XM:=ur i o ho;have sP:Region.wanted o (yielded ops.toArray a.tmps)=true:=by unfold Region.wanted;rw[XM]
  have cY:∀(ex:Env),(∀t∈o.looksAt ops.toArray,∀v,VC (R0++Rc) listed s'.e t v->v=bE ex t)->
    fD L H.length T w (ow ex (o.looksAt ops.toArray)) a/\∀z∈o.op.operands,bN ex z=bN (ow ex (o.looksAt ops.toArray)) z:=by
   intro ex eE;refine⟨λt=>?_,λz hz=>?_⟩
   ·rw[ik]
    split
    ·rename_i ht;obtain⟨v,hv,hr⟩:=gK t;rw[<-eE t ht v hv];exact hr
    ·exact .top _
   ·cases z with
    |tmp t=>
     have:t∈o.looksAt ops.toArray:=by
      unfold Oper.looksAt;exact ahw.2 (.inl (List.mem_filterMap.2 ⟨_,aiN.2 hz,rfl⟩))
     simp only[bN,ik,ahs this]
    |_=>rfl
  have behind:∀(x:bT)(H':List az)(T':au)(cv:Value)(w':World)(L':Lay)(k':Nat)(UY:List bT),x.k=i->x.o=o->(∀d,o.dst=some d->d<C.nt)->x∈R0++UY->(∀y∈R0++UY,y=x\/y∈R0++Rc)->(∀y∈R0++Rc,y∈R0++UY)->
    (∀(m j:Nat),ch[m]?=some j->((listed.setIfInBounds i true).getD j false=true↔m<k'))->k'<=ch.length->UY.length=k'->
    (∀(m:Nat)(x:bT),UY[m]?=some x->ch[m]?=some x.k/\ops[x.k]?=some x.o/\(∀d,x.o.dst=some d->d<C.nt))->C5 C.P H' T' R0->
    XV C K R0 ((ch.drop k').map λi=>ops.getD i default) (aV s'.e (R0++UY)) H' T'->
    bW L' H' T' w'->aY L' H'.length T' w' x.v cv->Ev H.length T.length L H.length T w L' H'.length T' w'->KK (a.put o.dst cv) w':=by
   intro x H' T' cv w' L' k' UY CP hxo lS Ym Dy aff nB afa aaq aft W9 Xb vm ma oq;refine WB _ _ ⟨by simp[hI.size],λi' j' jR kL=>?_,⟨k',UY,H',T',L',nB,afa,aaq,aft,W9,Xb,vm,aho gG oq.n,aho fY oq.t,λt=>?_,dD.trans (oq.mono gG fY)⟩,?_,by cases o.dst<;>exact hI.defers⟩
   ·by_cases hii:i=i'
    ·subst hii;have:=kK j' kL
     by_cases hij:i=j'
     ·subst hij;rw[yV] at this;cases this
     ·rw[getD_set_ne false hij];exact this
    ·rw[getD_set_ne false hii] at jR;have:=hcl i' j' jR kL;exact getD_set_true this
   ·by_cases hd:o.dst=some t
    ·refine⟨x.v,.inl ⟨x,Ym,by rw[hxo];exact hd,by rw[CP];simp[px],rfl⟩,?_⟩;have hlt:t<a.tmps.size:=by rw[hI.tmps];exact lS t hd
     rw[hd,jE a t t cv hlt,ahs rfl];exact ma
    ·obtain⟨v,hv,hr⟩:=gK t;refine⟨v,?_,?_⟩
     ·rcases hv with⟨z,hz,A9,hl,rfl⟩|⟨hno,rfl⟩
      ·exact .inl ⟨z,aff z hz,A9,getD_set_true hl,rfl⟩
      ·refine .inr ⟨λz hz A9=>?_,rfl⟩;rcases Dy z hz with rfl|hz'
       ·rw[hxo] at A9;exact absurd A9 hd
       ·have hij:i≠z.k:=by
         intro e;have h1:=(nE Rc wM z hz').1;rw[<-e,ho] at h1
         injection h1 with h1
         rw[<-h1] at A9;exact hd A9
        rw[getD_set_ne false hij];exact hno z hz' A9
     ·have e1:(a.put o.dst cv).tmps.getD t undef=a.tmps.getD t undef:=by
       cases Vh:o.dst with
       |none=>rfl
       |some d=>
        have hlt:d<a.tmps.size:=by rw[hI.tmps];exact lS d Vh
        rw[jE a d t cv hlt,ahq (λe=>hd (by rw[Vh,e]))]
      rw[e1];exact hr.keep oq.keeps
   ·simp[Act.put];cases o.dst<;>simp[hI.tmps]
  unfold wpOp;rw[ahD,ho]
  dsimp only
  rw[ahs sP];refine .inl ?_
  cases YD:ch.contains i with
  |false=>
   obtain⟨x,Ym,CP⟩:=hR.all i eN YD;obtain⟨j,hj⟩:=Kz x Ym;obtain⟨a1,a2,a3,a4,a5,a6⟩:=hR.aQ j x hj;have NH:x.o=o:=by rw[CP,ho] at a1;injection a1 with a1;exact a1.symm
   have eE:∀t∈o.looksAt ops.toArray,∀v,VC (R0++Rc) listed s'.e t v->v=bE x.e t:=by
    intro t ht v hv;rw[a4];have Ri:∀z∈R0++Rc,z.o.dst=some t->i≠z.k/\((z.k<i/\nw (fF ops []) z.k i=true)\/(i<z.k/\nw (fF ops []) i z.k=true)):=λz hz hd=>d2 i z.k o z.o t ho (nE Rc wM z hz).1 ht hd;rcases hv with⟨z,hz,hd,hl,rfl⟩|⟨hno,rfl⟩
    ·obtain⟨hne,h1|h1⟩:=Ri z hz hd
     ·have tU:z∈R0:=by
       rcases ahw.1 hz with hz|hz
       ·exact hz
       ·exfalso;obtain⟨m,hm,e1⟩:=ahB.1 hz;have h2:=aiC (wM m z (by rw[ahi hm,e1])).1;rw[O3 i z.k eN YD h2] at h1
        cases h1.2
      obtain⟨j',hj'⟩:=Kz z tU;have hlt:j'<j:=by
       obtain⟨b1,b2⟩:=ahh.1 hj;obtain⟨c1,c2⟩:=ahh.1 hj';rcases aiM j' j with h3|h3|h3
       ·exact h3
       ·subst h3;rw[hj] at hj';injection hj' with hj'
        rw[<-hj',CP] at h1;omega
       ·have:=ahN.1 hR.ord j j' b1 c1 h3;rw[b2,c2,CP] at this;omega
      have hzt:z∈R0.take j:=aiC (i:=j') (by rw[ah9,ahs hlt];exact hj');rw[B6 hzt hd ((hR.ord.imp λh=>by omega).sublist (List.take_sublist _ _)) (λy hy zo=>d1 y.k z.k y.o z.o t (nE Rc wM y (ahG _ (ajw hy))).1 (nE Rc wM z hz).1 zo hd)]
     ·have:=hcl z.k i hl h1.2;rw[yV] at this;cases this
    ·rw[cE (R0.take j) s'.e t (λz hz hd=>by
      have tU:=ajw hz;have hf:=hno z (ahG _ tU) hd;obtain⟨j',hj',e1⟩:=ahB.1 hz;simp at hj';obtain⟨hne,h1|h1⟩:=Ri z (ahG _ tU) hd
      ·have:=kK z.k h1.2;rw[hf] at this;cases this
      ·obtain⟨b1,b2⟩:=ahh.1 hj;have:=ahN.1 hR.ord j' j (by omega) b1 (by omega);rw[ajy] at e1;rw[b2,e1,CP] at this;omega)]
   obtain⟨uc,GJ⟩:=cY x.e eE;have hex:=Pw Om x Ym;rw[NH] at hex;refine tM (vG GJ hex) cO uc λcv w' L' g1 g2 g3=>behind x H T cv w' L' k Rc CP NH (by rw[<-NH];exact a6) (ahG _ Ym) (λy hy=>.inr hy) (λy hy=>hy) (λm j' hm=>?_) gV Sp wM Om zM g1 g2 g3;have hij:i≠j':=by
    rintro rfl;have:=aiC hm;rw[<-contains_iff_mem] at this;rw[YD] at this;cases this
   rw[getD_set_ne false hij];exact hk m j' hm
  |true=>
   obtain⟨e1,_⟩:=oM qg YD;have hik:ch[k]?=some i:=by
    have hge:k<=(ch.filter (·<i)).length:=by
     rcases ahr (ch.filter (·<i)).length k with h1|h1
     ·have:=(hk _ i e1).2 h1;rw[yV] at this;cases this
     ·exact h1
    have hle:(ch.filter (·<i)).length<=k:=by
     rcases ahR (ch.filter (·<i)).length with h0|h0
     ·omega
     ·obtain⟨e',h1,h2⟩:=(d3 _ i e1).2 h0;have:=(hk _ e' h1).1 (kK e' h2);omega
    rw[show k=(ch.filter (·<i)).length by omega];exact e1
   have ae9:=(ahh.1 hik).1;have ri:(ch.drop k).map (λi=>ops.getD i default)=o::(ch.drop (k+1)).map (λi=>ops.getD i default):=by
    rw[aiK ae9,ahX]
    congr 1
    rw[(ahh.1 hik).2,ahg,ho];rfl
   rw[ri,XV] at zM;have eE:∀t∈o.looksAt ops.toArray,∀v,VC (R0++Rc) listed s'.e t v->v=bE (aV s'.e (R0++Rc)) t:=by
    intro t ht v hv;have Ri:∀z∈R0++Rc,z.o.dst=some t->i≠z.k/\((z.k<i/\nw (fF ops []) z.k i=true)\/(i<z.k/\nw (fF ops []) i z.k=true)):=λz hz hd=>d2 i z.k o z.o t ho (nE Rc wM z hz).1 ht hd;rcases hv with⟨z,hz,hd,hl,rfl⟩|⟨hno,rfl⟩
    ·rw[B6 hz hd (Zi Rc wM) (λy hy zo=>d1 y.k z.k y.o z.o t (nE Rc wM y hy).1 (nE Rc wM z hz).1 zo hd)]
    ·rw[cE (R0++Rc) s'.e t (λz hz hd=>by
      have hf:=hno z hz hd;obtain⟨hne,h1|h1⟩:=Ri z hz hd
      ·have:=kK z.k h1.2;rw[hf] at this;cases this
      ·rcases ahw.1 hz with tU|hzc
       ·obtain⟨j,hj⟩:=Kz z tU;obtain⟨b1,_,b3,_⟩:=hR.aQ j z hj;have:=O3 z.k i (ahh.1 b1).1 b3 (aiZ.1 YD);rw[this] at h1;cases h1.2
       ·obtain⟨m,hm,e2⟩:=ahB.1 hzc;have h2:=(wM m z (by rw[ahi hm,e2])).1;have:=(hk m z.k h2).2 (by omega);rw[hf] at this;cases this)]
   obtain⟨uc,GJ⟩:=cY _ eE;refine QT (F0 GJ zM) cO uc λv H' T' cv w' L' hκ g1 g2 g3=>?_;obtain⟨Wk,iY⟩:=hκ;obtain⟨lS,iY⟩:=qt iY;refine behind ⟨o,aV s'.e (R0++Rc),true,v,i,true⟩ H' T' cv w' L' (k+1) (Rc++[⟨o,aV s'.e (R0++Rc),true,v,i,true⟩]) rfl rfl lS (by simp) (λy hy=>?_) (λy hy=>?_) (λm j hm=>?_) (by omega) (by simp[Sp]) (λm x hx=>?_) Wk ?_ g1 g2 g3
   ·rw[<-append_assoc] at hy;rcases ahw.1 hy with hy|hy
    ·exact .inr hy
    ·exact .inl (ah0.1 hy)
   ·rw[<-append_assoc];exact ahG _ hy
   ·by_cases hij:i=j
    ·subst hij;have:=Zx _ _ _ hm hik;simp[px];omega
    ·rw[getD_set_ne false hij,hk m j hm]
     constructor
     ·intro h;omega
     ·intro h;rcases ahr m k with h1|h1
      ·exact h1
      ·have:m=k:=by omega
       subst this;rw[hik] at hm
       injection hm with hm
       exact absurd hm hij
   ·rcases ahr m Rc.length with h1|h1
    ·rw[ahp h1] at hx;exact wM m x hx
    ·rw[ahC h1] at hx;have hm:m=Rc.length:=by
      rcases ahr (m-Rc.length) 1 with h2|h2
      ·omega
      ·rw[aiI (by simpa using h2)] at hx;cases hx
     subst hm;simp at hx;subst hx;exact⟨by rw[Sp];exact hik,ho,lS⟩
   ·rw[<-append_assoc,iS];exact iY
 have key:=Fb (Q:=cL C (dH K Q) L0 s' w0) (P:=C.P) d6 (SI C K ch ops R0 s' L0 w0) (λ_ _ _ h=>h.size) done (λ_ l a w h i hi _ hk=>stp l a w i _ h hi hk);have hsz:ops.toArray.size=ops.length:=by simp
 rw[hsz];refine key ops.length _ a0 _ ⟨by simp,λi j hl _=>?_,⟨0,[],s'.H,s'.T,L0,λm i UL=>?_,ahu _,rfl,λm x hx=>by simp at hx,Tf λx hx=>?_,by simpa using Np,hc.mV.drew rfl,hc.nb,hc.tb,λt=>?_,?_⟩,hc.size,hc.defers⟩ (.inr ?_)
 ·exfalso
  by_cases hi:i<ops.length<;>simp[hi] at hl
 ·constructor
  ·intro hl;exfalso
   by_cases hi:i<ops.length<;>simp[hi] at hl
  ·intro h;omega
 ·obtain⟨j,hj⟩:=Kz x hx;exact(hR.aQ j x hj).2.2.2.2.1
 ·refine⟨bE s'.e t,.inr ⟨λx hx hd=>?_,rfl⟩,?_⟩
  ·by_cases hj:x.k<ops.length<;>simp[hj]
  ·have kd:cX L0 s'.H.length s'.T w0 L0 s'.H.length s'.T { w0 with drawn:=w0.drawn+1 }:=(Ev.drew (H:=s'.H) (T:=s'.T) (L:=L0) (w:=w0) (w':={ w0 with drawn:=w0.drawn+1 }) rfl rfl rfl rfl (aid _)).keeps;exact(hc.env t).keep kd
 ·exact(Ev.drew (H:=s'.H) (T:=s'.T) (L:=L0) (w:=w0) (w':={ w0 with drawn:=w0.drawn+1 }) rfl rfl rfl rfl (aid _)).mono hc.nb hc.tb
 ·refine aho (List.countP_le_length) ?_;simp
def M7 {C:Cx}{id:Nat}{ops:List Oper}{Q:Exit->St->Prop}{s:St}(K:St->Prop)(ch:List Nat)(hm:C.P.follows .mixedOrders=true)(kI:Sy ops ch=true)
  (h:Jd C K ch ops s.H s.T (prune C.nv s.e)):AW C (.region id ops.toArray true) (dH K Q) s:=
 λL0 w0 a0 mG=>wp_region_any hm (ID K ch kI h L0 w0 a0 mG)
def u4 {C:Cx}{id:Nat}{ops:List Oper}{Q:Exit->St->Prop}{s:St}(ch:List Nat)(hm:C.P.follows .mixedOrders=true)(kI:Sy ops ch=true)
  (h:∀K:St->Prop,(∀s,Q .normal s->K s)->Jd C K ch ops s.H s.T (prune C.nv s.e)):AW C (.region id ops.toArray true) Q s:=
 (M7 (Q:=Q) (λs=>Q .normal s) ch hm kI (h _ λ_ h=>h)).mono λe s q=>by cases e<;>exact q
def ym {C:Cx}{o:Oper}{e:Env}{H:List az}{T:au}{κ κ':AV->List az->au->Prop}(h:∀v J U,κ v J U->κ' v J U)(k:gP C o e H T κ):gP C o e H T κ':=by
 unfold gP at k ⊢
 split at k
 ·exact λnc lC=>h _ _ _ (k nc lC)
 ·split at k
  ·obtain⟨el,vs,xs,m,a1,a2,a3,a4,a5,a6,a7,a8,k1,k2⟩:=k;exact⟨el,vs,xs,m,a1,a2,a3,a4,a5,a6,a7,a8,λx=>h _ _ _ (k1 x),λnc x y=>h _ _ _ (k2 nc x y)⟩
  ·exact k.elim
def IE {C:Cx}{o:Oper}{e:Env}{H:List az}{T:au}{κ κ':AV->List az->au->Prop}(h:∀v J U,κ v J U->κ' v J U)(k:ji C o e H T κ):ji C o e H T κ':=by
 unfold ji at k ⊢
 split at k
 ·rename_i h1;rw[ahs h1];exact h _ _ _ k
 ·rename_i h1;rw[ahq h1]
  split at k
  ·exact ym h k
  ·split at k
   ·exact ym h k
   ·split at k
    ·exact k.elim
    ·split at k
     ·exact h _ _ _ k
     ·exact k.elim
def Dh (C:Cx)(K:St->Prop)(P:List az->au->Prop):List Oper->Env->List az->au->Prop
 |[],e,H,T=>K ⟨e,H,T⟩
 |o::r,e,H,T=>ji C o e H T (λv H' T'=>P H' T'/\wP C.nt o.dst v e (λe'=>Dh C K P r e' H' T'))
theorem LO {nt:Nat}{dst:Option Tmp}{v:AV}{e:Env}{k k':Env->Prop}(h:∀e,k e->k' e)(x:wP nt dst v e k):wP nt dst v e k':=by
 cases dst with
 |none=>exact h _ x
 |some d=>exact⟨x.1,h _ x.2⟩
theorem Bu {C:Cx}{K:St->Prop}{R:List bT}(P:List az->au->Prop)(h1:∀J U,P J U->C5 C.P J U R):∀{l:List Oper} {e:Env} {H:List az} {T:au},Dh C K P l e H T->XV C K R l e H T
 |[],_,_,_,h=>h
 |o::r,e,H,T,h=>IE (λv J U ⟨a,b⟩=>⟨h1 J U a,LO (λe' x=>Bu P h1 x) b⟩) h
def QS {C:Cx}{K:St->Prop}{P:List az->au->Prop}{e:Env}{H:List az}{T:au}:Dh C K P [] e H T=K ⟨e,H,T⟩:=rfl
def lK {C:Cx}{K:St->Prop}{P:List az->au->Prop}{o:Oper}{r:List Oper}{e:Env}{H:List az}{T:au}:Dh C K P (o::r) e H T=ji C o e H T (λv H' T'=>P H' T'/\wP C.nt o.dst v e (λe'=>Dh C K P r e' H' T')):=rfl
def lI {nt d:Nat}{v:AV}{e:Env}{k:Env->Prop}(h:d<nt)(x:k (lW e d v)):wP nt (some d) v e k:=⟨h,x⟩
def Um {C:Cx}{o:Oper}{e:Env}{H:List az}{T:au}{κ:AV->List az->au->Prop}(hz:mO C.P o e H=true)(k:κ (.sl 0 [] .full) H T):ji C o e H T κ:=by
 unfold ji;rw[ahs hz];exact k
def yu {C:Cx}{o:Oper}{e:Env}{H:List az}{T:au}{κ:AV->List az->au->Prop}{m z:Nat}{ys:List AV}(hz:mO C.P o e H=false)(h0:kO C.P C.bx o e H=some (m,ys,z))
  (k:∀nc,m<=nc->κ (.bG H.length m nc) (H++[.cells (ys++List.replicate ((nc-m)*z) .top)]) T):ji C o e H T κ:=by
 unfold ji;rw[ahq (by rw[hz];simp),h0]
 dsimp only
 unfold gP;rw[h0];exact k
def QU {C:Cx}{o:Oper}{e:Env}{H H':List az}{T T':au}{κ:AV->List az->au->Prop}{v:AV}(hz:mO C.P o e H=false)(h0:kO C.P C.bx o e H=none)(hc:sG o e=none)(hl:gR o e=none)(ho:Nw C.P o e H T=some (v,H',T'))(k:κ v H' T'):ji C o e H T κ:=by
 unfold ji;rw[ahq (by rw[hz];simp),h0,hc,hl,ho];exact k
def AU {C:Cx}{o:Oper}{e:Env}{H:List az}{T:au}{κ:AV->List az->au->Prop}{t t2:TypeId}{i n cap:Nat}{x:AV}(el:TypeId)(A B xs:List AV)(m:Nat)
  (hz:mO C.P o e H=false) (h0:kO C.P C.bx o e H=none) (hc:sG o e=some (t,t2,i,n,cap,x)) (hu:C.P.underlying t=some (.slice el)) (hH:H[i]?=some (.cells (A++B))) (hA:A.length=n*C.P.cellsOf el) (hl:(A++B).length=cap*C.P.cellsOf el)
  (hs:gT H (C.P.cellsOf el) x=some (m,xs)) (hxs:xs.length=m*C.P.cellsOf el) (qO:(n+m)*C.P.bytesOf el<=140737488355328) (hmx:n+m<=9223372036854775807) (tX:jT C.P t2=true) (qM:(aZ C.P el).isSome=true)
  (k:∀(i' cap':Nat)(B':List AV)(J':List az),(J'=H.set i (.cells (A++xs++B'))/\i'=i\/J'=H++[.cells (A++xs++B')]/\i'=H.length)->(A++xs++B').length=cap'*C.P.cellsOf el->n+m<=cap'->κ (.bG i' (n+m) cap') J' T):ji C o e H T κ:=by
 unfold ji;rw[ahq (by rw[hz];simp),h0,hc]
 dsimp only
 unfold gP;rw[h0,hc]
 dsimp only
 have iH:(A++B).take (n*C.P.cellsOf el)=A:=by rw[<-hA,aij rfl]
 refine⟨el,A++B,xs,m,hu,hH,hl,hs,qO,hmx,tX,qM,λhle=>?_,λnc hlt lC=>?_⟩
 ·have h1:(n+m)*C.P.cellsOf el<=cap*C.P.cellsOf el:=ail _ hle;rw[iH];refine k i cap _ _ (.inl ⟨rfl,rfl⟩) ?_ hle;rw[ahk,ahk,ah4,hA,hxs,hl];rw[aiA] at h1 ⊢;omega
 ·have h1:(n+m)*C.P.cellsOf el<=nc*C.P.cellsOf el:=ail _ lC;rw[iH];refine k H.length nc _ _ (.inr ⟨rfl,rfl⟩) ?_ lC;rw[ahk,ahk,ajU,hA,hxs,Nat.sub_mul];rw[aiA] at h1 ⊢;omega
attribute [simp] Jd light ji mO C5
open Go.ChangeShapes Go.WideShapes
def m0 (w:World)(b:Nat):Nat:=match w.heap[b]? with
 |some (.cells c _ _)=>c.size
 |_=>0
def vU (w:World):Lay:=⟨λ_=>0,λ_=>⟨0,0,0⟩,m0 w,true⟩
theorem QV {w:World}{b o:Nat}{v:Value}(h:w.cell? ⟨b,o,none⟩=some v):o<m0 w b:=by
 unfold World.cell? at h;unfold m0;simp only at h
 cases hb:w.heap[b]? with
 |none=>rw[hb] at h;simp at h
 |some x=>
  rw[hb] at h
  cases x with
  |cells c t fr=>
   simp only at h ⊢;rcases ahr o c.size with g|g
   ·exact g
   ·rw[aiO g] at h;simp at h
  |_=>simp at h
def ZK (w:World)(hg:∀x∈zN,∃m,w.cell? ⟨x.1,x.2,none⟩=some (.int .i64 m)):bW (vU w) [] [] w:=by
 refine⟨λi b h=>by simp at h,λi j h=>by simp at h,λt u z h=>by simp at h,λt u z t' u' z' h=>by simp at h,λt u z i h=>by simp at h,λb hb=>?_,λx hx=>by obtain⟨m,hm⟩:=hg x hx;exact⟨QV hm,m,hm⟩⟩;show m0 w b=0;unfold m0;rw[aiO hb]
theorem Un {w:World}{b o:Nat}{v:Value}(h:w.cell? ⟨b,o,none⟩=some v):o<m0 w b:=by
 unfold World.cell? at h;unfold m0;simp only at h
 cases hb:w.heap[b]? with
 |none=>rw[hb] at h;simp at h
 |some x=>
  rw[hb] at h
  cases x with
  |cells c t fr=>
   simp only at h ⊢;rcases ahr o c.size with g|g
   ·exact g
   ·rw[aiO g] at h;simp at h
  |_=>simp at h
abbrev RC (w:World)(vs:List AV)(c:List Value):Prop:=cF (vU w) 0 [] w vs c
def RC.one {w : World} {a : AV} {v : Value} (h : aY (vU w) 0 [] w a v) (h1 : v.oneCell' = true) : RC w [a] [v] :=
  ⟨rfl, λj hj => by have : j = 0 := by simp at hj; omega
                    subst this; exact h1, λj hj hj' => by
    have : j = 0 := by simp at hj; omega
    subst this; exact h⟩
def RC.rep {w:World}{a:AV}{v:Value}(h:RC w [a] [v]):aY (vU w) 0 [] w a v:=h.2.2 0 (by simp) (by simp)
def RC.append {w:World}{a b:List AV}{c d:List Value}(h:RC w a c)(k:RC w b d):RC w (a++b) (c++d):=by
 refine⟨by simp[h.1,k.1],λj hj=>?_,λj hj hj'=>?_⟩
 ·rw[ajm]
  split
  ·exact h.2.1 _ _
  ·exact k.2.1 _ _
 ·rw[ajm,ajm]
  by_cases hlt:j<a.length
  ·rw[aj3 hlt,aj3 (by rw[h.1];exact hlt)];exact h.2.2 _ _ _
  ·rw[aj4 hlt,aj4 (by rw[h.1];exact hlt)];have:=k.2.2 (j-a.length) (by simp at hj;omega) (by simp at hj';rw[h.1] at hj';omega);simpa[h.1] using this
section
variable {H : Type} {enc : TypeId × Value -> H} {P : Program} {w : World} {base fuel : Nat} {sp : Nat -> Bool} {held : Bool} {t e : TypeId} {cs : List Value} {x : DataW H × List MemPlace}
def pG {k:IntKind}(ht:P.underlying t=some (.int k))(h:DataW.trod enc P w base sp held fuel t cs=some x):∃n,(Lit.int k n).wf=true/\RC w [.int k n] cs:=by
 obtain⟨n,rfl,_,hw⟩:=DataW.trod_int ht h;exact⟨n,hw,RC.one (.int k n) rfl⟩
def OM (ht:P.underlying t=some .string)(h:DataW.trod enc P w base sp held fuel t cs=some x):∃s:List UInt8,s.length<=maxLen/\RC w [.str s] cs:=by
 obtain⟨s,rfl,_,hs⟩:=DataW.trod_string ht h;obtain⟨⟨l⟩⟩:=s;refine⟨l,by simpa[ByteArray.size] using hs,RC.one ?_ rfl⟩;exact aY.str l
theorem QA {α:Type}{c:Nat}(es:List (List α))(hc:∀a∈es,a.length=c)(i j:Nat)(hi:i<es.length)(hj:j<c):es.flatten[i*c+j]?=(es[i]'hi)[j]?:=by
 induction es generalizing i with
 |nil=>simp at hi
 |cons a r ih=>
  have ha:=hc a (by simp)
  cases i with
  |zero=>simp only[Nat.zero_mul,aiv,List.flatten_cons,aii];rw[ahp (by omega)]
  |succ i=>
   simp only[List.flatten_cons,ajj];rw[ahC (by rw[ha,succ_mul];omega)];have:=ih (λb hb=>hc b (by simp[hb])) i (by simpa using hi);rw[<-this]
   congr 1
   rw[ha,succ_mul];omega
theorem iP {α:Type}{c:Nat}(es:List (List α))(hc:∀a∈es,a.length=c):es.flatten.length=es.length*c:=by
 induction es with
 |nil=>simp
 |cons a r ih=>simp[hc a (by simp),ih (λb hb=>hc b (by simp[hb])),succ_mul];omega
theorem RC.flatten {c:Nat}:∀(es:List (List AV)) (UX:List (List Value)),es.length=UX.length->(∀i (h:i<es.length) (h':i<UX.length),RC w (es[i]'h) (UX[i]'h'))->RC w es.flatten UX.flatten:=by
 intro es
 induction es with
 |nil=>intro UX hl _;cases UX with
  |nil=>exact⟨rfl,λ_ h=>by simp at h,λ_ h=>by simp at h⟩
  |cons _ _=>simp at hl
 |cons a r ih=>
  intro UX hl h
  cases UX with
  |nil=>simp at hl
  |cons b s=>
   simp only[List.flatten_cons];refine RC.append (h 0 (by simp) (by simp)) (ih s (by simpa using hl) λi hi iV=>?_);exact h (i+1) (by simpa using hi) (by simpa using iV)
def D6 {G:List AV->Prop}(ht:P.underlying t=some (.slice e))(hp:0<P.cellsOf e)(he:∀n c y,DataW.trod enc P w base sp held n e c=some y->∃a,G a/\RC w a c)
  (h:DataW.trod enc P w base sp held fuel t cs=some x):∃es:List (List AV),(∀a∈es,G a)/\es.length<=maxLen/\RC w [.sl es.length es.flatten .none] cs:=by
 rcases DataW.trod_slice ht h with⟨rfl,_⟩|⟨a,len,cap,elems,rest,n,_,rfl,_,hb,hlc,hm,CF,vb,_,_⟩
 ·exact⟨[],λa h=>by simp at h,ahu _,RC.one (.zj _ _ _ trivial) rfl⟩
 ·have key:∀i,i<len->∃(c:List Value) (av:List AV),G av/\RC w av c/\c.length=P.cellsOf e/\∀j,j<P.cellsOf e->w.cell? ((a.add (i*P.cellsOf e)).add j)=c[j]?:=by
   intro i hi;have h1:=vb i hi;rw[ahi (by omega)] at h1;obtain⟨c,h2,h3⟩:=Option.bind_eq_some_iff.1 h1;obtain⟨_,h4,h5⟩:=World.cells?_some h2;obtain⟨av,h6,h7⟩:=he _ _ _ h3;exact⟨c,av,h6,h7,h4,h5⟩
  rcases ahR len with h0|h0
  ·subst h0;exact⟨[],λa h=>by simp at h,ahu _,RC.one (.zj _ _ _ trivial) rfl⟩
  have U9:a.spot=none:=by
   obtain⟨c,_,_,_,h4,h5⟩:=key 0 h0;have:=h5 0 hp;rw[ahi (by omega)] at this;have h6:=World.cell?_spot (a:=(a.add (0*P.cellsOf e)).add 0) this;simpa[Addr.add] using h6
  obtain⟨ab,ao,as⟩:=a;simp only at U9;subst U9
  let C:Nat->List Value:=λi=>if h:i<len then Classical.choose (key i h) else []
  let A:Nat->List AV:=λi=>if h:i<len then Classical.choose (Classical.choose_spec (key i h)) else []
  have YP:∀i,i<len->G (A i)/\RC w (A i) (C i)/\(C i).length=P.cellsOf e/\∀j,j<P.cellsOf e->w.cell? ⟨ab,ao+(i*P.cellsOf e+j),none⟩=(C i)[j]?:=by
   intro i hi;have:=Classical.choose_spec (Classical.choose_spec (key i hi));simp only[C,A,aj3 hi];refine⟨this.1,this.2.1,this.2.2.1,λj hj=>?_⟩;rw[<-this.2.2.2 j hj];rw[Addr.add_add];unfold Addr.add
   split
   ·rename_i h0;rw[h0];rfl
   ·rfl
  refine⟨(List.range len).map A,λav hav=>?_,?_,?_⟩
  ·obtain⟨i,hi,rfl⟩:=ahl.1 hav;exact(YP i (ahI.1 hi)).1
  ·simp;exact aho hlc hm
  ·have hA:∀av∈(List.range len).map A,av.length=P.cellsOf e:=by
    intro av hav;obtain⟨i,hi,rfl⟩:=ahl.1 hav;obtain⟨_,h1,h2,_⟩:=YP i (ahI.1 hi);rw[<-h1.1];exact h2
   have hC:∀c∈(List.range len).map C,c.length=P.cellsOf e:=by
    intro c hc;obtain⟨i,hi,rfl⟩:=ahl.1 hc;exact(YP i (ahI.1 hi)).2.2.1
   have hlA:=iP _ hA;have hlC:=iP _ hC;simp only[ahz,List.length_range] at hlA hlC;have mb:∀j,j<len*P.cellsOf e->w.cell? ⟨ab,ao+j,none⟩=((List.range len).map C).flatten[j]?:=by
    intro j hj;have hi:j / P.cellsOf e<len:=by rw[Nat.div_lt_iff_lt_mul hp];exact hj
    have hr:j % P.cellsOf e<P.cellsOf e:=ajx _ hp;have e1:j / P.cellsOf e*P.cellsOf e+j % P.cellsOf e=j:=by rw[ajK];exact Nat.div_add_mod _ _
    have h1:=(YP _ hi).2.2.2 _ hr;have h2:=QA _ hC (j / P.cellsOf e) (j % P.cellsOf e) (by simpa using hi) hr;rw[e1] at h1 h2;rw[h1,h2];simp
   refine RC.one ?_ rfl;have hlen:((List.range len).map A).length=len:=by simp
   have dI:RC w ((List.range len).map A).flatten ((List.range len).map C).flatten:=RC.flatten (c:=0) _ _ (by simp) λi hi iV=>by
    simp only[aia,ajO];exact(YP i (by simpa using hi)).2.1
   rw[hlen];refine aY.mM hlc ?_ dI (λj hj=>mb j (by rw[hlA] at hj;exact hj)) trivial;rw[hlA];have eV:0<len*P.cellsOf e:=Nat.mul_pos h0 hp;have dy:=mb (len*P.cellsOf e-1) (by omega);rw[ahi (by rw[hlC];omega)] at dy;have:=Un dy;show ao+len*P.cellsOf e<=m0 w ab;omega
end
section
variable {H : Type} {enc : TypeId × Value -> H} {P : Program} {w : World} {base fuel : Nat} {sp : Nat -> Bool} {held : Bool} {t : TypeId} {cs : List Value} {x : DataW H × List MemPlace} {fs : Array Field}
def nP (ht:P.underlying t=some (.struct fs))(h:DataW.trod enc P w base sp held fuel t cs=some x):cs.length=P.cellsOf t/\
  ∀(i:Nat)(f:Field),fs[i]?=some f->∃n y,DataW.trod enc P w base sp held n f.type ((cs.drop f.offset).take (P.cellsOf f.type))=some y:=by
 obtain⟨xs,n,_,_,hl,hx,hf⟩:=DataW.trod_struct ht h;refine⟨hl,λi f hi=>?_⟩;have hlt:i<xs.length:=by rw[hx];exact(Array.getElem?_eq_some_iff.1 hi).1
 exact⟨n,xs[i],by rw[hf i f hi,ahi hlt]⟩
end
theorem ar.law {P:Program}{f:FuncId}{avs:List AV}{w:World}{args:Array Value}(h:ar P f avs [] [] (λr _ _=>r=.bool true))(hg:∀x∈zN,∃m,w.cell? ⟨x.1,x.2,none⟩=some (.int .i64 m))(hs:args.size=avs.length)
  (hr:∀(j:Nat)(h:j<avs.length)(h':j<args.size),aY (vU w) 0 [] w (avs[j]'h) (args[j]'h')) :
  Calls P f args w λe w'=>e=.returned (.bool true)/\Go.RowKit.Below w.heap.size w w':=by
 refine(h.2 (vU w) w args (ZK w hg) hs hr).mono ?_;rintro e w' ⟨r,H',T',L',cv,rfl,rfl,_,dI,dD⟩
 cases dI with
 |bool _=>exact⟨rfl,dD.os,dD.tape,dD.output,dD.size,λk hk=>dD.frame k hk (λhw=>by
   rcases hw with⟨i,hi,_⟩|⟨t,u,z,ht,_⟩
   ·exact ahO _ hi
   ·simp at ht)⟩
section
open Go.RowKit
variable {H : Type} {enc : TypeId × Value -> H} {P : Program}
def y8 {f:Func}{s:ChangeSpec}{apart fresh handsOn again:Bool}{W W':World}{args:Array Value}{v:Value}{ds gs:List (DataW H)}{before pa pv:List MemPlace}
  (hW:DataW.Whole enc P f.params.toList s.vars apart W args.toList ds gs before)
  (yT:∀(b:Nat)(sp:Nat->Bool)(hd:Bool),DataW.TrodAll enc P W' b sp hd f.resultTypes.toList (v.resultList f.resultTypes.size) (s.fn H (ds++gs)).results [])
  (fm:∀sp:Nat->Bool,(∀p∈before,sp p.block=true)->DataW.TrodAll enc P W' 0 sp true f.params.toList args.toList (s.fn H (ds++gs)).args pa)
  (U8:∀sp:Nat->Bool,(∀p∈before,sp p.block=true)->DataW.TrodVars enc P W' sp s.vars (s.fn H (ds++gs)).vars pv)
  (tV:before=pa++pv) (hb:Go.RowKit.Below W.heap.size W W')
  (jK:∀(j:Nat)(t:TypeId)(r:Value),f.resultTypes[j]?=some t->(v.resultList f.resultTypes.size)[j]?=some r->Value.okWide P W' .any 0 t r) :
  s.post enc P f apart fresh handsOn again W args v W':=by
 have hlt:∀p∈before,p.block<W.heap.size:=λp hp=>hW.lt p hp;have hold:∀p∈before,(λb=>decide (b<W.heap.size)) p.block=true:=λp hp=>by simpa using hlt p hp
 refine⟨ds,gs,before,[],pa,pv,hW,yT _ _ _,fm _ hold,U8 _ hold,World.keptBut_mono (λp hp=>⟨hp,?_⟩) (hb.frame (·∈before)),λ_=>?_⟩
 ·rw[tV,ahw] at hp;exact Or.inr hp
 ·obtain⟨_,_,_,_,_,hz,hn⟩:=hW;refine⟨jK,_,_,([]++pa)++pv,⟨[]++pa,pv,trodAll_append (fm _ (λ_ _=>rfl)) (yT _ _ _),U8 _ (λ_ _=>rfl),rfl,?_,?_⟩,?_⟩
  ·intro b off hp;have tY:MemPlace.cell b off∈before:=by rw[tV];simpa using hp
   rw[hb.frozen (hlt _ tY)];exact hz b off tY
  ·intro ha;have:=hn ha;rw[tV] at this;simpa using this
  ·intro p hp _;rw[tV];simpa using hp
theorem y4 (hl:laidOutB P=true){W W':World}(hb:Go.RowKit.Below W.heap.size W W'){sp:Nat->Bool}:∀{ts:List TypeId} {vs:List Value} {ds:List (DataW H)} {ps:List MemPlace},DataW.TrodAll enc P W 0 (λ_=>true) true ts vs ds ps->
  (∀t∈ts,P.readableRec t=true/\t<P.types.size)->(∀x∈ps,x.block<W.heap.size)->(∀x∈ps,sp x.block=true)->DataW.TrodAll enc P W' 0 sp true ts vs ds ps:=by
 intro ts
 induction ts with
 |nil=>
  intro vs ds ps h _ _ _;obtain⟨rfl,rfl,rfl⟩:=trodAll_nil h;exact trodAll_mk0
 |cons t ts ih=>
  intro vs ds ps h ht hlt Gm;obtain⟨v0,vs0,d0,ds0,p0,q0,rfl,rfl,rfl,h0,r0⟩:=trodAll_cons h;have h1:=ht t (by simp);exact trodAll_cons_mk (WideElems.Trod_stays hl h1.1 h1.2 h0 (λx hx=>hb.same (hlt x (by simp[hx]))) (λx hx=>Gm x (by simp[hx])))
   (ih r0 (λt' h'=>ht t' (by simp[h'])) (λx hx=>hlt x (by simp[hx])) (λx hx=>Gm x (by simp[hx])))
def Mk {f:Func}{s:ChangeSpec}{apart fresh handsOn again:Bool}{W W':World}{args:Array Value}{ds gs:List (DataW H)}{before:List MemPlace}{tb:TypeId}
  (hW:DataW.Whole enc P f.params.toList s.vars apart W args.toList ds gs before) (hv:s.vars=[]) (Yz:s.fn H ds={ results:=[.lit (.bool true)],args:=ds }) (hr:f.resultTypes=#[tb]) (fY:P.underlying tb=some .bool)
  (hl:laidOutB P=true) (CR:∀t∈f.params.toList,P.readableRec t=true/\t<P.types.size) (hb:Go.RowKit.Below W.heap.size W W') :
  s.post enc P f apart fresh handsOn again W args (.bool true) W':=by
 have YE:=hW;obtain⟨p,q,hA,hV,rfl,hfz,mU⟩:=hW;rw[hv] at hV;obtain⟨rfl,rfl⟩:=trodVars_none hV;simp only[ahH] at YE;have hlt:∀x∈p,x.block<W.heap.size:=λx hx=>YE.lt x hx;refine y8 (pa:=p) (pv:=[]) YE (λb sp hd=>?_) (λsp Gm=>?_) (λsp Gm=>?_) (by simp) hb (ok_one hr rfl (okWide_bool_mk fY _))
 ·rw[ahH,Yz,hr];exact trodAll_cons_mk (shut_bool fY _) trodAll_mk0
 ·rw[ahH,Yz];exact y4 hl hb hA CR hlt Gm
 ·rw[ahH,Yz,hv];rfl
end
section
variable {H : Type} {enc : TypeId × Value -> H} {P : Program} {w : World} {b0 base : Nat} {sp : Nat -> Bool} {held : Bool} {t e : TypeId} {v : Value} {d : DataW H} {ps : List MemPlace} {r : Reach}
def Q4 {G:List AV->Prop}(ht:P.underlying t=some (.slice e))(hp:0<P.cellsOf e)(he:∀n c y,DataW.trod enc P w base sp held n e c=some y->∃a,G a/\RC w a c)(kX:Value.okWide P w r b0 t v)(h:DataW.Trod enc P w base sp held t v d ps) :
  ∃es:List (List AV),((∀a∈es,G a)/\es.length<=maxLen)/\aY (vU w) 0 [] w (.sl es.length es.flatten .none) v:=by
 obtain⟨a,l,c,rfl⟩:=okWide_slice ht kX;obtain⟨fuel,hf⟩:=h;obtain⟨m,h1,h2,h3⟩:=D6 ht hp he hf;exact⟨m,⟨h1,h2⟩,h3.rep⟩
end
section
variable {H : List az} {T : au} {L : Lay} {w : World}
def bW.aeG {n z:Nat}{cs:List AV}(h:bW L (H++[.cells [.sl n cs .full]]) T w)(hz:0<z) :
  bW (L.bp T.length ⟨0,0,0⟩) (H++[.cells [.sl n cs (.own T.length)]]) (T++[(cs.length,z)]) w:=by
 have h1:=h.own cs.length hz;have el:(H++[az.cells [.sl n cs .full]]).length=(H++[az.cells [.sl n cs (.own T.length)]]).length:=by simp
 refine⟨λi b hi=>?_,λi j hi hj=>h1.inj i j (by rw[el];exact hi) (by rw[el];exact hj),h1.tok,h1.po,λt u z' i ht hu hi=>h1.kD t u z' i ht hu (by rw[el];exact hi),h1.mz,h1.gl⟩;rw[<-el];rcases ahr i H.length with hl|hl
 ·rw[ahp hl] at hi;exact h1.box i b (by rw[ahp hl];exact hi)
 ·have iV:=(ahh.1 hi).1;have:i=H.length:=by simp at iV;omega
  subst this;rw[JB] at hi;simp at hi;subst hi;obtain⟨c,t,fr,g1,g2,g3,wg,g4,g5⟩:=h.box H.length (.cells [.sl n cs .full]) (by simp);refine⟨c,t,fr,g1,g2,by simpa using g3,wg,λj hj hj'=>?_,g5⟩;have:j=0:=by simp at hj;omega
  subst this;exact(g4 0 (by simp) hj').own
def JY {C:Cx}{c:Code}{Q:Exit->St->Prop}{s:St}(z:Nat)(H:List az)(n:Nat)(cs:List AV)(hz:0<z)(hH:s.H=H++[.cells [.sl n cs .full]])
  (h:AW C c Q ⟨s.e,H++[.cells [.sl n cs (.own s.T.length)]],s.T++[(cs.length,z)]⟩):AW C c Q s:=by
 obtain⟨e,H0,T⟩:=s;simp only at hH h;subst hH;intro L w a hc;have el:(H++[az.cells [.sl n cs .full]]).length=(H++[az.cells [.sl n cs (.own T.length)]]).length:=by simp
 have ev:=Ev.own (H:=H++[.cells [.sl n cs .full]]) (T:=T) (L:=L) (w:=w) cs.length z;have ev':=ev.mono hc.nb hc.tb;have ek:cX L (H++[az.cells [.sl n cs .full]]).length T w (L.bp T.length ⟨0,0,0⟩) (H++[az.cells [.sl n cs (.own T.length)]]).length (T++[(cs.length,z)]) w:=by
  rw[<-el];exact ev.keeps
 refine wp_mono (h (L.bp T.length ⟨0,0,0⟩) w a ⟨by rw[<-el];exact hc.nb,by simp;have:=hc.tb;simp at this;omega,hc.mV.aeG hz,hc.size,hc.defers,λt=>(hc.env t).keep ek⟩) λ_ _ _ k=>
  cL.step (s1:=⟨e,H++[.cells [.sl n cs (.own T.length)]],T++[(cs.length,z)]⟩) (by rw[<-el];exact ev') k
end
section
variable {H : List az} {T : au} {L : Lay} {w : World}
def bW.aeF {n z k:Nat}{cs vs:List AV}(h:bW L (H++[.cells vs]) T w)(hk:vs[k]?=some (.sl n cs .full))(hz:0<z) :
  bW (L.bp T.length ⟨0,0,0⟩) (H++[.cells (vs.set k (.sl n cs (.own T.length)))]) (T++[(cs.length,z)]) w:=by
 have h1:=h.own cs.length hz;have ev:=Ev.own (H:=H++[.cells vs]) (T:=T) (L:=L) (w:=w) cs.length z;have el:(H++[az.cells vs]).length=(H++[az.cells (vs.set k (.sl n cs (.own T.length)))]).length:=by simp
 refine⟨λi b hi=>?_,λi j hi hj=>h1.inj i j (by rw[el];exact hi) (by rw[el];exact hj),h1.tok,h1.po,λt u z' i ht hu hi=>h1.kD t u z' i ht hu (by rw[el];exact hi),h1.mz,h1.gl⟩;rw[<-el];rcases ahr i H.length with hl|hl
 ·rw[ahp hl] at hi;exact h1.box i b (by rw[ahp hl];exact hi)
 ·have iV:=(ahh.1 hi).1;have:i=H.length:=by simp at iV;omega
  subst this;rw[JB] at hi;simp at hi;subst hi;obtain⟨c,t,fr,g1,g2,g3,wg,g4,g5⟩:=h.box H.length (.cells vs) (by simp);refine⟨c,t,fr,g1,g2,by simpa using g3,wg,λj hj hj'=>?_,g5⟩
  by_cases e:k=j
  ·subst e;have hj2:k<vs.length:=by simpa using hj
   rw[ahi hj2] at hk;have:=g4 k hj2 hj';rw[Option.some.inj hk] at this;rw[List.getElem_set_self];exact this.own
  ·rw[List.getElem_set_ne e];exact(g4 j (by simpa using hj) hj').keep ev.keeps
def Ce {C:Cx}{c:Code}{Q:Exit->St->Prop}{s:St}(z k:Nat)(H:List az)(vs:List AV)(n:Nat)(cs:List AV)(hz:0<z)(hk:vs[k]?=some (.sl n cs .full))(hH:s.H=H++[.cells vs])
  (h:AW C c Q ⟨s.e,H++[.cells (vs.set k (.sl n cs (.own s.T.length)))],s.T++[(cs.length,z)]⟩):AW C c Q s:=by
 obtain⟨e,H0,T⟩:=s;simp only at hH h;subst hH;intro L w a hc;have el:(H++[az.cells vs]).length=(H++[az.cells (vs.set k (.sl n cs (.own T.length)))]).length:=by simp
 have ev:=Ev.own (H:=H++[.cells vs]) (T:=T) (L:=L) (w:=w) cs.length z;have ev':=ev.mono hc.nb hc.tb;have ek:cX L (H++[az.cells vs]).length T w (L.bp T.length ⟨0,0,0⟩) (H++[az.cells (vs.set k (.sl n cs (.own T.length)))]).length (T++[(cs.length,z)]) w:=by
  rw[<-el];exact ev.keeps
 refine wp_mono (h (L.bp T.length ⟨0,0,0⟩) w a ⟨by rw[<-el];exact hc.nb,by simp;have:=hc.tb;simp at this;omega,hc.mV.aeF hk hz,hc.size,hc.defers,λt=>(hc.env t).keep ek⟩) λ_ _ _ kk=>
  cL.step (s1:=⟨e,H++[.cells (vs.set k (.sl n cs (.own T.length)))],T++[(cs.length,z)]⟩) (by rw[<-el];exact ev') kk
end
def rL:AV->AV
 |.agg cs=>.agg (cs.map cG)
 |v=>cG v
theorem aY.Q7 {L:Lay}{N:Nat}{T:au}{w:World}{cs:List AV}{v:Value}(h:aY L N T w (.agg cs) v):aY L N T w (.agg (cs.map Am.cG)) v:=by
 cases h with
 |agg cs cv h1 h2 hr=>exact .agg _ cv (by simpa using h1) h2 (λj hj hj'=>by
   rw[aia];exact(hr j (by simpa using hj) hj').cG)
theorem aY.rL {L:Lay}{N:Nat}{T:au}{w:World}{v:AV}{c:Value}(h:aY L N T w v c):aY L N T w (rL v) c:=by
 cases v with
 |agg cs=>exact h.Q7
 |_=>exact h.cG
theorem ar.G6 {P:Program}{f:FuncId}{args:List AV}{H:List az}{T:au}{rs:List AV}(h:ar P f args H T (λr H' T'=>(∃rH,H'=H++rH)/\(∃rT,T'=T++rT)/\∃vs,r=.df vs/\vs.map Am.rL=rs))(hb:∀v∈rs,Below H.length T.length v):ar P f args H T (Is (.df rs) H T):=by
 refine⟨h.1,λL w ca hc jR hr=>(h.2 L w ca hc jR hr).mono ?_⟩;rintro e w' ⟨r',H',T',L',cv,⟨⟨rH,e1⟩,⟨rT,e2⟩,vs,e3,e4⟩,rfl,cO,dI,dD⟩;subst e1;subst e2;subst e3;refine⟨_,H,T,L',cv,⟨rfl,rfl,rfl⟩,rfl,bW.front P cO hc.jK,?_,dD.front (ahj _) (ahj _)⟩;have ma:aY L' (H++rH).length (T++rT) w' (.df (vs.map Am.rL)) cv:=by
  cases dI with
  |df _ cv h1 hr=>
   refine .df _ cv (by simpa using h1) (λj hj hj'=>?_);rw[aia];exact(hr j (by simpa using hj) hj').rL
 rw[e4] at ma;have:=ma.drop (.df _ hb);simpa using this
def ar.Vu {P:Program}{f:FuncId}{args:List AV}{H:List az}{T:au}{r0:AV}(h:ar P f args H T (λr H' T'=>(∃rH,H'=H++rH)/\(∃rT,T'=T++rT)/\Am.rL r=r0))(hb:Below H.length T.length r0):ar P f args H T (Is r0 H T):=by
 refine⟨h.1,λL w ca hc jR hr=>(h.2 L w ca hc jR hr).mono ?_⟩;rintro e w' ⟨r',H',T',L',cv,⟨⟨rH,e1⟩,⟨rT,e2⟩,e4⟩,rfl,cO,dI,dD⟩;subst e1;subst e2;refine⟨_,H,T,L',cv,⟨rfl,rfl,rfl⟩,rfl,bW.front P cO hc.jK,?_,dD.front (ahj _) (ahj _)⟩;have ma:=dI.rL;rw[e4] at ma;have:=ma.drop hb;simpa using this
end Go.Am
