/- A scope in which the run jumps back to its first label. Calls with more than one result: what they have made is forgotten. Boxes that are finished become immutable, however deep they lie. Boxes that are finished become immutable; the one they hang on stays a box. A region that draws its order, where two operations with effects may come in either order: both orders are walked. A region that draws its order, whose last operations come behind all others: these are walked as elsewhere. A region that draws its order, in which an alloc may come at any time among operations that change tokens alone; the last operations come behind all others. A region that draws its order, in which one operation with an effect (an append to a box that is held with its capacity) can come out in several ways. Regions that draw their order, in which the operations with an effect stand in a chain, each with several outcomes, and the others have no effect and nothing of the chain ahead of them. From the readings of a law's arguments to abstract values, and from a contract of the machine to the row's post. The arguments of a row, as abstract values. A box whose cell is an empty end gets a token for it: only the abstract state takes the step. A box of several cells, one of which is an empty end, gets a token for it.
  Conditions: as the theorems say. -/
import Derived.Test.YtoejlmpbebjemaaGreatAmA
import Derived.ScopeJumps
import Derived.Test.YtoejlmpbebjemaaGreatAmB
import Derived.WalkKit
import Derived.ProofKit
import Derived.OpenShut
import Derived.JoinedCond
import Derived.Below
import Derived.Carry
import Derived.DataElems
import Derived.ChangeSame
import Derived.ChangeMaps5
import Derived.WideShapes
set_option linter.all false
open Nat (add_comm succ_mul)
open List (append_assoc contains_iff_mem)
namespace Go.Am
open Go
def JJ {C Q s l}(h:Q (.goto l) s):AW C (.goto l) Q s:=λL w a hc=>wp_goto ⟨s,L,h,hc,Ev.refl hc.nb hc.tb⟩
def Ow (l:Nat)(J:St->Prop)(Q:Exit->St->Prop):Exit->St->Prop
 |.goto l',s=>l'=l/\J s
 |e,s=>Q e s
@[simp] theorem X1 {l:Nat} {J:St->Prop} {Q:Exit->St->Prop} {s:St}:Ow l J Q .ret s=Q .ret s:=rfl
@[simp] theorem Uk {l:Nat} {J:St->Prop} {Q:Exit->St->Prop} {s:St}:Ow l J Q .normal s=Q .normal s:=rfl
theorem ED {p:Nat->Prop}{n:Nat}(h:p n):∃k,p k/\∀m,p m->k<=m:=by
 induction n using Nat.strongRecOn with
 |_ n ih=>
  by_cases hs:∃m,m<n/\p m
  ·obtain⟨m,h1,h2⟩:=hs;exact ih m h1 h2
  ·exact⟨n,h,λm hm=>Nat.le_of_not_lt λbp=>hs ⟨m,bp,hm⟩⟩
theorem QQ {C:Cx}{d:Code}{l:Nat}{Q s}{X:Type}(st:X->St)(I:X->Prop)(μ:X->Nat)(x0:X)(h0:I x0)(hw:sW C s (st x0))
  (pass:∀x,I x->AW C d (Ow l (λs'=>∃x',I x'/\μ x'<μ x/\sW C s' (st x')) Q) (st x)):AW C (.scope (.seq (.label l) d)) Q s:=by
 refine aF (st x0) hw ?_;intro L w a hc
 let J:Nat->Act->World->Prop:=λn a' w'=>∃x L',I x/\eQ C (st x) L' w' a'/\Ev C.nb C.tb L (st x0).H.length (st x0).T w L' (st x).H.length (st x).T w'/\μ x=n
 have hd:∀n a1 w1,J n a1 w1->d.wp C.P (Exit.jump l (λa' w'=>∃m,m<n/\J m a' w') (cN C Q L (st x0) w)) a1 w1:=by
  rintro n a1 w1 ⟨x,L1,hI,uo,dI,rfl⟩;refine wp_mono (pass x hI L1 w1 a1 uo) λe a' w' ⟨s',L',q,c',ev⟩=>?_
  cases e with
  |goto l'=>
   obtain⟨rfl,x',VT,bp,Yq⟩:=q;exact⟨rfl,μ x',bp,x',L',VT,Yq.nD c',(dI.trans ev).trans Yq.ev,rfl⟩
  |_=>exact⟨s',L',q,c',dI.trans ev⟩
 have hJ0:J (μ x0) a w:=⟨x0,L,h0,hc,Ev.refl hc.nb hc.tb,rfl⟩
 have h1:∀n a1 w1,J n a1 w1->d.wp C.P (Exit.jump l (λa' w'=>∃n,J n a' w') (cN C Q L (st x0) w)) a1 w1:=λn a1 w1 hn=>
  wp_mono (hd n a1 w1 hn) λe a' w' q=>by
   cases e with
   |goto l'=>exact⟨q.1,q.2.elim λm hm=>⟨m,hm.2⟩⟩
   |_=>exact q
 refine wp_scope_jumps l (λa w=>∃n,J n a w) (λa w=>Classical.epsilon λn=>J n a w/\∀m,J m a w->n<=m) (rest:=.seq .skip d) (by simp[findLabel]) ?_ ?_
 ·exact wp_seq (wp_label (h1 _ a w hJ0))
 ·intro a1 w1 ⟨n,hn⟩;obtain⟨hk,ae5⟩:=Classical.epsilon_spec (ED (p:=λn=>J n a1 w1) hn);refine wp_seq (wp_skip (wp_mono (hd _ a1 w1 hk) λe a' w' q=>?_))
  cases e with
  |goto l'=>
   obtain⟨rfl,m,bp,hm⟩:=q;refine⟨rfl,⟨m,hm⟩,?_⟩;obtain⟨_,Oj⟩:=Classical.epsilon_spec (ED (p:=λn=>J n a' w') hm);exact ajT (Oj m hm) bp
  |_=>exact q
section
variable {P : Program} {f : FuncId} {args : List AV} {H : List aA} {T : au}
end
inductive gp (n0 t0:Nat) (H:List aA):AV->AV->Prop
 |keep {v v':AV} (h:v'=v\/v'=cL v) (hb:Below n0 t0 v'):gp n0 t0 H v v'
 |top (v:AV):gp n0 t0 H v .top
 |cV {i o n:Nat} {vs cs:List AV} (hi:n0<=i) (hH:H[i]?=some (.cells vs)) (hl:o+cs.length<=vs.length) (hc:∀(j:Nat)(h:j<cs.length),gp n0 t0 H (vs.getD (o+j) .top) (cs[j]'h)):gp n0 t0 H (.cV i o n) (.sl n cs .none)
 |bQ {i n cap:Nat} {vs cs:List AV} (hi:n0<=i) (hH:H[i]?=some (.cells vs)) (hl:cs.length<=vs.length) (hc:∀(j:Nat)(h:j<cs.length),gp n0 t0 H (vs.getD j .top) (cs[j]'h)):gp n0 t0 H (.bQ i n cap) (.sl n cs .none)
 |ZM {i n:Nat} {vs cs:List AV} (hi:n0<=i) (hH:H[i]?=some (.cells vs)) (hl:cs.length<=vs.length) (hc:∀(j:Nat)(h:j<cs.length),gp n0 t0 H (vs.getD j .top) (cs[j]'h)):gp n0 t0 H (.bQ i n n) (.sl n cs .full)
 |slT {n t:Nat} {cs rX:List AV} (hl:rX.length=cs.length) (ht:t<t0) (hc:∀(j:Nat)(h:j<rX.length),gp n0 t0 H (cs.getD j .top) (rX[j]'h)):gp n0 t0 H (.sl n cs (.own t)) (.sl n rX (.own t))
 |ptr {i o:Nat} {vs cs:List AV} (hi:n0<=i) (hH:H[i]?=some (.cells vs)) (hl:cs.length<=vs.length) (hc:∀(j:Nat)(h:j<cs.length),gp n0 t0 H (vs.getD j .top) (cs[j]'h)):gp n0 t0 H (.ptr i o) (.eB cs o)
 |sl {n:Nat} {cs rX:List AV} {tg:Tag} (hl:rX.length=cs.length) (hc:∀(j:Nat)(h:j<rX.length),gp n0 t0 H (cs.getD j .top) (rX[j]'h)):gp n0 t0 H (.sl n cs tg) (.sl n rX .none)
 |agg {cs rX:List AV} (hl:rX.length=cs.length) (hc:∀(j:Nat)(h:j<rX.length),gp n0 t0 H (cs.getD j .top) (rX[j]'h)):gp n0 t0 H (.agg cs) (.agg rX)
 |dn {cs rX:List AV} (hl:rX.length=cs.length) (hc:∀(j:Nat)(h:j<rX.length),gp n0 t0 H (cs.getD j .top) (rX[j]'h)):gp n0 t0 H (.dn cs) (.dn rX)
open Classical in
noncomputable def Lay.pF (L:Lay)(n0 n:Nat)(w:World):Lay:=
 { L with m:=λb=>if ∃i,n0<=i/\i<n/\L.bW i=b then max (L.m b) (match w.heap[b]? with|some (.cells c _ _)=>c.size|_=>0) else L.m b }
section
variable {L : Lay} {H : List aA} {T : au} {w : World} {n0 t0 : Nat}
open Classical in
def oP (L:Lay)(n0 n:Nat)(w:World)(b:Nat):L.m b<=(L.pF n0 n w).m b:=by
 show L.m b<=if _ then _ else _
 split
 ·exact Nat.le_max_left _ _
 ·exact ahv _
theorem dh.pF {m:Nat}(N:Nat)(T:au):dh L N T w (L.pF n0 m w) N T w:=by
 exact⟨ahv _,λ_ _=>rfl,λt u z h=>⟨u,h,ahv _,λ_=>rfl⟩,λb=>oP L n0 m w b,λ_ _ _=>rfl,rfl⟩
open Classical in
theorem cz.pF (h:cz L H T w)(hn:n0<=H.length)(hf:cz L (H.take n0) (T.take t0) w):cz (L.pF n0 H.length w) (H.take n0) (T.take t0) w:=by
 have hlen:(H.take n0).length=n0:=by rw[ahW];omega
 have ne:∀b,(¬∃i,n0<=i/\i<H.length/\L.bW i=b)->(L.pF n0 H.length w).m b=L.m b:=λb hb=>ahC hb;have XT:∀(t:Nat)(x:Nat×Nat),(T.take t0)[t]?=some x->T[t]?=some x:=by
  intro t x hx;rw[aim] at hx
  split at hx
  ·exact hx
  ·cases hx
 have Sc:∀i,i<n0->¬∃j,n0<=j/\j<H.length/\L.bW j=L.bW i:=by
  rintro i hi ⟨j,h1,h2,e⟩;have:=h.inj j i h2 zO e;omega
 have V7:∀t u z,T[t]?=some (u,z)->u<(L.eF t).c*z->¬∃j,n0<=j/\j<H.length/\L.bW j=(L.eF t).b:=by
  rintro t u z ht hs ⟨j,h1,h2,e⟩;exact h.kY t u z j ht hs h2 e.symm
 refine⟨λi x hx=>?_,hf.inj,λt u z ht=>?_,hf.pG,hf.kY,λx hx=>?_,h.gl.keep (λb=>oP L n0 H.length w b) (λ_ _ _=>rfl)⟩
 ·have hi:=(aht.1 hx).1;refine(hf.box i x hx).stay (dh.pF _ _) hi rfl λh5=>?_;rw[ne _ (Sc i zO)];exact h5
 ·obtain⟨h1,h2⟩:=hf.tok t u z ht;refine⟨h1,λhs=>?_⟩;obtain⟨c,e,fr,g1,g2,g3,g4⟩:=h2 hs;exact⟨c,e,fr,g1,g2,g3,by rw[show ((L.pF n0 H.length w).eF t).b=(L.eF t).b from rfl,ne _ (V7 t u z (XT t _ ht) hs)];exact g4⟩
 ·rw[ne _ (fun⟨j,h1,h2,e⟩=>by have:=h.mD h2;omega)];exact h.mz x hx
open Classical in
theorem gp.rep (h:cz L H T w)(hn:n0<=H.length){v v':AV}(k:gp n0 t0 H v v'):∀c,bt L H.length T w v c->bt (L.pF n0 H.length w) n0 (T.take t0) w v' c:=by
 have size:∀(i:Nat)(c:Array Value)(t:TypeId)(fr:Nat×Nat),n0<=i->i<H.length->w.heap[L.bW i]?=some (.cells c t fr)->c.size<=(L.pF n0 H.length w).m (L.bW i):=by
  intro i c t fr h1 h2 hh;show _<=if _ then _ else _
  rw[ahF ⟨i,h1,h2,rfl⟩,hh];exact Nat.le_max_right _ _
 have row:∀(i o:Nat)(vs cs:List AV),n0<=i->H[i]?=some (.cells vs)->o+cs.length<=vs.length->(∀(j:Nat)(h:j<cs.length)(c:Value),bt L H.length T w (vs.getD (o+j) .top) c->bt (L.pF n0 H.length w) n0 (T.take t0) w (cs[j]'h) c)->
   ∃cv,o+cs.length<=(L.pF n0 H.length w).m (L.bW i)/\cS (L.pF n0 H.length w) n0 (T.take t0) w cs cv/\∀j,j<cs.length->w.cell? ⟨L.bW i,o+j,none⟩=cv[j]?:=by
  intro i o vs cs hi hH hl ih;obtain⟨c,t,fr,g1,g2,g3,wC,g4,g5⟩:=h.box i _ hH;have hiH:=(aht.1 hH).1;have hs:=size i c t fr hi hiH g1;refine⟨(c.toList.drop o).take cs.length,zO,⟨by simp;omega,λj hj=>?_,λj hj bU=>?_⟩,λj hj=>?_⟩
  ·have vu:o+j<c.size:=by simp at hj;omega
   have:=wC (o+j) vu;rw[ajK,List.getElem_drop,aiv];exact this
  ·have vu:o+j<c.size:=zO;have:=g4 (o+j) zO vu;rw[ajK,List.getElem_drop,aiv];refine ih j hj _ ?_;rw[ahs,ahu zO];exact this
  ·rw[gI g1,aim,ahF hj,aja];simp
 induction k with
 |keep hv hb=>
  rename_i v v';intro c hr;have h1:bt L H.length T w v' c:=by
   rcases hv with rfl|rfl
   ·exact hr
   ·exact hr.cL
  exact(h1.drop hb).keep (dh.pF _ _)
 |top v=>intro c _;exact .top _
 |cV hi hH hl hc ih=>
  intro c hr;obtain⟨cap,rfl,cK,bp⟩:=hr.kD;obtain⟨cv,h1,h2,h3⟩:=row _ _ _ _ hi hH hl ih;exact bt.nr cK h1 h2 h3 trivial
 |bQ hi hH hl hc ih=>
  intro c hr;obtain⟨rfl,cK,bp⟩:=hr.iI;obtain⟨cv,h1,h2,h3⟩:=row _ 0 _ _ hi hH zO (λj hj c jH=>ih j hj c (by rwa [aiH] at jH));exact bt.nr cK h1 h2 h3 trivial
 |ZM hi hH hl hc ih=>
  intro c hr;obtain⟨rfl,cK,bp⟩:=hr.iI;obtain⟨cv,h1,h2,h3⟩:=row _ 0 _ _ hi hH zO (λj hj c jH=>ih j hj c (by rwa [aiH] at jH));exact bt.nr cK h1 h2 h3 rfl
 |slT hl ht hc ih=>
  rename_i n t cs rX;intro c hr;obtain⟨a,cap,rfl,cK,htg,uj⟩:=hr.fN;have We:mv (L.pF n0 H.length w) (T.take t0) (.own t) n rX.length a cap:=by
   obtain⟨u0,z,g0,g1,g2⟩:=htg;exact⟨u0,z,by rw[aim,ahF ht];exact g0,zO,λe=>g2 zO⟩
  rcases uj with⟨e1,e2⟩|⟨b,base,cv,e1,h1,h2,h3⟩
  ·subst e1;subst e2;have:rX=[]:=ah5 hl;subst this;exact .zF (.own t) a cap We
  ·subst e1;refine bt.nr (cv:=cv) cK (by rw[hl];exact ahA h1 (oP _ _ _ _ _)) ⟨by rw[hl];exact h2.1,h2.2.1,λj hj bU=>ih j hj _ ?_⟩ (λj hj=>h3 j zO) We;have:=h2.2.2 j zO bU;rw[ahs,ahu zO];exact this
 |ptr hi hH hl hc ih=>
  rename_i i o vs cs;intro c hr;obtain⟨rfl,bp⟩:=hr.oS;obtain⟨cv,h1,h2,h3⟩:=row _ 0 _ _ hi hH zO (λj hj c jH=>ih j hj c (by rwa [aiH] at jH));have:=bt.eB (L:=L.pF n0 H.length w) (N:=n0) (T:=T.take t0) (w:=w) cs o (L.bW i) 0 (λj=>cv.getD j undef) h1 (λj hj=>?_) (λj hj=>?_) (λj hj=>?_)
  ·rwa [aiH] at this
  ·have bU:j<cv.length:=by rw[h2.1];exact hj
   rw[h3 j hj];simp[bU]
  ·have bU:j<cv.length:=by rw[h2.1];exact hj
   simpa[bU] using h2.2.1 j bU
  ·have bU:j<cv.length:=by rw[h2.1];exact hj
   simpa[bU] using h2.2.2 j hj bU
 |sl hl hc ih=>
  rename_i n cs rX tg;intro c hr;obtain⟨a,cap,rfl,cK,ht,uj⟩:=hr.fN;rcases uj with⟨e1,e2⟩|⟨b,base,cv,e1,h1,h2,h3⟩
  ·subst e1;subst e2;have:rX=[]:=ah5 hl;subst this;exact .zF .none a cap trivial
  ·subst e1;refine bt.nr (cv:=cv) cK (by rw[hl];exact ahA h1 (oP _ _ _ _ _)) ⟨by rw[hl];exact h2.1,h2.2.1,λj hj bU=>ih j hj _ ?_⟩ (λj hj=>h3 j zO) trivial;have:=h2.2.2 j zO bU;rw[ahs,ahu zO];exact this
 |agg hl hc ih=>
  rename_i cs rX;intro c hr
  cases hr with
  |agg _ cv h1 h2 h3=>
   refine .agg _ _ zO h2 λj hj bU=>ih j hj _ ?_;have:=h3 j zO bU;rw[ahs,ahu zO];exact this
 |dn hl hc ih=>
  rename_i cs rX;intro c hr
  cases hr with
  |dn _ cv h1 h3=>
   refine .dn _ _ zO λj hj bU=>ih j hj _ ?_;have:=h3 j zO bU;rw[ahs,ahu zO];exact this
end
section
variable {P : Program} {f : FuncId} {args : List AV} {H : List aA} {T : au}
def aq.afE {r0:AV}(H1:List aA)(T1:au)(hl:H.length<=H1.length)(ht:T.length<=T1.length)(ho:bM H T->bM H1 T1)
  (h:aq P f args H T (λr H' T'=>(∃G,H'=H1++G)/\(∃rT,T'=T1++rT)/\gp H1.length T1.length H' r r0)):aq P f args H T (Is r0 H1 T1):=by
 refine⟨h.1,λL w ca hc jY hr=>(h.2 L w ca hc jY hr).mono ?_⟩;rintro e w' ⟨r',H',T',L',cv,⟨⟨G,e1⟩,⟨rT,e2⟩,e3⟩,rfl,cY,dO,dI⟩;subst e1;subst e2;have hf:cz L' H1 T1 w':=cz.front P cY (ho hc.je);have hn:H1.length<=(H1++G).length:=by rw[ahw];omega
 have pn:=cY.pF (n0:=H1.length) (t0:=T1.length) hn (by rw[aiy,aiy]<;>first|exact hf|rfl);have o9:=e3.rep cY hn _ dO;rw[aiy rfl,aiy rfl] at pn;rw[aiy rfl] at o9;have e1:=dI.front hl ht;exact⟨_,H1,T1,_,cv,⟨rfl,rfl,rfl⟩,rfl,pn,o9,⟨e1.n,e1.bW,e1.tok,e1.t,λb=>ahA (e1.m b) (oP _ _ _ _ _),e1.uh,e1.size,e1.frame,e1.wr,e1.os,e1.tape,e1.output,e1.drawn,e1.dr⟩⟩
def aq.pF {r0:AV}(h:aq P f args H T (λr H' T'=>(∃G,H'=H++G)/\(∃rT,T'=T++rT)/\gp H.length T.length H' r r0)):aq P f args H T (Is r0 H T):=
 aq.afE H T (ahv _) (ahv _) id h
def Oq (n0 t0:Nat)(H:List aA)(e:Env):Env->Prop
 |[]=>True
 |(s,v)::r=>gp n0 t0 H (bO e s) v/\Oq n0 t0 H e r
theorem Mz {n0 t0:Nat}{H:List aA}{e:Env}:∀{e':Env},Oq n0 t0 H e e'->∀s,gp n0 t0 H (bO e s) (bO e' s):=by
 intro e'
 induction e' with
 |nil=>intro _ s;exact .top _
 |cons x r ih=>
  obtain⟨s0,v⟩:=x;intro h s
  by_cases hs:s0=s
  ·subst hs;simp only[bO,ajc];exact h.1
  ·simp only[bO,ahC hs];exact ih h.2 s
def O0 {C:Cx}{c:Code}{Q:Exit->St->Prop}{e e':Env}{G:List aA}{rT:au}(gL:C.nb<=H.length)(fZ:C.tb<=T.length)(ho:bM H T)
  (he:Oq H.length T.length (H++G) e e') (h:AW C c Q ⟨e',H,T⟩):AW C c Q ⟨e,H++G,T++rT⟩:=λL w a hc=>by
 have hf:cz L H T w:=cz.front C.P hc.nD ho;have hn:H.length<=(H++G).length:=by rw[ahw];omega
 have pn:=hc.nD.pF (n0:=H.length) (t0:=T.length) hn (by rw[aiy,aiy]<;>first|exact hf|rfl);rw[aiy rfl,aiy rfl] at pn;have e0:Ev C.nb C.tb L (H++G).length (T++rT) w L (H++G).length (T++rT) w:=Ev.refl hc.nb hc.tb;have e1:=e0.front gL fZ;have e2:Ev C.nb C.tb L (H++G).length (T++rT) w (L.pF H.length (H++G).length w) H.length T w:=⟨e1.n,e1.bW,e1.tok,e1.t,λb=>oP _ _ _ _ _,e1.uh,e1.size,e1.frame,e1.wr,e1.os,e1.tape,e1.output,e1.drawn,e1.dr⟩
 refine wp_mono (h (L.pF H.length (H++G).length w) w a ⟨gL,fZ,pn,hc.size,hc.defers,λt=>?_⟩) λ_ _ _ k=>cN.step (s1:=⟨e',H,T⟩) e2 k;have:=(Mz he t).rep hc.nD hn _ (hc.env t)
 rwa [aiy rfl] at this
def dE {C:Cx}{c:Code}{Q:Exit->St->Prop}{s:St}(h:bM s.H s.T->AW C c Q s):AW C c Q s:=λL w a hc=>h hc.nD.je L w a hc
end
section
variable {n0 t0 : Nat} {H : List aA}
def gp.same {v:AV}(hb:Below n0 t0 v):gp n0 t0 H v v:=.keep (.inl rfl) hb
def gp.all {cs:List AV}(hb:aL n0 t0 cs)(rest:List AV):∀(j:Nat)(h:j<cs.length),gp n0 t0 H ((cs++rest).getD j .top) (cs[j]'h):=λj h=>by
 rw[ahs,ahB h,ahu h];exact .same (hb _ (ah2 h))
def gp.NO {i n:Nat}{cs rest:List AV}(hi:n0<=i)(hH:H[i]?=some (.cells (cs++rest)))(hb:aL n0 t0 cs):gp n0 t0 H (.cV i 0 n) (.sl n cs .none):=
 .cV hi hH (by rw[ahw];omega) λj h=>by rw[aiH];exact gp.all hb rest j h
def gp.ZN {i n cap:Nat}{cs rest:List AV}(hi:n0<=i)(hH:H[i]?=some (.cells (cs++rest)))(hb:aL n0 t0 cs):gp n0 t0 H (.bQ i n cap) (.sl n cs .none):=
 .bQ hi hH (by rw[ahw];omega) (gp.all hb rest)
theorem gp.pair {a b a' b':AV}(h1:gp n0 t0 H a a')(h2:gp n0 t0 H b b'):gp n0 t0 H (.dn [a,b]) (.dn [a',b']):=
 .dn rfl λj h=>by
  match j,h with
  |0,_=>exact h1
  |1,_=>exact h2
end
section
variable {L : Lay} {Hb G : List aA} {T1 rT : au} {w : World} {vs vs' : List AV}
def cz.Oo (h:cz L (Hb++aA.cells vs::G) (T1++rT) w)(hf:cz L Hb T1 w)(hl:vs'.length=vs.length)
  (hv:∀(j:Nat)(hj:j<vs'.length),gp (Hb.length+1) T1.length (Hb++aA.cells vs::G) (vs.getD j .top) (vs'[j]'hj)):cz (L.pF (Hb.length+1) (Hb++aA.cells vs::G).length w) (Hb++[aA.cells vs']) T1 w:=by
 have hlen:(Hb++aA.cells vs::G).length=Hb.length+1+G.length:=by simp;omega
 have hn:Hb.length+1<=(Hb++aA.cells vs::G).length:=zO;have ne:∀b,(¬∃i,Hb.length+1<=i/\i<(Hb++aA.cells vs::G).length/\L.bW i=b)->(L.pF (Hb.length+1) (Hb++aA.cells vs::G).length w).m b=L.m b:=λb hb=>ahC hb;have Sc:∀i,i<Hb.length+1->¬∃j,Hb.length+1<=j/\j<(Hb++aA.cells vs::G).length/\L.bW j=L.bW i:=by
  rintro i hi ⟨j,h1,h2,e⟩;have:=h.inj j i h2 zO e;omega
 have XT:∀(t:Nat)(x:Nat×Nat),T1[t]?=some x->(T1++rT)[t]?=some x:=λt x hx=>by
  rw[ahB ((aht.1 hx).1)];exact hx
 have V7:∀t u z,(T1++rT)[t]?=some (u,z)->u<(L.eF t).c*z->¬∃j,Hb.length+1<=j/\j<(Hb++aA.cells vs::G).length/\L.bW j=(L.eF t).b:=by
  rintro t u z ht hs ⟨j,h1,h2,e⟩;exact h.kY t u z j ht hs h2 e.symm
 have hT1:(T1++rT).take T1.length=T1:=zS;have hk:dh L Hb.length T1 w (L.pF (Hb.length+1) (Hb++aA.cells vs::G).length w) (Hb++[aA.cells vs']).length T1 w:=
  ⟨zS,λ_ _=>rfl,λt u z h=>⟨u,h,ahv _,λ_=>rfl⟩,λb=>oP L _ _ w b,λ_ _ _=>rfl,rfl⟩
 have vq:(Hb++[aA.cells vs']).length=Hb.length+1:=zS;refine⟨λi x hx=>?_,λi j hi hj=>h.inj i j zO zO,λt u z ht=>?_,hf.pG,λt u z i ht hs hi=>h.kY t u z i (XT t _ ht) hs zO,λx hx=>?_,h.gl.keep (λb=>oP L _ _ w b) (λ_ _ _=>rfl)⟩
 ·have hi:=(aht.1 hx).1;rcases ahD i Hb.length with h1|h1
  ·rw[ahB h1] at hx;refine(hf.box i x hx).stay hk h1 rfl λh5=>?_;rw[ne _ (Sc i zO)];exact h5
  ·have zR:i=Hb.length:=zO;subst zR;rw[ahP (ahv _),aiT] at hx;simp only[akc,Option.some.injEq] at hx;subst hx;obtain⟨c,t,fr,g1,g2,g3,wC,g4,g5⟩:=h.box Hb.length (.cells vs) (by rw[ahP (ahv _),aiT];rfl);refine⟨c,t,fr,g1,g2,zO,wC,λj hj bU=>?_,by rw[show (L.pF (Hb.length+1) (Hb++aA.cells vs::G).length w).bW Hb.length=L.bW Hb.length from rfl,ne _ (Sc Hb.length zO)];exact g5⟩;have:=(hv j hj).rep h hn (c[j]'bU) (by
    have:=g4 j zO bU;rw[ahs,ahu zO];exact this)
   rw[hT1] at this;rw[vq];exact this
 ·obtain⟨h1,h2⟩:=hf.tok t u z ht;refine⟨h1,λhs=>?_⟩;obtain⟨c,e,fr,g1,g2,g3,g4⟩:=h2 hs;exact⟨c,e,fr,g1,g2,g3,by rw[show ((L.pF (Hb.length+1) (Hb++aA.cells vs::G).length w).eF t).b=(L.eF t).b from rfl,ne _ (V7 t u z (XT t _ ht) hs)];exact g4⟩
 ·rw[ne _ (fun⟨j,h1,h2,e⟩=>by have:=h.mD h2;omega)];exact h.mz x hx
end
section
variable {P : Program} {f : FuncId} {args : List AV} {H : List aA} {T : au}
theorem aq.Oo {n cap:Nat}{vs':List AV}(H1:List aA)(hl:H.length<=H1.length)(ho:bM H T->bM H1 T)
  (h:aq P f args H T (λr H' T'=>∃vs G,H'=H1++aA.cells vs::G/\(∃rT,T'=T++rT)/\vs'.length=vs.length/\(∀(j:Nat)(hj:j<vs'.length),gp (H1.length+1) T.length H' (vs.getD j .top) (vs'[j]'hj))/\r=.bQ H1.length n cap)) :
  aq P f args H T (Is (.bQ H1.length n cap) (H1++[.cells vs']) T):=by
 refine⟨h.1,λL w ca hc jY hr=>(h.2 L w ca hc jY hr).mono ?_⟩;rintro e w' ⟨r',H',T',L',cv,⟨vs,G,e1,⟨rT,e2⟩,e3,e4,e5⟩,rfl,cY,dO,dI⟩;subst e1;subst e2;subst e5;have hf:cz L' H1 T w':=cz.front P cY (ho hc.je);have pn:=cY.Oo hf e3 e4;have z7:Ev H.length T.length L H.length T w L' H1.length T w':=Ev.front (rH:=aA.cells vs::G) (rT:=rT) dI hl (ahv _);obtain⟨rfl,cK,bp⟩:=dO.iI;refine⟨_,H1++[.cells vs'],T,L'.pF (H1.length+1) (H1++aA.cells vs::G).length w',_,⟨rfl,rfl,rfl⟩,rfl,pn,.bQ H1.length n cap zS cK,⟨?_,z7.bW,z7.tok,z7.t,λb=>ahA (z7.m b) (oP _ _ _ _ _),z7.uh,z7.size,z7.frame,?_,z7.os,z7.tape,z7.output,z7.drawn,z7.dr⟩⟩
 ·rw[ahw];exact ahA z7.n (Nat.le_add_right _ _)
 ·intro b hb;refine dI.wr b ?_;rcases hb with⟨i,hi,e⟩|⟨t,u,z,ht,hu,e⟩
  ·refine .inl ⟨i,?_,e⟩;rw[ahw] at hi ⊢;simp only[ahY,ais] at hi ⊢;omega
  ·exact .inr ⟨t,u,z,by rw[ahB ((aht.1 ht).1)];exact ht,hu,e⟩
end
def tq:Op->Bool
 |.move _|.assign _|.alloc _|.build _ _|.buildSlice _ _ _|.load _ _|.store _ _ _|.binOp _ _ _ _ _|.fieldAddr _ _ _|.indexAddr _ _ _|.index _ _ _|.convert ..|.slice ..|.extract ..|.unOp ..=>true
 |_=>false
def G7:Result Next->Prop
 |.ok (.value _) _=>True
 |.ok .skip _=>True
 |.ok _ _=>False
 |.halt _ _=>True
theorem K9 {P:Program}{o:Oper}(h:tq o.op=true)(ρ:Operand->Value)(w:World):G7 ((execOp ρ o).run P w):=by
 obtain⟨dst,op,type,pos,after,guard⟩:=o;have hv:∀s:Sem Value,G7 ((do pure (Next.value (<-s)):Sem Next).run P w):=λs=>by
  simp only[Sem.run_bind]
  cases s.run P w with
  |ok x w'=>exact trivial
  |halt x w'=>exact trivial
 have hu:∀s:Sem Unit,G7 ((do s;pure Next.skip:Sem Next).run P w):=λs=>by
  simp only[Sem.run_bind]
  cases s.run P w with
  |ok x w'=>exact trivial
  |halt x w'=>exact trivial
 cases op<;>first
  |exact trivial
  |exact hv _
  |exact hu _
  |(revert h;simp[tq];done)
theorem SS {P:Program}{o:Oper}{a:Act}{w:World}{K1 K2:Act->World->Prop}{Q:Exit->Act->World->Prop}(hs:tq o.op=true)(h1:o.wp P a w K1 Q)(h2:o.wp P a w K2 Q):o.wp P a w (λa w=>K1 a w/\K2 a w) Q:=by
 have hr:=K9 (P:=P) hs a.eval w;unfold Oper.wp at *;generalize (execOp a.eval o).run P w=r at *
 cases r with
 |ok n w'=>cases n<;>first
  |exact⟨h1,h2⟩
  |exact hr.elim
 |halt x w'=>cases x<;>exact h1
section
variable {P : Program} {Q : Exit -> Act -> World -> Prop}
def JN (x y:List Oper):Prop:=∀i:Nat,(y[i]?).map (λo=>(o.dst,o.op,o.type,o.guard))=(x[i]?).map (λo=>(o.dst,o.op,o.type,o.guard))
def Mv {o o':Oper}(h1:o'.op=o.op)(h2:o'.type=o.type)(ρ:Operand->Value):execOp ρ o'=execOp ρ o:=by
 obtain⟨dst,op,type,pos,after,guard⟩:=o;obtain⟨ahr,op',agJ,pos',agE,agh⟩:=o';simp only at h1 h2;subst h1;subst h2;rfl
theorem AO {o o':Oper}(h0:o'.dst=o.dst)(h1:o'.op=o.op)(h2:o'.type=o.type)(a:Act)(w:World)(K:Act->World->Prop):(o'.wp P a w K Q↔o.wp P a w K Q)/\(o'.asks P a w↔o.asks P a w):=by
 have he:=Mv h1 h2 a.eval
 constructor
 ·unfold Oper.wp;rw[he];generalize (execOp a.eval o).run P w=r
  cases r with
  |ok n w'=>cases n<;>simp only[Oper.upon,h0]
  |halt x w'=>cases x<;>rfl
 ·unfold Oper.asks;rw[he]
theorem tt {x y:List Oper}(h:JN x y){i:Nat}{K:Act->World->Prop}{a:Act}{w:World}(hh:wpOp P y.toArray Q i K a w):wpOp P x.toArray Q i K a w:=by
 unfold wpOp at *;rw[ahQ] at *;have hi:=h i;have hy:∀t j,yielded y.toArray t j=yielded x.toArray t j:=λt j=>by
  unfold yielded;rw[ahQ,ahQ];have hj:=h j;have:(y[j]?).bind (·.dst)=(x[j]?).bind (·.dst):=by
   cases hx:x[j]? with
   |none=>rw[hx] at hj;cases hyj:y[j]? with
    |none=>rfl
    |some o'=>rw[hyj] at hj;cases hj
   |some o=>rw[hx] at hj;cases hyj:y[j]? with
    |none=>rw[hyj] at hj;cases hj
    |some o'=>rw[hyj] at hj;simp only[ajf,Option.some.injEq,Prod.mk.injEq] at hj;exact hj.1
  rw[this]
 cases hx:x[i]? with
 |none=>
  rw[hx] at hi
  cases Ym:y[i]? with
  |none=>rw[Ym] at hh;exact hh
  |some o'=>rw[Ym] at hi;cases hi
 |some o=>
  rw[hx] at hi
  cases Ym:y[i]? with
  |none=>rw[Ym] at hi;cases hi
  |some o'=>
   rw[Ym] at hi hh;simp only[ajf,Option.some.injEq,Prod.mk.injEq] at hi;obtain⟨e0,e1,e2,e3⟩:=hi
   dsimp only at hh ⊢
   have hw:Region.wanted o' (yielded y.toArray a.tmps)=Region.wanted o (yielded x.toArray a.tmps):=by
    unfold Region.wanted;rw[e3]
    cases o.guard with
    |none=>rfl
    |some g=>simp only[hy]
   rw[hw] at hh;obtain⟨g1,g2⟩:=AO (P:=P) (Q:=Q) e0 e1 e2 a w K
   split at hh
   ·rename_i CO;rw[ahF CO];rw[g1,g2] at hh;exact hh
   ·rename_i CO;rw[ahC CO];rw[e0] at hh;exact hh
def iU (ops:List Oper)(b a:Nat):List Oper:=ops.modify b λo=>{ o with after:=o.after.push { on:=a,ground:=.data } }
def Fq (ops:List Oper)(b a i:Nat):(iU ops b a)[i]?=if b=i then (ops[i]?).map (λo=>{ o with after:=o.after.push { on:=a,ground:=.data } }) else ops[i]?:=by
 rw[iU,List.getElem?_modify]
 split
 ·rfl
 ·cases ops[i]?<;>rfl
def oE (ops:List Oper)(b a:Nat):JN ops (iU ops b a):=by
 intro i;rw[Fq]
 split
 ·cases ops[i]?<;>rfl
 ·rfl
theorem iC {ops:List Oper}{a b i:Nat}{ay:Array Bool}:i∈Region.ready .any (iU ops b a).toArray ay↔i∈Region.ready .any ops.toArray ay/\(i=b->ay.getD a false=true):=by
 rw[mem_ready,mem_ready,ahQ,ahQ,Fq]
 by_cases hb:b=i
 ·subst hb;rw[ahF rfl]
  cases ops[b]? with
  |none=>simp
  |some o=>
   simp only[ajf,Option.some.injEq,exists_eq_left',Array.mem_push,true_imp_iff]
   constructor
   ·rintro⟨h1,h2⟩;exact⟨⟨h1,λe he hb=>h2 e (.inl he) hb⟩,h2 ⟨a,.data⟩ (.inr rfl) rfl⟩
   ·rintro⟨⟨h1,h2⟩,h3⟩;refine⟨h1,λe he hb=>?_⟩;rcases he with he|rfl
    ·exact h2 e he hb
    ·exact h3
 ·rw[ahC hb];simp[Ne.symm hb]
theorem Bj {ops:List Oper}{a b:Nat}:∀(fuel:Nat)(ay:Array Bool)(s:Act)(w:World),ay.getD a false=true->wpAny P .any (iU ops b a).toArray Q fuel ay s w->wpAny P .any ops.toArray Q fuel ay s w:=by
 intro fuel;have hr:∀ay:Array Bool,ay.getD a false=true->Region.ready .any (iU ops b a).toArray ay=Region.ready .any ops.toArray ay:=λay hl=>by
  have:∀i,i∈Region.ready .any (iU ops b a).toArray ay↔i∈Region.ready .any ops.toArray ay:=λi=>by rw[iC];exact⟨λh=>h.1,λh=>⟨h,λ_=>hl⟩⟩
  unfold Region.ready at this ⊢;have gj:(iU ops b a).toArray.size=ops.toArray.size:=by simp[iU]
  rw[gj] at this ⊢;refine aj7 λi hi=>?_;have:=this i;rw[ahU,ahU] at this;rw[aj2];exact⟨λh=>(this.1 ⟨hi,h⟩).2,λh=>(this.2 ⟨hi,h⟩).2⟩
 induction fuel with
 |zero=>
  intro ay s w hl h;exact⟨by rw[<-hr ay hl];exact h.1,h.2⟩
 |succ fuel ih=>
  intro ay s w hl h;refine⟨λhn=>h.1 (by rw[hr ay hl];exact hn),λi hi=>?_⟩;have:=h.2 i (by rw[hr ay hl];exact hi);exact wpOp_mono (λs' w' h'=>ih _ s' w' (getD_set_true hl) h') (tt (oE ops b a) this)
theorem MV {ops:List Oper}{a b:Nat}(j9:a≠b)(fe:∀(i:Nat)(o:Oper),ops[i]?=some o->i≠a->i≠b->tq o.op=true):∀(fuel:Nat)(ay:Array Bool)(s:Act)(w:World),ay.size=ops.length->ay.getD a false=false->ay.getD b false=false->
  wpAny P .any (iU ops b a).toArray Q fuel ay s w->wpAny P .any (iU ops a b).toArray Q fuel ay s w->wpAny P .any ops.toArray Q fuel ay s w:=by
 intro fuel
 induction fuel with
 |zero=>
  intro ay s w gj ha hb h1 h2;refine⟨?_,h1.2⟩
  cases hr:Region.ready .any ops.toArray ay with
  |nil=>rfl
  |cons i r=>
   have hi:i∈Region.ready .any ops.toArray ay:=by rw[hr];simp
   by_cases Bu:i=b
   ·subst Bu;have:i∈Region.ready .any (iU ops a i).toArray ay:=iC.2 ⟨hi,λe=>absurd e.symm j9⟩;rw[h2.1] at this;cases this
   ·have:i∈Region.ready .any (iU ops b a).toArray ay:=iC.2 ⟨hi,λe=>absurd e Bu⟩;rw[h1.1] at this;cases this
 |succ fuel ih=>
  intro ay s w gj ha hb h1 h2;refine⟨λhn=>h1.1 ?_,λi hi=>?_⟩
  ·cases hr:Region.ready .any (iU ops b a).toArray ay with
   |nil=>rfl
   |cons i r=>
    have hi:i∈Region.ready .any (iU ops b a).toArray ay:=by rw[hr];simp
    have:=(iC.1 hi).1;rw[hn] at this;cases this
  ·have eM:i<ay.size:=by
    obtain⟨_,o,ho,_⟩:=mem_ready.1 hi;rw[ahQ] at ho;have:=(aht.1 ho).1;omega
   by_cases Bu:i=b
   ·subst Bu;have g:=tt (oE ops a i) (h2.2 i (iC.2 ⟨hi,λe=>absurd e.symm j9⟩));exact wpOp_mono (λs' w' h'=>Bj _ _ s' w' (by simp[eM]) h') g
   ·by_cases nC:i=a
    ·subst nC;have g:=tt (oE ops b i) (h1.2 i (iC.2 ⟨hi,λe=>absurd e j9⟩));exact wpOp_mono (λs' w' h'=>Bj _ _ s' w' (by simp[eM]) h') g
    ·have g1:=tt (oE ops b a) (h1.2 i (iC.2 ⟨hi,λe=>absurd e Bu⟩));have g2:=tt (oE ops a b) (h2.2 i (iC.2 ⟨hi,λe=>absurd e nC⟩));have g:wpOp P ops.toArray Q i (λs' w'=>wpAny P .any (iU ops b a).toArray Q fuel (ay.setIfInBounds i true) s' w'/\wpAny P .any (iU ops a b).toArray Q fuel (ay.setIfInBounds i true) s' w') s w:=by
      unfold wpOp at g1 g2 ⊢;rw[ahQ] at g1 g2 ⊢
      cases ho:ops[i]? with
      |none=>rw[ho] at g1 g2;exact⟨g1,g2⟩
      |some o=>
       rw[ho] at g1 g2
       dsimp only at g1 g2 ⊢
       split at g1
       ·rename_i hw;rw[ahF hw] at g2;rw[ahF hw];rcases g1 with g1|g1
        ·rcases g2 with g2|g2
         ·exact .inl (SS (fe i o ho nC Bu) g1 g2)
         ·exact .inr g2
        ·exact .inr g1
       ·rename_i hw;rw[ahC hw] at g2;rw[ahC hw];exact⟨g1,g2⟩
     refine wpOp_mono (λs' w' h'=>ih _ s' w' (zU gj) ?_ ?_ h'.1 h'.2) g
     ·rw[getD_set_ne false nC];exact ha
     ·rw[getD_set_ne false Bu];exact hb
def sw (a b i:Nat):Nat:=if i=a then b else if i=b then a else i
def sZ (a b i:Nat):sw a b (sw a b i)=i:=by
 unfold sw
 by_cases h1:i=a
 ·subst h1;rw[ahF rfl]
  by_cases h2:b=i
  ·rw[ahF h2];exact h2
  ·rw[ahC h2,ahF rfl]
 ·rw[ahC h1]
  by_cases h2:i=b
  ·subst h2;rw[ahF rfl,ahF rfl]
  ·rw[ahC h2,ahC h1,ahC h2]
def Dw {a b i n:Nat}(ha:a<n)(hb:b<n)(hi:i<n):sw a b i<n:=by
 unfold sw
 split
 ·exact hb
 ·split
  ·exact ha
  ·exact hi
def By (a b:Nat)(o:Oper):Oper:={ o with after:=o.after.map (λe=>{ e with on:=sw a b e.on }),guard:=o.guard.map (λg=>(sw a b g.1,g.2)) }
def lr (a b:Nat)(ops:List Oper):List Oper:=((ops.set a (ops.getD b default)).set b (ops.getD a default)).map (By a b)
def uJ {a b:Nat}{ops:List Oper}(j9:a≠b)(ha:a<ops.length)(hb:b<ops.length)(i:Nat):(lr a b ops)[i]?=(ops[sw a b i]?).map (By a b):=by
 rw[lr,aiD]
 congr 1
 rw[aj9,aj9,aiR];unfold sw
 by_cases h1:i=a
 ·subst h1;rw[ahC (Ne.symm j9),ahF rfl,ahF ha,ahF rfl,ahs,ahu hb];rfl
 ·by_cases h2:i=b
  ·subst h2;rw[ahF rfl,ahF hb,ahC h1,ahF rfl,ahs,ahu ha];rfl
  ·rw[ahC (Ne.symm h2),ahC (Ne.symm h1),ahC h1,ahC h2]
theorem vG {a b:Nat}{ops:List Oper}(j9:a≠b)(ha:a<ops.length)(hb:b<ops.length){l l2:Array Bool}(hl:l.size=ops.length)(jT:l2.size=ops.length)(hr:∀i,i<ops.length->l2.getD i false=l.getD (sw a b i) false)(i:Nat) :
  i∈Region.ready .any ops.toArray l↔sw a b i∈Region.ready .any (lr a b ops).toArray l2:=by
 rw[mem_ready,mem_ready,ahQ,ahQ,uJ j9 ha hb,sZ]
 cases ho:ops[i]? with
 |none=>simp
 |some o=>
  have hi:i<ops.length:=(aht.1 ho).1;have e1:l2.getD (sw a b i) true=l.getD i true:=by
   have:=Dw ha hb hi;rw[cX zO,cX zO,hr _ this,sZ]
  simp only[ajf,Option.some.injEq,exists_eq_left',e1];have e2:(∀e∈o.after,Region.binds .any e=true->l.getD e.on false=true)↔∀e∈(By a b o).after,Region.binds .any e=true->l2.getD e.on false=true:=by
   have out:∀(z:Array Bool)(n:Nat),z.size=ops.length->¬n<ops.length->z.getD n false=false:=λz n hz hn=>by
    have:¬n<z.size:=zO;simp[this]
   constructor
   ·intro h e he wB;simp only[By,Array.mem_map] at he;obtain⟨e',CW,rfl⟩:=he;have:=h e' CW wB;have bp:e'.on<ops.length:=by
     rcases ahD e'.on ops.length with h1|h1
     ·exact h1
     ·rw[out l _ hl zO] at this;cases this
    show l2.getD (sw a b e'.on) false=true;rw[hr _ (Dw ha hb bp),sZ];exact this
   ·intro h e he wB;have:=h { e with on:=sw a b e.on } (by simp only[By,Array.mem_map];exact⟨e,he,rfl⟩) wB;have bp:sw a b e.on<ops.length:=by
     rcases ahD (sw a b e.on) ops.length with h1|h1
     ·exact h1
     ·have h2:=out l2 (sw a b e.on) jT zO;rw[show l2.getD (sw a b e.on) false=true from this] at h2;cases h2
    have h3:=hr _ bp;rw[sZ] at h3;rw[<-h3];exact this
  rw[e2]
theorem Pd {a b:Nat}{ops:List Oper}(j9:a≠b)(ha:a<ops.length)(hb:b<ops.length){i:Nat}{K:Act->World->Prop}{s:Act}{w:World}(hh:wpOp P (lr a b ops).toArray Q (sw a b i) K s w):wpOp P ops.toArray Q i K s w:=by
 unfold wpOp at *;rw[ahQ] at *;rw[uJ j9 ha hb,sZ] at hh;have hy:∀t j,yielded (lr a b ops).toArray t (sw a b j)=yielded ops.toArray t j:=λt j=>by
  unfold yielded;rw[ahQ,ahQ,uJ j9 ha hb,sZ]
  cases ops[j]?<;>rfl
 cases ho:ops[i]? with
 |none=>rw[ho] at hh;exact hh
 |some o=>
  rw[ho] at hh;simp only[ajf] at hh
  dsimp only
  have hw:Region.wanted (By a b o) (yielded (lr a b ops).toArray s.tmps)=Region.wanted o (yielded ops.toArray s.tmps):=by
   unfold Region.wanted By
   cases o.guard with
   |none=>rfl
   |some g=>simp only[ajf,hy]
  rw[hw] at hh;obtain⟨g1,g2⟩:=AO (P:=P) (Q:=Q) (o:=o) (o':=By a b o) rfl rfl rfl s w K
  split at hh
  ·rename_i CO;rw[ahF CO];rw[g1,g2] at hh;exact hh
  ·rename_i CO;rw[ahC CO];exact hh
theorem Hz {a b:Nat}{ops:List Oper}(j9:a≠b)(ha:a<ops.length)(hb:b<ops.length):∀(fuel:Nat)(l l2:Array Bool)(s:Act)(w:World),l.size=ops.length->l2.size=ops.length->(∀i,i<ops.length->l2.getD i false=l.getD (sw a b i) false)->
  wpAny P .any (lr a b ops).toArray Q fuel l2 s w->wpAny P .any ops.toArray Q fuel l s w:=by
 intro fuel;have Zp:∀l l2:Array Bool,l.size=ops.length->l2.size=ops.length->(∀i,i<ops.length->l2.getD i false=l.getD (sw a b i) false)->(Region.ready .any ops.toArray l=[]↔Region.ready .any (lr a b ops).toArray l2=[]):=by
  intro l l2 hl jT hr;have h:=vG j9 ha hb hl jT hr
  constructor
  ·intro hn
   cases hx:Region.ready .any (lr a b ops).toArray l2 with
   |nil=>rfl
   |cons j r=>
    have hj:j∈Region.ready .any (lr a b ops).toArray l2:=by rw[hx];simp
    have:=(h (sw a b j)).2 (by rw[sZ];exact hj);rw[hn] at this;cases this
  ·intro hn
   cases hx:Region.ready .any ops.toArray l with
   |nil=>rfl
   |cons j r=>
    have hj:j∈Region.ready .any ops.toArray l:=by rw[hx];simp
    have:=(h j).1 hj;rw[hn] at this;cases this
 induction fuel with
 |zero=>intro l l2 s w hl jT hr h;exact⟨(Zp l l2 hl jT hr).2 h.1,h.2⟩
 |succ fuel ih=>
  intro l l2 s w hl jT hr h;refine⟨λhn=>h.1 ((Zp l l2 hl jT hr).1 hn),λi hi=>?_⟩;have zR:=(vG j9 ha hb hl jT hr i).1 hi;have eM:i<ops.length:=by
   obtain⟨_,o,ho,_⟩:=mem_ready.1 hi;rw[ahQ] at ho;exact(aht.1 ho).1
  have g:=Pd j9 ha hb (h.2 _ zR);refine wpOp_mono (λs' w' h'=>ih _ _ s' w' (zU hl) (zU jT) (λj hj=>?_) h') g;have XC:=Dw ha hb eM;have hsj:=Dw ha hb hj
  by_cases rW:j=sw a b i
  ·subst rW;rw[sZ];simp[hl,jT,eM,XC]
  ·rw[getD_set_ne false (λe=>rW e.symm),getD_set_ne false (λe=>rW (by rw[e,sZ])),hr j hj]
end
def QR {C:Cx}{id:Nat}{ops:List Oper}{Q:Exit->St->Prop}{s:St}{y:Code}(a b:Nat)(Su lo1:List Nat)(na1:List (List Nat))(Ss lo2:List Nat)(na2:List (List Nat))(hm:C.P.follows .mixedOrders=true)
  (kz:(decide (a≠b)&&decide (a<ops.length)&&decide (b<ops.length)&&ops.all λo=>tq o.op)=true) (afs:iv (iU ops b a) Su lo1 na1=true) (afm:jv Su=true) (afr:iv (lr a b (iU ops a b)) Ss lo2 na2=true) (afl:jv Ss=true)
  (h:∀K:St->Prop,(∀s,AW C y Q s->K s)->gn ⟨C,(iU ops b a).toArray,Su,lo1,na1,K⟩ (iU ops b a) [] [(s.H,s.T,0)] (prune C.nv s.e)/\
   gn ⟨C,(lr a b (iU ops a b)).toArray,Ss,lo2,na2,K⟩ (lr a b (iU ops a b)) [] [(s.H,s.T,0)] (prune C.nv s.e)):AW C (.seq (.region id ops.toArray true) y) Q s:=by
 simp only[ahG,ahH,ah3] at kz;obtain⟨⟨⟨j9,ha⟩,hb⟩,fe⟩:=kz;refine xE λK hK=>λL0 w0 a0 mZ=>wp_region_any hm ?_;obtain⟨h1,h2⟩:=h K hK;have g1:=u9 (Q:=Q) K Su lo1 na1 afs afm h1 L0 w0 a0 mZ;have g2:=u9 (Q:=Q) K Ss lo2 na2 afr afl h2 L0 w0 a0 mZ;have l1:(iU ops b a).toArray.size=ops.toArray.size:=by simp[iU]
 have l2:(lr a b (iU ops a b)).toArray.size=ops.toArray.size:=by simp[iU,lr]
 have l3:(iU ops a b).length=ops.length:=by simp[iU]
 rw[l1] at g1;rw[l2] at g2;have g3:=Hz (ops:=iU ops a b) j9 (by rw[l3];exact ha) (by rw[l3];exact hb) _ (Array.replicate ops.toArray.size false) (Array.replicate ops.toArray.size false) _ _ (by simp[l3]) (by simp[l3]) (λi hi=>by
  rw[l3] at hi;have:=Dw ha hb hi;simp[hi,this]) g2
 exact MV j9 (λi o ho _ _=>fe o (aiN ho)) _ _ _ _ zS (by simp[ha]) (by simp[hb]) g1 g3
def xw (ops:List Oper)(n:Nat):Bool:=
 decide (n<=ops.length) &&
 ((List.range ops.length).all λi=>(ops.getD i default).after.all λe=>!Region.binds .any e||decide (e.on<i)) &&
 ((List.range n).all λi=>match (ops.getD i default).guard with|some (g,_)=>decide (g<n)|none=>true) &&
 ((List.range ops.length).all λi=>decide (i<n)||(List.range i).all λj=>nR (fD ops []) j i)
def qt {ops:List Oper}{n:Nat}(h:xw ops n=true) :
  n<=ops.length/\(∀(i:Nat)(o:Oper),ops[i]?=some o->∀e∈o.after,Region.binds .any e=true->e.on<i)/\
  (∀(i g:Nat)(o:Oper)(b:Bool),i<n->ops[i]?=some o->o.guard=some (g,b)->g<n)/\
  ∀i j,n<=i->i<ops.length->j<i->nR (fD ops []) j i=true:=by
 unfold xw at h;simp only[ahG,ahH] at h;obtain⟨⟨⟨h1,h2⟩,h3⟩,h4⟩:=h;have at_:∀{i:Nat} {x:Oper},ops[i]?=some x->i<ops.length/\ops.getD i default=x:=λ{i x} hi=>by
  obtain⟨a,b⟩:=aht.1 hi;exact⟨a,by rw[ahs,hi];rfl⟩
 refine⟨h1,λi o ho e he hb=>?_,λi g o b hi ho hg=>?_,λi j hn hi hj=>?_⟩
 ·obtain⟨a1,a2⟩:=at_ ho;have:=Array.all_eq_true_iff_forall_mem.1 (ah3.1 h2 i (ahV.2 a1)) e (by rw[a2];exact he);rw[hb] at this;simpa using this
 ·obtain⟨a1,a2⟩:=at_ ho;have:=ah3.1 h3 i (ahV.2 hi);rw[a2,hg] at this;simpa using this
 ·have:=ah3.1 h4 i (ahV.2 hi);have hf:decide (i<n)=false:=ahy zO;rw[hf,aiY] at this;exact ah3.1 this j (ahV.2 hj)
section
variable {P : Program}
theorem DW {o:Oper}{a:Act}{w:World}{K K':Act->World->Prop}{Q1 Q2:Exit->Act->World->Prop}(hQ:∀e a w,e≠.normal->Q1 e a w->Q2 e a w)(hK:∀a w,K a w->K' a w)(h:o.wp P a w K Q1):o.wp P a w K' Q2:=by
 unfold Oper.wp at *;generalize (execOp a.eval o).run P w=r at *
 cases r with
 |ok n w'=>
  cases n<;>simp only[Oper.upon] at h ⊢<;>first
   |exact hK _ _ h
   |exact h
   |(refine h.mono ?_
     intro e w3 he
     cases e with
     |returned v=>exact hK _ _ he
     |panicked ch=>exact hQ _ _ _ (by intro hh;cases hh) he
     |outgrown=>obtain⟨a0,w0,h0⟩:=he;exact⟨a0,w0,hQ _ _ _ (by intro hh;cases hh) h0⟩)
   |exact h.mono λv w3 he=>hK _ _ he
 |halt x w'=>cases x<;>simp only[Oper.upon] at h ⊢<;>first|exact hQ _ _ _ (by intro hh;cases hh) h|exact h
def yD {Q1 Q2:Exit->Act->World->Prop}(hQ:∀e a w,e≠.normal->Q1 e a w->Q2 e a w)(h:LetsOut Q1):LetsOut Q2:=by
 obtain⟨a,w,h⟩:=h;exact⟨a,w,hQ _ _ _ (by intro hh;cases hh) h⟩
theorem H3 {ops:Array Oper}{Q1 Q2:Exit->Act->World->Prop}(hQ:∀e a w,Q1 e a w->Q2 e a w):∀(l:List Oper)(a:Act)(w:World),wpList P ops Q1 l a w->wpList P ops Q2 l a w:=by
 intro l
 induction l with
 |nil=>intro a w h;exact hQ _ _ _ h
 |cons o r ih=>
  intro a w h;unfold wpList at h ⊢
  split
  ·rename_i hw;rw[ahF hw] at h;rcases h with h|⟨h1,h2⟩
   ·exact .inl (DW (λe a w _=>hQ e a w) ih h)
   ·exact .inr ⟨h1,yD (λe a w _=>hQ e a w) h2⟩
  ·rename_i hw;rw[ahC hw] at h;exact ih _ _ h
def uG (ops:List Oper)(ay:Array Bool):Prop:=∀i j,ay.getD i false=true->nR (fD ops []) j i=true->ay.getD j false=true
def uG.step {ops:List Oper}{ay:Array Bool}(h:uG ops ay){i:Nat}{o:Oper}(ho:ops[i]?=some o)(hr:∀e∈o.after,Region.binds .any e=true->ay.getD e.on false=true)(DN:∀e∈o.after,Region.binds .any e=true->e.on<i):uG ops (ay.setIfInBounds i true):=by
 intro x j hx hj
 by_cases hxi:x=i
 ·subst hxi;exact getD_set_true (jq h ho hr DN hj)
 ·rw[getD_set_ne false (λe=>hxi e.symm)] at hx;exact getD_set_true (h x j hx hj)
theorem K8 {ops:List Oper}{Q:Exit->Act->World->Prop}{n:Nat}(kz:xw ops n=true):∀(l:List Oper)(i:Nat),n<=i->l=ops.drop i->i<=ops.length->∀(fuel:Nat)(ay:Array Bool)(a:Act)(w:World),l.length<=fuel->ay.size=ops.length->
  (∀j,j<ops.length->(ay.getD j false=true↔j<i))->uG ops ay->wpList P ops.toArray Q l a w->wpAny P .any ops.toArray Q fuel ay a w:=by
 obtain⟨c1,c2,c3,c4⟩:=qt kz;intro l
 induction l with
 |nil=>
  intro i hn hl hi fuel ay a w hf gj VI gg h;have eM:i=ops.length:=by
   have:=congrArg List.length hl;rw[aii,ais] at this;omega
  have hr:Region.ready .any ops.toArray ay=[]:=by
   rw[aiQ];intro k hk;obtain⟨h1,o,ho,_⟩:=mem_ready.1 hk;rw[ahQ] at ho;have gy:=(aht.1 ho).1;rw[cX zO,(VI k gy).2 zO] at h1
   cases h1
  cases fuel with
  |zero=>exact⟨hr,h⟩
  |succ f=>exact⟨λ_=>h,λk hk=>by rw[hr] at hk;cases hk⟩
 |cons o r ih=>
  intro i hn hl hi fuel ay a w hf gj VI gg h;have eM:i<ops.length:=by
   rcases ahD i ops.length with h1|h1
   ·exact h1
   ·rw[ajN h1] at hl;cases hl
  have qE:=aiW eM;rw[qE] at hl;have ho:ops[i]?=some o:=by rw[ahu eM];exact congrArg some (List.cons.inj hl).1.symm
  have VF:=(List.cons.inj hl).2;have UY:∀e∈o.after,Region.binds .any e=true->ay.getD e.on false=true:=λe he hb=>by
   have:=c2 i o ho e he hb;exact(VI _ zO).2 this
  have gO:i∈Region.ready .any ops.toArray ay:=mem_ready.2 ⟨by
   rw[cX zO]
   cases XJ:ay.getD i false with
   |false=>rfl
   |true=>have:=(VI i eM).1 XJ;omega,o,by rw[ahQ];exact ho,UY⟩
  have aah:∀k∈Region.ready .any ops.toArray ay,k=i:=by
   intro k hk;obtain⟨h1,o',vY,h2⟩:=mem_ready.1 hk;rw[ahQ] at vY;have gy:=(aht.1 vY).1;rw[cX zO] at h1;rcases ai7 k i with h3|h3|h3
   ·rw[(VI k gy).2 h3] at h1;cases h1
   ·exact h3
   ·have:=jq gg vY h2 (λe he hb=>c2 k o' vY e he hb) (c4 k i zO gy h3);have:=(VI i eM).1 this;omega
  cases fuel with
  |zero=>simp at hf
  |succ f=>
   refine⟨λhn=>(by rw[hn] at gO;cases gO),λk hk=>?_⟩;have:=aah k hk;subst this;have Gy:=ih (k+1) zO VF zO f (ay.setIfInBounds k true);have afb:∀j,j<ops.length->((ay.setIfInBounds k true).getD j false=true↔j<k+1):=by
    intro j hj
    by_cases JY:j=k
    ·subst JY;simp[gj,eM]
    ·rw[getD_set_ne false (λe=>JY e.symm),VI j hj];omega
   have Zw:=λa w=>Gy a w (zU hf) (zU gj) afb (gg.step ho UY (λe he hb=>c2 k o ho e he hb));unfold wpOp;rw[ahQ,ho];unfold wpList at h
   dsimp only
   split
   ·rename_i hw;rw[ahF hw] at h;rcases h with h|h
    ·exact .inl (Oper.wp_mono Zw h)
    ·exact .inr h
   ·rename_i hw;rw[ahC hw] at h;exact Zw _ _ h
theorem PY {ops:List Oper}{n i:Nat}{Q1 Q2:Exit->Act->World->Prop}(hQ:∀e a w,e≠.normal->Q1 e a w->Q2 e a w)(hi:i<n)(hg:∀(g:Nat)(o:Oper)(b:Bool),ops[i]?=some o->o.guard=some (g,b)->g<n)
  {K K':Act->World->Prop} (hK:∀a w,K a w->K' a w) {a:Act} {w:World} (h:wpOp P (ops.take n).toArray Q1 i K a w):wpOp P ops.toArray Q2 i K' a w:=by
 unfold wpOp at *;rw[ahQ] at *;rw[List.getElem?_take_of_lt hi] at h
 cases ho:ops[i]? with
 |none=>rw[ho] at h;exact hK _ _ h
 |some o=>
  rw[ho] at h
  dsimp only at h ⊢
  have hw:Region.wanted o (yielded (ops.take n).toArray a.tmps)=Region.wanted o (yielded ops.toArray a.tmps):=by
   unfold Region.wanted
   cases Gy:o.guard with
   |none=>rfl
   |some gb=>
    obtain⟨g,b⟩:=gb;have XP:=hg g o b ho Gy;have:yielded (ops.take n).toArray a.tmps g=yielded ops.toArray a.tmps g:=by
     unfold yielded;rw[ahQ,ahQ,List.getElem?_take_of_lt XP]
    simp only[this]
  rw[hw] at h
  split
  ·rename_i CO;rw[ahF CO] at h;rcases h with h|⟨h1,h2⟩
   ·exact .inl (DW hQ hK h)
   ·exact .inr ⟨h1,yD hQ h2⟩
  ·rename_i CO;rw[ahC CO] at h;exact hK _ _ h
theorem PM {ops:List Oper}{Q1 Q2:Exit->Act->World->Prop}{n:Nat}(kz:xw ops n=true)(hQ:∀e a w,e≠.normal->Q1 e a w->Q2 e a w)(zk:∀a w,Q1 .normal a w->wpList P ops.toArray Q2 (ops.drop n) a w) :
  ∀(fuel:Nat)(lp ay:Array Bool)(a:Act)(w:World),lp.size=n->ay.size=ops.length->(∀j,j<n->ay.getD j false=lp.getD j false)->(∀j,n<=j->ay.getD j false=false)->uG ops ay->
   wpAny P .any (ops.take n).toArray Q1 fuel lp a w->wpAny P .any ops.toArray Q2 (fuel+(ops.length-n)) ay a w:=by
 obtain⟨c1,c2,c3,c4⟩:=qt kz;have tk:∀i,i<n->(ops.take n).toArray[i]?=ops[i]?:=λi hi=>by rw[ahQ,List.getElem?_take_of_lt hi]
 have fC:∀(lp:Array Bool),lp.size=n->Region.ready .any (ops.take n).toArray lp=[]->∀j,j<n->lp.getD j false=true:=by
  intro lp gj hr i
  induction i using Nat.strongRecOn with
  |_ i ih=>
   intro eM
   cases XJ:lp.getD i false with
   |true=>rfl
   |false=>
    exfalso;have hio:ops[i]?=some ops[i]:=ahu zO;have gO:i∈Region.ready .any (ops.take n).toArray lp:=by
     refine mem_ready.2 ⟨by rw[cX zO];exact XJ,ops[i],by rw[tk i eM];exact hio,λe he hb=>?_⟩;have bp:=c2 i _ hio e he hb;exact ih e.on bp zO
    rw[hr] at gO
    cases gO
 have mn:∀(fuel:Nat)(lp ay:Array Bool)(a:Act)(w:World),lp.size=n->ay.size=ops.length->(∀j,j<n->ay.getD j false=lp.getD j false)->(∀j,n<=j->ay.getD j false=false)->uG ops ay->
   Region.ready .any (ops.take n).toArray lp=[]->Q1 .normal a w->ops.length-n<=fuel->wpAny P .any ops.toArray Q2 fuel ay a w:=by
  intro fuel lp ay a w hz gj hl ht gg hr hq hf;have jT:=fC lp hz hr;refine K8 kz (ops.drop n) n (ahv _) rfl c1 fuel ay a w (by rw[aii];exact hf) gj (λj hj=>?_) gg (zk _ _ hq);rcases ahD j n with h1|h1
  ·rw[hl j h1,jT j h1];simp[h1]
  ·rw[ht j h1];simp;omega
 intro fuel
 induction fuel with
 |zero=>
  intro lp ay a w hz gj hl ht gg h;exact mn _ lp ay a w hz gj hl ht gg h.1 h.2 zO
 |succ fuel ih=>
  intro lp ay a w hz gj hl ht gg h
  cases Nx:Region.ready .any (ops.take n).toArray lp with
  |nil=>exact mn _ lp ay a w hz gj hl ht gg Nx (h.1 Nx) zO
  |cons k rest=>
   have hk:k∈Region.ready .any (ops.take n).toArray lp:=by rw[Nx];simp
   have RM:∀i,i∈Region.ready .any (ops.take n).toArray lp->i<n:=by
    intro i hi;obtain⟨_,o,ho,_⟩:=mem_ready.1 hi;rw[ahQ] at ho;have:=(aht.1 ho).1;rw[ahW] at this;omega
   have hto:∀i,i∈Region.ready .any (ops.take n).toArray lp->i∈Region.ready .any ops.toArray ay:=by
    intro i hi;have um:=RM i hi;obtain⟨h1,o,ho,h2⟩:=mem_ready.1 hi;rw[tk i um] at ho;rw[cX zO] at h1;refine mem_ready.2 ⟨by rw[cX zO,hl i um];exact h1,o,by rw[ahQ];exact ho,λe he hb=>?_⟩;have:=c2 i o ho e he hb;rw[hl _ zO];exact h2 e he hb
   have aas:∀i,i∈Region.ready .any ops.toArray ay->i∈Region.ready .any (ops.take n).toArray lp:=by
    intro i hi;obtain⟨h1,o,ho,h2⟩:=mem_ready.1 hi;rw[ahQ] at ho;have eM:=(aht.1 ho).1;rw[cX zO] at h1;rcases ahD i n with um|um
    ·refine mem_ready.2 ⟨by rw[cX zO,<-hl i um];exact h1,o,by rw[tk i um];exact ho,λe he hb=>?_⟩;have:=c2 i o ho e he hb;rw[<-hl _ zO];exact h2 e he hb
    ·exfalso;have pD:=RM k hk;have h3:=jq gg ho h2 (λe he hb=>c2 i o ho e he hb) (c4 i k um eM zO);obtain⟨h4,_⟩:=mem_ready.1 hk;rw[cX zO,<-hl k pD,h3] at h4
     cases h4
   rw[show fuel+1+(ops.length-n)=(fuel+(ops.length-n))+1 by omega];refine⟨λhn=>(by have:=hto k hk;rw[hn] at this;cases this),λi hi=>?_⟩;have hip:=aas i hi;have um:=RM i hip;obtain⟨_,o,ho,h2⟩:=mem_ready.1 hi;rw[ahQ] at ho;refine PY hQ um (λg o' b vY hg=>c3 i g o' b um vY hg) (λa' w' h'=>?_) (h.2 i hip);refine ih (lp.setIfInBounds i true) (ay.setIfInBounds i true) a' w' (zU hz) (zU gj) (λj hj=>?_) (λj hj=>?_) (gg.step ho h2 (λe he hb=>c2 i o ho e he hb)) h'
   ·by_cases rW:j=i
    ·subst rW;have h5:j<ops.length:=zO;simp[gj,hz,hj,h5]
    ·rw[getD_set_ne false (λe=>rW e.symm),getD_set_ne false (λe=>rW e.symm),hl j hj]
   ·rw[getD_set_ne false zO,ht j hj]
end
def tm (D:wD)(KR:List cg->List nE->Env->Prop):Nat->List Oper->List cg->List nE->Env->Prop
 |0,_,aR,sts,e=>KR aR sts e
 |_+1,[],_,_,_=>False
 |n+1,o::r,aR,sts,e=>match sts.getLast? with
  |some (H,T,_)=>match o.guard with
   |none=>lD D (tm D KR n r) o aR sts e H T
   |some _=>False
  |none=>False
theorem Ie {nx:Nat}{D:wD}{ops:List Oper}{e0:Env}{KR:List cg->List nE->Env->Prop}(kz:jv D.bL=true)(kX:D.bL.contains nx=true\/ops.length<=nx):∀(n:Nat)(l:List Oper)(aR:List cg)(sts:List nE)(e:Env),iJ nx D ops e0 aR sts e->ops.drop aR.length=l->tm D KR n l aR sts e->
  ∃bX eH,iJ nx D ops e0 bX eH (aY e0 bX)/\bX.length=aR.length+n/\eH[0]?=sts[0]?/\KR bX eH (aY e0 bX):=by
 intro n
 induction n with
 |zero=>
  intro l aR sts e hw hl h;have hc:=hw.cur;subst hc;exact⟨aR,sts,hw,rfl,rfl,h⟩
 |succ n ih=>
  intro l aR sts e hw hl h
  cases l with
  |nil=>exact h.elim
  |cons o r=>
  have nX:ops[aR.length]?=some o:=by
   have:=congrArg (λl=>l[0]?) hl;simpa using this
  have rN:ops.drop (aR.length+1)=r:=by
   have:=congrArg (λl=>l.drop 1) hl;simpa[ajR,add_comm] using this
  have fin:∀{H T i0 v H' T'},sts.getLast?=some (H,T,i0)->o.guard=none->dT D.C.P o e H T v H' T'->(D.bL.contains aR.length=false->H'=H/\T'=T)->Bw D (tm D KR n r) o aR sts e true v H' T'->
    ∃bX eH,iJ nx D ops e0 bX eH (aY e0 bX)/\bX.length=aR.length+(n+1)/\eH[0]?=sts[0]?/\KR bX eH (aY e0 bX):=by
   intro H T i0 v H' T' dC hg h2 h3 h4;obtain⟨bX,eH,e',g1,g2,g3,g4,_⟩:=qZ kz kX hw nX dC (by rw[hg]) (λe=>by cases e) (λ_ _=>h2) h3 h4;obtain⟨r2,s2,k1,k2,k3,k4⟩:=ih r bX eH e' g1 (by rw[g2];exact rN) g3;exact⟨r2,s2,k1,zO,k3.trans g4,k4⟩
  unfold tm at h
  split at h
  ·rename_i H T i0 dC
   split at h
   ·rename_i hg;unfold lD at h
    split at h
    ·rename_i g as jJ;obtain⟨v,H',T',hc,hs,hd⟩:=h;refine fin dC hg ?_ hs hd;unfold dT;rw[jJ];exact hc
    ·rename_i jJ
     split at h
     ·rename_i v H' T' mh;refine fin dC hg ?_ h.1 h.2;unfold dT;rw[jJ];exact mh
     ·exact h.elim
   ·exact h.elim
  ·exact h.elim
def IL (P:Program)(x:cg)(H1:List aA):List nE->Prop
 |[]=>True
 |(_,T,_)::r=>dT P x.o x.e H1 T x.v H1 T/\IL P x H1 r
def YZ (P:Program)(H1:List aA)(lo:List Nat)(sts:List nE):List cg->Nat->Prop
 |[],_=>True
 |x::r,i=>(match x.bL with
  |true=>(match sts[x.k]?,sts[x.k+1]? with
   |some a,some b=>dT P x.o x.e H1 a.2.1 x.v H1 b.2.1
   |_,_=>False)
  |false=>IL P x H1 (sts.drop (lo.getD i 0)))/\YZ P H1 lo sts r (i+1)
def Dy (H:List aA):List nE->Prop
 |[]=>True
 |(G,_,_)::r=>G=H/\Dy H r
def N0 (C:Cx)(ops:List Oper)(lo:List Nat)(K:St->Prop)(n:Nat)(H:List aA)(aR:List cg)(sts:List nE)(e:Env):Prop:=
 match ops[n]?,sts.getLast? with
 |some al,some (_,T,_)=>al.guard=none/\∃z d,al.dst=some d/\d<C.nt/\(∀e' T',dT C.P al e' H T' (.ptr H.length 0) (H++[z]) T')/\Dy H sts/\YZ C.P (H++[z]) lo sts aR 0/\K ⟨mr e d (.ptr H.length 0),H++[z],T⟩
 |_,_=>False
theorem yv {P:Program}{x:cg}{H1:List aA}:∀{l:List nE},IL P x H1 l->∀(j:Nat)(st:nE),l[j]?=some st->dT P x.o x.e H1 st.2.1 x.v H1 st.2.1
 |[],_,j,st,h=>by simp at h
 |(G,T,i)::r,hs,0,st,h=>by simp at h;subst h;exact hs.1
 |(G,T,i)::r,hs,j+1,st,h=>yv hs.2 j st (zU h)
theorem yy {H:List aA}:∀{l:List nE},Dy H l->∀st∈l,st.1=H
 |[],_,st,h=>by simp at h
 |(G,T,i)::r,hs,st,h=>by
  rcases ah4.1 h with rfl|h1
  ·exact hs.1
  ·exact yy hs.2 st h1
theorem EW {P:Program}{H1:List aA}{lo:List Nat}{sts:List nE}:∀{l:List cg} {i0:Nat},YZ P H1 lo sts l i0->∀(j:Nat)(x:cg),l[j]?=some x->
  (x.bL=true->∀a b,sts[x.k]?=some a->sts[x.k+1]?=some b->dT P x.o x.e H1 a.2.1 x.v H1 b.2.1)/\(x.bL=false->∀k st,sts[k]?=some st->lo.getD (i0+j) 0<=k->dT P x.o x.e H1 st.2.1 x.v H1 st.2.1)
 |[],_,_,j,x,h=>by simp at h
 |y::r,i0,hs,0,x,h=>by
  simp at h;subst h;have h1:=hs.1
  constructor
  ·intro he a b ha hb;rw[he] at h1;simp only[ha,hb] at h1;exact h1
  ·intro he k st hk hl;rw[he] at h1;exact yv h1 (k-lo.getD i0 0) st (by rw[aja,<-hk];congr 1;simp only[ajW] at hl;omega)
 |y::r,i0,hs,j+1,x,h=>by
  have:=EW hs.2 j x (zU h);rw[show i0+1+j=i0+(j+1) by omega] at this;exact this
theorem Ic {C:Cx}{ops:List Oper}{Q:Exit->St->Prop}{s:St}(K:St->Prop)(n:Nat)(bL lo:List Nat)(na:List (List Nat))(hn:ops.length=n+1)(kz:iv ops bL lo na=true)(pe:jv bL=true)(dM:bL.contains n=false)
  (h:tm ⟨C,ops.toArray,bL,lo,na,K⟩ (N0 C ops lo K n s.H) n ops [] [(s.H,s.T,0)] (prune C.nv s.e)):∀L0 w0 a0,eQ C s L0 w0 a0->
   wpAny C.P .any ops.toArray (cN C (dK K Q) L0 s w0) ops.toArray.size (Array.replicate ops.toArray.size false) a0 { w0 with drawn:=w0.drawn+1 }:=by
 intro L0 w0 a0 mZ;have hc:eQ C ⟨prune C.nv s.e,s.H,s.T⟩ L0 w0 a0:=⟨mZ.nb,mZ.tb,mZ.nD,mZ.size,mZ.defers,λt=>by
  rcases mT C.nv s.e t with e|e<;>rw[e]
  ·exact mZ.env t
  ·exact .top _⟩
 generalize vp:(⟨prune C.nv s.e,s.H,s.T⟩:St)=s' at hc;have CQ:prune C.nv s.e=s'.e:=by rw[<-vp]
 have Bp:s.H=s'.H:=by rw[<-vp]
 have Gv:s.T=s'.T:=by rw[<-vp]
 rw[CQ,Bp,Gv] at h;rw[show cN C (dK K Q) L0 s w0=cN C (dK K Q) L0 s' w0 by unfold cN;rw[Bp,Gv]];clear vp CQ Bp Gv mZ;generalize hD:(⟨C,ops.toArray,bL,lo,na,K⟩:wD)=D at h;have lF:D.C=C:=by rw[<-hD]
 have po:D.bL=bL:=by rw[<-hD]
 have zY:D.lo=lo:=by rw[<-hD]
 have RZ:D.na=na:=by rw[<-hD]
 have R5:D.all=ops.toArray:=by rw[<-hD]
 obtain⟨Ae,GJ,hw,Br,Wh,mn⟩:=Ie (nx:=ops.length) (D:=D) (ops:=ops) (e0:=s'.e) (by rw[po];exact pe) (.inr (ahv _)) n ops [] [(s'.H,s'.T,0)] s'.e
  ⟨⟨zS,λi x hx=>by simp at hx⟩,λi x hx=>by simp at hx,λi x hx=>by simp at hx,rfl⟩ zS h
 simp only[ais,aiH] at Br;obtain⟨d1,d2,d3,d4,d5,d6,d7⟩:=kV kz;have JW:ops[n]?=some (ops[n]' zO):=ahu zO;generalize ops[n]' zO=al at JW;unfold N0 at mn;rw[JW] at mn;have UX:∀m i,bL[m]?=some i->i<n:=λm i Ux=>by
  have h1:=(d3 m i Ux).1;have h2:i≠n:=by
   rintro rfl;have:bL.contains i=true:=by rw[ajd];exact aiN Ux
   rw[dM] at this;cases this
  omega
 have NQ:GJ.length=1+bL.length:=by
  have h1:=hw.st.len;rw[po,Br] at h1;rw[h1]
  congr 2
  apply ai4.2;intro e he;obtain⟨m,hm,e1⟩:=ahN.1 he;have:=UX m e (by rw[ahu hm,e1]);simpa using this
 cases dC:GJ.getLast? with
 |none=>rw[dC] at mn;exact mn.elim
 |some st=>
 obtain⟨HL,TL,iL⟩:=st;rw[dC] at mn;obtain⟨uE,z,d,mo,hdn,ur,DF,hob,hK⟩:=mn;have DF:=yy DF;have hob:=EW hob;obtain⟨x9,Q6⟩:∃x:cg,x=⟨al,[],true,.ptr s'.H.length 0,0,false⟩:=⟨_,rfl⟩
 obtain⟨fo,hP⟩:∃l,l=Ae++[x9]:=⟨_,rfl⟩
 have tj:fo.length=ops.length:=by rw[hP];simp[Br];omega
 have wj:∀i,i<n->fo[i]?=Ae[i]?:=λi hi=>by rw[hP,ahB zO]
 have hPn:fo[n]?=some x9:=by rw[hP,ahP zO,Br,aiT];rfl
 have NC:∀(i:Nat)(x:cg),fo[i]?=some x->ops[i]?=some x.o:=λi x hx=>by
  rcases ahD i n with hi|hi
  ·rw[wj i hi] at hx;exact(hw.JP i x hx).o
  ·have eM:=(aht.1 hx).1;have:i=n:=zO;subst this;rw[hPn] at hx
   cases hx
   rw[JW,Q6]
 have Hd:∀i,i<=n->fo.take i=Ae.take i:=λi hi=>by rw[hP,aiF zO]
 have IS:fo.map (·.o)=ops:=by
  apply ajn;intro i;rw[aiD]
  by_cases hi:i<fo.length
  ·rw[ahu hi,ajf,NC i _ (ahu hi)]
  ·rw[aiU zO,aiU zO];rfl
 obtain⟨Df,CQ⟩:∃l:List nE,l=GJ.map λst=>(s'.H++[z],st.2.1,st.2.2):=⟨_,rfl⟩
 have DG:∀k,Df[k]?=(GJ[k]?).map λst:nE=>(s'.H++[z],st.2.1,st.2.2):=λk=>by rw[CQ,aiD]
 have IT:∀(i:Nat)(x:cg),fo[i]?=some x->i<n->x.e=aY s'.e (fo.take i):=λi x hx hi=>by
  rw[hw.Kv i x (by rw[<-wj i hi];exact hx),Hd i zO]
 have Re:∀(i:Nat)(x:cg),fo[i]?=some x->i<n->x.k=(D.bL.filter (·<i)).length:=λi x hx hi=>hw.st.k i x (by rw[<-wj i hi];exact hx);have hR0:∀(i:Nat)(x:cg),fo[i]?=some x->i<n->BV ops.length D ops GJ fo i x:=λi x hx hi=>by
  have hr:=hw.JP i x (by rw[<-wj i hi];exact hx);exact⟨hr.o,hr.k,hr.bL,hr.gate,hr.dst,hr.skip,hr.still,hr.effect⟩
 have hR1:∀(i:Nat)(x:cg),fo[i]?=some x->i<n->BV ops.length D ops Df fo i x:=λi x hx hi=>by
  have hx0:Ae[i]?=some x:=by rw[<-wj i hi];exact hx
  have hr:=hw.JP i x hx0;obtain⟨o1,o2⟩:=hob i x hx0;refine⟨hr.o,by rw[CQ,ahL];exact hr.k,hr.bL,hr.gate,hr.dst,hr.skip,λdj he k H T e hk Rb _=>?_,λhe=>?_⟩
  ·rw[DG] at hk
   cases JX:GJ[k]? with
   |none=>rw[JX] at hk;cases hk
   |some st=>
    rw[JX] at hk
    cases hk
    rw[lF];rw[zY] at Rb;exact o2 he k st JX (zU Rb)
  ·obtain⟨Ha,Ta,ea,Hb,Tb,g1,g2,g3,g4⟩:=hr.effect he;refine⟨s'.H++[z],Ta,ea,s'.H++[z],Tb,by rw[DG,g1];rfl,by rw[DG,g2];rfl,λ_ _=>by rw[lF];exact o1 he _ _ g1 g2,λhf=>⟨rfl,(g4 hf).2⟩⟩
 have gj:ops.toArray.size=ops.length:=zS;rw[gj];have ph2:∀(fuel:Nat)(ay:Array Bool)(a:Act)(w:World),Inv D s' fo Df L0 w0 ay a w->ay.getD n false=true->(∀i,i<ops.length->ay.getD i false=true)\/(List.range ops.length).countP (λi=>!ay.getD i false)<=fuel->
   wpAny C.P .any ops.toArray (cN C (dK K Q) L0 s' w0) fuel ay a w:=by
  refine oB (nx:=ops.length) kz pe lF po zY RZ R5 tj NC (λi=>i<n) (λi hi=>by omega) hR1 IT Re (λl=>l.getD n false=true) (λl j _ hl=>getD_set_true hl) (λay a w hI _ fC=>?_) (λfuel ay a w hI hJ i hi uk _=>?_)
  ·obtain⟨k,H,T,e,L,hk,gy,rB,cY,gL,fZ,gR,dI⟩:=hI.st;have pD:k=bL.length:=by
    rw[po] at hk gy;rcases ahD k bL.length with bp|oG
    ·have:=(hk k _ (ahu bp)).1 (fC _ (d3 k _ (ahu bp)).1);omega
    ·omega
   have Dl:Df[k]?=some (s'.H++[z],TL,iL):=by
    rw[DG,show GJ[k]?=some (HL,TL,iL) by rw[<-dC,aka,NQ,pD];congr 1;omega];rfl
   rw[rB] at Dl;obtain⟨rfl,rfl,rfl⟩:H=s'.H++[z]/\T=TL/\e=iL:=by injection Dl with h1;injection h1 with h1 h2;injection h2 with h2 h3;exact⟨h1,h2,h3⟩
   rw[lF] at dI gL fZ;refine⟨_,L,hK,⟨gL,fZ,cY,by rw[hI.tmps,lF],hI.defers,λt=>?_⟩,dI⟩;obtain⟨v,hv,hr⟩:=gR t;show bt L _ T w (bO (mr (aY s'.e Ae) d (.ptr s'.H.length 0)) t) _;have rI:mr (aY s'.e Ae) d (.ptr s'.H.length 0)=aY s'.e fo:=by
    rw[hP,ja,Q6];unfold xH IU;simp only[mo]
   rw[rI];rcases hv with⟨j,x,hx,hd,hl,rfl⟩|⟨nQ,rfl⟩
   ·rw[fc fo s'.e t j x hx hd (λi y hy zI=>d1 i j y.o x.o t (NC i y hy) (NC j x hx) zI hd)];exact hr
   ·rw[cR fo s'.e t (λx hx hd=>by
     obtain⟨j,hj,e1⟩:=ahN.1 hx;have h1:=nQ j x (by rw[ahu hj,e1]) hd;have h2:=fC j zO;rw[h1] at h2;cases h2)]
    exact hr
  ·obtain⟨h1,o,ho,_⟩:=mem_ready.1 hi;rw[ahQ] at ho;have eM:=(aht.1 ho).1;have:i=n:=zO;subst this;rw[cX (by rw[hI.size,tj];exact eM),hJ] at h1
   cases h1
 refine oB (nx:=ops.length) kz pe lF po zY RZ R5 tj NC (λi=>i<n) (λi hi=>by omega) hR0 IT Re (λl=>l.getD n false=false)
  (λl i hi hl=>by rw[getD_set_ne false zO];exact hl) (λay a w hI hJ fC=>by rw[fC n zO] at hJ;cases hJ) ?_ ops.length _ a0 _ ⟨by simp[tj],λi j hl _=>?_,⟨0,s'.H,s'.T,0,L0,λm i Ux=>?_,ahE _,by rw[Wh];rfl,hc.nD.drew rfl,by rw[lF];exact hc.nb,by rw[lF];exact hc.tb,λt=>?_,?_⟩,by rw[lF];exact hc.size,hc.defers⟩ ?_ (.inr ?_)
 rotate_left
 ·exfalso
  by_cases hi:i<ops.length<;>simp[hi] at hl
 ·constructor
  ·intro hl;exfalso
   by_cases hi:i<ops.length<;>simp[hi] at hl
  ·intro h;omega
 ·refine⟨bO s'.e t,.inr ⟨λj x hx hd=>?_,rfl⟩,?_⟩
  ·by_cases hj:j<ops.length<;>simp[hj]
  ·have kd:dh L0 s'.H.length s'.T w0 L0 s'.H.length s'.T { w0 with drawn:=w0.drawn+1 }:=(Ev.drew (H:=s'.H) (T:=s'.T) (L:=L0) (w:=w0) (w':={ w0 with drawn:=w0.drawn+1 }) rfl rfl rfl rfl (air _)).keeps;exact(hc.env t).keep kd
 ·rw[lF];exact(Ev.drew (H:=s'.H) (T:=s'.T) (L:=L0) (w:=w0) (w':={ w0 with drawn:=w0.drawn+1 }) rfl rfl rfl rfl (air _)).mono hc.nb hc.tb
 ·simp[hn]
 ·refine ahA (List.countP_le_length) ?_;simp
 intro fuel ay a w hI hJ i hi uk BH;obtain⟨RK,o',vY,sn⟩:=mem_ready.1 hi;rw[ahQ] at vY;have eM:i<ops.length:=(aht.1 vY).1;have um:i=n:=zO;subst um;have hoo:o'=al:=by rw[vY] at JW;exact Option.some.inj JW
 subst hoo;have gg:∀i j,ay.getD i false=true->nR (fD ops []) j i=true->ay.getD j false=true:=by
  have:=hI.closed;rw[IS] at this;exact this
 have lu:∀j,nR (fD ops []) j i=true->ay.getD j false=true:=λj hj=>jq gg vY sn (d6 i o' vY) hj;obtain⟨k,H,T,e,L,hk,gy,rB,cY,gL,fZ,gR,dI⟩:=hI.st;rw[po] at hk gy;rw[lF] at gL fZ dI;have hH:H=s'.H:=DF _ (aiN rB);subst hH;have th:Region.wanted o' (yielded ops.toArray a.tmps)=true:=by
  unfold Region.wanted;rw[uE]
 have pN:i<ay.size:=by rw[hI.size,tj];exact eM
 unfold wpOp;rw[ahQ,vY]
 dsimp only
 rw[ahF th];refine .inl ?_;refine tX (ur [] T) cY (λt=>.top _) λcv w' L' vB mA oJ=>?_;refine ph2 fuel _ _ _ ⟨by simp[hI.size],λi' j' jY ly=>?_,⟨k,s'.H++[z],T,e,L',λm i' yU=>?_,by rw[po];exact gy,by rw[DG,rB];rfl,vB,by rw[lF];exact ahA gL oJ.n,by rw[lF];exact ahA fZ oJ.t,λt=>?_,by rw[lF];exact dI.trans (oJ.mono gL fZ)⟩,?_,?_⟩ (by simp[pN]) BH
 ·rw[IS] at ly
  by_cases Bt:i=i'
  ·subst Bt;exact getD_set_true (lu j' ly)
  ·rw[getD_set_ne false Bt] at jY;exact getD_set_true (gg i' j' jY ly)
 ·rw[po] at yU;have:=UX m i' yU;rw[getD_set_ne false zO];exact hk m i' yU
 ·have bp:d<a.tmps.size:=by rw[hI.tmps,lF];exact hdn
  by_cases hd:d=t
  ·subst hd;refine⟨.ptr s'.H.length 0,.inl ⟨i,x9,hPn,by rw[Q6];exact mo,by simp[pN],by rw[Q6]⟩,?_⟩;rw[mo,jR a d d cv bp,ahF rfl];exact mA
  ·obtain⟨v',hv,hr⟩:=gR t;refine⟨v',?_,?_⟩
   ·rcases hv with⟨j,y,hy,zI,hl,rfl⟩|⟨nQ,rfl⟩
    ·exact .inl ⟨j,y,hy,zI,getD_set_true hl,rfl⟩
    ·refine .inr ⟨λj y hy zI=>?_,rfl⟩;have jV:i≠j:=by
      rintro rfl;rw[hPn] at hy
      cases hy
      rw[Q6] at zI;rw[mo] at zI;exact hd (Option.some.inj zI)
     rw[getD_set_ne false jV];exact nQ j y hy zI
   ·rw[mo,jR a d t cv bp,ahC hd];exact hr.keep oJ.keeps
 ·rw[mo,lF];simp[Act.put,hI.tmps,lF]
 ·rw[mo];exact hI.defers
def Xg {C:Cx}{x y:Code}{Q:Exit->St->Prop}{s:St}(st:St)(h1:AW C y Q st)(h2:AW C y Q st->∀K:St->Prop,(∀s,AW C y Q s->K s)->AW C x (dK K Q) s):AW C (.seq x y) Q s:=xE (h2 h1)
def MY {C:Cx}{id:Nat}{ops:List Oper}{Q:Exit->St->Prop}{s:St}(K:St->Prop)(n:Nat)(bL lo:List Nat)(na:List (List Nat))(hm:C.P.follows .mixedOrders=true)(sM:xw ops (n+1)=true)(kz:(iv (ops.take (n+1)) bL lo na&&!bL.contains n)=true)(pe:jv bL=true)
  (h:tm ⟨C,(ops.take (n+1)).toArray,bL,lo,na,gP C ops.toArray K (ops.drop (n+1))⟩ (N0 C (ops.take (n+1)) lo (gP C ops.toArray K (ops.drop (n+1))) n s.H) n (ops.take (n+1)) [] [(s.H,s.T,0)] (prune C.nv s.e)):AW C (.region id ops.toArray true) (dK K Q) s:=by
 simp only[ahG,ajZ] at kz;intro L0 w0 a0 mZ;obtain⟨c1,_⟩:=qt sM;refine wp_region_any hm ?_;have hg:=Ic (Q:=Q) (gP C ops.toArray K (ops.drop (n+1))) n bL lo na (by rw[ahW];omega) kz.1 pe kz.2 h L0 w0 a0 mZ;have hlen:(ops.take (n+1)).toArray.size=n+1:=by simp;omega
 rw[hlen] at hg;have:=PM (P:=C.P) (ops:=ops) (n:=n+1) (Q2:=cN C (dK K Q) L0 s w0) sM ?_ ?_ (n+1) (Array.replicate (n+1) false) (Array.replicate ops.length false) a0 _ zS zS ?_ ?_ ?_ hg
 ·rw[show ops.toArray.size=n+1+(ops.length-(n+1)) by simp;omega];rw[show ops.length=n+1+(ops.length-(n+1)) by omega] at this;simpa using this
 ·rintro e a w dM ⟨s',L',q,r⟩;refine⟨s',L',?_,r⟩
  cases e<;>first|exact absurd rfl dM|exact q
 ·rintro a w ⟨s',L',q,hc,dI⟩;refine H3 ?_ _ _ _ (yL (ops.drop (n+1)) s' q L' w a L0 s w0 hc dI);rintro e a w ⟨s',L',q,r⟩;refine⟨s',L',?_,r⟩
  cases e<;>first|exact q|exact q.elim
 ·intro j hj;have:j<ops.length:=zO;simp[hj,this]
 ·intro j hj
  by_cases h1:j<ops.length<;>simp[h1]
 ·intro i j hi;exfalso
  by_cases h1:i<ops.length<;>simp[h1] at hi
section
variable {D : wD} {KR : List cg -> List nE -> Env -> Prop} {o : Oper} {r : List Oper} {aR : List cg} {sts : List nE} {e : Env}
@[simp] theorem Xt {l:List Oper}:tm D KR 0 l aR sts e=KR aR sts e:=by cases l<;>rfl
@[simp] theorem Xu {n:Nat}:tm D KR (n+1) (o::r) aR sts e=(match sts.getLast? with
  |some (H,T,_)=>match o.guard with
   |none=>lD D (tm D KR n r) o aR sts e H T
   |some _=>False
  |none=>False):=rfl
end
attribute [simp] IL YZ Dy N0
def gZ (C:Cx)(o:Oper)(e:Env)(H:List aA)(T:au)(κ:AV->List aA->au->Prop):Prop:=
 match lE C.P C.bx o e H with
 |some (m,ys,z)=>∀nc:Nat,m<=nc->κ (.bQ H.length m nc) (H++[.cells (ys++List.replicate ((nc-m)*z) .top)]) T
 |none=>match sV o e with
  |some (t,t2,i,n,cap,x)=>∃(el:TypeId) (vs xs:List AV) (m:Nat),C.P.underlying t=some (.slice el)/\H[i]?=some (.cells vs)/\vs.length=cap*C.P.cellsOf el/\ic H (C.P.cellsOf el) x=some (m,xs)/\(n+m)*C.P.bytesOf el<=140737488355328/\n+m<=9223372036854775807/\
    ke C.P t2=true/\(bz C.P el).isSome=true/\
    (n+m<=cap->κ (.bQ i (n+m) cap) (H.set i (.cells (vs.take (n*C.P.cellsOf el)++xs++vs.drop ((n+m)*C.P.cellsOf el)))) T)/\
    ∀nc,cap<n+m->n+m<=nc->κ (.bQ H.length (n+m) nc) (H++[.cells (vs.take (n*C.P.cellsOf el)++xs++List.replicate ((nc-(n+m))*C.P.cellsOf el) .top)]) T
  |none=>False
def yM {o:Oper}{e e':Env}(h:∀x∈o.op.operands,bV e x=bV e' x):sV o e=sV o e':=by
 unfold sV
 cases ho:o.op<;>try rfl
 rename_i c;rw[ho] at h;obtain⟨callee,args,C1⟩:=c
 cases callee<;>try rfl
 rename_i bi
 cases bi<;>try rfl
 have h2:args.toList.map (bV e)=args.toList.map (bV e'):=aib λx hx=>h x (by simp only[Op.operands,Call.operands];exact ajr.2 (.inr (aiZ.1 hx)));simp only[h2]
def vU {P:Program}{bx:List Nat}{o:Oper}{e e':Env}{H:List aA}(h:∀x∈o.op.operands,bV e x=bV e' x):lE P bx o e H=lE P bx o e' H:=by
 obtain⟨dst,op,type,pos,after,guard⟩:=o;unfold lE;simp only at h ⊢
 cases op<;>try rfl
 rename_i c;obtain⟨callee,args,C1⟩:=c
 cases callee<;>try rfl
 rename_i bi
 cases bi<;>try rfl
 cases dst<;>try rfl
 have h2:args.toList.map (bV e)=args.toList.map (bV e'):=aib λx hx=>h x (by simp only[Op.operands,Call.operands];exact ajr.2 (.inr (aiZ.1 hx)));simp only[h2]
def vM {C:Cx}{o:Oper}{e e':Env}{H:List aA}{T:au}{κ:AV->List aA->au->Prop}(h:∀x∈o.op.operands,bV e x=bV e' x)(k:gZ C o e H T κ):gZ C o e' H T κ:=by
 unfold gZ at k ⊢;rw[<-vU h,<-yM h];exact k
theorem xV {C:Cx}{o:Oper}{e:Env}{H:List aA}{T:au}{κ:AV->List aA->au->Prop}(k:gZ C o e H T κ){L:Lay}{w:World}{a:Act}(hc:cz L H T w)(he:fu L H.length T w e a){K:Act->World->Prop}{Q:Exit->Act->World->Prop}
  (hk:∀v H' T' cv w' L',κ v H' T'->cz L' H' T' w'->bt L' H'.length T' w' v cv->Ev H.length T.length L H.length T w L' H'.length T' w'->K (a.put o.dst cv) w'):o.wp C.P a w K Q:=by
 unfold gZ at k
 split at k
 ·rename_i m ys z Bv;obtain⟨nc,lY,cv,w',L',dj,cY,dO,dI⟩:=AF Bv hc he;unfold Oper.wp;rw[dj];exact hk _ _ _ _ _ _ (k nc lY) cY dO dI
 ·split at k
  ·rename_i t t2 i n cap x J6;obtain⟨el,vs,xs,m,hu,hH,Nd,nI,rv,ux,uk,rq,Gx,eL⟩:=k;unfold sV at J6
   split at J6
   ·rename_i args C1 mh
    split at J6
    ·rename_i t' t2' i' n' lQ x' C6 fi
     cases J6
     have r5:C1=#[t,t2]:=by rw[<-Array.toList_inj];exact C6
     subst r5;have jT:args.toList.length=2:=by have:=congrArg List.length fi;simpa using this
     match ur:args.toList,jT,fi with
     |[p,q],_,fi=>
      simp only[aih,aju,List.cons.injEq,ake] at fi;obtain⟨e1,e2⟩:=fi;have h0:=he.bV p;have h1:=he.bV q;rw[e1] at h0;rw[e2] at h1;have oO:args=#[p,q]:=by rw[<-Array.toList_inj];exact ur
      subst oO;have hex:∀cv w',(Builtin.append_ #[t,t2] o.type #[a.eval p,a.eval q]).run C.P w=.ok cv w'->(execOp a.eval o).run C.P w=.ok (.value cv) w':=λcv w' hr=>by
       simp only[execOp,mh,resolve,Sem.run_bind,Sem.run_pure,Result.andThen_ok,invoke,builtin,List.map_toArray,aih,aju,hr]
      rcases Ej (ty:=o.type) hc h0 h1 hu hH Nd nI rv ux uk rq with⟨hle,cv,w',L',dj,cY,dO,dI⟩|⟨bp,nc,lY,cv,w',L',dj,cY,dO,dI⟩
      ·unfold Oper.wp;rw[hex _ _ dj];exact hk _ _ _ _ _ _ (Gx hle) cY dO dI
      ·unfold Oper.wp;rw[hex _ _ dj];exact hk _ _ _ _ _ _ (eL nc bp lY) cY dO dI
    ·cases J6
   ·cases J6
  ·exact k.elim
def iR (D:wD):Nat->List Oper->List cg->List nE->Env->Prop
 |_,[],_,_,_=>False
 |0,o::r,aR,sts,e=>match sts.getLast? with
  |some (H,T,_)=>match o.guard with
   |none=>gZ D.C o e H T (λv H' T'=>Bw D (gn D r) o aR sts e true v H' T')
   |some _=>False
  |none=>False
 |n+1,o::r,aR,sts,e=>match sts.getLast? with
  |some (H,T,_)=>match o.guard with
   |none=>lD D (iR D n r) o aR sts e H T
   |some (j,want)=>match pA D.all j e with
    |some b=>if b=some want then lD D (iR D n r) o aR sts e H T else Bw D (iR D n r) o aR sts e false (.dn []) H T
    |none=>False
  |none=>False
theorem FU {nx:Nat}{D:wD}{ops:List Oper}{e0:Env}(kz:jv D.bL=true)(kX:D.bL.contains nx=true):∀(n:Nat)(l:List Oper)(aR:List cg)(sts:List nE)(e:Env),iJ nx D ops e0 aR sts e->ops.drop aR.length=l->aR.length<=ops.length->aR.length+n=nx->iR D n l aR sts e->
  ∃bX eH H T i o r,iJ nx D ops e0 bX eH (aY e0 bX)/\bX.length=nx/\eH.getLast?=some (H,T,i)/\eH[0]?=sts[0]?/\ops.drop nx=o::r/\o.guard=none/\gZ D.C o (aY e0 bX) H T (λv H' T'=>Bw D (gn D r) o bX eH (aY e0 bX) true v H' T'):=by
 intro n
 induction n with
 |zero=>
  intro l aR sts e hw hl hle hn h
  cases l with
  |nil=>exact h.elim
  |cons o r=>
   unfold iR at h
   split at h
   ·rename_i H T i dC
    split at h
    ·rename_i hg;have hc:=hw.cur;subst hc;exact⟨aR,sts,H,T,i,o,r,hw,zO,dC,rfl,by rw[<-hl];congr 1;omega,hg,h⟩
    ·exact h.elim
   ·exact h.elim
 |succ n ih=>
  intro l aR sts e hw hl hle hn h
  cases l with
  |nil=>exact h.elim
  |cons o r=>
  have bp:aR.length<ops.length:=by
   have:=congrArg List.length hl;simp at this;omega
  have nX:ops[aR.length]?=some o:=by
   have:=congrArg (λl=>l[0]?) hl;simpa using this
  have rN:ops.drop (aR.length+1)=r:=by
   have:=congrArg (λl=>l.drop 1) hl;simpa[ajR,add_comm] using this
  have fin:∀{H T i0 run v H' T'},sts.getLast?=some (H,T,i0)->(match o.guard with|none=>run=true|some (j,want)=>∃b,pA D.all j e=some b/\run=(b==some want))->(run=false->v=.dn []/\H'=H/\T'=T)->(run=true->aR.length≠nx->dT D.C.P o e H T v H' T')->
    (D.bL.contains aR.length=false->H'=H/\T'=T)->Bw D (iR D n r) o aR sts e run v H' T'->∃bX eH H T i o r,iJ nx D ops e0 bX eH (aY e0 bX)/\bX.length=nx/\eH.getLast?=some (H,T,i)/\eH[0]?=sts[0]?/\ops.drop nx=o::r/\o.guard=none/\gZ D.C o (aY e0 bX) H T (λv H' T'=>Bw D (gn D r) o bX eH (aY e0 bX) true v H' T'):=by
   intro H T i0 run v H' T' dC hg h1 h2 h3 h4;obtain⟨bX,eH,e',g1,g2,g3,g4,_⟩:=qZ kz (.inl kX) hw nX dC hg h1 h2 h3 h4;obtain⟨r2,s2,H2,T2,i2,o2,q2,k1,k2,k3,k4,k5⟩:=ih r bX eH e' g1 (by rw[g2];exact rN) zO zO g3;exact⟨r2,s2,H2,T2,i2,o2,q2,k1,k2,k3,k4.trans g4,k5⟩
  have exec:∀{H T i0},sts.getLast?=some (H,T,i0)->(match o.guard with|none=>true=true|some (j,want)=>∃b,pA D.all j e=some b/\true=(b==some want))->lD D (iR D n r) o aR sts e H T->
    ∃bX eH H T i o r,iJ nx D ops e0 bX eH (aY e0 bX)/\bX.length=nx/\eH.getLast?=some (H,T,i)/\eH[0]?=sts[0]?/\ops.drop nx=o::r/\o.guard=none/\gZ D.C o (aY e0 bX) H T (λv H' T'=>Bw D (gn D r) o bX eH (aY e0 bX) true v H' T'):=by
   intro H T i0 dC hg hx;unfold lD at hx
   split at hx
   ·rename_i g as jJ;obtain⟨v,H',T',hc,hs,hd⟩:=hx;refine fin (run:=true) dC hg (λe=>by cases e) (λ_ _=>?_) hs hd;unfold dT;rw[jJ];exact hc
   ·rename_i jJ
    split at hx
    ·rename_i v H' T' mh;refine fin (run:=true) dC hg (λe=>by cases e) (λ_ _=>?_) hx.1 hx.2;unfold dT;rw[jJ];exact mh
    ·exact hx.elim
  unfold iR at h
  split at h
  ·rename_i H T i0 dC
   split at h
   ·rename_i hg;exact exec dC (by rw[hg]) h
   ·rename_i j want hg
    split at h
    ·rename_i b hb
     split at h
     ·rename_i C8;exact exec dC (by rw[hg];exact⟨b,hb,by simp[C8]⟩) h
     ·rename_i C8;exact fin (run:=false) dC (by rw[hg];exact⟨b,hb,by simp[C8]⟩) (λ_=>⟨rfl,rfl,rfl⟩) (λe=>by cases e) (λ_=>⟨rfl,rfl⟩) h
    ·exact h.elim
  ·exact h.elim
def mCk (ops:List Oper)(bL:List Nat)(nx:Nat):Bool:=
 (bL[0]?==some nx)&&(List.range ops.length).all λi=>decide (i<=nx)||nR (fD ops []) nx i
theorem Ih {C:Cx}{ops:List Oper}{Q:Exit->St->Prop}{s:St}(K:St->Prop)(nx:Nat)(bL lo:List Nat)(na:List (List Nat))(kz:iv ops bL lo na=true)(pe:jv bL=true)(hm:mCk ops bL nx=true)
  (h:iR ⟨C,ops.toArray,bL,lo,na,K⟩ nx ops [] [(s.H,s.T,0)] (prune C.nv s.e)):∀L0 w0 a0,eQ C s L0 w0 a0->
   wpAny C.P .any ops.toArray (cN C (dK K Q) L0 s w0) ops.toArray.size (Array.replicate ops.toArray.size false) a0 { w0 with drawn:=w0.drawn+1 }:=by
 intro L0 w0 a0 mZ;have hc:eQ C ⟨prune C.nv s.e,s.H,s.T⟩ L0 w0 a0:=⟨mZ.nb,mZ.tb,mZ.nD,mZ.size,mZ.defers,λt=>by
  rcases mT C.nv s.e t with e|e<;>rw[e]
  ·exact mZ.env t
  ·exact .top _⟩
 generalize vp:(⟨prune C.nv s.e,s.H,s.T⟩:St)=s' at hc;have CQ:prune C.nv s.e=s'.e:=by rw[<-vp]
 have Bp:s.H=s'.H:=by rw[<-vp]
 have Gv:s.T=s'.T:=by rw[<-vp]
 rw[CQ,Bp,Gv] at h;rw[show cN C (dK K Q) L0 s w0=cN C (dK K Q) L0 s' w0 by unfold cN;rw[Bp,Gv]];clear vp CQ Bp Gv mZ;generalize hD:(⟨C,ops.toArray,bL,lo,na,K⟩:wD)=D at h;have lF:D.C=C:=by rw[<-hD]
 have po:D.bL=bL:=by rw[<-hD]
 have zY:D.lo=lo:=by rw[<-hD]
 have RZ:D.na=na:=by rw[<-hD]
 have R5:D.all=ops.toArray:=by rw[<-hD]
 have hDK:D.K=K:=by rw[<-hD]
 unfold mCk at hm;simp only[ahG,ajl,ah3,ahV,aiq,ahH] at hm;obtain⟨RL,hmA⟩:=hm;have ae1:bL.contains nx=true:=by rw[ajd];exact aiN RL
 have Kl:D.bL.contains nx=true:=by rw[po];exact ae1
 have Zy:(bL.filter (·<nx)).length=0:=by
  have:=ah3.1 pe 0 (ahV.2 (aht.1 RL).1);simp only[ahG,ajl,ahs,RL,ai5] at this;exact this.1
 have agQ:∀m i,bL[m]?=some i->nx<=i:=λm i Ux=>by
  rcases ahD i nx with h1|h1
  ·have:i∈bL.filter (·<nx):=ahU.2 ⟨aiN Ux,by simpa using h1⟩;rw[ah9.1 Zy] at this;simp at this
  ·exact h1
 obtain⟨vy,Df,H1,T1,i1,o,r,yZ,vq,OU,aac,rN,uE,hmx⟩:=FU (D:=D) (ops:=ops) (e0:=s'.e) (by rw[po];exact pe) Kl nx ops [] [(s'.H,s'.T,0)] s'.e
  ⟨⟨zS,λi x hx=>by simp at hx⟩,λi x hx=>by simp at hx,λi x hx=>by simp at hx,rfl⟩ zS zS zS h
 obtain⟨d1,d2,d3,d4,d5,d6,d7⟩:=kV kz;have Wl:nx<ops.length:=(d3 0 nx RL).1;have JW:ops[nx]?=some o:=by
  have:=congrArg (λl=>l[0]?) rN;simpa using this
 have aeS:Df.length=1:=by
  have:=yZ.st.len;rw[po,vq,Zy] at this;exact this
 have Z9:Df=[(s'.H,s'.T,0)]:=by
  match Df,aeS,aac with
  |[x],_,h0=>simpa using h0
 subst Z9;simp only[List.getLast?_singleton,Option.some.injEq,Prod.mk.injEq] at OU;obtain⟨rfl,rfl,rfl⟩:=OU;obtain⟨fo,hP⟩:∃l,l=vy++(ops.drop nx).map λo=>(⟨o,[],false,.top,0,false⟩:cg):=⟨_,rfl⟩
 have tj:fo.length=ops.length:=by rw[hP];simp[vq];omega
 have wj:∀i,i<nx->fo[i]?=vy[i]?:=λi hi=>by rw[hP,ahB zO]
 have NC:∀(i:Nat)(x:cg),fo[i]?=some x->ops[i]?=some x.o:=λi x hx=>by
  rcases ahD i nx with hi|hi
  ·rw[wj i hi] at hx;exact(yZ.JP i x hx).o
  ·rw[hP,ahP zO,vq,aiD,aja,show nx+(i-nx)=i by omega] at hx
   cases ho:ops[i]? with
   |none=>rw[ho] at hx;cases hx
   |some z=>rw[ho] at hx;cases hx;rfl
 have Hd:fo.take nx=vy:=by rw[hP,aiF zO,<-vq,ahO]
 have IS:fo.map (·.o)=ops:=by
  apply ajn;intro i;rw[aiD]
  by_cases hi:i<fo.length
  ·rw[ahu hi,ajf,NC i _ (ahu hi)]
  ·rw[aiU zO,aiU zO];rfl
 have gj:ops.toArray.size=ops.length:=zS;rw[gj];refine oB (sts:=[(s'.H,s'.T,0)]) kz pe lF po zY RZ R5 tj NC (λi=>i<nx) (nx:=nx) (λi hi=>by omega) (λi x hx hi=>by have hr:=yZ.JP i x (by rw[<-wj i hi];exact hx);exact⟨hr.o,hr.k,hr.bL,hr.gate,hr.dst,hr.skip,hr.still,hr.effect⟩) (λi x hx hi=>?_) (λi x hx hi=>yZ.st.k i x (by rw[<-wj i hi];exact hx)) (λl=>l.getD nx false=false)
  (λl i hi hl=>by rw[getD_set_ne false zO];exact hl) (λay a w hI hJ fC=>by rw[fC nx Wl] at hJ;cases hJ) ?_ ops.length _ a0 _ ⟨by simp[tj],λi j hl _=>?_,⟨0,s'.H,s'.T,0,L0,λm i Ux=>?_,ahE _,rfl,hc.nD.drew rfl,by rw[lF];exact hc.nb,by rw[lF];exact hc.tb,λt=>?_,?_⟩,by rw[lF];exact hc.size,hc.defers⟩ ?_ (.inr ?_)
 ·rw[yZ.Kv i x (by rw[<-wj i hi];exact hx)]
  congr 1
  rw[hP,aiF zO]
 rotate_left
 ·exfalso
  by_cases hi:i<ops.length<;>simp[hi] at hl
 ·constructor
  ·intro hl;exfalso
   by_cases hi:i<ops.length<;>simp[hi] at hl
  ·intro h;omega
 ·refine⟨bO s'.e t,.inr ⟨λj x hx hd=>?_,rfl⟩,?_⟩
  ·by_cases hj:j<ops.length<;>simp[hj]
  ·have kd:dh L0 s'.H.length s'.T w0 L0 s'.H.length s'.T { w0 with drawn:=w0.drawn+1 }:=(Ev.drew (H:=s'.H) (T:=s'.T) (L:=L0) (w:=w0) (w':={ w0 with drawn:=w0.drawn+1 }) rfl rfl rfl rfl (air _)).keeps;exact(hc.env t).keep kd
 ·rw[lF];exact(Ev.drew (H:=s'.H) (T:=s'.T) (L:=L0) (w:=w0) (w':={ w0 with drawn:=w0.drawn+1 }) rfl rfl rfl rfl (air _)).mono hc.nb hc.tb
 ·simp[Wl]
 ·refine ahA (List.countP_le_length) ?_;simp
 intro fuel ay a w hI hJ i hi hnr BH;obtain⟨RK,o',vY,sn⟩:=mem_ready.1 hi;rw[ahQ] at vY;have eM:i<ops.length:=(aht.1 vY).1;have gg:∀i j,ay.getD i false=true->nR (fD ops []) j i=true->ay.getD j false=true:=by
  have:=hI.closed;rw[IS] at this;exact this
 have lu:∀j,nR (fD ops []) j i=true->ay.getD j false=true:=λj hj=>jq gg vY sn (d6 i o' vY) hj;have afg:i=nx:=by
  rcases hmA i eM with h1|h1
  ·omega
  ·have:=lu nx h1;rw[hJ] at this;cases this
 subst afg;have hoo:o'=o:=by rw[vY] at JW;exact Option.some.inj JW
 subst hoo;have OT:∀j,i<j->j<ops.length->ay.getD j false=false:=λj hj ru=>by
  rcases hmA j ru with h1|h1
  ·omega
  ·cases hlj:ay.getD j false with
   |false=>rfl
   |true=>have:=gg j i hlj h1;rw[hJ] at this;cases this
 obtain⟨k,H,T,e,L,hk,gy,rB,cY,gL,fZ,gR,dI⟩:=hI.st;rw[po] at hk gy;rw[lF] at gL fZ dI;have JX:k=0:=by
  have:=(hk 0 i RL)
  rw[hJ] at this;have h2:¬0<k:=λhh=>by have:=this.2 hh;cases this
  omega
 subst JX;simp at rB;obtain⟨rfl,rfl,rfl⟩:=rB;have eI:∀t∈o'.looksAt ops.toArray,∀v,VS fo ay s'.e t v->v=bO (aY s'.e vy) t:=by
  intro t ht v hv;rw[<-Hd];have Q7:∀(j:Nat)(z:cg),fo[j]?=some z->z.o.dst=some t->i≠j/\((j<i/\nR (fD ops []) j i=true)\/(i<j/\nR (fD ops []) i j=true)):=λj z hz hd=>d2 i j o' z.o t vY (NC j z hz) ht hd;rcases hv with⟨j,z,hz,hd,hl,rfl⟩|⟨nQ,rfl⟩
  ·obtain⟨dM,h1|h1⟩:=Q7 j z hz hd
   ·rw[fc (fo.take i) s'.e t j z (by rw[aim,ahF h1.1];exact hz) hd (λi' y' JV YG=>by
     rw[aim] at JV
     split at JV
     ·exact d1 i' j y'.o z.o t (NC i' y' JV) (NC j z hz) YG hd
     ·cases JV)]
   ·have:=gg j i hl h1.2;rw[hJ] at this;cases this
  ·rw[cR (fo.take i) s'.e t (λz hz hd=>by
    obtain⟨j,hj,e1⟩:=ahN.1 hz;simp at hj;have JU:fo[j]?=some z:=by rw[ahu zO,<-e1];simp
    have hf:=nQ j z JU hd;obtain⟨dM,h1|h1⟩:=Q7 j z JU hd
    ·have:=lu j h1.2;rw[hf] at this;cases this
    ·omega)]
 have uy:fu L s'.H.length s'.T w (oM (aY s'.e vy) (o'.looksAt ops.toArray)) a:=by
  intro t;rw[iE]
  split
  ·rename_i ht;obtain⟨v,hv,hr⟩:=gR t;rw[<-eI t ht v hv];exact hr
  ·exact .top _
 have GU:∀z∈o'.op.operands,bV (aY s'.e vy) z=bV (oM (aY s'.e vy) (o'.looksAt ops.toArray)) z:=by
  intro z hz
  cases z with
  |tmp t=>
   have:t∈o'.looksAt ops.toArray:=by
    unfold Oper.looksAt;exact ahI.2 (.inl (List.mem_filterMap.2 ⟨_,aiZ.2 hz,rfl⟩))
   simp only[bV,iE,ahF this]
  |_=>rfl
 have th:Region.wanted o' (yielded ops.toArray a.tmps)=true:=by
  unfold Region.wanted;rw[uE]
 have pN:i<ay.size:=by rw[hI.size];omega
 unfold wpOp;rw[ahQ,vY]
 dsimp only
 rw[ahF th];refine .inl ?_;rw[lF] at hmx;refine xV (vM GU hmx) cY uy λv H' T' cv w' L' Gy vB mA oJ=>?_;obtain⟨bX,eH,e',g1,g2,g3,g4,_,⟨x9,g9,gx⟩,_,g8⟩:=qZ (nx:=i) (ops:=ops) (e0:=s'.e) (H:=s'.H) (T:=s'.T) (i0:=0) (by rw[po];exact pe) (.inl Kl) yZ (by rw[vq];exact vY) rfl (by rw[uE]) (λhh=>by cases hh) (λ_ dM=>absurd vq dM) (λhh=>by rw[vq,Kl] at hh;cases hh) Gy;have Q6:=gx (by rw[vq];exact Kl);have hs9:=g8 (by rw[vq];exact Kl);obtain⟨vx,V0,HL,TL,iL,k1,k2,k3,k4,k5,⟨q6,k6⟩,⟨q7,k7⟩⟩:=vT (nx:=i) (D:=D) (ops:=ops) (e0:=s'.e) (by rw[po];exact pe) (.inl Kl) r bX eH e' g1 (by
  rw[g2,vq];have:=congrArg (λl=>l.drop 1) rN;simpa[ajR,add_comm] using this) (by rw[g2,vq];omega) g3
 have UR:∀j,j<i->vx[j]?=vy[j]?:=λj hj=>by rw[k6,g9,ahM,ahB zO]
 have Oh:vx[i]?=some x9:=by rw[k6,g9,ahM,ahP zO,vq,aiT];rfl
 have NR:∀(j:Nat)(x:cg),vx[j]?=some x->ops[j]?=some x.o:=λj x hx=>(k1.JP j x hx).o;have aal:vx.map (·.o)=ops:=by
  apply ajn;intro j;rw[aiD]
  by_cases hj:j<vx.length
  ·rw[ahu hj,ajf,NR j _ (ahu hj)]
  ·rw[aiU zO,aiU zO];rfl
 have aeR:V0[1]?=some (H',T',i):=by
  rw[k7,hs9,vq];rfl
 have NQ:V0.length=1+bL.length:=by
  have h1:=k1.st.len;rw[po] at h1;rw[h1]
  congr 2
  apply ai4.2;intro e he;obtain⟨m,hm,e1⟩:=ahN.1 he;have:=(d3 m e (by rw[ahu hm,e1])).1;simp;omega
 refine oB kz pe lF po zY RZ R5 k2 NR (λj=>j≠i) (nx:=i) (λj hj=>hj) (λj x hx _=>k1.JP j x hx) (λj x hx _=>k1.Kv j x hx) (λj x hx _=>k1.st.k j x hx) (λl=>l.getD i false=true)
  (λl j _ hl=>getD_set_true hl) (λay a w YR _ fC=>?_) (λfuel ay a w YR jg j hj dM _=>?_) fuel _ _ _ ⟨by simp[hI.size,tj,k2],λi' j' jY ly=>?_,⟨1,H',T',i,L',λm i' yU=>?_,?_,aeR,vB,by rw[lF];exact ahA gL oJ.n,by rw[lF];exact ahA fZ oJ.t,λt=>?_,by rw[lF];exact dI.trans (oJ.mono gL fZ)⟩,?_,?_⟩ ?_ BH
 ·
  obtain⟨k,H,T,e,L,hk,gy,rB,cY,gL,fZ,gR,dI⟩:=YR.st;have pD:k=bL.length:=by
   rw[po] at hk gy;rcases ahD k bL.length with bp|oG
   ·have:=(hk k _ (ahu bp)).1 (fC _ (d3 k _ (ahu bp)).1);omega
   ·omega
  have Dl:V0[k]?=some (HL,TL,iL):=by rw[<-k3,aka,NQ,pD];congr 1;omega
  rw[rB] at Dl;obtain⟨rfl,rfl,rfl⟩:H=HL/\T=TL/\e=iL:=by injection Dl with h1;injection h1 with h1 h2;injection h2 with h2 h3;exact⟨h1,h2,h3⟩
  rw[hDK] at k4;rw[lF] at dI gL fZ;refine⟨_,L,k4,⟨gL,fZ,cY,by rw[YR.tmps,lF],YR.defers,λt=>?_⟩,dI⟩;obtain⟨v,hv,hr⟩:=gR t;show bt L H.length T w (bO (aY s'.e vx) t) _;rcases hv with⟨j,x,hx,hd,hl,rfl⟩|⟨nQ,rfl⟩
  ·rw[fc vx s'.e t j x hx hd (λi y hy zI=>d1 i j y.o x.o t (NR i y hy) (NR j x hx) zI hd)];exact hr
  ·rw[cR vx s'.e t (λx hx hd=>by
    obtain⟨j,hj,e1⟩:=ahN.1 hx;have h1:=nQ j x (by rw[ahu hj,e1]) hd;have h2:=fC j zO;rw[h1] at h2;cases h2)]
   exact hr
 ·have:j=i:=Classical.byContradiction dM;subst this;obtain⟨h1,z,hz,_⟩:=mem_ready.1 hj;rw[cX (by rw[YR.size,k2];exact Wl),jg] at h1
  cases h1
 ·rw[aal] at ly
  by_cases Bt:i=i'
  ·subst Bt;have:=lu j' ly
   by_cases jV:i=j'
   ·subst jV;rw[hJ] at this;cases this
   ·rw[getD_set_ne false jV];exact this
  ·rw[getD_set_ne false Bt] at jY;have:=gg i' j' jY ly;exact getD_set_true this
 ·rw[po] at yU;have zg:=(aht.1 yU).1
  by_cases ae7:m=0
  ·subst ae7;rw[RL] at yU
   cases yU
   simp[pN]
  ·have dM:i≠i':=by
    rintro rfl;have h1:=ah3.1 pe m (ahV.2 zg);simp only[ahG,ajl,ahs,yU,ai5] at h1;omega
   rw[getD_set_ne false dM,hk m i' yU];omega
 ·rw[po];have:=(aht.1 RL).1;omega
 ·by_cases hd:o'.dst=some t
  ·refine⟨x9.v,.inl ⟨i,x9,Oh,by rw[Q6];exact hd,by simp[pN],rfl⟩,?_⟩;have kW:=(k1.JP i x9 Oh).dst t (by rw[Q6];exact hd);have bp:t<a.tmps.size:=by rw[hI.tmps];exact kW
   rw[hd,jR a t t cv bp,ahF rfl,Q6];exact mA
  ·obtain⟨v',hv,hr⟩:=gR t;refine⟨v',?_,?_⟩
   ·rcases hv with⟨j,z,hz,Bn,hl,rfl⟩|⟨nQ,rfl⟩
    ·have ru:j<ops.length:=by have:=(aht.1 hz).1;omega
     have rW:j<i:=by
      rcases ai7 j i with h1|h1|h1
      ·exact h1
      ·subst h1;rw[hJ] at hl;cases hl
      ·rw[OT j h1 ru] at hl;cases hl
     exact .inl ⟨j,z,by rw[UR j rW,<-wj j rW];exact hz,Bn,getD_set_true hl,rfl⟩
    ·refine .inr ⟨λj z hz Bn=>?_,rfl⟩;have ru:j<ops.length:=by have:=(aht.1 hz).1;omega
     have jV:i≠j:=by
      rintro rfl;have:=NR i z hz;rw[vY] at this;have:=Option.some.inj this;rw[<-this] at Bn;exact hd Bn
     rw[getD_set_ne false jV];rcases ahD j i with h1|h1
     ·exact nQ j z (by rw[wj j h1,<-UR j h1];exact hz) Bn
     ·exact OT j zO ru
   ·have e1:(a.put o'.dst cv).tmps.getD t undef=a.tmps.getD t undef:=by
     cases mo:o'.dst with
     |none=>rfl
     |some d=>
      have bp:d<a.tmps.size:=by rw[hI.tmps];exact(k1.JP i x9 Oh).dst d (by rw[Q6];exact mo)
      rw[jR a d t cv bp,ahC (λe=>hd (by rw[mo,e]))]
    rw[e1];exact hr.keep oJ.keeps
 ·simp[Act.put];cases o'.dst<;>simp[hI.tmps]
 ·cases o'.dst<;>exact hI.defers
 ·simp[pN]
def MZ {C:Cx}{id:Nat}{ops:List Oper}{Q:Exit->St->Prop}{s:St}(K:St->Prop)(nx:Nat)(bL lo:List Nat)(na:List (List Nat))(hm:C.P.follows .mixedOrders=true)(kz:iv ops bL lo na=true)(pe:jv bL=true)(XH:mCk ops bL nx=true)
  (h:iR ⟨C,ops.toArray,bL,lo,na,K⟩ nx ops [] [(s.H,s.T,0)] (prune C.nv s.e)):AW C (.region id ops.toArray true) (dK K Q) s:=
 λL0 w0 a0 mZ=>wp_region_any hm (Ih K nx bL lo na kz pe XH h L0 w0 a0 mZ)
def rk {C:Cx}{id:Nat}{ops:List Oper}{Q:Exit->St->Prop}{s:St}(nx:Nat)(bL lo:List Nat)(na:List (List Nat))(hm:C.P.follows .mixedOrders=true)(kz:iv ops bL lo na=true)(pe:jv bL=true)(XH:mCk ops bL nx=true)
  (h:∀K:St->Prop,(∀s,Q .normal s->K s)->iR ⟨C,ops.toArray,bL,lo,na,K⟩ nx ops [] [(s.H,s.T,0)] (prune C.nv s.e)):AW C (.region id ops.toArray true) Q s:=
 (MZ (Q:=Q) (λs=>Q .normal s) nx bL lo na hm kz pe XH (h _ λ_ h=>h)).mono λe s q=>by cases e<;>exact q
section
variable {D : wD} {o : Oper} {r : List Oper} {aR : List cg} {sts : List nE} {e : Env}
@[simp] theorem Vo:iR D 0 (o::r) aR sts e=(match sts.getLast? with
  |some (H,T,_)=>match o.guard with
   |none=>gZ D.C o e H T (λv H' T'=>Bw D (gn D r) o aR sts e true v H' T')
   |some _=>False
  |none=>False):=rfl
@[simp] theorem Vp {n:Nat}:iR D (n+1) (o::r) aR sts e=(match sts.getLast? with
  |some (H,T,_)=>match o.guard with
   |none=>lD D (iR D n r) o aR sts e H T
   |some (j,want)=>match pA D.all j e with
    |some b=>if b=some want then lD D (iR D n r) o aR sts e H T else Bw D (iR D n r) o aR sts e false (.dn []) H T
    |none=>False
  |none=>False):=rfl
end
attribute [simp] gZ
def Ge {P:Program}{o:Oper}{e e':Env}{H:List aA}(h:∀x∈o.op.operands,bV e x=bV e' x):nw P o e H=nw P o e' H:=by
 unfold nw
 cases ho:o.op<;>try rfl
 rename_i c;rw[ho] at h;obtain⟨callee,args,C1⟩:=c
 cases callee<;>try rfl
 rename_i bi
 cases bi<;>try rfl
 have h2:args.toList.map (bV e)=args.toList.map (bV e'):=aib λx hx=>h x (by simp only[Op.operands,Call.operands];exact ajr.2 (.inr (aiZ.1 hx)));simp only[h2]
def jy (C:Cx)(o:Oper)(e:Env)(H:List aA)(T:au)(κ:AV->List aA->au->Prop):Prop:=
 if nw C.P o e H=true then κ (.sl 0 [] .full) H T else
 match lE C.P C.bx o e H with
 |some _=>gZ C o e H T κ
 |none=>match sV o e with
  |some _=>gZ C o e H T κ
  |none=>match hZ o e with
   |some _=>False
   |none=>match Nn C.P o e H T with
    |some (v,H',T')=>κ v H' T'
    |none=>False
def Gb {C:Cx}{o:Oper}{e e':Env}{H:List aA}{T:au}{κ:AV->List aA->au->Prop}(h:∀x∈o.op.operands,bV e x=bV e' x)(k:jy C o e H T κ):jy C o e' H T κ:=by
 have hm:gZ C o e H T κ->gZ C o e' H T κ:=vM h;unfold jy at k ⊢;rw[<-Ge h,<-vU h,<-yM h,<-rU h,<-Bh H T h]
 split
 ·rename_i h1;rw[ahF h1] at k;exact k
 ·rename_i h1;rw[ahC h1] at k
  split
  ·rename_i h2;rw[h2] at k;exact hm k
  ·rename_i h2;rw[h2] at k
   dsimp only at k
   split
   ·rename_i h3;rw[h3] at k;exact hm k
   ·rename_i h3;rw[h3] at k;exact k
def QH {C:Cx}{o:Oper}{e:Env}{H:List aA}{T:au}{κ:AV->List aA->au->Prop}(k:jy C o e H T κ){L:Lay}{w:World}{a:Act}(hc:cz L H T w)(he:fu L H.length T w e a){K:Act->World->Prop}{Q:Exit->Act->World->Prop}
  (hk:∀v H' T' cv w' L',κ v H' T'->cz L' H' T' w'->bt L' H'.length T' w' v cv->Ev H.length T.length L H.length T w L' H'.length T' w'->K (a.put o.dst cv) w'):o.wp C.P a w K Q:=by
 unfold jy at k
 split at k
 ·rename_i hz;obtain⟨cv,dj,dO⟩:=AE hz hc he;unfold Oper.wp;rw[dj];exact hk _ _ _ _ _ _ k hc dO (Ev.refl (ahv _) (ahv _))
 ·split at k
  ·exact xV k hc he hk
  ·split at k
   ·exact xV k hc he hk
   ·split at k
    ·exact k.elim
    ·rename_i jJ
     split at k
     ·rename_i v H' T' mh;exact tX (v:=v) (H':=H') (T':=T') (by unfold dT;rw[jJ];exact mh) hc he λcv w' L' g1 g2 g3=>hk _ _ _ _ _ _ k g1 g2 g3
     ·exact k.elim
def Dg (P:Program)(H:List aA)(T:au):List cg->Prop
 |[]=>True
 |x::r=>dT P x.o x.e H T x.v H T/\Dg P H T r
def light (C:Cx)(ch:List Nat)(H:List aA)(T:au)(κ:List cg->Env->Prop):List Oper->Nat->List cg->Env->Prop
 |[],_,R,e=>κ R e
 |o::r,i,R,e=>if ch.contains i=true then light C ch H T κ r (i+1) R e else
  match hZ o e with
  |some _=>False
  |none=>match Nn C.P o e H T with
   |some (v,H',T')=>H'=H/\T'=T/\xa C.nt o.dst v e (light C ch H T κ r (i+1) (R++[⟨o,e,true,v,i,false⟩]))
   |none=>False
def XY (C:Cx)(K:St->Prop)(R:List cg):List Oper->Env->List aA->au->Prop
 |[],e,H,T=>K ⟨e,H,T⟩
 |o::r,e,H,T=>jy C o e H T (λv H' T'=>Dg C.P H' T' R/\xa C.nt o.dst v e (λe'=>XY C K R r e' H' T'))
def IW (C:Cx)(K:St->Prop)(ch:List Nat)(ops:List Oper)(H:List aA)(T:au)(e:Env):Prop:=
 light C ch H T (λR e'=>XY C K R (ch.map λi=>ops.getD i default) e' H T) ops 0 [] e
def Sv (ops:List Oper)(ch:List Nat):Bool:=
 iv ops ch [] (ch.map λ_=>List.range ops.length)&&jv ch&&((List.range ops.length).all λi=>ch.contains i||ch.all λc=>!nR (fD ops []) c i)&&ops.all λo=>o.guard.isNone
structure LOk (C:Cx)(ch:List Nat)(ops:List Oper)(H:List aA)(T:au)(e0:Env)(n:Nat)(R:List cg):Prop where
 aR:∀(j:Nat)(x:cg),R[j]?=some x->ops[x.k]?=some x.o/\x.k<n/\ch.contains x.k=false/\x.e=aY e0 (R.take j)/\dT C.P x.o x.e H T x.v H T/\(∀d,x.o.dst=some d->d<C.nt)
 all:∀i,i<n->ch.contains i=false->∃x∈R,x.k=i
 ord:R.Pairwise λx y=>x.k<y.k
theorem H4 {C:Cx}{ch:List Nat}{ops:List Oper}{H:List aA}{T:au}{e0:Env}{κ:List cg->Env->Prop}:∀(l:List Oper)(n:Nat)(R:List cg),ops.drop n=l->n<=ops.length->LOk C ch ops H T e0 n R->light C ch H T κ l n R (aY e0 R)->
  ∃R',LOk C ch ops H T e0 ops.length R'/\κ R' (aY e0 R'):=by
 intro l
 induction l with
 |nil=>
  intro n R hl hn hR h;have:n=ops.length:=by have:=congrArg List.length hl;simp at this;omega
  subst this;exact⟨R,hR,h⟩
 |cons o r ih=>
  intro n R hl hn hR h;have bp:n<ops.length:=by
   rcases ahD n ops.length with h1|h1
   ·exact h1
   ·rw[List.drop_eq_nil_of_le h1] at hl;cases hl
  have ho:ops[n]?=some o:=by
   have:=congrArg (λl=>l[0]?) hl;simpa using this
  have hr:ops.drop (n+1)=r:=by
   rw[<-List.tail_drop,hl];rfl
  rw[light] at h
  split at h
  ·rename_i hc;exact ih (n+1) R hr zO ⟨λj x hx=>by obtain⟨a1,a2,a3⟩:=hR.aR j x hx;exact⟨a1,zO,a3⟩,λi hi uk=>by
    rcases ahD i n with h1|h1
    ·exact hR.all i h1 uk
    ·have:i=n:=zO;subst this;rw[hc] at uk;exact absurd uk zS,hR.ord⟩ h
  ·rename_i hc
   split at h
   ·exact h.elim
   ·rename_i jJ
    split at h
    ·rename_i v H' T' mh;obtain⟨rfl,rfl,h⟩:=h;obtain⟨hd,h⟩:=qQ h;have hc:ch.contains n=false:=by simpa using hc
     refine ih (n+1) (R++[⟨o,aY e0 R,true,v,n,false⟩]) hr zO ⟨λj x hx=>?_,λi hi uk=>?_,?_⟩ (by rw[ja];exact h)
     ·rcases ahD j R.length with h1|h1
      ·rw[ahB h1] at hx;obtain⟨a1,a2,a3,a4,a5⟩:=hR.aR j x hx;refine⟨a1,zO,a3,?_,a5⟩;rw[aiF zO];exact a4
      ·rw[ahP h1] at hx;have hj:j=R.length:=by
        rcases ahD (j-R.length) 1 with h2|h2
        ·omega
        ·rw[aiU (zU h2)] at hx;cases hx
       subst hj;simp at hx;subst hx;refine⟨ho,by show n<n+1;omega,hc,?_,?_,hd⟩
       ·rw[aiy rfl]
       ·show dT _ _ _ _ _ _ _ _;unfold dT;dsimp only;rw[jJ];exact mh
     ·rcases ahD i n with h1|h1
      ·obtain⟨x,hx,e1⟩:=hR.all i h1 uk;exact⟨x,ahR _ hx,e1⟩
      ·have:i=n:=zO;subst this;exact⟨_,ajo _ (aic.2 rfl),rfl⟩
     ·rw[ajg];refine⟨hR.ord,List.pairwise_singleton _ _,λx hx y hy=>?_⟩;rw[aic] at hy;subst hy;obtain⟨j,hj,e1⟩:=ahN.1 hx;exact(hR.aR j x (by rw[ahu hj,e1])).2.1
    ·exact h.elim
theorem Pg {P:Program}{H:List aA}{T:au}:∀{R:List cg},Dg P H T R->∀x∈R,dT P x.o x.e H T x.v H T:=by
 intro R
 induction R with
 |nil=>intro _ x hx;simp at hx
 |cons y r ih=>
  intro h x hx;rcases ah4.1 hx with rfl|hx
  ·exact h.1
  ·exact ih h.2 x hx
theorem SZ {P:Program}{H:List aA}{T:au}:∀{R:List cg},(∀x∈R,dT P x.o x.e H T x.v H T)->Dg P H T R:=by
 intro R
 induction R with
 |nil=>intro _;trivial
 |cons y r ih=>intro h;exact⟨h y zS,ih λx hx=>h x (by simp[hx])⟩
def Ck {e0:Env}{R:List cg}{t:Nat}{x:cg}(hx:x∈R)(hd:x.o.dst=some t)(hn:R.Pairwise λx y=>x.k≠y.k)(hu:∀y∈R,y.o.dst=some t->y.k=x.k):bO (aY e0 R) t=x.v:=by
 obtain⟨j,hj,e1⟩:=ahN.1 hx;refine fc R e0 t j x (by rw[ahu hj,e1]) hd λi y hy zI=>?_;obtain⟨hi,e2⟩:=aht.1 hy;have hk:y.k=x.k:=hu y (by rw[<-e2];exact ah2 hi) zI;rcases ai7 i j with h1|h1|h1
 ·have:=ah6.1 hn i j hi hj h1;rw[e2,e1] at this;exact absurd hk this
 ·exact h1
 ·have:=ah6.1 hn j i hj hi h1;rw[e2,e1] at this;exact absurd hk.symm this
def VC (R:List cg)(ay:Array Bool)(e0:Env)(t:Nat)(v:AV):Prop:=
 (∃x∈R,x.o.dst=some t/\ay.getD x.k false=true/\v=x.v)\/((∀x∈R,x.o.dst=some t->ay.getD x.k false=false)/\v=bO e0 t)
structure SE (C:Cx)(K:St->Prop)(ch:List Nat)(ops:List Oper)(R0:List cg)(s:St)(L0:Lay)(w0:World)(ay:Array Bool)(a:Act)(w:World):Prop where
 size:ay.size=ops.length
 closed:∀i j,ay.getD i false=true->nR (fD ops []) j i=true->ay.getD j false=true
 st:∃(k:Nat) (Rc:List cg) (H:List aA) (T:au) (L:Lay),(∀(m i:Nat),ch[m]?=some i->(ay.getD i false=true↔m<k))/\k<=ch.length/\Rc.length=k/\
  (∀(m:Nat)(x:cg),Rc[m]?=some x->ch[m]?=some x.k/\ops[x.k]?=some x.o/\(∀d,x.o.dst=some d->d<C.nt))/\Dg C.P H T R0/\
  XY C K R0 ((ch.drop k).map λi=>ops.getD i default) (aY s.e (R0++Rc)) H T/\cz L H T w/\C.nb<=H.length/\C.tb<=T.length/\
  (∀t,∃v,VC (R0++Rc) ay s.e t v/\bt L H.length T w v (a.tmps.getD t undef))/\Ev C.nb C.tb L0 s.H.length s.T w0 L H.length T w
 tmps:a.tmps.size=C.nt
 defers:a.defers=[]
theorem Iv {C:Cx}{ops:List Oper}{Q:Exit->St->Prop}{s:St}(K:St->Prop)(ch:List Nat)(kz:Sv ops ch=true)
  (h:IW C K ch ops s.H s.T (prune C.nv s.e)):∀L0 w0 a0,eQ C s L0 w0 a0->
   wpAny C.P .any ops.toArray (cN C (dK K Q) L0 s w0) ops.toArray.size (Array.replicate ops.toArray.size false) a0 { w0 with drawn:=w0.drawn+1 }:=by
 intro L0 w0 a0 mZ;have hc:eQ C ⟨prune C.nv s.e,s.H,s.T⟩ L0 w0 a0:=⟨mZ.nb,mZ.tb,mZ.nD,mZ.size,mZ.defers,λt=>by
  rcases mT C.nv s.e t with e|e<;>rw[e]
  ·exact mZ.env t
  ·exact .top _⟩
 generalize vp:(⟨prune C.nv s.e,s.H,s.T⟩:St)=s' at hc;have CQ:prune C.nv s.e=s'.e:=by rw[<-vp]
 have Bp:s.H=s'.H:=by rw[<-vp]
 have Gv:s.T=s'.T:=by rw[<-vp]
 rw[CQ,Bp,Gv] at h;rw[show cN C (dK K Q) L0 s w0=cN C (dK K Q) L0 s' w0 by unfold cN;rw[Bp,Gv]];clear vp CQ Bp Gv mZ;unfold Sv at kz;simp only[ahG] at kz;obtain⟨⟨⟨Rl,pe⟩,hlc⟩,hgd⟩:=kz;obtain⟨d1,d2,d3,_,_,d6,d7⟩:=kV Rl;have OS:∀i c,i<ops.length->ch.contains i=false->c∈ch->nR (fD ops []) c i=false:=by
  intro i c hi hn hcc;have:=ah3.1 hlc i (ahV.2 hi);rw[hn,aiY] at this;simpa using ah3.1 this c hcc
 have uE:∀(i:Nat)(o:Oper),ops[i]?=some o->o.guard=none:=λi o ho=>by
  have:=ah3.1 hgd o (aiN ho);simpa using this
 obtain⟨R0,hR,Gy⟩:=H4 (C:=C) (ch:=ch) (ops:=ops) (H:=s'.H) (T:=s'.T) (e0:=s'.e) ops 0 [] rfl (ahE _) ⟨λj x hx=>by simp at hx,λi hi=>by omega,List.Pairwise.nil⟩ h;have Kr:∀x∈R0,∃j,R0[j]?=some x:=λx hx=>by
  obtain⟨j,hj,e1⟩:=ahN.1 hx;exact⟨j,by rw[ahu hj,e1]⟩
 have ZC:∀(m m' c:Nat),ch[m]?=some c->ch[m']?=some c->m=m':=by
  intro m m' c h1 h2;have key:∀m,ch[m]?=some c->m=(ch.filter (·<c)).length:=by
   intro m hm;have jU:=(aht.1 hm).1;have:=ah3.1 pe m (ahV.2 jU);simp only[ahG,ajl,ahs,hm,ai5] at this;exact this.1.symm
  rw[key m h1,key m' h2]
 have Zo:∀(Rc:List cg),(∀(m:Nat)(x:cg),Rc[m]?=some x->ch[m]?=some x.k/\ops[x.k]?=some x.o/\(∀d,x.o.dst=some d->d<C.nt))->(R0++Rc).Pairwise λx y=>x.k≠y.k:=by
  intro Rc w6;rw[ajg];refine⟨hR.ord.imp λh=>by omega,?_,λx hx y hy=>?_⟩
  ·rw[ah6];intro i j hi hj jV e;have h1:=(w6 i _ (ahu hi)).1;have h2:=(w6 j _ (ahu hj)).1;rw[e] at h1;have:=ZC _ _ _ h1 h2;omega
  ·obtain⟨j,hj⟩:=Kr x hx;obtain⟨m,hm,e1⟩:=ahN.1 hy;have h1:=(hR.aR j x hj).2.2.1;have h2:=aiN (w6 m y (by rw[ahu hm,e1])).1;intro e;rw[e] at h1;rw[<-contains_iff_mem] at h2;rw[h2] at h1;cases h1
 have nX:∀(Rc:List cg),(∀(m:Nat)(x:cg),Rc[m]?=some x->ch[m]?=some x.k/\ops[x.k]?=some x.o/\(∀d,x.o.dst=some d->d<C.nt))->∀x∈R0++Rc,ops[x.k]?=some x.o/\(∀d,x.o.dst=some d->d<C.nt):=by
  intro Rc w6 x hx;rcases ahI.1 hx with hx|hx
  ·obtain⟨j,hj⟩:=Kr x hx;obtain⟨a1,_,_,_,_,a6⟩:=hR.aR j x hj;exact⟨a1,a6⟩
  ·obtain⟨m,hm,e1⟩:=ahN.1 hx;exact(w6 m x (by rw[ahu hm,e1])).2
 have done:∀(ay:Array Bool)(a:Act)(w:World),SE C K ch ops R0 s' L0 w0 ay a w->(∀i,i<ops.length->ay.getD i false=true)->cN C (dK K Q) L0 s' w0 .normal a w:=by
  intro ay a w hI fC;obtain⟨k,Rc,H,T,L,hk,gy,Sl,w6,Oc,Ag,cY,gL,fZ,gR,dI⟩:=hI.st;have pD:k=ch.length:=by
   rcases ahD k ch.length with bp|oG
   ·have:=(hk k _ (ahu bp)).1 (fC _ (d3 k _ (ahu bp)).1);omega
   ·omega
  rw[pD,aiB] at Ag;refine⟨⟨aY s'.e (R0++Rc),H,T⟩,L,Ag,⟨gL,fZ,cY,hI.tmps,hI.defers,λt=>?_⟩,dI⟩;obtain⟨v,hv,hr⟩:=gR t;show bt L H.length T w (bO (aY s'.e (R0++Rc)) t) _;rcases hv with⟨x,hx,hd,hl,rfl⟩|⟨nQ,rfl⟩
  ·rw[Ck hx hd (Zo Rc w6) (λy hy zI=>d1 y.k x.k y.o x.o t (nX Rc w6 y hy).1 (nX Rc w6 x hx).1 zI hd)];exact hr
  ·rw[cR (R0++Rc) s'.e t (λx hx hd=>by
    have h1:=nQ x hx hd;have h2:=fC x.k (aht.1 (nX Rc w6 x hx).1).1;rw[h1] at h2;cases h2)]
   exact hr
 have stp:∀(ay:Array Bool)(a:Act)(w:World)(i:Nat)(KK:Act->World->Prop),SE C K ch ops R0 s' L0 w0 ay a w->i∈Region.ready .any ops.toArray ay->
   (∀a' w',SE C K ch ops R0 s' L0 w0 (ay.setIfInBounds i true) a' w'->KK a' w')->wpOp C.P ops.toArray (cN C (dK K Q) L0 s' w0) i KK a w:=by
  intro ay a w i KK hI hi Wx;obtain⟨RK,o,ho,sn⟩:=mem_ready.1 hi;rw[ahQ] at ho;have eM:i<ops.length:=(aht.1 ho).1;have pN:i<ay.size:=by rw[hI.size];omega
  have zg:ay.getD i false=false:=by rw[<-cX pN];exact RK
  have gg:=hI.closed;have lu:∀j,nR (fD ops []) j i=true->ay.getD j false=true:=λj hj=>jq gg ho sn (d6 i o ho) hj;obtain⟨k,Rc,H,T,L,hk,gy,Sl,w6,Oc,Ag,cY,gL,fZ,gR,dI⟩:=hI.st;have XP:=uE i o ho;have th:Region.wanted o (yielded ops.toArray a.tmps)=true:=by unfold Region.wanted;rw[XP]
  have dj:∀(ex:Env),(∀t∈o.looksAt ops.toArray,∀v,VC (R0++Rc) ay s'.e t v->v=bO ex t)->
    fu L H.length T w (oM ex (o.looksAt ops.toArray)) a/\∀z∈o.op.operands,bV ex z=bV (oM ex (o.looksAt ops.toArray)) z:=by
   intro ex eI;refine⟨λt=>?_,λz hz=>?_⟩
   ·rw[iE]
    split
    ·rename_i ht;obtain⟨v,hv,hr⟩:=gR t;rw[<-eI t ht v hv];exact hr
    ·exact .top _
   ·cases z with
    |tmp t=>
     have:t∈o.looksAt ops.toArray:=by
      unfold Oper.looksAt;exact ahI.2 (.inl (List.mem_filterMap.2 ⟨_,aiZ.2 hz,rfl⟩))
     simp only[bV,iE,ahF this]
    |_=>rfl
  have behind:∀(x:cg)(H':List aA)(T':au)(cv:Value)(w':World)(L':Lay)(k':Nat)(UI:List cg),x.k=i->x.o=o->(∀d,o.dst=some d->d<C.nt)->x∈R0++UI->(∀y∈R0++UI,y=x\/y∈R0++Rc)->(∀y∈R0++Rc,y∈R0++UI)->
    (∀(m j:Nat),ch[m]?=some j->((ay.setIfInBounds i true).getD j false=true↔m<k'))->k'<=ch.length->UI.length=k'->
    (∀(m:Nat)(x:cg),UI[m]?=some x->ch[m]?=some x.k/\ops[x.k]?=some x.o/\(∀d,x.o.dst=some d->d<C.nt))->Dg C.P H' T' R0->
    XY C K R0 ((ch.drop k').map λi=>ops.getD i default) (aY s'.e (R0++UI)) H' T'->
    cz L' H' T' w'->bt L' H'.length T' w' x.v cv->Ev H.length T.length L H.length T w L' H'.length T' w'->KK (a.put o.dst cv) w':=by
   intro x H' T' cv w' L' k' UI C5 hxo mo Yo DN afj nV aff aay afz W6 W8 vB mA oJ;refine Wx _ _ ⟨by simp[hI.size],λi' j' jY ly=>?_,⟨k',UI,H',T',L',nV,aff,aay,afz,W6,W8,vB,ahA gL oJ.n,ahA fZ oJ.t,λt=>?_,dI.trans (oJ.mono gL fZ)⟩,?_,by cases o.dst<;>exact hI.defers⟩
   ·by_cases Bt:i=i'
    ·subst Bt;have:=lu j' ly
     by_cases jV:i=j'
     ·subst jV;rw[zg] at this;cases this
     ·rw[getD_set_ne false jV];exact this
    ·rw[getD_set_ne false Bt] at jY;have:=gg i' j' jY ly;exact getD_set_true this
   ·by_cases hd:o.dst=some t
    ·refine⟨x.v,.inl ⟨x,Yo,by rw[hxo];exact hd,by rw[C5];simp[pN],rfl⟩,?_⟩;have bp:t<a.tmps.size:=by rw[hI.tmps];exact mo t hd
     rw[hd,jR a t t cv bp,ahF rfl];exact mA
    ·obtain⟨v,hv,hr⟩:=gR t;refine⟨v,?_,?_⟩
     ·rcases hv with⟨z,hz,Bn,hl,rfl⟩|⟨nQ,rfl⟩
      ·exact .inl ⟨z,afj z hz,Bn,getD_set_true hl,rfl⟩
      ·refine .inr ⟨λz hz Bn=>?_,rfl⟩;rcases DN z hz with rfl|JU
       ·rw[hxo] at Bn;exact absurd Bn hd
       ·have jV:i≠z.k:=by
         intro e;have h1:=(nX Rc w6 z JU).1;rw[<-e,ho] at h1
         injection h1 with h1
         rw[<-h1] at Bn;exact hd Bn
        rw[getD_set_ne false jV];exact nQ z JU Bn
     ·have e1:(a.put o.dst cv).tmps.getD t undef=a.tmps.getD t undef:=by
       cases UZ:o.dst with
       |none=>rfl
       |some d=>
        have bp:d<a.tmps.size:=by rw[hI.tmps];exact mo d UZ
        rw[jR a d t cv bp,ahC (λe=>hd (by rw[UZ,e]))]
      rw[e1];exact hr.keep oJ.keeps
   ·simp[Act.put];cases o.dst<;>simp[hI.tmps]
  unfold wpOp;rw[ahQ,ho]
  dsimp only
  rw[ahF th];refine .inl ?_
  cases YI:ch.contains i with
  |false=>
   obtain⟨x,Yo,C5⟩:=hR.all i eM YI;obtain⟨j,hj⟩:=Kr x Yo;obtain⟨a1,a2,a3,a4,a5,a6⟩:=hR.aR j x hj;have Ny:x.o=o:=by rw[C5,ho] at a1;injection a1 with a1;exact a1.symm
   have eI:∀t∈o.looksAt ops.toArray,∀v,VC (R0++Rc) ay s'.e t v->v=bO x.e t:=by
    intro t ht v hv;rw[a4];have Q7:∀z∈R0++Rc,z.o.dst=some t->i≠z.k/\((z.k<i/\nR (fD ops []) z.k i=true)\/(i<z.k/\nR (fD ops []) i z.k=true)):=λz hz hd=>d2 i z.k o z.o t ho (nX Rc w6 z hz).1 ht hd;rcases hv with⟨z,hz,hd,hl,rfl⟩|⟨nQ,rfl⟩
    ·obtain⟨dM,h1|h1⟩:=Q7 z hz hd
     ·have yY:z∈R0:=by
       rcases ahI.1 hz with hz|hz
       ·exact hz
       ·exfalso;obtain⟨m,hm,e1⟩:=ahN.1 hz;have h2:=aiN (w6 m z (by rw[ahu hm,e1])).1;rw[OS i z.k eM YI h2] at h1
        cases h1.2
      obtain⟨j',bU⟩:=Kr z yY;have bp:j'<j:=by
       obtain⟨b1,b2⟩:=aht.1 hj;obtain⟨c1,c2⟩:=aht.1 bU;rcases ai7 j' j with h3|h3|h3
       ·exact h3
       ·subst h3;rw[hj] at bU;injection bU with bU
        rw[<-bU,C5] at h1;omega
       ·have:=ah6.1 hR.ord j j' b1 c1 h3;rw[b2,c2,C5] at this;omega
      have hzt:z∈R0.take j:=aiN (i:=j') (by rw[aim,ahF bp];exact bU);rw[Ck hzt hd ((hR.ord.imp λh=>by omega).sublist (List.take_sublist _ _)) (λy hy zI=>d1 y.k z.k y.o z.o t (nX Rc w6 y (ahR _ (ajt hy))).1 (nX Rc w6 z hz).1 zI hd)]
     ·have:=gg z.k i hl h1.2;rw[zg] at this;cases this
    ·rw[cR (R0.take j) s'.e t (λz hz hd=>by
      have yY:=ajt hz;have hf:=nQ z (ahR _ yY) hd;obtain⟨j',bU,e1⟩:=ahN.1 hz;simp at bU;obtain⟨dM,h1|h1⟩:=Q7 z (ahR _ yY) hd
      ·have:=lu z.k h1.2;rw[hf] at this;cases this
      ·obtain⟨b1,b2⟩:=aht.1 hj;have:=ah6.1 hR.ord j' j zO b1 zO;rw[ajK] at e1;rw[b2,e1,C5] at this;omega)]
   obtain⟨uy,GU⟩:=dj x.e eI;have hex:=Pg Oc x Yo;rw[Ny] at hex;refine tX (vS GU hex) cY uy λcv w' L' g1 g2 g3=>behind x H T cv w' L' k Rc C5 Ny (by rw[<-Ny];exact a6) (ahR _ Yo) (λy hy=>.inr hy) (λy hy=>hy) (λm j' hm=>?_) gy Sl w6 Oc Ag g1 g2 g3;have jV:i≠j':=by
    rintro rfl;have:=aiN hm;rw[<-contains_iff_mem] at this;rw[YI] at this;cases this
   rw[getD_set_ne false jV];exact hk m j' hm
  |true=>
   obtain⟨e1,_⟩:=o3 pe YI;have VN:ch[k]?=some i:=by
    have oG:k<=(ch.filter (·<i)).length:=by
     rcases ahD (ch.filter (·<i)).length k with h1|h1
     ·have:=(hk _ i e1).2 h1;rw[zg] at this;cases this
     ·exact h1
    have hle:(ch.filter (·<i)).length<=k:=by
     rcases ah0 (ch.filter (·<i)).length with h0|h0
     ·omega
     ·obtain⟨e',h1,h2⟩:=(d3 _ i e1).2 h0;have:=(hk _ e' h1).1 (lu e' h2);omega
    rw[show k=(ch.filter (·<i)).length by omega];exact e1
   have afe:=(aht.1 VN).1;have rN:(ch.drop k).map (λi=>ops.getD i default)=o::(ch.drop (k+1)).map (λi=>ops.getD i default):=by
    rw[aiW afe,aih]
    congr 1
    rw[(aht.1 VN).2,ahs,ho];rfl
   rw[rN,XY] at Ag;have eI:∀t∈o.looksAt ops.toArray,∀v,VC (R0++Rc) ay s'.e t v->v=bO (aY s'.e (R0++Rc)) t:=by
    intro t ht v hv;have Q7:∀z∈R0++Rc,z.o.dst=some t->i≠z.k/\((z.k<i/\nR (fD ops []) z.k i=true)\/(i<z.k/\nR (fD ops []) i z.k=true)):=λz hz hd=>d2 i z.k o z.o t ho (nX Rc w6 z hz).1 ht hd;rcases hv with⟨z,hz,hd,hl,rfl⟩|⟨nQ,rfl⟩
    ·rw[Ck hz hd (Zo Rc w6) (λy hy zI=>d1 y.k z.k y.o z.o t (nX Rc w6 y hy).1 (nX Rc w6 z hz).1 zI hd)]
    ·rw[cR (R0++Rc) s'.e t (λz hz hd=>by
      have hf:=nQ z hz hd;obtain⟨dM,h1|h1⟩:=Q7 z hz hd
      ·have:=lu z.k h1.2;rw[hf] at this;cases this
      ·rcases ahI.1 hz with yY|hzc
       ·obtain⟨j,hj⟩:=Kr z yY;obtain⟨b1,_,b3,_⟩:=hR.aR j z hj;have:=OS z.k i (aht.1 b1).1 b3 (ajd.1 YI);rw[this] at h1;cases h1.2
       ·obtain⟨m,hm,e2⟩:=ahN.1 hzc;have h2:=(w6 m z (by rw[ahu hm,e2])).1;have:=(hk m z.k h2).2 zO;rw[hf] at this;cases this)]
   obtain⟨uy,GU⟩:=dj _ eI;refine QH (Gb GU Ag) cY uy λv H' T' cv w' L' hκ g1 g2 g3=>?_;obtain⟨Wi,jk⟩:=hκ;obtain⟨mo,jk⟩:=qQ jk;refine behind ⟨o,aY s'.e (R0++Rc),true,v,i,true⟩ H' T' cv w' L' (k+1) (Rc++[⟨o,aY s'.e (R0++Rc),true,v,i,true⟩]) rfl rfl mo zS (λy hy=>?_) (λy hy=>?_) (λm j hm=>?_) zO (by simp[Sl]) (λm x hx=>?_) Wi ?_ g1 g2 g3
   ·rw[<-append_assoc] at hy;rcases ahI.1 hy with hy|hy
    ·exact .inr hy
    ·exact .inl (aic.1 hy)
   ·rw[<-append_assoc];exact ahR _ hy
   ·by_cases jV:i=j
    ·subst jV;have:=ZC _ _ _ hm VN;simp[pN];omega
    ·rw[getD_set_ne false jV,hk m j hm]
     constructor
     ·intro h;omega
     ·intro h;rcases ahD m k with h1|h1
      ·exact h1
      ·have:m=k:=zO;subst this;rw[VN] at hm
       injection hm with hm
       exact absurd hm jV
   ·rcases ahD m Rc.length with h1|h1
    ·rw[ahB h1] at hx;exact w6 m x hx
    ·rw[ahP h1] at hx;have hm:m=Rc.length:=by
      rcases ahD (m-Rc.length) 1 with h2|h2
      ·omega
      ·rw[aiU (zU h2)] at hx;cases hx
     subst hm;simp at hx;subst hx;exact⟨by rw[Sl];exact VN,ho,mo⟩
   ·rw[<-append_assoc,ja];exact jk
 have key:=Fo (Q:=cN C (dK K Q) L0 s' w0) (P:=C.P) d6 (SE C K ch ops R0 s' L0 w0) (λ_ _ _ h=>h.size) done (λ_ l a w h i hi _ hk=>stp l a w i _ h hi hk);have gj:ops.toArray.size=ops.length:=zS;rw[gj];refine key ops.length _ a0 _ ⟨zS,λi j hl _=>?_,⟨0,[],s'.H,s'.T,L0,λm i Ux=>?_,ahE _,rfl,λm x hx=>by simp at hx,SZ λx hx=>?_,by simpa using Gy,hc.nD.drew rfl,hc.nb,hc.tb,λt=>?_,?_⟩,hc.size,hc.defers⟩ (.inr ?_)
 ·exfalso
  by_cases hi:i<ops.length<;>simp[hi] at hl
 ·constructor
  ·intro hl;exfalso
   by_cases hi:i<ops.length<;>simp[hi] at hl
  ·intro h;omega
 ·obtain⟨j,hj⟩:=Kr x hx;exact(hR.aR j x hj).2.2.2.2.1
 ·refine⟨bO s'.e t,.inr ⟨λx hx hd=>?_,rfl⟩,?_⟩
  ·by_cases hj:x.k<ops.length<;>simp[hj]
  ·have kd:dh L0 s'.H.length s'.T w0 L0 s'.H.length s'.T { w0 with drawn:=w0.drawn+1 }:=(Ev.drew (H:=s'.H) (T:=s'.T) (L:=L0) (w:=w0) (w':={ w0 with drawn:=w0.drawn+1 }) rfl rfl rfl rfl (air _)).keeps;exact(hc.env t).keep kd
 ·exact(Ev.drew (H:=s'.H) (T:=s'.T) (L:=L0) (w:=w0) (w':={ w0 with drawn:=w0.drawn+1 }) rfl rfl rfl rfl (air _)).mono hc.nb hc.tb
 ·refine ahA (List.countP_le_length) ?_;simp
def M0 {C:Cx}{id:Nat}{ops:List Oper}{Q:Exit->St->Prop}{s:St}(K:St->Prop)(ch:List Nat)(hm:C.P.follows .mixedOrders=true)(kz:Sv ops ch=true)
  (h:IW C K ch ops s.H s.T (prune C.nv s.e)):AW C (.region id ops.toArray true) (dK K Q) s:=
 λL0 w0 a0 mZ=>wp_region_any hm (Iv K ch kz h L0 w0 a0 mZ)
def vh {C:Cx}{id:Nat}{ops:List Oper}{Q:Exit->St->Prop}{s:St}(ch:List Nat)(hm:C.P.follows .mixedOrders=true)(kz:Sv ops ch=true)
  (h:∀K:St->Prop,(∀s,Q .normal s->K s)->IW C K ch ops s.H s.T (prune C.nv s.e)):AW C (.region id ops.toArray true) Q s:=
 (M0 (Q:=Q) (λs=>Q .normal s) ch hm kz (h _ λ_ h=>h)).mono λe s q=>by cases e<;>exact q
def yC {C:Cx}{o:Oper}{e:Env}{H:List aA}{T:au}{κ κ':AV->List aA->au->Prop}(h:∀v J U,κ v J U->κ' v J U)(k:gZ C o e H T κ):gZ C o e H T κ':=by
 unfold gZ at k ⊢
 split at k
 ·exact λnc lY=>h _ _ _ (k nc lY)
 ·split at k
  ·obtain⟨el,vs,xs,m,a1,a2,a3,a4,a5,a6,a7,a8,k1,k2⟩:=k;exact⟨el,vs,xs,m,a1,a2,a3,a4,a5,a6,a7,a8,λx=>h _ _ _ (k1 x),λnc x y=>h _ _ _ (k2 nc x y)⟩
  ·exact k.elim
def Iw {C:Cx}{o:Oper}{e:Env}{H:List aA}{T:au}{κ κ':AV->List aA->au->Prop}(h:∀v J U,κ v J U->κ' v J U)(k:jy C o e H T κ):jy C o e H T κ':=by
 unfold jy at k ⊢
 split at k
 ·rename_i h1;rw[ahF h1];exact h _ _ _ k
 ·rename_i h1;rw[ahC h1]
  split at k
  ·exact yC h k
  ·split at k
   ·exact yC h k
   ·split at k
    ·exact k.elim
    ·split at k
     ·exact h _ _ _ k
     ·exact k.elim
def Dr (C:Cx)(K:St->Prop)(P:List aA->au->Prop):List Oper->Env->List aA->au->Prop
 |[],e,H,T=>K ⟨e,H,T⟩
 |o::r,e,H,T=>jy C o e H T (λv H' T'=>P H' T'/\xa C.nt o.dst v e (λe'=>Dr C K P r e' H' T'))
theorem LH {nt:Nat}{dst:Option Tmp}{v:AV}{e:Env}{k k':Env->Prop}(h:∀e,k e->k' e)(x:xa nt dst v e k):xa nt dst v e k':=by
 cases dst with
 |none=>exact h _ x
 |some d=>exact⟨x.1,h _ x.2⟩
theorem BO {C:Cx}{K:St->Prop}{R:List cg}(P:List aA->au->Prop)(h1:∀J U,P J U->Dg C.P J U R):∀{l:List Oper} {e:Env} {H:List aA} {T:au},Dr C K P l e H T->XY C K R l e H T
 |[],_,_,_,h=>h
 |o::r,e,H,T,h=>Iw (λv J U ⟨a,b⟩=>⟨h1 J U a,LH (λe' x=>BO P h1 x) b⟩) h
def QG {C:Cx}{K:St->Prop}{P:List aA->au->Prop}{e:Env}{H:List aA}{T:au}:Dr C K P [] e H T=K ⟨e,H,T⟩:=rfl
def mf {C:Cx}{K:St->Prop}{P:List aA->au->Prop}{o:Oper}{r:List Oper}{e:Env}{H:List aA}{T:au}:Dr C K P (o::r) e H T=jy C o e H T (λv H' T'=>P H' T'/\xa C.nt o.dst v e (λe'=>Dr C K P r e' H' T')):=rfl
def mc {nt d:Nat}{v:AV}{e:Env}{k:Env->Prop}(h:d<nt)(x:k (mr e d v)):xa nt (some d) v e k:=⟨h,x⟩
def T9 {C:Cx}{o:Oper}{e:Env}{H:List aA}{T:au}{κ:AV->List aA->au->Prop}(hz:nw C.P o e H=true)(k:κ (.sl 0 [] .full) H T):jy C o e H T κ:=by
 unfold jy;rw[ahF hz];exact k
def yF {C:Cx}{o:Oper}{e:Env}{H:List aA}{T:au}{κ:AV->List aA->au->Prop}{m z:Nat}{ys:List AV}(hz:nw C.P o e H=false)(h0:lE C.P C.bx o e H=some (m,ys,z))
  (k:∀nc,m<=nc->κ (.bQ H.length m nc) (H++[.cells (ys++List.replicate ((nc-m)*z) .top)]) T):jy C o e H T κ:=by
 unfold jy;rw[ahC (by rw[hz];simp),h0]
 dsimp only
 unfold gZ;rw[h0];exact k
def QI {C:Cx}{o:Oper}{e:Env}{H H':List aA}{T T':au}{κ:AV->List aA->au->Prop}{v:AV}(hz:nw C.P o e H=false)(h0:lE C.P C.bx o e H=none)(hc:sV o e=none)(hl:hZ o e=none)(ho:Nn C.P o e H T=some (v,H',T'))(k:κ v H' T'):jy C o e H T κ:=by
 unfold jy;rw[ahC (by rw[hz];simp),h0,hc,hl,ho];exact k
def Bd {C:Cx}{o:Oper}{e:Env}{H:List aA}{T:au}{κ:AV->List aA->au->Prop}{t t2:TypeId}{i n cap:Nat}{x:AV}(el:TypeId)(A B xs:List AV)(m:Nat)
  (hz:nw C.P o e H=false) (h0:lE C.P C.bx o e H=none) (hc:sV o e=some (t,t2,i,n,cap,x)) (hu:C.P.underlying t=some (.slice el)) (hH:H[i]?=some (.cells (A++B))) (hA:A.length=n*C.P.cellsOf el) (hl:(A++B).length=cap*C.P.cellsOf el)
  (hs:ic H (C.P.cellsOf el) x=some (m,xs)) (hxs:xs.length=m*C.P.cellsOf el) (rv:(n+m)*C.P.bytesOf el<=140737488355328) (hmx:n+m<=9223372036854775807) (uk:ke C.P t2=true) (rq:(bz C.P el).isSome=true)
  (k:∀(i' lQ:Nat)(B':List AV)(J':List aA),(J'=H.set i (.cells (A++xs++B'))/\i'=i\/J'=H++[.cells (A++xs++B')]/\i'=H.length)->(A++xs++B').length=lQ*C.P.cellsOf el->n+m<=lQ->κ (.bQ i' (n+m) lQ) J' T):jy C o e H T κ:=by
 unfold jy;rw[ahC (by rw[hz];simp),h0,hc]
 dsimp only
 unfold gZ;rw[h0,hc]
 dsimp only
 have gV:(A++B).take (n*C.P.cellsOf el)=A:=by rw[<-hA,aiy rfl]
 refine⟨el,A++B,xs,m,hu,hH,hl,hs,rv,hmx,uk,rq,λhle=>?_,λnc bp lY=>?_⟩
 ·have h1:(n+m)*C.P.cellsOf el<=cap*C.P.cellsOf el:=aiz _ hle;rw[gV];refine k i cap _ _ (.inl ⟨rfl,rfl⟩) ?_ hle;rw[ahw,ahw,aii,hA,hxs,hl];rw[aiM] at h1 ⊢;omega
 ·have h1:(n+m)*C.P.cellsOf el<=nc*C.P.cellsOf el:=aiz _ lY;rw[gV];refine k H.length nc _ _ (.inr ⟨rfl,rfl⟩) ?_ lY;rw[ahw,ahw,aj4,hA,hxs,Nat.sub_mul];rw[aiM] at h1 ⊢;omega
attribute [simp] IW light jy nw Dg
open Go.ChangeShapes Go.WideShapes
def m0 (w:World)(b:Nat):Nat:=match w.heap[b]? with
 |some (.cells c _ _)=>c.size
 |_=>0
def wb (w:World):Lay:=⟨λ_=>0,λ_=>⟨0,0,0⟩,m0 w,true⟩
theorem QJ {w:World}{b o:Nat}{v:Value}(h:w.cell? ⟨b,o,none⟩=some v):o<m0 w b:=by
 unfold World.cell? at h;unfold m0;simp only at h
 cases hb:w.heap[b]? with
 |none=>rw[hb] at h;simp at h
 |some x=>
  rw[hb] at h
  cases x with
  |cells c t fr=>
   simp only at h ⊢;rcases ahD o c.size with g|g
   ·exact g
   ·rw[ai0 g] at h;simp at h
  |_=>simp at h
def ZO (w:World)(hg:∀x∈Ah,∃m,w.cell? ⟨x.1,x.2,none⟩=some (.int .i64 m)):cz (wb w) [] [] w:=by
 refine⟨λi b h=>by simp at h,λi j h=>by simp at h,λt u z h=>by simp at h,λt u z t' u' z' h=>by simp at h,λt u z i h=>by simp at h,λb hb=>?_,λx hx=>by obtain⟨m,hm⟩:=hg x hx;exact⟨QJ hm,m,hm⟩⟩;show m0 w b=0;unfold m0;rw[ai0 hb]
theorem Ua {w:World}{b o:Nat}{v:Value}(h:w.cell? ⟨b,o,none⟩=some v):o<m0 w b:=by
 unfold World.cell? at h;unfold m0;simp only at h
 cases hb:w.heap[b]? with
 |none=>rw[hb] at h;simp at h
 |some x=>
  rw[hb] at h
  cases x with
  |cells c t fr=>
   simp only at h ⊢;rcases ahD o c.size with g|g
   ·exact g
   ·rw[ai0 g] at h;simp at h
  |_=>simp at h
abbrev RC (w:World)(vs:List AV)(c:List Value):Prop:=cS (wb w) 0 [] w vs c
def RC.one {w : World} {a : AV} {v : Value} (h : bt (wb w) 0 [] w a v) (h1 : v.oneCell' = true) : RC w [a] [v] :=
  ⟨rfl, λj hj => by have : j = 0 := by simp at hj; omega
                    subst this; exact h1, λj hj bU => by
    have : j = 0 := by simp at hj; omega
    subst this; exact h⟩
def RC.rep {w:World}{a:AV}{v:Value}(h:RC w [a] [v]):bt (wb w) 0 [] w a v:=h.2.2 0 zS zS
def RC.append {w:World}{a b:List AV}{c d:List Value}(h:RC w a c)(k:RC w b d):RC w (a++b) (c++d):=by
 refine⟨by simp[h.1,k.1],λj hj=>?_,λj hj bU=>?_⟩
 ·rw[ajA]
  split
  ·exact h.2.1 _ _
  ·exact k.2.1 _ _
 ·rw[ajA,ajA]
  by_cases bp:j<a.length
  ·rw[akf bp,akf (by rw[h.1];exact bp)];exact h.2.2 _ _ _
  ·rw[akg bp,akg (by rw[h.1];exact bp)];have:=k.2.2 (j-a.length) (by simp at hj;omega) (by simp at bU;rw[h.1] at bU;omega);simpa[h.1] using this
section
variable {H : Type} {enc : TypeId × Value -> H} {P : Program} {w : World} {base fuel : Nat} {sp : Nat -> Bool} {held : Bool} {t e : TypeId} {cs : List Value} {x : DataW H × List MemPlace}
def pZ {k:IntKind}(ht:P.underlying t=some (.int k))(h:DataW.trod enc P w base sp held fuel t cs=some x):∃n,(Lit.int k n).wf=true/\RC w [.int k n] cs:=by
 obtain⟨n,rfl,_,hw⟩:=DataW.trod_int ht h;exact⟨n,hw,RC.one (.int k n) rfl⟩
def Te (ht:P.underlying t=some .bool)(h:DataW.trod enc P w base sp held fuel t cs=some x):∃b,RC w [.bool b] cs:=by
 obtain⟨b,rfl,_⟩:=DataW.trod_bool ht h;exact⟨b,RC.one (.bool b) rfl⟩
def OE (ht:P.underlying t=some .string)(h:DataW.trod enc P w base sp held fuel t cs=some x):∃s:List UInt8,s.length<=maxLen/\RC w [.str s] cs:=by
 obtain⟨s,rfl,_,hs⟩:=DataW.trod_string ht h;obtain⟨⟨l⟩⟩:=s;refine⟨l,by simpa[ByteArray.size] using hs,RC.one ?_ rfl⟩;exact bt.str l
theorem Qm {α:Type}{c:Nat}(es:List (List α))(hc:∀a∈es,a.length=c)(i j:Nat)(hi:i<es.length)(hj:j<c):es.flatten[i*c+j]?=(es[i]'hi)[j]?:=by
 induction es generalizing i with
 |nil=>simp at hi
 |cons a r ih=>
  have ha:=hc a zS
  cases i with
  |zero=>simp only[Nat.zero_mul,aiH,List.flatten_cons,aix];rw[ahB zO]
  |succ i=>
   simp only[List.flatten_cons,ajx];rw[ahP (by rw[ha,succ_mul];omega)];have:=ih (λb hb=>hc b (by simp[hb])) i (zU hi);rw[<-this]
   congr 1
   rw[ha,succ_mul];omega
theorem iX {α:Type}{c:Nat}(es:List (List α))(hc:∀a∈es,a.length=c):es.flatten.length=es.length*c:=by
 induction es with
 |nil=>simp
 |cons a r ih=>simp[hc a zS,ih (λb hb=>hc b (by simp[hb])),succ_mul];omega
theorem RC.flatten {c:Nat}:∀(es:List (List AV)) (UH:List (List Value)),es.length=UH.length->(∀i (h:i<es.length) (h':i<UH.length),RC w (es[i]'h) (UH[i]'h'))->RC w es.flatten UH.flatten:=by
 intro es
 induction es with
 |nil=>intro UH hl _;cases UH with
  |nil=>exact⟨rfl,λ_ h=>by simp at h,λ_ h=>by simp at h⟩
  |cons _ _=>simp at hl
 |cons a r ih=>
  intro UH hl h
  cases UH with
  |nil=>simp at hl
  |cons b s=>
   simp only[List.flatten_cons];refine RC.append (h 0 zS zS) (ih s (zU hl) λi hi jf=>?_);exact h (i+1) (zU hi) (by simpa using jf)
def El {G:List AV->Prop}(ht:P.underlying t=some (.slice e))(hp:0<P.cellsOf e)(he:∀n c y,DataW.trod enc P w base sp held n e c=some y->∃a,G a/\RC w a c)
  (h:DataW.trod enc P w base sp held fuel t cs=some x):∃es:List (List AV),(∀a∈es,G a)/\es.length<=maxLen/\RC w [.sl es.length es.flatten .none] cs:=by
 rcases DataW.trod_slice ht h with⟨rfl,_⟩|⟨a,len,cap,elems,rest,n,_,rfl,_,hb,hlc,hm,CU,ur,_,_⟩
 ·exact⟨[],λa h=>by simp at h,ahE _,RC.one (.zF _ _ _ trivial) rfl⟩
 ·have key:∀i,i<len->∃(c:List Value) (av:List AV),G av/\RC w av c/\c.length=P.cellsOf e/\∀j,j<P.cellsOf e->w.cell? ((a.add (i*P.cellsOf e)).add j)=c[j]?:=by
   intro i hi;have h1:=ur i hi;rw[ahu zO] at h1;obtain⟨c,h2,h3⟩:=Option.bind_eq_some_iff.1 h1;obtain⟨_,h4,h5⟩:=World.cells?_some h2;obtain⟨av,h6,h7⟩:=he _ _ _ h3;exact⟨c,av,h6,h7,h4,h5⟩
  rcases ah0 len with h0|h0
  ·subst h0;exact⟨[],λa h=>by simp at h,ahE _,RC.one (.zF _ _ _ trivial) rfl⟩
  have UQ:a.spot=none:=by
   obtain⟨c,_,_,_,h4,h5⟩:=key 0 h0;have:=h5 0 hp;rw[ahu zO] at this;have h6:=World.cell?_spot (a:=(a.add (0*P.cellsOf e)).add 0) this;simpa[Addr.add] using h6
  obtain⟨ab,ao,as⟩:=a;simp only at UQ;subst UQ
  let C:Nat->List Value:=λi=>if h:i<len then Classical.choose (key i h) else []
  let A:Nat->List AV:=λi=>if h:i<len then Classical.choose (Classical.choose_spec (key i h)) else []
  have YV:∀i,i<len->G (A i)/\RC w (A i) (C i)/\(C i).length=P.cellsOf e/\∀j,j<P.cellsOf e->w.cell? ⟨ab,ao+(i*P.cellsOf e+j),none⟩=(C i)[j]?:=by
   intro i hi;have:=Classical.choose_spec (Classical.choose_spec (key i hi));simp only[C,A,akf hi];refine⟨this.1,this.2.1,this.2.2.1,λj hj=>?_⟩;rw[<-this.2.2.2 j hj];rw[Addr.add_add];unfold Addr.add
   split
   ·rename_i h0;rw[h0];rfl
   ·rfl
  refine⟨(List.range len).map A,λav hav=>?_,?_,?_⟩
  ·obtain⟨i,hi,rfl⟩:=ahz.1 hav;exact(YV i (ahV.1 hi)).1
  ·simp;exact ahA hlc hm
  ·have hA:∀av∈(List.range len).map A,av.length=P.cellsOf e:=by
    intro av hav;obtain⟨i,hi,rfl⟩:=ahz.1 hav;obtain⟨_,h1,h2,_⟩:=YV i (ahV.1 hi);rw[<-h1.1];exact h2
   have hC:∀c∈(List.range len).map C,c.length=P.cellsOf e:=by
    intro c hc;obtain⟨i,hi,rfl⟩:=ahz.1 hc;exact(YV i (ahV.1 hi)).2.2.1
   have hlA:=iX _ hA;have hlC:=iX _ hC;simp only[ahL,List.length_range] at hlA hlC;have mB:∀j,j<len*P.cellsOf e->w.cell? ⟨ab,ao+j,none⟩=((List.range len).map C).flatten[j]?:=by
    intro j hj;have hi:j / P.cellsOf e<len:=by rw[Nat.div_lt_iff_lt_mul hp];exact hj
    have hr:j % P.cellsOf e<P.cellsOf e:=ajJ _ hp;have e1:j / P.cellsOf e*P.cellsOf e+j % P.cellsOf e=j:=by rw[ajX];exact Nat.div_add_mod _ _
    have h1:=(YV _ hi).2.2.2 _ hr;have h2:=Qm _ hC (j / P.cellsOf e) (j % P.cellsOf e) (zU hi) hr;rw[e1] at h1 h2;rw[h1,h2];simp
   refine RC.one ?_ rfl;have hlen:((List.range len).map A).length=len:=zS;have dO:RC w ((List.range len).map A).flatten ((List.range len).map C).flatten:=RC.flatten (c:=0) _ _ zS λi hi jf=>by
    simp only[aip,aj0];exact(YV i (zU hi)).2.1
   rw[hlen];refine bt.nr hlc ?_ dO (λj hj=>mB j (by rw[hlA] at hj;exact hj)) trivial;rw[hlA];have gu:0<len*P.cellsOf e:=Nat.mul_pos h0 hp;have dC:=mB (len*P.cellsOf e-1) zO;rw[ahu (by rw[hlC];omega)] at dC;have:=Ua dC;show ao+len*P.cellsOf e<=m0 w ab;omega
end
section
variable {H : Type} {enc : TypeId × Value -> H} {P : Program} {w : World} {base fuel : Nat} {sp : Nat -> Bool} {held : Bool} {t : TypeId} {cs : List Value} {x : DataW H × List MemPlace} {fs : Array Field}
def mb (ht:P.underlying t=some (.struct fs))(h:DataW.trod enc P w base sp held fuel t cs=some x):cs.length=P.cellsOf t/\
  ∀(i:Nat)(f:Field),fs[i]?=some f->∃n y,DataW.trod enc P w base sp held n f.type ((cs.drop f.offset).take (P.cellsOf f.type))=some y:=by
 obtain⟨xs,n,_,_,hl,hx,hf⟩:=DataW.trod_struct ht h;refine⟨hl,λi f hi=>?_⟩;have bp:i<xs.length:=by rw[hx];exact(Array.getElem?_eq_some_iff.1 hi).1
 exact⟨n,xs[i],by rw[hf i f hi,ahu bp]⟩
end
theorem aq.law {P:Program}{f:FuncId}{avs:List AV}{w:World}{args:Array Value}(h:aq P f avs [] [] (λr _ _=>r=.bool true))(hg:∀x∈Ah,∃m,w.cell? ⟨x.1,x.2,none⟩=some (.int .i64 m))(hs:args.size=avs.length)
  (hr:∀(j:Nat)(h:j<avs.length)(h':j<args.size),bt (wb w) 0 [] w (avs[j]'h) (args[j]'h')) :
  Calls P f args w λe w'=>e=.returned (.bool true)/\Go.RowKit.Below w.heap.size w w':=by
 refine(h.2 (wb w) w args (ZO w hg) hs hr).mono ?_;rintro e w' ⟨r,H',T',L',cv,rfl,rfl,_,dO,dI⟩
 cases dO with
 |bool _=>exact⟨rfl,dI.os,dI.tape,dI.output,dI.size,λk hk=>dI.frame k hk (λhw=>by
   rcases hw with⟨i,hi,_⟩|⟨t,u,z,ht,_⟩
   ·exact ahT _ hi
   ·simp at ht)⟩
section
open Go.RowKit
variable {H : Type} {enc : TypeId × Value -> H} {P : Program}
def zt {f:Func}{s:ChangeSpec}{apart fresh handsOn again:Bool}{W W':World}{args:Array Value}{v:Value}{ds gs:List (DataW H)}{before pa pv:List MemPlace}
  (hW:DataW.Whole enc P f.params.toList s.vars apart W args.toList ds gs before)
  (zb:∀(b:Nat)(sp:Nat->Bool)(hd:Bool),DataW.TrodAll enc P W' b sp hd f.resultTypes.toList (v.resultList f.resultTypes.size) (s.fn H (ds++gs)).results [])
  (fi:∀sp:Nat->Bool,(∀p∈before,sp p.block=true)->DataW.TrodAll enc P W' 0 sp true f.params.toList args.toList (s.fn H (ds++gs)).args pa)
  (UP:∀sp:Nat->Bool,(∀p∈before,sp p.block=true)->DataW.TrodVars enc P W' sp s.vars (s.fn H (ds++gs)).vars pv)
  (ue:before=pa++pv) (hb:Go.RowKit.Below W.heap.size W W')
  (je:∀(j:Nat)(t:TypeId)(r:Value),f.resultTypes[j]?=some t->(v.resultList f.resultTypes.size)[j]?=some r->Value.okWide P W' .any 0 t r) :
  s.post enc P f apart fresh handsOn again W args v W':=by
 have bp:∀p∈before,p.block<W.heap.size:=λp hp=>hW.lt p hp;have hold:∀p∈before,(λb=>decide (b<W.heap.size)) p.block=true:=λp hp=>by simpa using bp p hp
 refine⟨ds,gs,before,[],pa,pv,hW,zb _ _ _,fi _ hold,UP _ hold,World.keptBut_mono (λp hp=>⟨hp,?_⟩) (hb.frame (·∈before)),λ_=>?_⟩
 ·rw[ue,ahI] at hp;exact Or.inr hp
 ·obtain⟨_,_,_,_,_,hz,hn⟩:=hW;refine⟨je,_,_,([]++pa)++pv,⟨[]++pa,pv,trodAll_append (fi _ (λ_ _=>rfl)) (zb _ _ _),UP _ (λ_ _=>rfl),rfl,?_,?_⟩,?_⟩
  ·intro b off hp;have um:MemPlace.cell b off∈before:=by rw[ue];simpa using hp
   rw[hb.frozen (bp _ um)];exact hz b off um
  ·intro ha;have:=hn ha;rw[ue] at this;simpa using this
  ·intro p hp _;rw[ue];simpa using hp
theorem zo (hl:laidOutB P=true){W W':World}(hb:Go.RowKit.Below W.heap.size W W'){sp:Nat->Bool}:∀{ts:List TypeId} {vs:List Value} {ds:List (DataW H)} {ps:List MemPlace},DataW.TrodAll enc P W 0 (λ_=>true) true ts vs ds ps->
  (∀t∈ts,P.readableRec t=true/\t<P.types.size)->(∀x∈ps,x.block<W.heap.size)->(∀x∈ps,sp x.block=true)->DataW.TrodAll enc P W' 0 sp true ts vs ds ps:=by
 intro ts
 induction ts with
 |nil=>
  intro vs ds ps h _ _ _;obtain⟨rfl,rfl,rfl⟩:=trodAll_nil h;exact trodAll_mk0
 |cons t ts ih=>
  intro vs ds ps h ht bp Gu;obtain⟨v0,vs0,d0,ds0,p0,q0,rfl,rfl,rfl,h0,r0⟩:=trodAll_cons h;have h1:=ht t zS;exact trodAll_cons_mk (WideElems.Trod_stays hl h1.1 h1.2 h0 (λx hx=>hb.same (bp x (by simp[hx]))) (λx hx=>Gu x (by simp[hx])))
   (ih r0 (λt' h'=>ht t' (by simp[h'])) (λx hx=>bp x (by simp[hx])) (λx hx=>Gu x (by simp[hx])))
def Mb {f:Func}{s:ChangeSpec}{apart fresh handsOn again:Bool}{W W':World}{args:Array Value}{ds gs:List (DataW H)}{before:List MemPlace}{tb:TypeId}
  (hW:DataW.Whole enc P f.params.toList s.vars apart W args.toList ds gs before) (hv:s.vars=[]) (YE:s.fn H ds={ results:=[.lit (.bool true)],args:=ds }) (hr:f.resultTypes=#[tb]) (fZ:P.underlying tb=some .bool)
  (hl:laidOutB P=true) (C6:∀t∈f.params.toList,P.readableRec t=true/\t<P.types.size) (hb:Go.RowKit.Below W.heap.size W W') :
  s.post enc P f apart fresh handsOn again W args (.bool true) W':=by
 have YK:=hW;obtain⟨p,q,hA,hV,rfl,hfz,nU⟩:=hW;rw[hv] at hV;obtain⟨rfl,rfl⟩:=trodVars_none hV;simp only[ahS] at YK;have bp:∀x∈p,x.block<W.heap.size:=λx hx=>YK.lt x hx;refine zt (pa:=p) (pv:=[]) YK (λb sp hd=>?_) (λsp Gu=>?_) (λsp Gu=>?_) zS hb (ok_one hr rfl (okWide_bool_mk fZ _))
 ·rw[ahS,YE,hr];exact trodAll_cons_mk (shut_bool fZ _) trodAll_mk0
 ·rw[ahS,YE];exact zo hl hb hA C6 bp Gu
 ·rw[ahS,YE,hv];rfl
end
section
variable {H : Type} {enc : TypeId × Value -> H} {P : Program} {w : World} {b0 base : Nat} {sp : Nat -> Bool} {held : Bool} {t e : TypeId} {v : Value} {d : DataW H} {ps : List MemPlace} {r : Reach}
def QS {G:List AV->Prop}(ht:P.underlying t=some (.slice e))(hp:0<P.cellsOf e)(he:∀n c y,DataW.trod enc P w base sp held n e c=some y->∃a,G a/\RC w a c)(lN:Value.okWide P w r b0 t v)(h:DataW.Trod enc P w base sp held t v d ps) :
  ∃es:List (List AV),((∀a∈es,G a)/\es.length<=maxLen)/\bt (wb w) 0 [] w (.sl es.length es.flatten .none) v:=by
 obtain⟨a,l,c,rfl⟩:=okWide_slice ht lN;obtain⟨fuel,hf⟩:=h;obtain⟨m,h1,h2,h3⟩:=El ht hp he hf;exact⟨m,⟨h1,h2⟩,h3.rep⟩
end
section
variable {H : List aA} {T : au} {L : Lay} {w : World}
def cz.aeM {n z:Nat}{cs:List AV}(h:cz L (H++[.cells [.sl n cs .full]]) T w)(hz:0<z) :
  cz (L.bE T.length ⟨0,0,0⟩) (H++[.cells [.sl n cs (.own T.length)]]) (T++[(cs.length,z)]) w:=by
 have h1:=h.own cs.length hz;have el:(H++[aA.cells [.sl n cs .full]]).length=(H++[aA.cells [.sl n cs (.own T.length)]]).length:=zS;refine⟨λi b hi=>?_,λi j hi hj=>h1.inj i j (by rw[el];exact hi) (by rw[el];exact hj),h1.tok,h1.pG,λt u z' i ht hu hi=>h1.kY t u z' i ht hu (by rw[el];exact hi),h1.mz,h1.gl⟩;rw[<-el];rcases ahD i H.length with hl|hl
 ·rw[ahB hl] at hi;exact h1.box i b (by rw[ahB hl];exact hi)
 ·have jf:=(aht.1 hi).1;have:i=H.length:=by simp at jf;omega
  subst this;rw[Jn] at hi;simp at hi;subst hi;obtain⟨c,t,fr,g1,g2,g3,wC,g4,g5⟩:=h.box H.length (.cells [.sl n cs .full]) zS;refine⟨c,t,fr,g1,g2,by simpa using g3,wC,λj hj bU=>?_,g5⟩;have:j=0:=by simp at hj;omega
  subst this;exact(g4 0 zS bU).own
def JI {C:Cx}{c:Code}{Q:Exit->St->Prop}{s:St}(z:Nat)(H:List aA)(n:Nat)(cs:List AV)(hz:0<z)(hH:s.H=H++[.cells [.sl n cs .full]])
  (h:AW C c Q ⟨s.e,H++[.cells [.sl n cs (.own s.T.length)]],s.T++[(cs.length,z)]⟩):AW C c Q s:=by
 obtain⟨e,H0,T⟩:=s;simp only at hH h;subst hH;intro L w a hc;have el:(H++[aA.cells [.sl n cs .full]]).length=(H++[aA.cells [.sl n cs (.own T.length)]]).length:=zS;have ev:=Ev.own (H:=H++[.cells [.sl n cs .full]]) (T:=T) (L:=L) (w:=w) cs.length z;have ev':=ev.mono hc.nb hc.tb;have ek:dh L (H++[aA.cells [.sl n cs .full]]).length T w (L.bE T.length ⟨0,0,0⟩) (H++[aA.cells [.sl n cs (.own T.length)]]).length (T++[(cs.length,z)]) w:=by
  rw[<-el];exact ev.keeps
 refine wp_mono (h (L.bE T.length ⟨0,0,0⟩) w a ⟨by rw[<-el];exact hc.nb,by simp;have:=hc.tb;simp at this;omega,hc.nD.aeM hz,hc.size,hc.defers,λt=>(hc.env t).keep ek⟩) λ_ _ _ k=>
  cN.step (s1:=⟨e,H++[.cells [.sl n cs (.own T.length)]],T++[(cs.length,z)]⟩) (by rw[<-el];exact ev') k
end
section
variable {H : List aA} {T : au} {L : Lay} {w : World}
def cz.aeL {n z k:Nat}{cs vs:List AV}(h:cz L (H++[.cells vs]) T w)(hk:vs[k]?=some (.sl n cs .full))(hz:0<z) :
  cz (L.bE T.length ⟨0,0,0⟩) (H++[.cells (vs.set k (.sl n cs (.own T.length)))]) (T++[(cs.length,z)]) w:=by
 have h1:=h.own cs.length hz;have ev:=Ev.own (H:=H++[.cells vs]) (T:=T) (L:=L) (w:=w) cs.length z;have el:(H++[aA.cells vs]).length=(H++[aA.cells (vs.set k (.sl n cs (.own T.length)))]).length:=zS;refine⟨λi b hi=>?_,λi j hi hj=>h1.inj i j (by rw[el];exact hi) (by rw[el];exact hj),h1.tok,h1.pG,λt u z' i ht hu hi=>h1.kY t u z' i ht hu (by rw[el];exact hi),h1.mz,h1.gl⟩;rw[<-el];rcases ahD i H.length with hl|hl
 ·rw[ahB hl] at hi;exact h1.box i b (by rw[ahB hl];exact hi)
 ·have jf:=(aht.1 hi).1;have:i=H.length:=by simp at jf;omega
  subst this;rw[Jn] at hi;simp at hi;subst hi;obtain⟨c,t,fr,g1,g2,g3,wC,g4,g5⟩:=h.box H.length (.cells vs) zS;refine⟨c,t,fr,g1,g2,by simpa using g3,wC,λj hj bU=>?_,g5⟩
  by_cases e:k=j
  ·subst e;have y5:k<vs.length:=by simpa using hj
   rw[ahu y5] at hk;have:=g4 k y5 bU;rw[Option.some.inj hk] at this;rw[List.getElem_set_self];exact this.own
  ·rw[List.getElem_set_ne e];exact(g4 j (zU hj) bU).keep ev.keeps
def Cs {C:Cx}{c:Code}{Q:Exit->St->Prop}{s:St}(z k:Nat)(H:List aA)(vs:List AV)(n:Nat)(cs:List AV)(hz:0<z)(hk:vs[k]?=some (.sl n cs .full))(hH:s.H=H++[.cells vs])
  (h:AW C c Q ⟨s.e,H++[.cells (vs.set k (.sl n cs (.own s.T.length)))],s.T++[(cs.length,z)]⟩):AW C c Q s:=by
 obtain⟨e,H0,T⟩:=s;simp only at hH h;subst hH;intro L w a hc;have el:(H++[aA.cells vs]).length=(H++[aA.cells (vs.set k (.sl n cs (.own T.length)))]).length:=zS;have ev:=Ev.own (H:=H++[.cells vs]) (T:=T) (L:=L) (w:=w) cs.length z;have ev':=ev.mono hc.nb hc.tb;have ek:dh L (H++[aA.cells vs]).length T w (L.bE T.length ⟨0,0,0⟩) (H++[aA.cells (vs.set k (.sl n cs (.own T.length)))]).length (T++[(cs.length,z)]) w:=by
  rw[<-el];exact ev.keeps
 refine wp_mono (h (L.bE T.length ⟨0,0,0⟩) w a ⟨by rw[<-el];exact hc.nb,by simp;have:=hc.tb;simp at this;omega,hc.nD.aeL hk hz,hc.size,hc.defers,λt=>(hc.env t).keep ek⟩) λ_ _ _ kk=>
  cN.step (s1:=⟨e,H++[.cells (vs.set k (.sl n cs (.own T.length)))],T++[(cs.length,z)]⟩) (by rw[<-el];exact ev') kk
end
def sf:AV->AV
 |.agg cs=>.agg (cs.map cL)
 |v=>cL v
theorem bt.QV {L:Lay}{N:Nat}{T:au}{w:World}{cs:List AV}{v:Value}(h:bt L N T w (.agg cs) v):bt L N T w (.agg (cs.map Am.cL)) v:=by
 cases h with
 |agg cs cv h1 h2 hr=>exact .agg _ cv (zU h1) h2 (λj hj bU=>by
   rw[aip];exact(hr j (zU hj) bU).cL)
theorem bt.sf {L:Lay}{N:Nat}{T:au}{w:World}{v:AV}{c:Value}(h:bt L N T w v c):bt L N T w (sf v) c:=by
 cases v with
 |agg cs=>exact h.QV
 |_=>exact h.cL
theorem aq.Hg {P:Program}{f:FuncId}{args:List AV}{H:List aA}{T:au}{rs:List AV}(h:aq P f args H T (λr H' T'=>(∃rH,H'=H++rH)/\(∃rT,T'=T++rT)/\∃vs,r=.dn vs/\vs.map Am.sf=rs))(hb:∀v∈rs,Below H.length T.length v):aq P f args H T (Is (.dn rs) H T):=by
 refine⟨h.1,λL w ca hc jY hr=>(h.2 L w ca hc jY hr).mono ?_⟩;rintro e w' ⟨r',H',T',L',cv,⟨⟨rH,e1⟩,⟨rT,e2⟩,vs,e3,e4⟩,rfl,cY,dO,dI⟩;subst e1;subst e2;subst e3;refine⟨_,H,T,L',cv,⟨rfl,rfl,rfl⟩,rfl,cz.front P cY hc.je,?_,dI.front (ahv _) (ahv _)⟩;have mA:bt L' (H++rH).length (T++rT) w' (.dn (vs.map Am.sf)) cv:=by
  cases dO with
  |dn _ cv h1 hr=>
   refine .dn _ cv (zU h1) (λj hj bU=>?_);rw[aip];exact(hr j (zU hj) bU).sf
 rw[e4] at mA;have:=mA.drop (.dn _ hb);simpa using this
def aq.Vg {P:Program}{f:FuncId}{args:List AV}{H:List aA}{T:au}{r0:AV}(h:aq P f args H T (λr H' T'=>(∃rH,H'=H++rH)/\(∃rT,T'=T++rT)/\Am.sf r=r0))(hb:Below H.length T.length r0):aq P f args H T (Is r0 H T):=by
 refine⟨h.1,λL w ca hc jY hr=>(h.2 L w ca hc jY hr).mono ?_⟩;rintro e w' ⟨r',H',T',L',cv,⟨⟨rH,e1⟩,⟨rT,e2⟩,e4⟩,rfl,cY,dO,dI⟩;subst e1;subst e2;refine⟨_,H,T,L',cv,⟨rfl,rfl,rfl⟩,rfl,cz.front P cY hc.je,?_,dI.front (ahv _) (ahv _)⟩;have mA:=dO.sf;rw[e4] at mA;have:=mA.drop hb;simpa using this
end Go.Am
