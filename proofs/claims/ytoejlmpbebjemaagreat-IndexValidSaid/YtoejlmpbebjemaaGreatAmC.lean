/- A scope in which the run jumps back to its first label. Calls with more than one result: what they have made is forgotten. Boxes that are finished become immutable, however deep they lie. Boxes that are finished become immutable; the one they hang on stays a box. A region that draws its order, where two operations with effects may come in either order: both orders are walked. A region that draws its order, whose last operations come behind all others: these are walked as elsewhere. A region that draws its order, in which an alloc may come at any time among operations that change tokens alone; the last operations come behind all others. A region that draws its order, in which one operation with an effect (an append to a box that is held with its capacity) can come out in several ways. Regions that draw their order, in which the operations with an effect stand in a chain, each with several outcomes, and the others have no effect and nothing of the chain ahead of them. From the readings of a law's arguments to abstract values, and from a contract of the machine to the row's post. The arguments of a row, as abstract values. A box whose cell is an empty end gets a token for it: only the abstract state takes the step. A box of several cells, one of which is an empty end, gets a token for it.
  Conditions: as the theorems say. -/
import Derived.Test.YtoejlmpbebjemaaGreatAmA
import Derived.ScopeJumps
import Derived.Test.YtoejlmpbebjemaaGreatAmB
import Derived.WalkKit
import Derived.ProofKit
import Derived.OpenShut
import Derived.JoinedCond
import Derived.Below
import Derived.Carry
import Derived.DataElems
import Derived.ChangeSame
import Derived.ChangeMaps5
import Derived.WideShapes
set_option linter.all false
namespace Go.Am
open Go
theorem aw_goto {C Q s l}(h:Q (.goto l) s):AW C (.goto l) Q s:=fun L w a hc=>wp_goto ⟨s,L,h,hc,Ev.refl hc.nb hc.tb⟩
def JumpQ (l:Nat)(J:St→Prop)(Q:Exit→St→Prop):Exit→St→Prop
 |.goto l',s=>l'=l∧J s
 |e,s=>Q e s
@[simp] theorem jumpQ_ret {l:Nat} {J:St→Prop} {Q:Exit→St→Prop} {s:St}:JumpQ l J Q .ret s=Q .ret s:=rfl
@[simp] theorem jumpQ_normal {l:Nat} {J:St→Prop} {Q:Exit→St→Prop} {s:St}:JumpQ l J Q .normal s=Q .normal s:=rfl
theorem least_ex {p:Nat→Prop}{n:Nat}(h:p n):∃k,p k∧∀m,p m→k≤m:=by
 induction n using Nat.strongRecOn with
 |_ n ih=>
  by_cases hs:∃m,m<n∧p m
  ·obtain⟨m,h1,h2⟩:=hs;exact ih m h1 h2
  ·exact⟨n,h,fun m hm=>Nat.le_of_not_lt fun hlt=>hs ⟨m,hlt,hm⟩⟩
theorem aw_scope {C:Cx}{d:Code}{l:Nat}{Q s}{X:Type}(st:X→St)(I:X→Prop)(μ:X→Nat)(x0:X)(h0:I x0)(hw:Weak C s (st x0))
  (pass:∀x,I x→AW C d (JumpQ l (fun s'=>∃x',I x'∧μ x'<μ x∧Weak C s' (st x')) Q) (st x)):AW C (.scope (.seq (.label l) d)) Q s:=by
 refine aw_weak (st x0) hw ?_;intro L w a hc
 let J:Nat→Act→World→Prop:=fun n a' w'=>∃x L',I x∧ConSt C (st x) L' w' a'∧Ev C.nb C.tb L (st x0).H.length (st x0).T w L' (st x).H.length (st x).T w'∧μ x=n
 have hd:∀n a1 w1,J n a1 w1→d.wp C.P (Exit.jump l (fun a' w'=>∃m,m<n∧J m a' w') (Post C Q L (st x0) w)) a1 w1:=by
  rintro n a1 w1 ⟨x,L1,hI,hcn,hev,rfl⟩;refine wp_mono (pass x hI L1 w1 a1 hcn) fun e a' w' ⟨s',L',q,c',ev⟩=>?_
  cases e with
  |goto l'=>
   obtain⟨rfl,x',hI',hlt,hwk⟩:=q;exact⟨rfl,μ x',hlt,x',L',hI',hwk.con c',(hev.trans ev).trans hwk.ev,rfl⟩
  |_=>exact⟨s',L',q,c',hev.trans ev⟩
 have hJ0:J (μ x0) a w:=⟨x0,L,h0,hc,Ev.refl hc.nb hc.tb,rfl⟩
 have h1:∀n a1 w1,J n a1 w1→d.wp C.P (Exit.jump l (fun a' w'=>∃n,J n a' w') (Post C Q L (st x0) w)) a1 w1:=fun n a1 w1 hn=>
  wp_mono (hd n a1 w1 hn) fun e a' w' q=>by
   cases e with
   |goto l'=>exact⟨q.1,q.2.elim fun m hm=>⟨m,hm.2⟩⟩
   |_=>exact q
 refine wp_scope_jumps l (fun a w=>∃n,J n a w) (fun a w=>Classical.epsilon fun n=>J n a w∧∀m,J m a w→n≤m) (rest:=.seq .skip d) (by simp[findLabel]) ?_ ?_
 ·exact wp_seq (wp_label (h1 _ a w hJ0))
 ·intro a1 w1 ⟨n,hn⟩;obtain⟨hk,hmin⟩:=Classical.epsilon_spec (least_ex (p:=fun n=>J n a1 w1) hn);refine wp_seq (wp_skip (wp_mono (hd _ a1 w1 hk) fun e a' w' q=>?_))
  cases e with
  |goto l'=>
   obtain⟨rfl,m,hlt,hm⟩:=q;refine⟨rfl,⟨m,hm⟩,?_⟩;obtain⟨_,hmin'⟩:=Classical.epsilon_spec (least_ex (p:=fun n=>J n a' w') hm);exact Nat.lt_of_le_of_lt (hmin' m hm) hlt
  |_=>exact q
section
variable {P : Program} {f : FuncId} {args : List AV} {H : List Blk} {T : Toks}
end
inductive Frz (n0 t0:Nat) (H:List Blk):AV→AV→Prop
 |keep {v v':AV} (h:v'=v∨v'=untag v) (hb:Below n0 t0 v'):Frz n0 t0 H v v'
 |top (v:AV):Frz n0 t0 H v .top
 |msl {i o n:Nat} {vs cs:List AV} (hi:n0≤i) (hH:H[i]?=some (.cells vs)) (hl:o+cs.length≤vs.length) (hc:∀(j:Nat)(h:j<cs.length),Frz n0 t0 H (vs.getD (o+j) .top) (cs[j]'h)):Frz n0 t0 H (.msl i o n) (.sl n cs .none)
 |csl {i n cap:Nat} {vs cs:List AV} (hi:n0≤i) (hH:H[i]?=some (.cells vs)) (hl:cs.length≤vs.length) (hc:∀(j:Nat)(h:j<cs.length),Frz n0 t0 H (vs.getD j .top) (cs[j]'h)):Frz n0 t0 H (.csl i n cap) (.sl n cs .none)
 |cslF {i n:Nat} {vs cs:List AV} (hi:n0≤i) (hH:H[i]?=some (.cells vs)) (hl:cs.length≤vs.length) (hc:∀(j:Nat)(h:j<cs.length),Frz n0 t0 H (vs.getD j .top) (cs[j]'h)):Frz n0 t0 H (.csl i n n) (.sl n cs .full)
 |slT {n t:Nat} {cs cs':List AV} (hl:cs'.length=cs.length) (ht:t<t0) (hc:∀(j:Nat)(h:j<cs'.length),Frz n0 t0 H (cs.getD j .top) (cs'[j]'h)):Frz n0 t0 H (.sl n cs (.own t)) (.sl n cs' (.own t))
 |ptr {i o:Nat} {vs cs:List AV} (hi:n0≤i) (hH:H[i]?=some (.cells vs)) (hl:cs.length≤vs.length) (hc:∀(j:Nat)(h:j<cs.length),Frz n0 t0 H (vs.getD j .top) (cs[j]'h)):Frz n0 t0 H (.ptr i o) (.vptr cs o)
 |sl {n:Nat} {cs cs':List AV} {tg:Tag} (hl:cs'.length=cs.length) (hc:∀(j:Nat)(h:j<cs'.length),Frz n0 t0 H (cs.getD j .top) (cs'[j]'h)):Frz n0 t0 H (.sl n cs tg) (.sl n cs' .none)
 |agg {cs cs':List AV} (hl:cs'.length=cs.length) (hc:∀(j:Nat)(h:j<cs'.length),Frz n0 t0 H (cs.getD j .top) (cs'[j]'h)):Frz n0 t0 H (.agg cs) (.agg cs')
 |tup {cs cs':List AV} (hl:cs'.length=cs.length) (hc:∀(j:Nat)(h:j<cs'.length),Frz n0 t0 H (cs.getD j .top) (cs'[j]'h)):Frz n0 t0 H (.tup cs) (.tup cs')
open Classical in
noncomputable def Lay.frz (L:Lay)(n0 n:Nat)(w:World):Lay:=
 { L with m:=fun b=>if ∃i,n0≤i∧i<n∧L.phi i=b then max (L.m b) (match w.heap[b]? with|some (.cells c _ _)=>c.size|_=>0) else L.m b }
section
variable {L : Lay} {H : List Blk} {T : Toks} {w : World} {n0 t0 : Nat}
open Classical in
theorem frz_le (L:Lay)(n0 n:Nat)(w:World)(b:Nat):L.m b≤(L.frz n0 n w).m b:=by
 show L.m b≤if _ then _ else _
 split
 ·exact Nat.le_max_left _ _
 ·exact Nat.le_refl _
theorem Keeps.frz {m:Nat}(N:Nat)(T:Toks):Keeps L N T w (L.frz n0 m w) N T w:=by
 exact⟨Nat.le_refl _,fun _ _=>rfl,fun t u z h=>⟨u,h,Nat.le_refl _,fun _=>rfl⟩,fun b=>frz_le L n0 m w b,fun _ _ _=>rfl,rfl⟩
open Classical in
theorem Con.frz (h:Con L H T w)(hn:n0≤H.length)(hf:Con L (H.take n0) (T.take t0) w):Con (L.frz n0 H.length w) (H.take n0) (T.take t0) w:=by
 have hlen:(H.take n0).length=n0:=by rw[List.length_take];omega
 have ne:∀b,(¬∃i,n0≤i∧i<H.length∧L.phi i=b)→(L.frz n0 H.length w).m b=L.m b:=fun b hb=>if_neg hb;have hTt:∀(t:Nat)(x:Nat×Nat),(T.take t0)[t]?=some x→T[t]?=some x:=by
  intro t x hx;rw[List.getElem?_take] at hx
  split at hx
  ·exact hx
  ·cases hx
 have nbox:∀i,i<n0→¬∃j,n0≤j∧j<H.length∧L.phi j=L.phi i:=by
  rintro i hi ⟨j,h1,h2,e⟩;have:=h.inj j i h2 (by omega) e;omega
 have ntok:∀t u z,T[t]?=some (u,z)→u<(L.tau t).c*z→¬∃j,n0≤j∧j<H.length∧L.phi j=(L.tau t).b:=by
  rintro t u z ht hs ⟨j,h1,h2,e⟩;exact h.tbox t u z j ht hs h2 e.symm
 refine⟨fun i x hx=>?_,hf.inj,fun t u z ht=>?_,hf.tinj,hf.tbox,fun x hx=>?_,h.gl.keep (fun b=>frz_le L n0 H.length w b) (fun _ _ _=>rfl)⟩
 ·have hi:=(List.getElem?_eq_some_iff.1 hx).1;refine(hf.box i x hx).stay (Keeps.frz _ _) hi rfl fun h5=>?_;rw[ne _ (nbox i (by omega))];exact h5
 ·obtain⟨h1,h2⟩:=hf.tok t u z ht;refine⟨h1,fun hs=>?_⟩;obtain⟨c,e,fr,g1,g2,g3,g4⟩:=h2 hs;exact⟨c,e,fr,g1,g2,g3,by rw[show ((L.frz n0 H.length w).tau t).b=(L.tau t).b from rfl,ne _ (ntok t u z (hTt t _ ht) hs)];exact g4⟩
 ·rw[ne _ (fun⟨j,h1,h2,e⟩=>by have:=h.phi_lt h2;omega)];exact h.mz x hx
open Classical in
theorem Frz.rep (h:Con L H T w)(hn:n0≤H.length){v v':AV}(k:Frz n0 t0 H v v'):∀c,Rep L H.length T w v c→Rep (L.frz n0 H.length w) n0 (T.take t0) w v' c:=by
 have size:∀(i:Nat)(c:Array Value)(t:TypeId)(fr:Nat×Nat),n0≤i→i<H.length→w.heap[L.phi i]?=some (.cells c t fr)→c.size≤(L.frz n0 H.length w).m (L.phi i):=by
  intro i c t fr h1 h2 hh;show _≤if _ then _ else _
  rw[if_pos ⟨i,h1,h2,rfl⟩,hh];exact Nat.le_max_right _ _
 have row:∀(i o:Nat)(vs cs:List AV),n0≤i→H[i]?=some (.cells vs)→o+cs.length≤vs.length→(∀(j:Nat)(h:j<cs.length)(c:Value),Rep L H.length T w (vs.getD (o+j) .top) c→Rep (L.frz n0 H.length w) n0 (T.take t0) w (cs[j]'h) c)→
   ∃cv,o+cs.length≤(L.frz n0 H.length w).m (L.phi i)∧RepC (L.frz n0 H.length w) n0 (T.take t0) w cs cv∧∀j,j<cs.length→w.cell? ⟨L.phi i,o+j,none⟩=cv[j]?:=by
  intro i o vs cs hi hH hl ih;obtain⟨c,t,fr,g1,g2,g3,g3',g4,g5⟩:=h.box i _ hH;have hiH:=(List.getElem?_eq_some_iff.1 hH).1;have hs:=size i c t fr hi hiH g1;refine⟨(c.toList.drop o).take cs.length,by omega,⟨by simp;omega,fun j hj=>?_,fun j hj hj'=>?_⟩,fun j hj=>?_⟩
  ·have hjc:o+j<c.size:=by simp at hj;omega
   have:=g3' (o+j) hjc;rw[List.getElem_take,List.getElem_drop,Array.getElem_toList];exact this
  ·have hjc:o+j<c.size:=by omega
   have:=g4 (o+j) (by omega) hjc;rw[List.getElem_take,List.getElem_drop,Array.getElem_toList];refine ih j hj _ ?_;rw[List.getD_eq_getElem?_getD,List.getElem?_eq_getElem (by omega)];exact this
  ·rw[cell_row g1,List.getElem?_take,if_pos hj,List.getElem?_drop];simp
 induction k with
 |keep hv hb=>
  rename_i v v';intro c hr;have h1:Rep L H.length T w v' c:=by
   rcases hv with rfl|rfl
   ·exact hr
   ·exact hr.untag
  exact(h1.drop hb).keep (Keeps.frz _ _)
 |top v=>intro c _;exact .top _
 |msl hi hH hl hc ih=>
  intro c hr;obtain⟨cap,rfl,hcap,hlt⟩:=hr.msl_inv;obtain⟨cv,h1,h2,h3⟩:=row _ _ _ _ hi hH hl ih;exact Rep.sl_mk hcap h1 h2 h3 trivial
 |csl hi hH hl hc ih=>
  intro c hr;obtain⟨rfl,hcap,hlt⟩:=hr.csl_inv;obtain⟨cv,h1,h2,h3⟩:=row _ 0 _ _ hi hH (by omega) (fun j hj c hc'=>ih j hj c (by rwa [Nat.zero_add] at hc'));exact Rep.sl_mk hcap h1 h2 h3 trivial
 |cslF hi hH hl hc ih=>
  intro c hr;obtain⟨rfl,hcap,hlt⟩:=hr.csl_inv;obtain⟨cv,h1,h2,h3⟩:=row _ 0 _ _ hi hH (by omega) (fun j hj c hc'=>ih j hj c (by rwa [Nat.zero_add] at hc'));exact Rep.sl_mk hcap h1 h2 h3 rfl
 |slT hl ht hc ih=>
  rename_i n t cs cs';intro c hr;obtain⟨a,cap,rfl,hcap,htg,hor⟩:=hr.sl_inv;have htg':tagOk (L.frz n0 H.length w) (T.take t0) (.own t) n cs'.length a cap:=by
   obtain⟨u0,z,g0,g1,g2⟩:=htg;exact⟨u0,z,by rw[List.getElem?_take,if_pos ht];exact g0,by omega,fun e=>g2 (by omega)⟩
  rcases hor with⟨e1,e2⟩|⟨b,base,cv,e1,h1,h2,h3⟩
  ·subst e1;subst e2;have:cs'=[]:=List.eq_nil_of_length_eq_zero hl;subst this;exact .sl0 (.own t) a cap htg'
  ·subst e1;refine Rep.sl_mk (cv:=cv) hcap (by rw[hl];exact Nat.le_trans h1 (frz_le _ _ _ _ _)) ⟨by rw[hl];exact h2.1,h2.2.1,fun j hj hj'=>ih j hj _ ?_⟩ (fun j hj=>h3 j (by omega)) htg';have:=h2.2.2 j (by omega) hj';rw[List.getD_eq_getElem?_getD,List.getElem?_eq_getElem (by omega)];exact this
 |ptr hi hH hl hc ih=>
  rename_i i o vs cs;intro c hr;obtain⟨rfl,hlt⟩:=hr.ptr_inv;obtain⟨cv,h1,h2,h3⟩:=row _ 0 _ _ hi hH (by omega) (fun j hj c hc'=>ih j hj c (by rwa [Nat.zero_add] at hc'));have:=Rep.vptr (L:=L.frz n0 H.length w) (N:=n0) (T:=T.take t0) (w:=w) cs o (L.phi i) 0 (fun j=>cv.getD j undef) h1 (fun j hj=>?_) (fun j hj=>?_) (fun j hj=>?_)
  ·rwa [Nat.zero_add] at this
  ·have hj':j<cv.length:=by rw[h2.1];exact hj
   rw[h3 j hj];simp[hj']
  ·have hj':j<cv.length:=by rw[h2.1];exact hj
   simpa[hj'] using h2.2.1 j hj'
  ·have hj':j<cv.length:=by rw[h2.1];exact hj
   simpa[hj'] using h2.2.2 j hj hj'
 |sl hl hc ih=>
  rename_i n cs cs' tg;intro c hr;obtain⟨a,cap,rfl,hcap,ht,hor⟩:=hr.sl_inv;rcases hor with⟨e1,e2⟩|⟨b,base,cv,e1,h1,h2,h3⟩
  ·subst e1;subst e2;have:cs'=[]:=List.eq_nil_of_length_eq_zero hl;subst this;exact .sl0 .none a cap trivial
  ·subst e1;refine Rep.sl_mk (cv:=cv) hcap (by rw[hl];exact Nat.le_trans h1 (frz_le _ _ _ _ _)) ⟨by rw[hl];exact h2.1,h2.2.1,fun j hj hj'=>ih j hj _ ?_⟩ (fun j hj=>h3 j (by omega)) trivial;have:=h2.2.2 j (by omega) hj';rw[List.getD_eq_getElem?_getD,List.getElem?_eq_getElem (by omega)];exact this
 |agg hl hc ih=>
  rename_i cs cs';intro c hr
  cases hr with
  |agg _ cv h1 h2 h3=>
   refine .agg _ _ (by omega) h2 fun j hj hj'=>ih j hj _ ?_;have:=h3 j (by omega) hj';rw[List.getD_eq_getElem?_getD,List.getElem?_eq_getElem (by omega)];exact this
 |tup hl hc ih=>
  rename_i cs cs';intro c hr
  cases hr with
  |tup _ cv h1 h3=>
   refine .tup _ _ (by omega) fun j hj hj'=>ih j hj _ ?_;have:=h3 j (by omega) hj';rw[List.getD_eq_getElem?_getD,List.getElem?_eq_getElem (by omega)];exact this
end
section
variable {P : Program} {f : FuncId} {args : List AV} {H : List Blk} {T : Toks}
theorem ACall.frzC {r0:AV}(H1:List Blk)(T1:Toks)(hl:H.length≤H1.length)(ht:T.length≤T1.length)(ho:HOk H T→HOk H1 T1)
  (h:ACall P f args H T (fun r H' T'=>(∃G,H'=H1++G)∧(∃rT,T'=T1++rT)∧Frz H1.length T1.length H' r r0)):ACall P f args H T (Is r0 H1 T1):=by
 refine⟨h.1,fun L w ca hc hl' hr=>(h.2 L w ca hc hl' hr).mono ?_⟩;rintro e w' ⟨r',H',T',L',cv,⟨⟨G,e1⟩,⟨rT,e2⟩,e3⟩,rfl,hcon,hrep,hev⟩;subst e1;subst e2;have hf:Con L' H1 T1 w':=Con.front P hcon (ho hc.hok);have hn:H1.length≤(H1++G).length:=by rw[List.length_append];omega
 have hc2:=hcon.frz (n0:=H1.length) (t0:=T1.length) hn (by rw[List.take_left',List.take_left']<;>first|exact hf|rfl);have hr2:=e3.rep hcon hn _ hrep;rw[List.take_left' rfl,List.take_left' rfl] at hc2;rw[List.take_left' rfl] at hr2;have e1:=hev.front hl ht;exact⟨_,H1,T1,_,cv,⟨rfl,rfl,rfl⟩,rfl,hc2,hr2,⟨e1.n,e1.phi,e1.tok,e1.t,fun b=>Nat.le_trans (e1.m b) (frz_le _ _ _ _ _),e1.com,e1.size,e1.frame,e1.wr,e1.os,e1.tape,e1.output,e1.drawn,e1.dr⟩⟩
theorem ACall.frz {r0:AV}(h:ACall P f args H T (fun r H' T'=>(∃G,H'=H++G)∧(∃rT,T'=T++rT)∧Frz H.length T.length H' r r0)):ACall P f args H T (Is r0 H T):=
 ACall.frzC H T (Nat.le_refl _) (Nat.le_refl _) id h
def envFz (n0 t0:Nat)(H:List Blk)(e:Env):Env→Prop
 |[]=>True
 |(s,v)::r=>Frz n0 t0 H (eget e s) v∧envFz n0 t0 H e r
theorem envFz_get {n0 t0:Nat}{H:List Blk}{e:Env}:∀{e':Env},envFz n0 t0 H e e'→∀s,Frz n0 t0 H (eget e s) (eget e' s):=by
 intro e'
 induction e' with
 |nil=>intro _ s;exact .top _
 |cons x r ih=>
  obtain⟨s0,v⟩:=x;intro h s
  by_cases hs:s0=s
  ·subst hs;simp only[eget,if_true];exact h.1
  ·simp only[eget,if_neg hs];exact ih h.2 s
theorem aw_frz {C:Cx}{c:Code}{Q:Exit→St→Prop}{e e':Env}{G:List Blk}{rT:Toks}(hnb:C.nb≤H.length)(htb:C.tb≤T.length)(ho:HOk H T)
  (he:envFz H.length T.length (H++G) e e') (h:AW C c Q ⟨e',H,T⟩):AW C c Q ⟨e,H++G,T++rT⟩:=fun L w a hc=>by
 have hf:Con L H T w:=Con.front C.P hc.con ho;have hn:H.length≤(H++G).length:=by rw[List.length_append];omega
 have hc2:=hc.con.frz (n0:=H.length) (t0:=T.length) hn (by rw[List.take_left',List.take_left']<;>first|exact hf|rfl);rw[List.take_left' rfl,List.take_left' rfl] at hc2;have e0:Ev C.nb C.tb L (H++G).length (T++rT) w L (H++G).length (T++rT) w:=Ev.refl hc.nb hc.tb;have e1:=e0.front hnb htb;have e2:Ev C.nb C.tb L (H++G).length (T++rT) w (L.frz H.length (H++G).length w) H.length T w:=⟨e1.n,e1.phi,e1.tok,e1.t,fun b=>frz_le _ _ _ _ _,e1.com,e1.size,e1.frame,e1.wr,e1.os,e1.tape,e1.output,e1.drawn,e1.dr⟩
 refine wp_mono (h (L.frz H.length (H++G).length w) w a ⟨hnb,htb,hc2,hc.size,hc.defers,fun t=>?_⟩) fun _ _ _ k=>Post.step (s1:=⟨e',H,T⟩) e2 k;have:=(envFz_get he t).rep hc.con hn _ (hc.env t)
 rwa [List.take_left' rfl] at this
theorem aw_hok {C:Cx}{c:Code}{Q:Exit→St→Prop}{s:St}(h:HOk s.H s.T→AW C c Q s):AW C c Q s:=fun L w a hc=>h hc.con.hok L w a hc
end
section
variable {n0 t0 : Nat} {H : List Blk}
theorem Frz.same {v:AV}(hb:Below n0 t0 v):Frz n0 t0 H v v:=.keep (.inl rfl) hb
theorem Frz.all {cs:List AV}(hb:BelowAll n0 t0 cs)(rest:List AV):∀(j:Nat)(h:j<cs.length),Frz n0 t0 H ((cs++rest).getD j .top) (cs[j]'h):=fun j h=>by
 rw[List.getD_eq_getElem?_getD,List.getElem?_append_left h,List.getElem?_eq_getElem h];exact .same (hb _ (List.getElem_mem h))
theorem Frz.msl0 {i n:Nat}{cs rest:List AV}(hi:n0≤i)(hH:H[i]?=some (.cells (cs++rest)))(hb:BelowAll n0 t0 cs):Frz n0 t0 H (.msl i 0 n) (.sl n cs .none):=
 .msl hi hH (by rw[List.length_append];omega) fun j h=>by rw[Nat.zero_add];exact Frz.all hb rest j h
theorem Frz.csl0 {i n cap:Nat}{cs rest:List AV}(hi:n0≤i)(hH:H[i]?=some (.cells (cs++rest)))(hb:BelowAll n0 t0 cs):Frz n0 t0 H (.csl i n cap) (.sl n cs .none):=
 .csl hi hH (by rw[List.length_append];omega) (Frz.all hb rest)
theorem Frz.pair {a b a' b':AV}(h1:Frz n0 t0 H a a')(h2:Frz n0 t0 H b b'):Frz n0 t0 H (.tup [a,b]) (.tup [a',b']):=
 .tup rfl fun j h=>by
  match j,h with
  |0,_=>exact h1
  |1,_=>exact h2
end
section
variable {L : Lay} {Hb G : List Blk} {T1 rT : Toks} {w : World} {vs vs' : List AV}
theorem Con.frzIn (h:Con L (Hb++Blk.cells vs::G) (T1++rT) w)(hf:Con L Hb T1 w)(hl:vs'.length=vs.length)
  (hv:∀(j:Nat)(hj:j<vs'.length),Frz (Hb.length+1) T1.length (Hb++Blk.cells vs::G) (vs.getD j .top) (vs'[j]'hj)):Con (L.frz (Hb.length+1) (Hb++Blk.cells vs::G).length w) (Hb++[Blk.cells vs']) T1 w:=by
 have hlen:(Hb++Blk.cells vs::G).length=Hb.length+1+G.length:=by simp;omega
 have hn:Hb.length+1≤(Hb++Blk.cells vs::G).length:=by omega
 have ne:∀b,(¬∃i,Hb.length+1≤i∧i<(Hb++Blk.cells vs::G).length∧L.phi i=b)→(L.frz (Hb.length+1) (Hb++Blk.cells vs::G).length w).m b=L.m b:=fun b hb=>if_neg hb;have nbox:∀i,i<Hb.length+1→¬∃j,Hb.length+1≤j∧j<(Hb++Blk.cells vs::G).length∧L.phi j=L.phi i:=by
  rintro i hi ⟨j,h1,h2,e⟩;have:=h.inj j i h2 (by omega) e;omega
 have hTt:∀(t:Nat)(x:Nat×Nat),T1[t]?=some x→(T1++rT)[t]?=some x:=fun t x hx=>by
  rw[List.getElem?_append_left ((List.getElem?_eq_some_iff.1 hx).1)];exact hx
 have ntok:∀t u z,(T1++rT)[t]?=some (u,z)→u<(L.tau t).c*z→¬∃j,Hb.length+1≤j∧j<(Hb++Blk.cells vs::G).length∧L.phi j=(L.tau t).b:=by
  rintro t u z ht hs ⟨j,h1,h2,e⟩;exact h.tbox t u z j ht hs h2 e.symm
 have hT1:(T1++rT).take T1.length=T1:=by simp
 have hk:Keeps L Hb.length T1 w (L.frz (Hb.length+1) (Hb++Blk.cells vs::G).length w) (Hb++[Blk.cells vs']).length T1 w:=
  ⟨by simp,fun _ _=>rfl,fun t u z h=>⟨u,h,Nat.le_refl _,fun _=>rfl⟩,fun b=>frz_le L _ _ w b,fun _ _ _=>rfl,rfl⟩
 have hl1:(Hb++[Blk.cells vs']).length=Hb.length+1:=by simp
 refine⟨fun i x hx=>?_,fun i j hi hj=>h.inj i j (by omega) (by omega),fun t u z ht=>?_,hf.tinj,fun t u z i ht hs hi=>h.tbox t u z i (hTt t _ ht) hs (by omega),fun x hx=>?_,h.gl.keep (fun b=>frz_le L _ _ w b) (fun _ _ _=>rfl)⟩
 ·have hi:=(List.getElem?_eq_some_iff.1 hx).1;rcases Nat.lt_or_ge i Hb.length with h1|h1
  ·rw[List.getElem?_append_left h1] at hx;refine(hf.box i x hx).stay hk h1 rfl fun h5=>?_;rw[ne _ (nbox i (by omega))];exact h5
  ·have hi2:i=Hb.length:=by omega
   subst hi2;rw[List.getElem?_append_right (Nat.le_refl _),Nat.sub_self] at hx;simp only[List.getElem?_cons_zero,Option.some.injEq] at hx;subst hx;obtain⟨c,t,fr,g1,g2,g3,g3',g4,g5⟩:=h.box Hb.length (.cells vs) (by rw[List.getElem?_append_right (Nat.le_refl _),Nat.sub_self];rfl);refine⟨c,t,fr,g1,g2,by omega,g3',fun j hj hj'=>?_,by rw[show (L.frz (Hb.length+1) (Hb++Blk.cells vs::G).length w).phi Hb.length=L.phi Hb.length from rfl,ne _ (nbox Hb.length (by omega))];exact g5⟩;have:=(hv j hj).rep h hn (c[j]'hj') (by
    have:=g4 j (by omega) hj';rw[List.getD_eq_getElem?_getD,List.getElem?_eq_getElem (by omega)];exact this)
   rw[hT1] at this;rw[hl1];exact this
 ·obtain⟨h1,h2⟩:=hf.tok t u z ht;refine⟨h1,fun hs=>?_⟩;obtain⟨c,e,fr,g1,g2,g3,g4⟩:=h2 hs;exact⟨c,e,fr,g1,g2,g3,by rw[show ((L.frz (Hb.length+1) (Hb++Blk.cells vs::G).length w).tau t).b=(L.tau t).b from rfl,ne _ (ntok t u z (hTt t _ ht) hs)];exact g4⟩
 ·rw[ne _ (fun⟨j,h1,h2,e⟩=>by have:=h.phi_lt h2;omega)];exact h.mz x hx
end
section
variable {P : Program} {f : FuncId} {args : List AV} {H : List Blk} {T : Toks}
theorem ACall.frzIn {n cap:Nat}{vs':List AV}(H1:List Blk)(hl:H.length≤H1.length)(ho:HOk H T→HOk H1 T)
  (h:ACall P f args H T (fun r H' T'=>∃vs G,H'=H1++Blk.cells vs::G∧(∃rT,T'=T++rT)∧vs'.length=vs.length∧(∀(j:Nat)(hj:j<vs'.length),Frz (H1.length+1) T.length H' (vs.getD j .top) (vs'[j]'hj))∧r=.csl H1.length n cap)) :
  ACall P f args H T (Is (.csl H1.length n cap) (H1++[.cells vs']) T):=by
 refine⟨h.1,fun L w ca hc hl' hr=>(h.2 L w ca hc hl' hr).mono ?_⟩;rintro e w' ⟨r',H',T',L',cv,⟨vs,G,e1,⟨rT,e2⟩,e3,e4,e5⟩,rfl,hcon,hrep,hev⟩;subst e1;subst e2;subst e5;have hf:Con L' H1 T w':=Con.front P hcon (ho hc.hok);have hc2:=hcon.frzIn hf e3 e4;have ev1:Ev H.length T.length L H.length T w L' H1.length T w':=Ev.front (rH:=Blk.cells vs::G) (rT:=rT) hev hl (Nat.le_refl _);obtain⟨rfl,hcap,hlt⟩:=hrep.csl_inv;refine⟨_,H1++[.cells vs'],T,L'.frz (H1.length+1) (H1++Blk.cells vs::G).length w',_,⟨rfl,rfl,rfl⟩,rfl,hc2,.csl H1.length n cap (by simp) hcap,⟨?_,ev1.phi,ev1.tok,ev1.t,fun b=>Nat.le_trans (ev1.m b) (frz_le _ _ _ _ _),ev1.com,ev1.size,ev1.frame,?_,ev1.os,ev1.tape,ev1.output,ev1.drawn,ev1.dr⟩⟩
 ·rw[List.length_append];exact Nat.le_trans ev1.n (Nat.le_add_right _ _)
 ·intro b hb;refine hev.wr b ?_;rcases hb with⟨i,hi,e⟩|⟨t,u,z,ht,hu,e⟩
  ·refine .inl ⟨i,?_,e⟩;rw[List.length_append] at hi ⊢;simp only[List.length_cons,List.length_nil] at hi ⊢;omega
  ·exact .inr ⟨t,u,z,by rw[List.getElem?_append_left ((List.getElem?_eq_some_iff.1 ht).1)];exact ht,hu,e⟩
end
def stillOp:Op→Bool
 |.move _|.assign _|.alloc _|.build _ _|.buildSlice _ _ _|.load _ _|.store _ _ _|.binOp _ _ _ _ _|.fieldAddr _ _ _|.indexAddr _ _ _|.index _ _ _|.convert ..|.slice ..|.extract ..|.unOp ..=>true
 |_=>false
def okNext:Result Next→Prop
 |.ok (.value _) _=>True
 |.ok .skip _=>True
 |.ok _ _=>False
 |.halt _ _=>True
theorem still_run {P:Program}{o:Oper}(h:stillOp o.op=true)(ρ:Operand→Value)(w:World):okNext ((execOp ρ o).run P w):=by
 obtain⟨dst,op,type,pos,after,guard⟩:=o;have hv:∀s:Sem Value,okNext ((do pure (Next.value (←s)):Sem Next).run P w):=fun s=>by
  simp only[Sem.run_bind]
  cases s.run P w with
  |ok x w'=>exact trivial
  |halt x w'=>exact trivial
 have hu:∀s:Sem Unit,okNext ((do s;pure Next.skip:Sem Next).run P w):=fun s=>by
  simp only[Sem.run_bind]
  cases s.run P w with
  |ok x w'=>exact trivial
  |halt x w'=>exact trivial
 cases op<;>first
  |exact trivial
  |exact hv _
  |exact hu _
  |(revert h;simp[stillOp];done)
theorem wp_both {P:Program}{o:Oper}{a:Act}{w:World}{K1 K2:Act→World→Prop}{Q:Exit→Act→World→Prop}(hs:stillOp o.op=true)(h1:o.wp P a w K1 Q)(h2:o.wp P a w K2 Q):o.wp P a w (fun a w=>K1 a w∧K2 a w) Q:=by
 have hr:=still_run (P:=P) hs a.eval w;unfold Oper.wp at *;generalize (execOp a.eval o).run P w=r at *
 cases r with
 |ok n w'=>cases n<;>first
  |exact⟨h1,h2⟩
  |exact hr.elim
 |halt x w'=>cases x<;>exact h1
section
variable {P : Program} {Q : Exit → Act → World → Prop}
def SameOps (x y:List Oper):Prop:=∀i:Nat,(y[i]?).map (fun o=>(o.dst,o.op,o.type,o.guard))=(x[i]?).map (fun o=>(o.dst,o.op,o.type,o.guard))
theorem exec_same {o o':Oper}(h1:o'.op=o.op)(h2:o'.type=o.type)(ρ:Operand→Value):execOp ρ o'=execOp ρ o:=by
 obtain⟨dst,op,type,pos,after,guard⟩:=o;obtain⟨dst',op',type',pos',after',guard'⟩:=o';simp only at h1 h2;subst h1;subst h2;rfl
theorem oper_same {o o':Oper}(h0:o'.dst=o.dst)(h1:o'.op=o.op)(h2:o'.type=o.type)(a:Act)(w:World)(K:Act→World→Prop):(o'.wp P a w K Q↔o.wp P a w K Q)∧(o'.asks P a w↔o.asks P a w):=by
 have he:=exec_same h1 h2 a.eval
 constructor
 ·unfold Oper.wp;rw[he];generalize (execOp a.eval o).run P w=r
  cases r with
  |ok n w'=>cases n<;>simp only[Oper.upon,h0]
  |halt x w'=>cases x<;>rfl
 ·unfold Oper.asks;rw[he]
theorem op_same {x y:List Oper}(h:SameOps x y){i:Nat}{K:Act→World→Prop}{a:Act}{w:World}(hh:wpOp P y.toArray Q i K a w):wpOp P x.toArray Q i K a w:=by
 unfold wpOp at *;rw[List.getElem?_toArray] at *;have hi:=h i;have hy:∀t j,yielded y.toArray t j=yielded x.toArray t j:=fun t j=>by
  unfold yielded;rw[List.getElem?_toArray,List.getElem?_toArray];have hj:=h j;have:(y[j]?).bind (·.dst)=(x[j]?).bind (·.dst):=by
   cases hx:x[j]? with
   |none=>rw[hx] at hj;cases hyj:y[j]? with
    |none=>rfl
    |some o'=>rw[hyj] at hj;cases hj
   |some o=>rw[hx] at hj;cases hyj:y[j]? with
    |none=>rw[hyj] at hj;cases hj
    |some o'=>rw[hyj] at hj;simp only[Option.map_some,Option.some.injEq,Prod.mk.injEq] at hj;exact hj.1
  rw[this]
 cases hx:x[i]? with
 |none=>
  rw[hx] at hi
  cases hyi:y[i]? with
  |none=>rw[hyi] at hh;exact hh
  |some o'=>rw[hyi] at hi;cases hi
 |some o=>
  rw[hx] at hi
  cases hyi:y[i]? with
  |none=>rw[hyi] at hi;cases hi
  |some o'=>
   rw[hyi] at hi hh;simp only[Option.map_some,Option.some.injEq,Prod.mk.injEq] at hi;obtain⟨e0,e1,e2,e3⟩:=hi
   dsimp only at hh ⊢
   have hw:Region.wanted o' (yielded y.toArray a.tmps)=Region.wanted o (yielded x.toArray a.tmps):=by
    unfold Region.wanted;rw[e3]
    cases o.guard with
    |none=>rfl
    |some g=>simp only[hy]
   rw[hw] at hh;obtain⟨g1,g2⟩:=oper_same (P:=P) (Q:=Q) e0 e1 e2 a w K
   split at hh
   ·rename_i hwt;rw[if_pos hwt];rw[g1,g2] at hh;exact hh
   ·rename_i hwt;rw[if_neg hwt];rw[e0] at hh;exact hh
def addE (ops:List Oper)(b a:Nat):List Oper:=ops.modify b fun o=>{ o with after:=o.after.push { on:=a,ground:=.data } }
theorem addE_get (ops:List Oper)(b a i:Nat):(addE ops b a)[i]?=if b=i then (ops[i]?).map (fun o=>{ o with after:=o.after.push { on:=a,ground:=.data } }) else ops[i]?:=by
 rw[addE,List.getElem?_modify]
 split
 ·rfl
 ·cases ops[i]?<;>rfl
theorem addE_same (ops:List Oper)(b a:Nat):SameOps ops (addE ops b a):=by
 intro i;rw[addE_get]
 split
 ·cases ops[i]?<;>rfl
 ·rfl
theorem addE_ready {ops:List Oper}{a b i:Nat}{listed:Array Bool}:i∈Region.ready .any (addE ops b a).toArray listed↔i∈Region.ready .any ops.toArray listed∧(i=b→listed.getD a false=true):=by
 rw[mem_ready,mem_ready,List.getElem?_toArray,List.getElem?_toArray,addE_get]
 by_cases hb:b=i
 ·subst hb;rw[if_pos rfl]
  cases ops[b]? with
  |none=>simp
  |some o=>
   simp only[Option.map_some,Option.some.injEq,exists_eq_left',Array.mem_push,true_imp_iff]
   constructor
   ·rintro⟨h1,h2⟩;exact⟨⟨h1,fun e he hb=>h2 e (.inl he) hb⟩,h2 ⟨a,.data⟩ (.inr rfl) rfl⟩
   ·rintro⟨⟨h1,h2⟩,h3⟩;refine⟨h1,fun e he hb=>?_⟩;rcases he with he|rfl
    ·exact h2 e he hb
    ·exact h3
 ·rw[if_neg hb];simp[Ne.symm hb]
theorem addE_game {ops:List Oper}{a b:Nat}:∀(fuel:Nat)(listed:Array Bool)(s:Act)(w:World),listed.getD a false=true→wpAny P .any (addE ops b a).toArray Q fuel listed s w→wpAny P .any ops.toArray Q fuel listed s w:=by
 intro fuel;have hr:∀listed:Array Bool,listed.getD a false=true→Region.ready .any (addE ops b a).toArray listed=Region.ready .any ops.toArray listed:=fun listed hl=>by
  have:∀i,i∈Region.ready .any (addE ops b a).toArray listed↔i∈Region.ready .any ops.toArray listed:=fun i=>by rw[addE_ready];exact⟨fun h=>h.1,fun h=>⟨h,fun _=>hl⟩⟩
  unfold Region.ready at this ⊢;have hsz:(addE ops b a).toArray.size=ops.toArray.size:=by simp[addE]
  rw[hsz] at this ⊢;refine List.filter_congr fun i hi=>?_;have:=this i;rw[List.mem_filter,List.mem_filter] at this;rw[Bool.eq_iff_iff];exact⟨fun h=>(this.1 ⟨hi,h⟩).2,fun h=>(this.2 ⟨hi,h⟩).2⟩
 induction fuel with
 |zero=>
  intro listed s w hl h;exact⟨by rw[←hr listed hl];exact h.1,h.2⟩
 |succ fuel ih=>
  intro listed s w hl h;refine⟨fun hn=>h.1 (by rw[hr listed hl];exact hn),fun i hi=>?_⟩;have:=h.2 i (by rw[hr listed hl];exact hi);exact wpOp_mono (fun s' w' h'=>ih _ s' w' (getD_set_true hl) h') (op_same (addE_same ops b a) this)
theorem both_game {ops:List Oper}{a b:Nat}(hab:a≠b)(hst:∀(i:Nat)(o:Oper),ops[i]?=some o→i≠a→i≠b→stillOp o.op=true):∀(fuel:Nat)(listed:Array Bool)(s:Act)(w:World),listed.size=ops.length→listed.getD a false=false→listed.getD b false=false→
  wpAny P .any (addE ops b a).toArray Q fuel listed s w→wpAny P .any (addE ops a b).toArray Q fuel listed s w→wpAny P .any ops.toArray Q fuel listed s w:=by
 intro fuel
 induction fuel with
 |zero=>
  intro listed s w hsz ha hb h1 h2;refine⟨?_,h1.2⟩
  cases hr:Region.ready .any ops.toArray listed with
  |nil=>rfl
  |cons i r=>
   have hi:i∈Region.ready .any ops.toArray listed:=by rw[hr];simp
   by_cases hib:i=b
   ·subst hib;have:i∈Region.ready .any (addE ops a i).toArray listed:=addE_ready.2 ⟨hi,fun e=>absurd e.symm hab⟩;rw[h2.1] at this;cases this
   ·have:i∈Region.ready .any (addE ops b a).toArray listed:=addE_ready.2 ⟨hi,fun e=>absurd e hib⟩;rw[h1.1] at this;cases this
 |succ fuel ih=>
  intro listed s w hsz ha hb h1 h2;refine⟨fun hn=>h1.1 ?_,fun i hi=>?_⟩
  ·cases hr:Region.ready .any (addE ops b a).toArray listed with
   |nil=>rfl
   |cons i r=>
    have hi:i∈Region.ready .any (addE ops b a).toArray listed:=by rw[hr];simp
    have:=(addE_ready.1 hi).1;rw[hn] at this;cases this
  ·have hil:i<listed.size:=by
    obtain⟨_,o,ho,_⟩:=mem_ready.1 hi;rw[List.getElem?_toArray] at ho;have:=(List.getElem?_eq_some_iff.1 ho).1;omega
   by_cases hib:i=b
   ·subst hib;have g:=op_same (addE_same ops a i) (h2.2 i (addE_ready.2 ⟨hi,fun e=>absurd e.symm hab⟩));exact wpOp_mono (fun s' w' h'=>addE_game _ _ s' w' (by simp[hil]) h') g
   ·by_cases hia:i=a
    ·subst hia;have g:=op_same (addE_same ops b i) (h1.2 i (addE_ready.2 ⟨hi,fun e=>absurd e hab⟩));exact wpOp_mono (fun s' w' h'=>addE_game _ _ s' w' (by simp[hil]) h') g
    ·have g1:=op_same (addE_same ops b a) (h1.2 i (addE_ready.2 ⟨hi,fun e=>absurd e hib⟩));have g2:=op_same (addE_same ops a b) (h2.2 i (addE_ready.2 ⟨hi,fun e=>absurd e hia⟩));have g:wpOp P ops.toArray Q i (fun s' w'=>wpAny P .any (addE ops b a).toArray Q fuel (listed.setIfInBounds i true) s' w'∧wpAny P .any (addE ops a b).toArray Q fuel (listed.setIfInBounds i true) s' w') s w:=by
      unfold wpOp at g1 g2 ⊢;rw[List.getElem?_toArray] at g1 g2 ⊢
      cases ho:ops[i]? with
      |none=>rw[ho] at g1 g2;exact⟨g1,g2⟩
      |some o=>
       rw[ho] at g1 g2
       dsimp only at g1 g2 ⊢
       split at g1
       ·rename_i hw;rw[if_pos hw] at g2;rw[if_pos hw];rcases g1 with g1|g1
        ·rcases g2 with g2|g2
         ·exact .inl (wp_both (hst i o ho hia hib) g1 g2)
         ·exact .inr g2
        ·exact .inr g1
       ·rename_i hw;rw[if_neg hw] at g2;rw[if_neg hw];exact⟨g1,g2⟩
     refine wpOp_mono (fun s' w' h'=>ih _ s' w' (by simpa using hsz) ?_ ?_ h'.1 h'.2) g
     ·rw[getD_set_ne false hia];exact ha
     ·rw[getD_set_ne false hib];exact hb
def sw (a b i:Nat):Nat:=if i=a then b else if i=b then a else i
theorem sw_sw (a b i:Nat):sw a b (sw a b i)=i:=by
 unfold sw
 by_cases h1:i=a
 ·subst h1;rw[if_pos rfl]
  by_cases h2:b=i
  ·rw[if_pos h2];exact h2
  ·rw[if_neg h2,if_pos rfl]
 ·rw[if_neg h1]
  by_cases h2:i=b
  ·subst h2;rw[if_pos rfl,if_pos rfl]
  ·rw[if_neg h2,if_neg h1,if_neg h2]
theorem sw_lt {a b i n:Nat}(ha:a<n)(hb:b<n)(hi:i<n):sw a b i<n:=by
 unfold sw
 split
 ·exact hb
 ·split
  ·exact ha
  ·exact hi
def relO (a b:Nat)(o:Oper):Oper:={ o with after:=o.after.map (fun e=>{ e with on:=sw a b e.on }),guard:=o.guard.map (fun g=>(sw a b g.1,g.2)) }
def swapE (a b:Nat)(ops:List Oper):List Oper:=((ops.set a (ops.getD b default)).set b (ops.getD a default)).map (relO a b)
theorem swapE_get {a b:Nat}{ops:List Oper}(hab:a≠b)(ha:a<ops.length)(hb:b<ops.length)(i:Nat):(swapE a b ops)[i]?=(ops[sw a b i]?).map (relO a b):=by
 rw[swapE,List.getElem?_map]
 congr 1
 rw[List.getElem?_set,List.getElem?_set,List.length_set];unfold sw
 by_cases h1:i=a
 ·subst h1;rw[if_neg (Ne.symm hab),if_pos rfl,if_pos ha,if_pos rfl,List.getD_eq_getElem?_getD,List.getElem?_eq_getElem hb];rfl
 ·by_cases h2:i=b
  ·subst h2;rw[if_pos rfl,if_pos hb,if_neg h1,if_pos rfl,List.getD_eq_getElem?_getD,List.getElem?_eq_getElem ha];rfl
  ·rw[if_neg (Ne.symm h2),if_neg (Ne.symm h1),if_neg h1,if_neg h2]
theorem swapE_ready {a b:Nat}{ops:List Oper}(hab:a≠b)(ha:a<ops.length)(hb:b<ops.length){l l2:Array Bool}(hl:l.size=ops.length)(hl2:l2.size=ops.length)(hr:∀i,i<ops.length→l2.getD i false=l.getD (sw a b i) false)(i:Nat) :
  i∈Region.ready .any ops.toArray l↔sw a b i∈Region.ready .any (swapE a b ops).toArray l2:=by
 rw[mem_ready,mem_ready,List.getElem?_toArray,List.getElem?_toArray,swapE_get hab ha hb,sw_sw]
 cases ho:ops[i]? with
 |none=>simp
 |some o=>
  have hi:i<ops.length:=(List.getElem?_eq_some_iff.1 ho).1;have e1:l2.getD (sw a b i) true=l.getD i true:=by
   have:=sw_lt ha hb hi;rw[getD_false (by omega),getD_false (by omega),hr _ this,sw_sw]
  simp only[Option.map_some,Option.some.injEq,exists_eq_left',e1];have e2:(∀e∈o.after,Region.binds .any e=true→l.getD e.on false=true)↔∀e∈(relO a b o).after,Region.binds .any e=true→l2.getD e.on false=true:=by
   have out:∀(z:Array Bool)(n:Nat),z.size=ops.length→¬n<ops.length→z.getD n false=false:=fun z n hz hn=>by
    have:¬n<z.size:=by omega
    simp[this]
   constructor
   ·intro h e he hbd;simp only[relO,Array.mem_map] at he;obtain⟨e',he',rfl⟩:=he;have:=h e' he' hbd;have hlt:e'.on<ops.length:=by
     rcases Nat.lt_or_ge e'.on ops.length with h1|h1
     ·exact h1
     ·rw[out l _ hl (by omega)] at this;cases this
    show l2.getD (sw a b e'.on) false=true;rw[hr _ (sw_lt ha hb hlt),sw_sw];exact this
   ·intro h e he hbd;have:=h { e with on:=sw a b e.on } (by simp only[relO,Array.mem_map];exact⟨e,he,rfl⟩) hbd;have hlt:sw a b e.on<ops.length:=by
     rcases Nat.lt_or_ge (sw a b e.on) ops.length with h1|h1
     ·exact h1
     ·have h2:=out l2 (sw a b e.on) hl2 (by omega);rw[show l2.getD (sw a b e.on) false=true from this] at h2;cases h2
    have h3:=hr _ hlt;rw[sw_sw] at h3;rw[←h3];exact this
  rw[e2]
theorem swapE_op {a b:Nat}{ops:List Oper}(hab:a≠b)(ha:a<ops.length)(hb:b<ops.length){i:Nat}{K:Act→World→Prop}{s:Act}{w:World}(hh:wpOp P (swapE a b ops).toArray Q (sw a b i) K s w):wpOp P ops.toArray Q i K s w:=by
 unfold wpOp at *;rw[List.getElem?_toArray] at *;rw[swapE_get hab ha hb,sw_sw] at hh;have hy:∀t j,yielded (swapE a b ops).toArray t (sw a b j)=yielded ops.toArray t j:=fun t j=>by
  unfold yielded;rw[List.getElem?_toArray,List.getElem?_toArray,swapE_get hab ha hb,sw_sw]
  cases ops[j]?<;>rfl
 cases ho:ops[i]? with
 |none=>rw[ho] at hh;exact hh
 |some o=>
  rw[ho] at hh;simp only[Option.map_some] at hh
  dsimp only
  have hw:Region.wanted (relO a b o) (yielded (swapE a b ops).toArray s.tmps)=Region.wanted o (yielded ops.toArray s.tmps):=by
   unfold Region.wanted relO
   cases o.guard with
   |none=>rfl
   |some g=>simp only[Option.map_some,hy]
  rw[hw] at hh;obtain⟨g1,g2⟩:=oper_same (P:=P) (Q:=Q) (o:=o) (o':=relO a b o) rfl rfl rfl s w K
  split at hh
  ·rename_i hwt;rw[if_pos hwt];rw[g1,g2] at hh;exact hh
  ·rename_i hwt;rw[if_neg hwt];exact hh
theorem swapE_game {a b:Nat}{ops:List Oper}(hab:a≠b)(ha:a<ops.length)(hb:b<ops.length):∀(fuel:Nat)(l l2:Array Bool)(s:Act)(w:World),l.size=ops.length→l2.size=ops.length→(∀i,i<ops.length→l2.getD i false=l.getD (sw a b i) false)→
  wpAny P .any (swapE a b ops).toArray Q fuel l2 s w→wpAny P .any ops.toArray Q fuel l s w:=by
 intro fuel;have hnil:∀l l2:Array Bool,l.size=ops.length→l2.size=ops.length→(∀i,i<ops.length→l2.getD i false=l.getD (sw a b i) false)→(Region.ready .any ops.toArray l=[]↔Region.ready .any (swapE a b ops).toArray l2=[]):=by
  intro l l2 hl hl2 hr;have h:=swapE_ready hab ha hb hl hl2 hr
  constructor
  ·intro hn
   cases hx:Region.ready .any (swapE a b ops).toArray l2 with
   |nil=>rfl
   |cons j r=>
    have hj:j∈Region.ready .any (swapE a b ops).toArray l2:=by rw[hx];simp
    have:=(h (sw a b j)).2 (by rw[sw_sw];exact hj);rw[hn] at this;cases this
  ·intro hn
   cases hx:Region.ready .any ops.toArray l with
   |nil=>rfl
   |cons j r=>
    have hj:j∈Region.ready .any ops.toArray l:=by rw[hx];simp
    have:=(h j).1 hj;rw[hn] at this;cases this
 induction fuel with
 |zero=>intro l l2 s w hl hl2 hr h;exact⟨(hnil l l2 hl hl2 hr).2 h.1,h.2⟩
 |succ fuel ih=>
  intro l l2 s w hl hl2 hr h;refine⟨fun hn=>h.1 ((hnil l l2 hl hl2 hr).1 hn),fun i hi=>?_⟩;have hi2:=(swapE_ready hab ha hb hl hl2 hr i).1 hi;have hil:i<ops.length:=by
   obtain⟨_,o,ho,_⟩:=mem_ready.1 hi;rw[List.getElem?_toArray] at ho;exact(List.getElem?_eq_some_iff.1 ho).1
  have g:=swapE_op hab ha hb (h.2 _ hi2);refine wpOp_mono (fun s' w' h'=>ih _ _ s' w' (by simpa using hl) (by simpa using hl2) (fun j hj=>?_) h') g;have hsl:=sw_lt ha hb hil;have hsj:=sw_lt ha hb hj
  by_cases hji:j=sw a b i
  ·subst hji;rw[sw_sw];simp[hl,hl2,hil,hsl]
  ·rw[getD_set_ne false (fun e=>hji e.symm),getD_set_ne false (fun e=>hji (by rw[e,sw_sw])),hr j hj]
end
theorem aw_draw2 {C:Cx}{id:Nat}{ops:List Oper}{Q:Exit→St→Prop}{s:St}{y:Code}(a b:Nat)(eff1 lo1:List Nat)(na1:List (List Nat))(eff2 lo2:List Nat)(na2:List (List Nat))(hm:C.P.follows .mixedOrders=true)
  (hck:(decide (a≠b)&&decide (a<ops.length)&&decide (b<ops.length)&&ops.all fun o=>stillOp o.op)=true) (hck1:drawCk (addE ops b a) eff1 lo1 na1=true) (hef1:effCk eff1=true) (hck2:drawCk (swapE a b (addE ops a b)) eff2 lo2 na2=true) (hef2:effCk eff2=true)
  (h:∀K:St→Prop,(∀s,AW C y Q s→K s)→adraw ⟨C,(addE ops b a).toArray,eff1,lo1,na1,K⟩ (addE ops b a) [] [(s.H,s.T,0)] (prune C.nv s.e)∧
   adraw ⟨C,(swapE a b (addE ops a b)).toArray,eff2,lo2,na2,K⟩ (swapE a b (addE ops a b)) [] [(s.H,s.T,0)] (prune C.nv s.e)):AW C (.seq (.region id ops.toArray true) y) Q s:=by
 simp only[Bool.and_eq_true,decide_eq_true_eq,List.all_eq_true] at hck;obtain⟨⟨⟨hab,ha⟩,hb⟩,hst⟩:=hck;refine aw_seq fun K hK=>fun L0 w0 a0 hc0=>wp_region_any hm ?_;obtain⟨h1,h2⟩:=h K hK;have g1:=draw_game (Q:=Q) K eff1 lo1 na1 hck1 hef1 h1 L0 w0 a0 hc0;have g2:=draw_game (Q:=Q) K eff2 lo2 na2 hck2 hef2 h2 L0 w0 a0 hc0;have l1:(addE ops b a).toArray.size=ops.toArray.size:=by simp[addE]
 have l2:(swapE a b (addE ops a b)).toArray.size=ops.toArray.size:=by simp[addE,swapE]
 have l3:(addE ops a b).length=ops.length:=by simp[addE]
 rw[l1] at g1;rw[l2] at g2;have g3:=swapE_game (ops:=addE ops a b) hab (by rw[l3];exact ha) (by rw[l3];exact hb) _ (Array.replicate ops.toArray.size false) (Array.replicate ops.toArray.size false) _ _ (by simp[l3]) (by simp[l3]) (fun i hi=>by
  rw[l3] at hi;have:=sw_lt ha hb hi;simp[hi,this]) g2
 exact both_game hab (fun i o ho _ _=>hst o (List.mem_of_getElem? ho)) _ _ _ _ (by simp) (by simp[ha]) (by simp[hb]) g1 g3
def tailCk (ops:List Oper)(n:Nat):Bool:=
 decide (n≤ops.length) &&
 ((List.range ops.length).all fun i=>(ops.getD i default).after.all fun e=>!Region.binds .any e||decide (e.on<i)) &&
 ((List.range n).all fun i=>match (ops.getD i default).guard with|some (g,_)=>decide (g<n)|none=>true) &&
 ((List.range ops.length).all fun i=>decide (i<n)||(List.range i).all fun j=>anc (ancs ops []) j i)
theorem tailCk_spec {ops:List Oper}{n:Nat}(h:tailCk ops n=true) :
  n≤ops.length∧(∀(i:Nat)(o:Oper),ops[i]?=some o→∀e∈o.after,Region.binds .any e=true→e.on<i)∧
  (∀(i g:Nat)(o:Oper)(b:Bool),i<n→ops[i]?=some o→o.guard=some (g,b)→g<n)∧
  ∀i j,n≤i→i<ops.length→j<i→anc (ancs ops []) j i=true:=by
 unfold tailCk at h;simp only[Bool.and_eq_true,decide_eq_true_eq] at h;obtain⟨⟨⟨h1,h2⟩,h3⟩,h4⟩:=h;have at_:∀{i:Nat} {x:Oper},ops[i]?=some x→i<ops.length∧ops.getD i default=x:=fun {i x} hi=>by
  obtain⟨a,b⟩:=List.getElem?_eq_some_iff.1 hi;exact⟨a,by rw[List.getD_eq_getElem?_getD,hi];rfl⟩
 refine⟨h1,fun i o ho e he hb=>?_,fun i g o b hi ho hg=>?_,fun i j hn hi hj=>?_⟩
 ·obtain⟨a1,a2⟩:=at_ ho;have:=Array.all_eq_true_iff_forall_mem.1 (List.all_eq_true.1 h2 i (List.mem_range.2 a1)) e (by rw[a2];exact he);rw[hb] at this;simpa using this
 ·obtain⟨a1,a2⟩:=at_ ho;have:=List.all_eq_true.1 h3 i (List.mem_range.2 hi);rw[a2,hg] at this;simpa using this
 ·have:=List.all_eq_true.1 h4 i (List.mem_range.2 hi);have hf:decide (i<n)=false:=decide_eq_false (by omega);rw[hf,Bool.false_or] at this;exact List.all_eq_true.1 this j (List.mem_range.2 hj)
section
variable {P : Program}
theorem wp_exits {o:Oper}{a:Act}{w:World}{K K':Act→World→Prop}{Q1 Q2:Exit→Act→World→Prop}(hQ:∀e a w,e≠.normal→Q1 e a w→Q2 e a w)(hK:∀a w,K a w→K' a w)(h:o.wp P a w K Q1):o.wp P a w K' Q2:=by
 unfold Oper.wp at *;generalize (execOp a.eval o).run P w=r at *
 cases r with
 |ok n w'=>
  cases n<;>simp only[Oper.upon] at h ⊢<;>first
   |exact hK _ _ h
   |exact h
   |(refine h.mono ?_
     intro e w3 he
     cases e with
     |returned v=>exact hK _ _ he
     |panicked ch=>exact hQ _ _ _ (by intro hh;cases hh) he
     |outgrown=>obtain⟨a0,w0,h0⟩:=he;exact⟨a0,w0,hQ _ _ _ (by intro hh;cases hh) h0⟩)
   |exact h.mono fun v w3 he=>hK _ _ he
 |halt x w'=>cases x<;>simp only[Oper.upon] at h ⊢<;>first|exact hQ _ _ _ (by intro hh;cases hh) h|exact h
theorem lets_exits {Q1 Q2:Exit→Act→World→Prop}(hQ:∀e a w,e≠.normal→Q1 e a w→Q2 e a w)(h:LetsOut Q1):LetsOut Q2:=by
 obtain⟨a,w,h⟩:=h;exact⟨a,w,hQ _ _ _ (by intro hh;cases hh) h⟩
theorem list_exits {ops:Array Oper}{Q1 Q2:Exit→Act→World→Prop}(hQ:∀e a w,Q1 e a w→Q2 e a w):∀(l:List Oper)(a:Act)(w:World),wpList P ops Q1 l a w→wpList P ops Q2 l a w:=by
 intro l
 induction l with
 |nil=>intro a w h;exact hQ _ _ _ h
 |cons o r ih=>
  intro a w h;unfold wpList at h ⊢
  split
  ·rename_i hw;rw[if_pos hw] at h;rcases h with h|⟨h1,h2⟩
   ·exact .inl (wp_exits (fun e a w _=>hQ e a w) ih h)
   ·exact .inr ⟨h1,lets_exits (fun e a w _=>hQ e a w) h2⟩
  ·rename_i hw;rw[if_neg hw] at h;exact ih _ _ h
def Closed (ops:List Oper)(listed:Array Bool):Prop:=∀i j,listed.getD i false=true→anc (ancs ops []) j i=true→listed.getD j false=true
theorem Closed.step {ops:List Oper}{listed:Array Bool}(h:Closed ops listed){i:Nat}{o:Oper}(ho:ops[i]?=some o)(hr:∀e∈o.after,Region.binds .any e=true→listed.getD e.on false=true)(hback:∀e∈o.after,Region.binds .any e=true→e.on<i):Closed ops (listed.setIfInBounds i true):=by
 intro x j hx hj
 by_cases hxi:x=i
 ·subst hxi;exact getD_set_true (anc_listed h ho hr hback hj)
 ·rw[getD_set_ne false (fun e=>hxi e.symm)] at hx;exact getD_set_true (h x j hx hj)
theorem tail_game {ops:List Oper}{Q:Exit→Act→World→Prop}{n:Nat}(hck:tailCk ops n=true):∀(l:List Oper)(i:Nat),n≤i→l=ops.drop i→i≤ops.length→∀(fuel:Nat)(listed:Array Bool)(a:Act)(w:World),l.length≤fuel→listed.size=ops.length→
  (∀j,j<ops.length→(listed.getD j false=true↔j<i))→Closed ops listed→wpList P ops.toArray Q l a w→wpAny P .any ops.toArray Q fuel listed a w:=by
 obtain⟨c1,c2,c3,c4⟩:=tailCk_spec hck;intro l
 induction l with
 |nil=>
  intro i hn hl hi fuel listed a w hf hsz hls hcl h;have hil:i=ops.length:=by
   have:=congrArg List.length hl;rw[List.length_drop,List.length_nil] at this;omega
  have hr:Region.ready .any ops.toArray listed=[]:=by
   rw[List.eq_nil_iff_forall_not_mem];intro k hk;obtain⟨h1,o,ho,_⟩:=mem_ready.1 hk;rw[List.getElem?_toArray] at ho;have hkl:=(List.getElem?_eq_some_iff.1 ho).1;rw[getD_false (by omega),(hls k hkl).2 (by omega)] at h1
   cases h1
  cases fuel with
  |zero=>exact⟨hr,h⟩
  |succ f=>exact⟨fun _=>h,fun k hk=>by rw[hr] at hk;cases hk⟩
 |cons o r ih=>
  intro i hn hl hi fuel listed a w hf hsz hls hcl h;have hil:i<ops.length:=by
   rcases Nat.lt_or_ge i ops.length with h1|h1
   ·exact h1
   ·rw[List.drop_of_length_le h1] at hl;cases hl
  have hdr:=List.drop_eq_getElem_cons hil;rw[hdr] at hl;have ho:ops[i]?=some o:=by rw[List.getElem?_eq_getElem hil];exact congrArg some (List.cons.inj hl).1.symm
  have hr':=(List.cons.inj hl).2;have hedge:∀e∈o.after,Region.binds .any e=true→listed.getD e.on false=true:=fun e he hb=>by
   have:=c2 i o ho e he hb;exact(hls _ (by omega)).2 this
  have hmem:i∈Region.ready .any ops.toArray listed:=mem_ready.2 ⟨by
   rw[getD_false (by omega)]
   cases hli:listed.getD i false with
   |false=>rfl
   |true=>have:=(hls i hil).1 hli;omega,o,by rw[List.getElem?_toArray];exact ho,hedge⟩
  have honly:∀k∈Region.ready .any ops.toArray listed,k=i:=by
   intro k hk;obtain⟨h1,o',ho',h2⟩:=mem_ready.1 hk;rw[List.getElem?_toArray] at ho';have hkl:=(List.getElem?_eq_some_iff.1 ho').1;rw[getD_false (by omega)] at h1;rcases Nat.lt_trichotomy k i with h3|h3|h3
   ·rw[(hls k hkl).2 h3] at h1;cases h1
   ·exact h3
   ·have:=anc_listed hcl ho' h2 (fun e he hb=>c2 k o' ho' e he hb) (c4 k i (by omega) hkl h3);have:=(hls i hil).1 this;omega
  cases fuel with
  |zero=>simp at hf
  |succ f=>
   refine⟨fun hn=>(by rw[hn] at hmem;cases hmem),fun k hk=>?_⟩;have:=honly k hk;subst this;have hgo:=ih (k+1) (by omega) hr' (by omega) f (listed.setIfInBounds k true);have hls':∀j,j<ops.length→((listed.setIfInBounds k true).getD j false=true↔j<k+1):=by
    intro j hj
    by_cases hjk:j=k
    ·subst hjk;simp[hsz,hil]
    ·rw[getD_set_ne false (fun e=>hjk e.symm),hls j hj];omega
   have hgo':=fun a w=>hgo a w (by simpa using hf) (by simpa using hsz) hls' (hcl.step ho hedge (fun e he hb=>c2 k o ho e he hb));unfold wpOp;rw[List.getElem?_toArray,ho];unfold wpList at h
   dsimp only
   split
   ·rename_i hw;rw[if_pos hw] at h;rcases h with h|h
    ·exact .inl (Oper.wp_mono hgo' h)
    ·exact .inr h
   ·rename_i hw;rw[if_neg hw] at h;exact hgo' _ _ h
theorem op_exits {ops:List Oper}{n i:Nat}{Q1 Q2:Exit→Act→World→Prop}(hQ:∀e a w,e≠.normal→Q1 e a w→Q2 e a w)(hi:i<n)(hg:∀(g:Nat)(o:Oper)(b:Bool),ops[i]?=some o→o.guard=some (g,b)→g<n)
  {K K':Act→World→Prop} (hK:∀a w,K a w→K' a w) {a:Act} {w:World} (h:wpOp P (ops.take n).toArray Q1 i K a w):wpOp P ops.toArray Q2 i K' a w:=by
 unfold wpOp at *;rw[List.getElem?_toArray] at *;rw[List.getElem?_take_of_lt hi] at h
 cases ho:ops[i]? with
 |none=>rw[ho] at h;exact hK _ _ h
 |some o=>
  rw[ho] at h
  dsimp only at h ⊢
  have hw:Region.wanted o (yielded (ops.take n).toArray a.tmps)=Region.wanted o (yielded ops.toArray a.tmps):=by
   unfold Region.wanted
   cases hgo:o.guard with
   |none=>rfl
   |some gb=>
    obtain⟨g,b⟩:=gb;have hgn:=hg g o b ho hgo;have:yielded (ops.take n).toArray a.tmps g=yielded ops.toArray a.tmps g:=by
     unfold yielded;rw[List.getElem?_toArray,List.getElem?_toArray,List.getElem?_take_of_lt hgn]
    simp only[this]
  rw[hw] at h
  split
  ·rename_i hwt;rw[if_pos hwt] at h;rcases h with h|⟨h1,h2⟩
   ·exact .inl (wp_exits hQ hK h)
   ·exact .inr ⟨h1,lets_exits hQ h2⟩
  ·rename_i hwt;rw[if_neg hwt] at h;exact hK _ _ h
theorem pre_game {ops:List Oper}{Q1 Q2:Exit→Act→World→Prop}{n:Nat}(hck:tailCk ops n=true)(hQ:∀e a w,e≠.normal→Q1 e a w→Q2 e a w)(hfin:∀a w,Q1 .normal a w→wpList P ops.toArray Q2 (ops.drop n) a w) :
  ∀(fuel:Nat)(lp listed:Array Bool)(a:Act)(w:World),lp.size=n→listed.size=ops.length→(∀j,j<n→listed.getD j false=lp.getD j false)→(∀j,n≤j→listed.getD j false=false)→Closed ops listed→
   wpAny P .any (ops.take n).toArray Q1 fuel lp a w→wpAny P .any ops.toArray Q2 (fuel+(ops.length-n)) listed a w:=by
 obtain⟨c1,c2,c3,c4⟩:=tailCk_spec hck;have tk:∀i,i<n→(ops.take n).toArray[i]?=ops[i]?:=fun i hi=>by rw[List.getElem?_toArray,List.getElem?_take_of_lt hi]
 have hall:∀(lp:Array Bool),lp.size=n→Region.ready .any (ops.take n).toArray lp=[]→∀j,j<n→lp.getD j false=true:=by
  intro lp hsz hr i
  induction i using Nat.strongRecOn with
  |_ i ih=>
   intro hil
   cases hli:lp.getD i false with
   |true=>rfl
   |false=>
    exfalso;have hio:ops[i]?=some ops[i]:=List.getElem?_eq_getElem (by omega);have hmem:i∈Region.ready .any (ops.take n).toArray lp:=by
     refine mem_ready.2 ⟨by rw[getD_false (by omega)];exact hli,ops[i],by rw[tk i hil];exact hio,fun e he hb=>?_⟩;have hlt:=c2 i _ hio e he hb;exact ih e.on hlt (by omega)
    rw[hr] at hmem
    cases hmem
 have hend:∀(fuel:Nat)(lp listed:Array Bool)(a:Act)(w:World),lp.size=n→listed.size=ops.length→(∀j,j<n→listed.getD j false=lp.getD j false)→(∀j,n≤j→listed.getD j false=false)→Closed ops listed→
   Region.ready .any (ops.take n).toArray lp=[]→Q1 .normal a w→ops.length-n≤fuel→wpAny P .any ops.toArray Q2 fuel listed a w:=by
  intro fuel lp listed a w hz hsz hl ht hcl hr hq hf;have hl2:=hall lp hz hr;refine tail_game hck (ops.drop n) n (Nat.le_refl _) rfl c1 fuel listed a w (by rw[List.length_drop];exact hf) hsz (fun j hj=>?_) hcl (hfin _ _ hq);rcases Nat.lt_or_ge j n with h1|h1
  ·rw[hl j h1,hl2 j h1];simp[h1]
  ·rw[ht j h1];simp;omega
 intro fuel
 induction fuel with
 |zero=>
  intro lp listed a w hz hsz hl ht hcl h;exact hend _ lp listed a w hz hsz hl ht hcl h.1 h.2 (by omega)
 |succ fuel ih=>
  intro lp listed a w hz hsz hl ht hcl h
  cases hrr:Region.ready .any (ops.take n).toArray lp with
  |nil=>exact hend _ lp listed a w hz hsz hl ht hcl hrr (h.1 hrr) (by omega)
  |cons k rest=>
   have hk:k∈Region.ready .any (ops.take n).toArray lp:=by rw[hrr];simp
   have hkn:∀i,i∈Region.ready .any (ops.take n).toArray lp→i<n:=by
    intro i hi;obtain⟨_,o,ho,_⟩:=mem_ready.1 hi;rw[List.getElem?_toArray] at ho;have:=(List.getElem?_eq_some_iff.1 ho).1;rw[List.length_take] at this;omega
   have hto:∀i,i∈Region.ready .any (ops.take n).toArray lp→i∈Region.ready .any ops.toArray listed:=by
    intro i hi;have hin:=hkn i hi;obtain⟨h1,o,ho,h2⟩:=mem_ready.1 hi;rw[tk i hin] at ho;rw[getD_false (by omega)] at h1;refine mem_ready.2 ⟨by rw[getD_false (by omega),hl i hin];exact h1,o,by rw[List.getElem?_toArray];exact ho,fun e he hb=>?_⟩;have:=c2 i o ho e he hb;rw[hl _ (by omega)];exact h2 e he hb
   have hfrom:∀i,i∈Region.ready .any ops.toArray listed→i∈Region.ready .any (ops.take n).toArray lp:=by
    intro i hi;obtain⟨h1,o,ho,h2⟩:=mem_ready.1 hi;rw[List.getElem?_toArray] at ho;have hil:=(List.getElem?_eq_some_iff.1 ho).1;rw[getD_false (by omega)] at h1;rcases Nat.lt_or_ge i n with hin|hin
    ·refine mem_ready.2 ⟨by rw[getD_false (by omega),←hl i hin];exact h1,o,by rw[tk i hin];exact ho,fun e he hb=>?_⟩;have:=c2 i o ho e he hb;rw[←hl _ (by omega)];exact h2 e he hb
    ·exfalso;have hkk:=hkn k hk;have h3:=anc_listed hcl ho h2 (fun e he hb=>c2 i o ho e he hb) (c4 i k hin hil (by omega));obtain⟨h4,_⟩:=mem_ready.1 hk;rw[getD_false (by omega),←hl k hkk,h3] at h4
     cases h4
   rw[show fuel+1+(ops.length-n)=(fuel+(ops.length-n))+1 by omega];refine⟨fun hn=>(by have:=hto k hk;rw[hn] at this;cases this),fun i hi=>?_⟩;have hip:=hfrom i hi;have hin:=hkn i hip;obtain⟨_,o,ho,h2⟩:=mem_ready.1 hi;rw[List.getElem?_toArray] at ho;refine op_exits hQ hin (fun g o' b ho' hg=>c3 i g o' b hin ho' hg) (fun a' w' h'=>?_) (h.2 i hip);refine ih (lp.setIfInBounds i true) (listed.setIfInBounds i true) a' w' (by simpa using hz) (by simpa using hsz) (fun j hj=>?_) (fun j hj=>?_) (hcl.step ho h2 (fun e he hb=>c2 i o ho e he hb)) h'
   ·by_cases hji:j=i
    ·subst hji;have h5:j<ops.length:=by omega
     simp[hsz,hz,hj,h5]
    ·rw[getD_set_ne false (fun e=>hji e.symm),getD_set_ne false (fun e=>hji e.symm),hl j hj]
   ·rw[getD_set_ne false (by omega),ht j hj]
end
def fdraw (D:DCx)(KR:List DRec→List Stg→Env→Prop):Nat→List Oper→List DRec→List Stg→Env→Prop
 |0,_,recs,sts,e=>KR recs sts e
 |_+1,[],_,_,_=>False
 |n+1,o::r,recs,sts,e=>match sts.getLast? with
  |some (H,T,_)=>match o.guard with
   |none=>dexec D (fdraw D KR n r) o recs sts e H T
   |some _=>False
  |none=>False
theorem fdraw_walk {nx:Nat}{D:DCx}{ops:List Oper}{e0:Env}{KR:List DRec→List Stg→Env→Prop}(hck:effCk D.eff=true)(hnx:D.eff.contains nx=true∨ops.length≤nx):∀(n:Nat)(l:List Oper)(recs:List DRec)(sts:List Stg)(e:Env),WalkOkM nx D ops e0 recs sts e→ops.drop recs.length=l→fdraw D KR n l recs sts e→
  ∃recs' sts',WalkOkM nx D ops e0 recs' sts' (envAfter e0 recs')∧recs'.length=recs.length+n∧sts'[0]?=sts[0]?∧KR recs' sts' (envAfter e0 recs'):=by
 intro n
 induction n with
 |zero=>
  intro l recs sts e hw hl h;have hc:=hw.cur;subst hc;exact⟨recs,sts,hw,rfl,rfl,h⟩
 |succ n ih=>
  intro l recs sts e hw hl h
  cases l with
  |nil=>exact h.elim
  |cons o r=>
  have hops:ops[recs.length]?=some o:=by
   have:=congrArg (fun l=>l[0]?) hl;simpa using this
  have hdrop:ops.drop (recs.length+1)=r:=by
   have:=congrArg (fun l=>l.drop 1) hl;simpa[List.drop_drop,Nat.add_comm] using this
  have fin:∀{H T i0 v H' T'},sts.getLast?=some (H,T,i0)→o.guard=none→aexec D.C.P o e H T v H' T'→(D.eff.contains recs.length=false→H'=H∧T'=T)→dgo D (fdraw D KR n r) o recs sts e true v H' T'→
    ∃recs' sts',WalkOkM nx D ops e0 recs' sts' (envAfter e0 recs')∧recs'.length=recs.length+(n+1)∧sts'[0]?=sts[0]?∧KR recs' sts' (envAfter e0 recs'):=by
   intro H T i0 v H' T' hlast hg h2 h3 h4;obtain⟨recs',sts',e',g1,g2,g3,g4,_⟩:=dgo_stepM hck hnx hw hops hlast (by rw[hg]) (fun e=>by cases e) (fun _ _=>h2) h3 h4;obtain⟨r2,s2,k1,k2,k3,k4⟩:=ih r recs' sts' e' g1 (by rw[g2];exact hdrop) g3;exact⟨r2,s2,k1,by omega,k3.trans g4,k4⟩
  unfold fdraw at h
  split at h
  ·rename_i H T i0 hlast
   split at h
   ·rename_i hg;unfold dexec at h
    split at h
    ·rename_i g as hcal;obtain⟨v,H',T',hc,hs,hd⟩:=h;refine fin hlast hg ?_ hs hd;unfold aexec;rw[hcal];exact hc
    ·rename_i hcal
     split at h
     ·rename_i v H' T' hop;refine fin hlast hg ?_ h.1 h.2;unfold aexec;rw[hcal];exact hop
     ·exact h.elim
   ·exact h.elim
  ·exact h.elim
def stAll (P:Program)(x:DRec)(H1:List Blk):List Stg→Prop
 |[]=>True
 |(_,T,_)::r=>aexec P x.o x.e H1 T x.v H1 T∧stAll P x H1 r
def fOb (P:Program)(H1:List Blk)(lo:List Nat)(sts:List Stg):List DRec→Nat→Prop
 |[],_=>True
 |x::r,i=>(match x.eff with
  |true=>(match sts[x.k]?,sts[x.k+1]? with
   |some a,some b=>aexec P x.o x.e H1 a.2.1 x.v H1 b.2.1
   |_,_=>False)
  |false=>stAll P x H1 (sts.drop (lo.getD i 0)))∧fOb P H1 lo sts r (i+1)
def sameH (H:List Blk):List Stg→Prop
 |[]=>True
 |(G,_,_)::r=>G=H∧sameH H r
def fEnd (C:Cx)(ops:List Oper)(lo:List Nat)(K:St→Prop)(n:Nat)(H:List Blk)(recs:List DRec)(sts:List Stg)(e:Env):Prop:=
 match ops[n]?,sts.getLast? with
 |some al,some (_,T,_)=>al.guard=none∧∃z d,al.dst=some d∧d<C.nt∧(∀e' T',aexec C.P al e' H T' (.ptr H.length 0) (H++[z]) T')∧sameH H sts∧fOb C.P (H++[z]) lo sts recs 0∧K ⟨eput e d (.ptr H.length 0),H++[z],T⟩
 |_,_=>False
theorem stAll_spec {P:Program}{x:DRec}{H1:List Blk}:∀{l:List Stg},stAll P x H1 l→∀(j:Nat)(st:Stg),l[j]?=some st→aexec P x.o x.e H1 st.2.1 x.v H1 st.2.1
 |[],_,j,st,h=>by simp at h
 |(G,T,i)::r,hs,0,st,h=>by simp at h;subst h;exact hs.1
 |(G,T,i)::r,hs,j+1,st,h=>stAll_spec hs.2 j st (by simpa using h)
theorem sameH_spec {H:List Blk}:∀{l:List Stg},sameH H l→∀st∈l,st.1=H
 |[],_,st,h=>by simp at h
 |(G,T,i)::r,hs,st,h=>by
  rcases List.mem_cons.1 h with rfl|h1
  ·exact hs.1
  ·exact sameH_spec hs.2 st h1
theorem fOb_spec {P:Program}{H1:List Blk}{lo:List Nat}{sts:List Stg}:∀{l:List DRec} {i0:Nat},fOb P H1 lo sts l i0→∀(j:Nat)(x:DRec),l[j]?=some x→
  (x.eff=true→∀a b,sts[x.k]?=some a→sts[x.k+1]?=some b→aexec P x.o x.e H1 a.2.1 x.v H1 b.2.1)∧(x.eff=false→∀k st,sts[k]?=some st→lo.getD (i0+j) 0≤k→aexec P x.o x.e H1 st.2.1 x.v H1 st.2.1)
 |[],_,_,j,x,h=>by simp at h
 |y::r,i0,hs,0,x,h=>by
  simp at h;subst h;have h1:=hs.1
  constructor
  ·intro he a b ha hb;rw[he] at h1;simp only[ha,hb] at h1;exact h1
  ·intro he k st hk hl;rw[he] at h1;exact stAll_spec h1 (k-lo.getD i0 0) st (by rw[List.getElem?_drop,←hk];congr 1;simp only[Nat.add_zero] at hl;omega)
 |y::r,i0,hs,j+1,x,h=>by
  have:=fOb_spec hs.2 j x (by simpa using h);rw[show i0+1+j=i0+(j+1) by omega] at this;exact this
theorem float_game {C:Cx}{ops:List Oper}{Q:Exit→St→Prop}{s:St}(K:St→Prop)(n:Nat)(eff lo:List Nat)(na:List (List Nat))(hn:ops.length=n+1)(hck:drawCk ops eff lo na=true)(hef:effCk eff=true)(hne:eff.contains n=false)
  (h:fdraw ⟨C,ops.toArray,eff,lo,na,K⟩ (fEnd C ops lo K n s.H) n ops [] [(s.H,s.T,0)] (prune C.nv s.e)):∀L0 w0 a0,ConSt C s L0 w0 a0→
   wpAny C.P .any ops.toArray (Post C (ExitK K Q) L0 s w0) ops.toArray.size (Array.replicate ops.toArray.size false) a0 { w0 with drawn:=w0.drawn+1 }:=by
 intro L0 w0 a0 hc0;have hc:ConSt C ⟨prune C.nv s.e,s.H,s.T⟩ L0 w0 a0:=⟨hc0.nb,hc0.tb,hc0.con,hc0.size,hc0.defers,fun t=>by
  rcases eget_prune C.nv s.e t with e|e<;>rw[e]
  ·exact hc0.env t
  ·exact .top _⟩
 generalize hs':(⟨prune C.nv s.e,s.H,s.T⟩:St)=s' at hc;have hs1:prune C.nv s.e=s'.e:=by rw[←hs']
 have hs2:s.H=s'.H:=by rw[←hs']
 have hs3:s.T=s'.T:=by rw[←hs']
 rw[hs1,hs2,hs3] at h;rw[show Post C (ExitK K Q) L0 s w0=Post C (ExitK K Q) L0 s' w0 by unfold Post;rw[hs2,hs3]];clear hs' hs1 hs2 hs3 hc0;generalize hD:(⟨C,ops.toArray,eff,lo,na,K⟩:DCx)=D at h;have hDC:D.C=C:=by rw[←hD]
 have hDe:D.eff=eff:=by rw[←hD]
 have hDl:D.lo=lo:=by rw[←hD]
 have hDn:D.na=na:=by rw[←hD]
 have hDa:D.all=ops.toArray:=by rw[←hD]
 obtain⟨recs0,sts0,hw,hl0,hst0,hend⟩:=fdraw_walk (nx:=ops.length) (D:=D) (ops:=ops) (e0:=s'.e) (by rw[hDe];exact hef) (.inr (Nat.le_refl _)) n ops [] [(s'.H,s'.T,0)] s'.e
  ⟨⟨by simp,fun i x hx=>by simp at hx⟩,fun i x hx=>by simp at hx,fun i x hx=>by simp at hx,rfl⟩ (by simp) h
 simp only[List.length_nil,Nat.zero_add] at hl0;obtain⟨d1,d2,d3,d4,d5,d6,d7⟩:=drawCk_spec hck;have hon:ops[n]?=some (ops[n]'(by omega)):=List.getElem?_eq_getElem (by omega);generalize ops[n]'(by omega)=al at hon;unfold fEnd at hend;rw[hon] at hend;have heffn:∀m i,eff[m]?=some i→i<n:=fun m i hmi=>by
  have h1:=(d3 m i hmi).1;have h2:i≠n:=by
   rintro rfl;have:eff.contains i=true:=by rw[List.contains_iff_mem];exact List.mem_of_getElem? hmi
   rw[hne] at this;cases this
  omega
 have hstl:sts0.length=1+eff.length:=by
  have h1:=hw.st.len;rw[hDe,hl0] at h1;rw[h1]
  congr 2
  apply List.filter_eq_self.2;intro e he;obtain⟨m,hm,e1⟩:=List.mem_iff_getElem.1 he;have:=heffn m e (by rw[List.getElem?_eq_getElem hm,e1]);simpa using this
 cases hlast:sts0.getLast? with
 |none=>rw[hlast] at hend;exact hend.elim
 |some st=>
 obtain⟨HL,TL,iL⟩:=st;rw[hlast] at hend;obtain⟨hguard,z,d,hdst,hdn,hal,hsame,hob,hK⟩:=hend;have hsame:=sameH_spec hsame;have hob:=fOb_spec hob;obtain⟨x9,hx9⟩:∃x:DRec,x=⟨al,[],true,.ptr s'.H.length 0,0,false⟩:=⟨_,rfl⟩
 obtain⟨recsP,hP⟩:∃l,l=recs0++[x9]:=⟨_,rfl⟩
 have hPlen:recsP.length=ops.length:=by rw[hP];simp[hl0];omega
 have hPlo:∀i,i<n→recsP[i]?=recs0[i]?:=fun i hi=>by rw[hP,List.getElem?_append_left (by omega)]
 have hPn:recsP[n]?=some x9:=by rw[hP,List.getElem?_append_right (by omega),hl0,Nat.sub_self];rfl
 have hPo:∀(i:Nat)(x:DRec),recsP[i]?=some x→ops[i]?=some x.o:=fun i x hx=>by
  rcases Nat.lt_or_ge i n with hi|hi
  ·rw[hPlo i hi] at hx;exact(hw.rcs i x hx).o
  ·have hil:=(List.getElem?_eq_some_iff.1 hx).1;have:i=n:=by omega
   subst this;rw[hPn] at hx
   cases hx
   rw[hon,hx9]
 have hPtake:∀i,i≤n→recsP.take i=recs0.take i:=fun i hi=>by rw[hP,List.take_append_of_le_length (by omega)]
 have hmapP:recsP.map (·.o)=ops:=by
  apply List.ext_getElem?;intro i;rw[List.getElem?_map]
  by_cases hi:i<recsP.length
  ·rw[List.getElem?_eq_getElem hi,Option.map_some,hPo i _ (List.getElem?_eq_getElem hi)]
  ·rw[List.getElem?_eq_none (by omega),List.getElem?_eq_none (by omega)];rfl
 obtain⟨sts1,hs1⟩:∃l:List Stg,l=sts0.map fun st=>(s'.H++[z],st.2.1,st.2.2):=⟨_,rfl⟩
 have hs1at:∀k,sts1[k]?=(sts0[k]?).map fun st:Stg=>(s'.H++[z],st.2.1,st.2.2):=fun k=>by rw[hs1,List.getElem?_map]
 have henvs:∀(i:Nat)(x:DRec),recsP[i]?=some x→i<n→x.e=envAfter s'.e (recsP.take i):=fun i x hx hi=>by
  rw[hw.envs i x (by rw[←hPlo i hi];exact hx),hPtake i (by omega)]
 have hks:∀(i:Nat)(x:DRec),recsP[i]?=some x→i<n→x.k=(D.eff.filter (·<i)).length:=fun i x hx hi=>hw.st.k i x (by rw[←hPlo i hi];exact hx);have hR0:∀(i:Nat)(x:DRec),recsP[i]?=some x→i<n→RecOkM ops.length D ops sts0 recsP i x:=fun i x hx hi=>by
  have hr:=hw.rcs i x (by rw[←hPlo i hi];exact hx);exact⟨hr.o,hr.k,hr.eff,hr.gate,hr.dst,hr.skip,hr.still,hr.effect⟩
 have hR1:∀(i:Nat)(x:DRec),recsP[i]?=some x→i<n→RecOkM ops.length D ops sts1 recsP i x:=fun i x hx hi=>by
  have hx0:recs0[i]?=some x:=by rw[←hPlo i hi];exact hx
  have hr:=hw.rcs i x hx0;obtain⟨o1,o2⟩:=hob i x hx0;refine⟨hr.o,by rw[hs1,List.length_map];exact hr.k,hr.eff,hr.gate,hr.dst,hr.skip,fun hrun he k H T e hk hlo _=>?_,fun he=>?_⟩
  ·rw[hs1at] at hk
   cases hk0:sts0[k]? with
   |none=>rw[hk0] at hk;cases hk
   |some st=>
    rw[hk0] at hk
    cases hk
    rw[hDC];rw[hDl] at hlo;exact o2 he k st hk0 (by simpa using hlo)
  ·obtain⟨Ha,Ta,ea,Hb,Tb,g1,g2,g3,g4⟩:=hr.effect he;refine⟨s'.H++[z],Ta,ea,s'.H++[z],Tb,by rw[hs1at,g1];rfl,by rw[hs1at,g2];rfl,fun _ _=>by rw[hDC];exact o1 he _ _ g1 g2,fun hf=>⟨rfl,(g4 hf).2⟩⟩
 have hsz:ops.toArray.size=ops.length:=by simp
 rw[hsz];have ph2:∀(fuel:Nat)(listed:Array Bool)(a:Act)(w:World),Inv D s' recsP sts1 L0 w0 listed a w→listed.getD n false=true→(∀i,i<ops.length→listed.getD i false=true)∨(List.range ops.length).countP (fun i=>!listed.getD i false)≤fuel→
   wpAny C.P .any ops.toArray (Post C (ExitK K Q) L0 s' w0) fuel listed a w:=by
  refine core_game (nx:=ops.length) hck hef hDC hDe hDl hDn hDa hPlen hPo (fun i=>i<n) (fun i hi=>by omega) hR1 henvs hks (fun l=>l.getD n false=true) (fun l j _ hl=>getD_set_true hl) (fun listed a w hI _ hall=>?_) (fun fuel listed a w hI hJ i hi hni _=>?_)
  ·obtain⟨k,H,T,e,L,hk,hkl,hstk,hcon,hnb,htb,hslots,hev⟩:=hI.st;have hkk:k=eff.length:=by
    rw[hDe] at hk hkl;rcases Nat.lt_or_ge k eff.length with hlt|hge
    ·have:=(hk k _ (List.getElem?_eq_getElem hlt)).1 (hall _ (d3 k _ (List.getElem?_eq_getElem hlt)).1);omega
    ·omega
   have hlst:sts1[k]?=some (s'.H++[z],TL,iL):=by
    rw[hs1at,show sts0[k]?=some (HL,TL,iL) by rw[←hlast,List.getLast?_eq_getElem?,hstl,hkk];congr 1;omega];rfl
   rw[hstk] at hlst;obtain⟨rfl,rfl,rfl⟩:H=s'.H++[z]∧T=TL∧e=iL:=by injection hlst with h1;injection h1 with h1 h2;injection h2 with h2 h3;exact⟨h1,h2,h3⟩
   rw[hDC] at hev hnb htb;refine⟨_,L,hK,⟨hnb,htb,hcon,by rw[hI.tmps,hDC],hI.defers,fun t=>?_⟩,hev⟩;obtain⟨v,hv,hr⟩:=hslots t;show Rep L _ T w (eget (eput (envAfter s'.e recs0) d (.ptr s'.H.length 0)) t) _;have hee:eput (envAfter s'.e recs0) d (.ptr s'.H.length 0)=envAfter s'.e recsP:=by
    rw[hP,envAfter_snoc,hx9];unfold after1 eputO;simp only[hdst]
   rw[hee];rcases hv with⟨j,x,hx,hd,hl,rfl⟩|⟨hno,rfl⟩
   ·rw[eget_envAfter_at recsP s'.e t j x hx hd (fun i y hy hyd=>d1 i j y.o x.o t (hPo i y hy) (hPo j x hx) hyd hd)];exact hr
   ·rw[eget_envAfter_none recsP s'.e t (fun x hx hd=>by
     obtain⟨j,hj,e1⟩:=List.mem_iff_getElem.1 hx;have h1:=hno j x (by rw[List.getElem?_eq_getElem hj,e1]) hd;have h2:=hall j (by omega);rw[h1] at h2;cases h2)]
    exact hr
  ·obtain⟨h1,o,ho,_⟩:=mem_ready.1 hi;rw[List.getElem?_toArray] at ho;have hil:=(List.getElem?_eq_some_iff.1 ho).1;have:i=n:=by omega
   subst this;rw[getD_false (by rw[hI.size,hPlen];exact hil),hJ] at h1
   cases h1
 refine core_game (nx:=ops.length) hck hef hDC hDe hDl hDn hDa hPlen hPo (fun i=>i<n) (fun i hi=>by omega) hR0 henvs hks (fun l=>l.getD n false=false)
  (fun l i hi hl=>by rw[getD_set_ne false (by omega)];exact hl) (fun listed a w hI hJ hall=>by rw[hall n (by omega)] at hJ;cases hJ) ?_ ops.length _ a0 _ ⟨by simp[hPlen],fun i j hl _=>?_,⟨0,s'.H,s'.T,0,L0,fun m i hmi=>?_,Nat.zero_le _,by rw[hst0];rfl,hc.con.drew rfl,by rw[hDC];exact hc.nb,by rw[hDC];exact hc.tb,fun t=>?_,?_⟩,by rw[hDC];exact hc.size,hc.defers⟩ ?_ (.inr ?_)
 rotate_left
 ·exfalso
  by_cases hi:i<ops.length<;>simp[hi] at hl
 ·constructor
  ·intro hl;exfalso
   by_cases hi:i<ops.length<;>simp[hi] at hl
  ·intro h;omega
 ·refine⟨eget s'.e t,.inr ⟨fun j x hx hd=>?_,rfl⟩,?_⟩
  ·by_cases hj:j<ops.length<;>simp[hj]
  ·have kd:Keeps L0 s'.H.length s'.T w0 L0 s'.H.length s'.T { w0 with drawn:=w0.drawn+1 }:=(Ev.drew (H:=s'.H) (T:=s'.T) (L:=L0) (w:=w0) (w':={ w0 with drawn:=w0.drawn+1 }) rfl rfl rfl rfl (Nat.le_succ _)).keeps;exact(hc.env t).keep kd
 ·rw[hDC];exact(Ev.drew (H:=s'.H) (T:=s'.T) (L:=L0) (w:=w0) (w':={ w0 with drawn:=w0.drawn+1 }) rfl rfl rfl rfl (Nat.le_succ _)).mono hc.nb hc.tb
 ·simp[hn]
 ·refine Nat.le_trans (List.countP_le_length) ?_;simp
 intro fuel listed a w hI hJ i hi hni hcnt;obtain⟨hnl,o',ho',hready⟩:=mem_ready.1 hi;rw[List.getElem?_toArray] at ho';have hil:i<ops.length:=(List.getElem?_eq_some_iff.1 ho').1;have hin:i=n:=by omega
 subst hin;have hoo:o'=al:=by rw[ho'] at hon;exact Option.some.inj hon
 subst hoo;have hcl:∀i j,listed.getD i false=true→anc (ancs ops []) j i=true→listed.getD j false=true:=by
  have:=hI.closed;rw[hmapP] at this;exact this
 have hancl:∀j,anc (ancs ops []) j i=true→listed.getD j false=true:=fun j hj=>anc_listed hcl ho' hready (d6 i o' ho') hj;obtain⟨k,H,T,e,L,hk,hkl,hstk,hcon,hnb,htb,hslots,hev⟩:=hI.st;rw[hDe] at hk hkl;rw[hDC] at hnb htb hev;have hH:H=s'.H:=hsame _ (List.mem_of_getElem? hstk);subst hH;have hwant:Region.wanted o' (yielded ops.toArray a.tmps)=true:=by
  unfold Region.wanted;rw[hguard]
 have hisz:i<listed.size:=by rw[hI.size,hPlen];exact hil
 unfold wpOp;rw[List.getElem?_toArray,ho']
 dsimp only
 rw[if_pos hwant];refine .inl ?_;refine aexec_wp (hal [] T) hcon (fun t=>.top _) fun cv w' L' hcon' hrep' hev'=>?_;refine ph2 fuel _ _ _ ⟨by simp[hI.size],fun i' j' hl' hanc'=>?_,⟨k,s'.H++[z],T,e,L',fun m i' hm'=>?_,by rw[hDe];exact hkl,by rw[hs1at,hstk];rfl,hcon',by rw[hDC];exact Nat.le_trans hnb hev'.n,by rw[hDC];exact Nat.le_trans htb hev'.t,fun t=>?_,by rw[hDC];exact hev.trans (hev'.mono hnb htb)⟩,?_,?_⟩ (by simp[hisz]) hcnt
 ·rw[hmapP] at hanc'
  by_cases hii:i=i'
  ·subst hii;exact getD_set_true (hancl j' hanc')
  ·rw[getD_set_ne false hii] at hl';exact getD_set_true (hcl i' j' hl' hanc')
 ·rw[hDe] at hm';have:=heffn m i' hm';rw[getD_set_ne false (by omega)];exact hk m i' hm'
 ·have hlt:d<a.tmps.size:=by rw[hI.tmps,hDC];exact hdn
  by_cases hd:d=t
  ·subst hd;refine⟨.ptr s'.H.length 0,.inl ⟨i,x9,hPn,by rw[hx9];exact hdst,by simp[hisz],by rw[hx9]⟩,?_⟩;rw[hdst,getD_put a d d cv hlt,if_pos rfl];exact hrep'
  ·obtain⟨v',hv,hr⟩:=hslots t;refine⟨v',?_,?_⟩
   ·rcases hv with⟨j,y,hy,hyd,hl,rfl⟩|⟨hno,rfl⟩
    ·exact .inl ⟨j,y,hy,hyd,getD_set_true hl,rfl⟩
    ·refine .inr ⟨fun j y hy hyd=>?_,rfl⟩;have hij:i≠j:=by
      rintro rfl;rw[hPn] at hy
      cases hy
      rw[hx9] at hyd;rw[hdst] at hyd;exact hd (Option.some.inj hyd)
     rw[getD_set_ne false hij];exact hno j y hy hyd
   ·rw[hdst,getD_put a d t cv hlt,if_neg hd];exact hr.keep hev'.keeps
 ·rw[hdst,hDC];simp[Act.put,hI.tmps,hDC]
 ·rw[hdst];exact hI.defers
theorem aw_mid {C:Cx}{x y:Code}{Q:Exit→St→Prop}{s:St}(st:St)(h1:AW C y Q st)(h2:AW C y Q st→∀K:St→Prop,(∀s,AW C y Q s→K s)→AW C x (ExitK K Q) s):AW C (.seq x y) Q s:=aw_seq (h2 h1)
theorem aw_floatK {C:Cx}{id:Nat}{ops:List Oper}{Q:Exit→St→Prop}{s:St}(K:St→Prop)(n:Nat)(eff lo:List Nat)(na:List (List Nat))(hm:C.P.follows .mixedOrders=true)(htl:tailCk ops (n+1)=true)(hck:(drawCk (ops.take (n+1)) eff lo na&&!eff.contains n)=true)(hef:effCk eff=true)
  (h:fdraw ⟨C,(ops.take (n+1)).toArray,eff,lo,na,aops C ops.toArray K (ops.drop (n+1))⟩ (fEnd C (ops.take (n+1)) lo (aops C ops.toArray K (ops.drop (n+1))) n s.H) n (ops.take (n+1)) [] [(s.H,s.T,0)] (prune C.nv s.e)):AW C (.region id ops.toArray true) (ExitK K Q) s:=by
 simp only[Bool.and_eq_true,Bool.not_eq_true'] at hck;intro L0 w0 a0 hc0;obtain⟨c1,_⟩:=tailCk_spec htl;refine wp_region_any hm ?_;have hg:=float_game (Q:=Q) (aops C ops.toArray K (ops.drop (n+1))) n eff lo na (by rw[List.length_take];omega) hck.1 hef hck.2 h L0 w0 a0 hc0;have hlen:(ops.take (n+1)).toArray.size=n+1:=by simp;omega
 rw[hlen] at hg;have:=pre_game (P:=C.P) (ops:=ops) (n:=n+1) (Q2:=Post C (ExitK K Q) L0 s w0) htl ?_ ?_ (n+1) (Array.replicate (n+1) false) (Array.replicate ops.length false) a0 _ (by simp) (by simp) ?_ ?_ ?_ hg
 ·rw[show ops.toArray.size=n+1+(ops.length-(n+1)) by simp;omega];rw[show ops.length=n+1+(ops.length-(n+1)) by omega] at this;simpa using this
 ·rintro e a w hne ⟨s',L',q,r⟩;refine⟨s',L',?_,r⟩
  cases e<;>first|exact absurd rfl hne|exact q
 ·rintro a w ⟨s',L',q,hc,hev⟩;refine list_exits ?_ _ _ _ (aops_sound (ops.drop (n+1)) s' q L' w a L0 s w0 hc hev);rintro e a w ⟨s',L',q,r⟩;refine⟨s',L',?_,r⟩
  cases e<;>first|exact q|exact q.elim
 ·intro j hj;have:j<ops.length:=by omega
  simp[hj,this]
 ·intro j hj
  by_cases h1:j<ops.length<;>simp[h1]
 ·intro i j hi;exfalso
  by_cases h1:i<ops.length<;>simp[h1] at hi
section
variable {D : DCx} {KR : List DRec → List Stg → Env → Prop} {o : Oper} {r : List Oper} {recs : List DRec} {sts : List Stg} {e : Env}
@[simp] theorem fdraw_zero {l:List Oper}:fdraw D KR 0 l recs sts e=KR recs sts e:=by cases l<;>rfl
@[simp] theorem fdraw_succ {n:Nat}:fdraw D KR (n+1) (o::r) recs sts e=(match sts.getLast? with
  |some (H,T,_)=>match o.guard with
   |none=>dexec D (fdraw D KR n r) o recs sts e H T
   |some _=>False
  |none=>False):=rfl
end
attribute [simp] stAll fOb sameH fEnd
def mexec (C:Cx)(o:Oper)(e:Env)(H:List Blk)(T:Toks)(κ:AV→List Blk→Toks→Prop):Prop:=
 match acap0 C.P C.bx o e H with
 |some (m,ys,z)=>∀nc:Nat,m≤nc→κ (.csl H.length m nc) (H++[.cells (ys++List.replicate ((nc-m)*z) .top)]) T
 |none=>match acap o e with
  |some (t,t2,i,n,cap,x)=>∃(el:TypeId) (vs xs:List AV) (m:Nat),C.P.underlying t=some (.slice el)∧H[i]?=some (.cells vs)∧vs.length=cap*C.P.cellsOf el∧asrc H (C.P.cellsOf el) x=some (m,xs)∧(n+m)*C.P.bytesOf el≤140737488355328∧n+m≤9223372036854775807∧
    notInt C.P t2=true∧(azero C.P el).isSome=true∧
    (n+m≤cap→κ (.csl i (n+m) cap) (H.set i (.cells (vs.take (n*C.P.cellsOf el)++xs++vs.drop ((n+m)*C.P.cellsOf el)))) T)∧
    ∀nc,cap<n+m→n+m≤nc→κ (.csl H.length (n+m) nc) (H++[.cells (vs.take (n*C.P.cellsOf el)++xs++List.replicate ((nc-(n+m))*C.P.cellsOf el) .top)]) T
  |none=>False
theorem acap_congr {o:Oper}{e e':Env}(h:∀x∈o.op.operands,aev e x=aev e' x):acap o e=acap o e':=by
 unfold acap
 cases ho:o.op<;>try rfl
 rename_i c;rw[ho] at h;obtain⟨callee,args,ats⟩:=c
 cases callee<;>try rfl
 rename_i bi
 cases bi<;>try rfl
 have h2:args.toList.map (aev e)=args.toList.map (aev e'):=List.map_congr_left fun x hx=>h x (by simp only[Op.operands,Call.operands];exact Array.mem_append.2 (.inr (Array.mem_toList_iff.1 hx)));simp only[h2]
theorem acap0_congr {P:Program}{bx:List Nat}{o:Oper}{e e':Env}{H:List Blk}(h:∀x∈o.op.operands,aev e x=aev e' x):acap0 P bx o e H=acap0 P bx o e' H:=by
 obtain⟨dst,op,type,pos,after,guard⟩:=o;unfold acap0;simp only at h ⊢
 cases op<;>try rfl
 rename_i c;obtain⟨callee,args,ats⟩:=c
 cases callee<;>try rfl
 rename_i bi
 cases bi<;>try rfl
 cases dst<;>try rfl
 have h2:args.toList.map (aev e)=args.toList.map (aev e'):=List.map_congr_left fun x hx=>h x (by simp only[Op.operands,Call.operands];exact Array.mem_append.2 (.inr (Array.mem_toList_iff.1 hx)));simp only[h2]
theorem mexec_congr {C:Cx}{o:Oper}{e e':Env}{H:List Blk}{T:Toks}{κ:AV→List Blk→Toks→Prop}(h:∀x∈o.op.operands,aev e x=aev e' x)(k:mexec C o e H T κ):mexec C o e' H T κ:=by
 unfold mexec at k ⊢;rw[←acap0_congr h,←acap_congr h];exact k
theorem mexec_wp {C:Cx}{o:Oper}{e:Env}{H:List Blk}{T:Toks}{κ:AV→List Blk→Toks→Prop}(k:mexec C o e H T κ){L:Lay}{w:World}{a:Act}(hc:Con L H T w)(he:EnvRep L H.length T w e a){K:Act→World→Prop}{Q:Exit→Act→World→Prop}
  (hk:∀v H' T' cv w' L',κ v H' T'→Con L' H' T' w'→Rep L' H'.length T' w' v cv→Ev H.length T.length L H.length T w L' H'.length T' w'→K (a.put o.dst cv) w'):o.wp C.P a w K Q:=by
 unfold mexec at k
 split at k
 ·rename_i m ys z hbo;obtain⟨nc,hnc,cv,w',L',hrun,hcon,hrep,hev⟩:=run_acap0 hbo hc he;unfold Oper.wp;rw[hrun];exact hk _ _ _ _ _ _ (k nc hnc) hcon hrep hev
 ·split at k
  ·rename_i t t2 i n cap x hac;obtain⟨el,vs,xs,m,hu,hH,hvs,hsrc,hby,hmax,hni,hzs,hk1,hk2⟩:=k;unfold acap at hac
   split at hac
   ·rename_i args ats hop
    split at hac
    ·rename_i t' t2' i' n' cap' x' hts hargs
     cases hac
     have hts':ats=#[t,t2]:=by rw[←Array.toList_inj];exact hts
     subst hts';have hl2:args.toList.length=2:=by have:=congrArg List.length hargs;simpa using this
     match hal:args.toList,hl2,hargs with
     |[p,q],_,hargs=>
      simp only[List.map_cons,List.map_nil,List.cons.injEq,and_true] at hargs;obtain⟨e1,e2⟩:=hargs;have h0:=he.aev p;have h1:=he.aev q;rw[e1] at h0;rw[e2] at h1;have hargs':args=#[p,q]:=by rw[←Array.toList_inj];exact hal
      subst hargs';have hex:∀cv w',(Builtin.append_ #[t,t2] o.type #[a.eval p,a.eval q]).run C.P w=.ok cv w'→(execOp a.eval o).run C.P w=.ok (.value cv) w':=fun cv w' hr=>by
       simp only[execOp,hop,resolve,Sem.run_bind,Sem.run_pure,Result.andThen_ok,invoke,builtin,List.map_toArray,List.map_cons,List.map_nil,hr]
      rcases run_appC (ty:=o.type) hc h0 h1 hu hH hvs hsrc hby hmax hni hzs with⟨hle,cv,w',L',hrun,hcon,hrep,hev⟩|⟨hlt,nc,hnc,cv,w',L',hrun,hcon,hrep,hev⟩
      ·unfold Oper.wp;rw[hex _ _ hrun];exact hk _ _ _ _ _ _ (hk1 hle) hcon hrep hev
      ·unfold Oper.wp;rw[hex _ _ hrun];exact hk _ _ _ _ _ _ (hk2 nc hlt hnc) hcon hrep hev
    ·cases hac
   ·cases hac
  ·exact k.elim
def madraw (D:DCx):Nat→List Oper→List DRec→List Stg→Env→Prop
 |_,[],_,_,_=>False
 |0,o::r,recs,sts,e=>match sts.getLast? with
  |some (H,T,_)=>match o.guard with
   |none=>mexec D.C o e H T (fun v H' T'=>dgo D (adraw D r) o recs sts e true v H' T')
   |some _=>False
  |none=>False
 |n+1,o::r,recs,sts,e=>match sts.getLast? with
  |some (H,T,_)=>match o.guard with
   |none=>dexec D (madraw D n r) o recs sts e H T
   |some (j,want)=>match gval D.all j e with
    |some b=>if b=some want then dexec D (madraw D n r) o recs sts e H T else dgo D (madraw D n r) o recs sts e false (.tup []) H T
    |none=>False
  |none=>False
theorem madraw_walk {nx:Nat}{D:DCx}{ops:List Oper}{e0:Env}(hck:effCk D.eff=true)(hnx:D.eff.contains nx=true):∀(n:Nat)(l:List Oper)(recs:List DRec)(sts:List Stg)(e:Env),WalkOkM nx D ops e0 recs sts e→ops.drop recs.length=l→recs.length≤ops.length→recs.length+n=nx→madraw D n l recs sts e→
  ∃recs' sts' H T i o r,WalkOkM nx D ops e0 recs' sts' (envAfter e0 recs')∧recs'.length=nx∧sts'.getLast?=some (H,T,i)∧sts'[0]?=sts[0]?∧ops.drop nx=o::r∧o.guard=none∧mexec D.C o (envAfter e0 recs') H T (fun v H' T'=>dgo D (adraw D r) o recs' sts' (envAfter e0 recs') true v H' T'):=by
 intro n
 induction n with
 |zero=>
  intro l recs sts e hw hl hle hn h
  cases l with
  |nil=>exact h.elim
  |cons o r=>
   unfold madraw at h
   split at h
   ·rename_i H T i hlast
    split at h
    ·rename_i hg;have hc:=hw.cur;subst hc;exact⟨recs,sts,H,T,i,o,r,hw,by omega,hlast,rfl,by rw[←hl];congr 1;omega,hg,h⟩
    ·exact h.elim
   ·exact h.elim
 |succ n ih=>
  intro l recs sts e hw hl hle hn h
  cases l with
  |nil=>exact h.elim
  |cons o r=>
  have hlt:recs.length<ops.length:=by
   have:=congrArg List.length hl;simp at this;omega
  have hops:ops[recs.length]?=some o:=by
   have:=congrArg (fun l=>l[0]?) hl;simpa using this
  have hdrop:ops.drop (recs.length+1)=r:=by
   have:=congrArg (fun l=>l.drop 1) hl;simpa[List.drop_drop,Nat.add_comm] using this
  have fin:∀{H T i0 run v H' T'},sts.getLast?=some (H,T,i0)→(match o.guard with|none=>run=true|some (j,want)=>∃b,gval D.all j e=some b∧run=(b==some want))→(run=false→v=.tup []∧H'=H∧T'=T)→(run=true→recs.length≠nx→aexec D.C.P o e H T v H' T')→
    (D.eff.contains recs.length=false→H'=H∧T'=T)→dgo D (madraw D n r) o recs sts e run v H' T'→∃recs' sts' H T i o r,WalkOkM nx D ops e0 recs' sts' (envAfter e0 recs')∧recs'.length=nx∧sts'.getLast?=some (H,T,i)∧sts'[0]?=sts[0]?∧ops.drop nx=o::r∧o.guard=none∧mexec D.C o (envAfter e0 recs') H T (fun v H' T'=>dgo D (adraw D r) o recs' sts' (envAfter e0 recs') true v H' T'):=by
   intro H T i0 run v H' T' hlast hg h1 h2 h3 h4;obtain⟨recs',sts',e',g1,g2,g3,g4,_⟩:=dgo_stepM hck (.inl hnx) hw hops hlast hg h1 h2 h3 h4;obtain⟨r2,s2,H2,T2,i2,o2,q2,k1,k2,k3,k4,k5⟩:=ih r recs' sts' e' g1 (by rw[g2];exact hdrop) (by omega) (by omega) g3;exact⟨r2,s2,H2,T2,i2,o2,q2,k1,k2,k3,k4.trans g4,k5⟩
  have exec:∀{H T i0},sts.getLast?=some (H,T,i0)→(match o.guard with|none=>true=true|some (j,want)=>∃b,gval D.all j e=some b∧true=(b==some want))→dexec D (madraw D n r) o recs sts e H T→
    ∃recs' sts' H T i o r,WalkOkM nx D ops e0 recs' sts' (envAfter e0 recs')∧recs'.length=nx∧sts'.getLast?=some (H,T,i)∧sts'[0]?=sts[0]?∧ops.drop nx=o::r∧o.guard=none∧mexec D.C o (envAfter e0 recs') H T (fun v H' T'=>dgo D (adraw D r) o recs' sts' (envAfter e0 recs') true v H' T'):=by
   intro H T i0 hlast hg hx;unfold dexec at hx
   split at hx
   ·rename_i g as hcal;obtain⟨v,H',T',hc,hs,hd⟩:=hx;refine fin (run:=true) hlast hg (fun e=>by cases e) (fun _ _=>?_) hs hd;unfold aexec;rw[hcal];exact hc
   ·rename_i hcal
    split at hx
    ·rename_i v H' T' hop;refine fin (run:=true) hlast hg (fun e=>by cases e) (fun _ _=>?_) hx.1 hx.2;unfold aexec;rw[hcal];exact hop
    ·exact hx.elim
  unfold madraw at h
  split at h
  ·rename_i H T i0 hlast
   split at h
   ·rename_i hg;exact exec hlast (by rw[hg]) h
   ·rename_i j want hg
    split at h
    ·rename_i b hb
     split at h
     ·rename_i hbw;exact exec hlast (by rw[hg];exact⟨b,hb,by simp[hbw]⟩) h
     ·rename_i hbw;exact fin (run:=false) hlast (by rw[hg];exact⟨b,hb,by simp[hbw]⟩) (fun _=>⟨rfl,rfl,rfl⟩) (fun e=>by cases e) (fun _=>⟨rfl,rfl⟩) h
    ·exact h.elim
  ·exact h.elim
def mCk (ops:List Oper)(eff:List Nat)(nx:Nat):Bool:=
 (eff[0]?==some nx)&&(List.range ops.length).all fun i=>decide (i≤nx)||anc (ancs ops []) nx i
theorem drawM_game {C:Cx}{ops:List Oper}{Q:Exit→St→Prop}{s:St}(K:St→Prop)(nx:Nat)(eff lo:List Nat)(na:List (List Nat))(hck:drawCk ops eff lo na=true)(hef:effCk eff=true)(hm:mCk ops eff nx=true)
  (h:madraw ⟨C,ops.toArray,eff,lo,na,K⟩ nx ops [] [(s.H,s.T,0)] (prune C.nv s.e)):∀L0 w0 a0,ConSt C s L0 w0 a0→
   wpAny C.P .any ops.toArray (Post C (ExitK K Q) L0 s w0) ops.toArray.size (Array.replicate ops.toArray.size false) a0 { w0 with drawn:=w0.drawn+1 }:=by
 intro L0 w0 a0 hc0;have hc:ConSt C ⟨prune C.nv s.e,s.H,s.T⟩ L0 w0 a0:=⟨hc0.nb,hc0.tb,hc0.con,hc0.size,hc0.defers,fun t=>by
  rcases eget_prune C.nv s.e t with e|e<;>rw[e]
  ·exact hc0.env t
  ·exact .top _⟩
 generalize hs':(⟨prune C.nv s.e,s.H,s.T⟩:St)=s' at hc;have hs1:prune C.nv s.e=s'.e:=by rw[←hs']
 have hs2:s.H=s'.H:=by rw[←hs']
 have hs3:s.T=s'.T:=by rw[←hs']
 rw[hs1,hs2,hs3] at h;rw[show Post C (ExitK K Q) L0 s w0=Post C (ExitK K Q) L0 s' w0 by unfold Post;rw[hs2,hs3]];clear hs' hs1 hs2 hs3 hc0;generalize hD:(⟨C,ops.toArray,eff,lo,na,K⟩:DCx)=D at h;have hDC:D.C=C:=by rw[←hD]
 have hDe:D.eff=eff:=by rw[←hD]
 have hDl:D.lo=lo:=by rw[←hD]
 have hDn:D.na=na:=by rw[←hD]
 have hDa:D.all=ops.toArray:=by rw[←hD]
 have hDK:D.K=K:=by rw[←hD]
 unfold mCk at hm;simp only[Bool.and_eq_true,beq_iff_eq,List.all_eq_true,List.mem_range,Bool.or_eq_true,decide_eq_true_eq] at hm;obtain⟨hm0,hmA⟩:=hm;have hnxe:eff.contains nx=true:=by rw[List.contains_iff_mem];exact List.mem_of_getElem? hm0
 have hnxD:D.eff.contains nx=true:=by rw[hDe];exact hnxe
 have hfl0:(eff.filter (·<nx)).length=0:=by
  have:=List.all_eq_true.1 hef 0 (List.mem_range.2 (List.getElem?_eq_some_iff.1 hm0).1);simp only[Bool.and_eq_true,beq_iff_eq,List.getD_eq_getElem?_getD,hm0,Option.getD_some] at this;exact this.1
 have hefge:∀m i,eff[m]?=some i→nx≤i:=fun m i hmi=>by
  rcases Nat.lt_or_ge i nx with h1|h1
  ·have:i∈eff.filter (·<nx):=List.mem_filter.2 ⟨List.mem_of_getElem? hmi,by simpa using h1⟩;rw[List.length_eq_zero_iff.1 hfl0] at this;simp at this
  ·exact h1
 obtain⟨recs1,sts1,H1,T1,i1,o,r,hw1,hl1,hlast1,hst01,hdrop,hguard,hmx⟩:=madraw_walk (D:=D) (ops:=ops) (e0:=s'.e) (by rw[hDe];exact hef) hnxD nx ops [] [(s'.H,s'.T,0)] s'.e
  ⟨⟨by simp,fun i x hx=>by simp at hx⟩,fun i x hx=>by simp at hx,fun i x hx=>by simp at hx,rfl⟩ (by simp) (by simp) (by simp) h
 obtain⟨d1,d2,d3,d4,d5,d6,d7⟩:=drawCk_spec hck;have hnxl:nx<ops.length:=(d3 0 nx hm0).1;have hon:ops[nx]?=some o:=by
  have:=congrArg (fun l=>l[0]?) hdrop;simpa using this
 have hsl1:sts1.length=1:=by
  have:=hw1.st.len;rw[hDe,hl1,hfl0] at this;exact this
 have hsts1:sts1=[(s'.H,s'.T,0)]:=by
  match sts1,hsl1,hst01 with
  |[x],_,h0=>simpa using h0
 subst hsts1;simp only[List.getLast?_singleton,Option.some.injEq,Prod.mk.injEq] at hlast1;obtain⟨rfl,rfl,rfl⟩:=hlast1;obtain⟨recsP,hP⟩:∃l,l=recs1++(ops.drop nx).map fun o=>(⟨o,[],false,.top,0,false⟩:DRec):=⟨_,rfl⟩
 have hPlen:recsP.length=ops.length:=by rw[hP];simp[hl1];omega
 have hPlo:∀i,i<nx→recsP[i]?=recs1[i]?:=fun i hi=>by rw[hP,List.getElem?_append_left (by omega)]
 have hPo:∀(i:Nat)(x:DRec),recsP[i]?=some x→ops[i]?=some x.o:=fun i x hx=>by
  rcases Nat.lt_or_ge i nx with hi|hi
  ·rw[hPlo i hi] at hx;exact(hw1.rcs i x hx).o
  ·rw[hP,List.getElem?_append_right (by omega),hl1,List.getElem?_map,List.getElem?_drop,show nx+(i-nx)=i by omega] at hx
   cases ho:ops[i]? with
   |none=>rw[ho] at hx;cases hx
   |some z=>rw[ho] at hx;cases hx;rfl
 have hPtake:recsP.take nx=recs1:=by rw[hP,List.take_append_of_le_length (by omega),←hl1,List.take_length]
 have hmapP:recsP.map (·.o)=ops:=by
  apply List.ext_getElem?;intro i;rw[List.getElem?_map]
  by_cases hi:i<recsP.length
  ·rw[List.getElem?_eq_getElem hi,Option.map_some,hPo i _ (List.getElem?_eq_getElem hi)]
  ·rw[List.getElem?_eq_none (by omega),List.getElem?_eq_none (by omega)];rfl
 have hsz:ops.toArray.size=ops.length:=by simp
 rw[hsz];refine core_game (sts:=[(s'.H,s'.T,0)]) hck hef hDC hDe hDl hDn hDa hPlen hPo (fun i=>i<nx) (nx:=nx) (fun i hi=>by omega) (fun i x hx hi=>by have hr:=hw1.rcs i x (by rw[←hPlo i hi];exact hx);exact⟨hr.o,hr.k,hr.eff,hr.gate,hr.dst,hr.skip,hr.still,hr.effect⟩) (fun i x hx hi=>?_) (fun i x hx hi=>hw1.st.k i x (by rw[←hPlo i hi];exact hx)) (fun l=>l.getD nx false=false)
  (fun l i hi hl=>by rw[getD_set_ne false (by omega)];exact hl) (fun listed a w hI hJ hall=>by rw[hall nx hnxl] at hJ;cases hJ) ?_ ops.length _ a0 _ ⟨by simp[hPlen],fun i j hl _=>?_,⟨0,s'.H,s'.T,0,L0,fun m i hmi=>?_,Nat.zero_le _,rfl,hc.con.drew rfl,by rw[hDC];exact hc.nb,by rw[hDC];exact hc.tb,fun t=>?_,?_⟩,by rw[hDC];exact hc.size,hc.defers⟩ ?_ (.inr ?_)
 ·rw[hw1.envs i x (by rw[←hPlo i hi];exact hx)]
  congr 1
  rw[hP,List.take_append_of_le_length (by omega)]
 rotate_left
 ·exfalso
  by_cases hi:i<ops.length<;>simp[hi] at hl
 ·constructor
  ·intro hl;exfalso
   by_cases hi:i<ops.length<;>simp[hi] at hl
  ·intro h;omega
 ·refine⟨eget s'.e t,.inr ⟨fun j x hx hd=>?_,rfl⟩,?_⟩
  ·by_cases hj:j<ops.length<;>simp[hj]
  ·have kd:Keeps L0 s'.H.length s'.T w0 L0 s'.H.length s'.T { w0 with drawn:=w0.drawn+1 }:=(Ev.drew (H:=s'.H) (T:=s'.T) (L:=L0) (w:=w0) (w':={ w0 with drawn:=w0.drawn+1 }) rfl rfl rfl rfl (Nat.le_succ _)).keeps;exact(hc.env t).keep kd
 ·rw[hDC];exact(Ev.drew (H:=s'.H) (T:=s'.T) (L:=L0) (w:=w0) (w':={ w0 with drawn:=w0.drawn+1 }) rfl rfl rfl rfl (Nat.le_succ _)).mono hc.nb hc.tb
 ·simp[hnxl]
 ·refine Nat.le_trans (List.countP_le_length) ?_;simp
 intro fuel listed a w hI hJ i hi hnr hcnt;obtain⟨hnl,o',ho',hready⟩:=mem_ready.1 hi;rw[List.getElem?_toArray] at ho';have hil:i<ops.length:=(List.getElem?_eq_some_iff.1 ho').1;have hcl:∀i j,listed.getD i false=true→anc (ancs ops []) j i=true→listed.getD j false=true:=by
  have:=hI.closed;rw[hmapP] at this;exact this
 have hancl:∀j,anc (ancs ops []) j i=true→listed.getD j false=true:=fun j hj=>anc_listed hcl ho' hready (d6 i o' ho') hj;have hinx:i=nx:=by
  rcases hmA i hil with h1|h1
  ·omega
  ·have:=hancl nx h1;rw[hJ] at this;cases this
 subst hinx;have hoo:o'=o:=by rw[ho'] at hon;exact Option.some.inj hon
 subst hoo;have hlater:∀j,i<j→j<ops.length→listed.getD j false=false:=fun j hj hjl=>by
  rcases hmA j hjl with h1|h1
  ·omega
  ·cases hlj:listed.getD j false with
   |false=>rfl
   |true=>have:=hcl j i hlj h1;rw[hJ] at this;cases this
 obtain⟨k,H,T,e,L,hk,hkl,hstk,hcon,hnb,htb,hslots,hev⟩:=hI.st;rw[hDe] at hk hkl;rw[hDC] at hnb htb hev;have hk0:k=0:=by
  have:=(hk 0 i hm0)
  rw[hJ] at this;have h2:¬0<k:=fun hh=>by have:=this.2 hh;cases this
  omega
 subst hk0;simp at hstk;obtain⟨rfl,rfl,rfl⟩:=hstk;have hlook:∀t∈o'.looksAt ops.toArray,∀v,VS recsP listed s'.e t v→v=eget (envAfter s'.e recs1) t:=by
  intro t ht v hv;rw[←hPtake];have hw_:∀(j:Nat)(z:DRec),recsP[j]?=some z→z.o.dst=some t→i≠j∧((j<i∧anc (ancs ops []) j i=true)∨(i<j∧anc (ancs ops []) i j=true)):=fun j z hz hd=>d2 i j o' z.o t ho' (hPo j z hz) ht hd;rcases hv with⟨j,z,hz,hd,hl,rfl⟩|⟨hno,rfl⟩
  ·obtain⟨hne,h1|h1⟩:=hw_ j z hz hd
   ·rw[eget_envAfter_at (recsP.take i) s'.e t j z (by rw[List.getElem?_take,if_pos h1.1];exact hz) hd (fun i' y' hy' hd'=>by
     rw[List.getElem?_take] at hy'
     split at hy'
     ·exact d1 i' j y'.o z.o t (hPo i' y' hy') (hPo j z hz) hd' hd
     ·cases hy')]
   ·have:=hcl j i hl h1.2;rw[hJ] at this;cases this
  ·rw[eget_envAfter_none (recsP.take i) s'.e t (fun z hz hd=>by
    obtain⟨j,hj,e1⟩:=List.mem_iff_getElem.1 hz;simp at hj;have hz':recsP[j]?=some z:=by rw[List.getElem?_eq_getElem (by omega),←e1];simp
    have hf:=hno j z hz' hd;obtain⟨hne,h1|h1⟩:=hw_ j z hz' hd
    ·have:=hancl j h1.2;rw[hf] at this;cases this
    ·omega)]
 have henv:EnvRep L s'.H.length s'.T w (keepOf (envAfter s'.e recs1) (o'.looksAt ops.toArray)) a:=by
  intro t;rw[eget_keepOf]
  split
  ·rename_i ht;obtain⟨v,hv,hr⟩:=hslots t;rw[←hlook t ht v hv];exact hr
  ·exact .top _
 have haev:∀z∈o'.op.operands,aev (envAfter s'.e recs1) z=aev (keepOf (envAfter s'.e recs1) (o'.looksAt ops.toArray)) z:=by
  intro z hz
  cases z with
  |tmp t=>
   have:t∈o'.looksAt ops.toArray:=by
    unfold Oper.looksAt;exact List.mem_append.2 (.inl (List.mem_filterMap.2 ⟨_,Array.mem_toList_iff.2 hz,rfl⟩))
   simp only[aev,eget_keepOf,if_pos this]
  |_=>rfl
 have hwant:Region.wanted o' (yielded ops.toArray a.tmps)=true:=by
  unfold Region.wanted;rw[hguard]
 have hisz:i<listed.size:=by rw[hI.size];omega
 unfold wpOp;rw[List.getElem?_toArray,ho']
 dsimp only
 rw[if_pos hwant];refine .inl ?_;rw[hDC] at hmx;refine mexec_wp (mexec_congr haev hmx) hcon henv fun v H' T' cv w' L' hgo hcon' hrep' hev'=>?_;obtain⟨recs',sts',e',g1,g2,g3,g4,_,⟨x9,g9,gx⟩,_,g8⟩:=dgo_stepM (nx:=i) (ops:=ops) (e0:=s'.e) (H:=s'.H) (T:=s'.T) (i0:=0) (by rw[hDe];exact hef) (.inl hnxD) hw1 (by rw[hl1];exact ho') rfl (by rw[hguard]) (fun hh=>by cases hh) (fun _ hne=>absurd hl1 hne) (fun hh=>by rw[hl1,hnxD] at hh;cases hh) hgo;have hx9:=gx (by rw[hl1];exact hnxD);have hs9:=g8 (by rw[hl1];exact hnxD);obtain⟨recs2,sts2,HL,TL,iL,k1,k2,k3,k4,k5,⟨q6,k6⟩,⟨q7,k7⟩⟩:=adraw_walkM (nx:=i) (D:=D) (ops:=ops) (e0:=s'.e) (by rw[hDe];exact hef) (.inl hnxD) r recs' sts' e' g1 (by
  rw[g2,hl1];have:=congrArg (fun l=>l.drop 1) hdrop;simpa[List.drop_drop,Nat.add_comm] using this) (by rw[g2,hl1];omega) g3
 have hr2lo:∀j,j<i→recs2[j]?=recs1[j]?:=fun j hj=>by rw[k6,g9,List.append_assoc,List.getElem?_append_left (by omega)]
 have hr2at:recs2[i]?=some x9:=by rw[k6,g9,List.append_assoc,List.getElem?_append_right (by omega),hl1,Nat.sub_self];rfl
 have hr2o:∀(j:Nat)(x:DRec),recs2[j]?=some x→ops[j]?=some x.o:=fun j x hx=>(k1.rcs j x hx).o;have hmap2:recs2.map (·.o)=ops:=by
  apply List.ext_getElem?;intro j;rw[List.getElem?_map]
  by_cases hj:j<recs2.length
  ·rw[List.getElem?_eq_getElem hj,Option.map_some,hr2o j _ (List.getElem?_eq_getElem hj)]
  ·rw[List.getElem?_eq_none (by omega),List.getElem?_eq_none (by omega)];rfl
 have hst2:sts2[1]?=some (H',T',i):=by
  rw[k7,hs9,hl1];rfl
 have hstl:sts2.length=1+eff.length:=by
  have h1:=k1.st.len;rw[hDe] at h1;rw[h1]
  congr 2
  apply List.filter_eq_self.2;intro e he;obtain⟨m,hm,e1⟩:=List.mem_iff_getElem.1 he;have:=(d3 m e (by rw[List.getElem?_eq_getElem hm,e1])).1;simp;omega
 refine core_game hck hef hDC hDe hDl hDn hDa k2 hr2o (fun j=>j≠i) (nx:=i) (fun j hj=>hj) (fun j x hx _=>k1.rcs j x hx) (fun j x hx _=>k1.envs j x hx) (fun j x hx _=>k1.st.k j x hx) (fun l=>l.getD i false=true)
  (fun l j _ hl=>getD_set_true hl) (fun listed a w hI2 _ hall=>?_) (fun fuel listed a w hI2 hJ2 j hj hne _=>?_) fuel _ _ _ ⟨by simp[hI.size,hPlen,k2],fun i' j' hl' hanc'=>?_,⟨1,H',T',i,L',fun m i' hm'=>?_,?_,hst2,hcon',by rw[hDC];exact Nat.le_trans hnb hev'.n,by rw[hDC];exact Nat.le_trans htb hev'.t,fun t=>?_,by rw[hDC];exact hev.trans (hev'.mono hnb htb)⟩,?_,?_⟩ ?_ hcnt
 ·
  obtain⟨k,H,T,e,L,hk,hkl,hstk,hcon,hnb,htb,hslots,hev⟩:=hI2.st;have hkk:k=eff.length:=by
   rw[hDe] at hk hkl;rcases Nat.lt_or_ge k eff.length with hlt|hge
   ·have:=(hk k _ (List.getElem?_eq_getElem hlt)).1 (hall _ (d3 k _ (List.getElem?_eq_getElem hlt)).1);omega
   ·omega
  have hlst:sts2[k]?=some (HL,TL,iL):=by rw[←k3,List.getLast?_eq_getElem?,hstl,hkk];congr 1;omega
  rw[hstk] at hlst;obtain⟨rfl,rfl,rfl⟩:H=HL∧T=TL∧e=iL:=by injection hlst with h1;injection h1 with h1 h2;injection h2 with h2 h3;exact⟨h1,h2,h3⟩
  rw[hDK] at k4;rw[hDC] at hev hnb htb;refine⟨_,L,k4,⟨hnb,htb,hcon,by rw[hI2.tmps,hDC],hI2.defers,fun t=>?_⟩,hev⟩;obtain⟨v,hv,hr⟩:=hslots t;show Rep L H.length T w (eget (envAfter s'.e recs2) t) _;rcases hv with⟨j,x,hx,hd,hl,rfl⟩|⟨hno,rfl⟩
  ·rw[eget_envAfter_at recs2 s'.e t j x hx hd (fun i y hy hyd=>d1 i j y.o x.o t (hr2o i y hy) (hr2o j x hx) hyd hd)];exact hr
  ·rw[eget_envAfter_none recs2 s'.e t (fun x hx hd=>by
    obtain⟨j,hj,e1⟩:=List.mem_iff_getElem.1 hx;have h1:=hno j x (by rw[List.getElem?_eq_getElem hj,e1]) hd;have h2:=hall j (by omega);rw[h1] at h2;cases h2)]
   exact hr
 ·have:j=i:=Classical.byContradiction hne;subst this;obtain⟨h1,z,hz,_⟩:=mem_ready.1 hj;rw[getD_false (by rw[hI2.size,k2];exact hnxl),hJ2] at h1
  cases h1
 ·rw[hmap2] at hanc'
  by_cases hii:i=i'
  ·subst hii;have:=hancl j' hanc'
   by_cases hij:i=j'
   ·subst hij;rw[hJ] at this;cases this
   ·rw[getD_set_ne false hij];exact this
  ·rw[getD_set_ne false hii] at hl';have:=hcl i' j' hl' hanc';exact getD_set_true this
 ·rw[hDe] at hm';have hnl':=(List.getElem?_eq_some_iff.1 hm').1
  by_cases hm0':m=0
  ·subst hm0';rw[hm0] at hm'
   cases hm'
   simp[hisz]
  ·have hne:i≠i':=by
    rintro rfl;have h1:=List.all_eq_true.1 hef m (List.mem_range.2 hnl');simp only[Bool.and_eq_true,beq_iff_eq,List.getD_eq_getElem?_getD,hm',Option.getD_some] at h1;omega
   rw[getD_set_ne false hne,hk m i' hm'];omega
 ·rw[hDe];have:=(List.getElem?_eq_some_iff.1 hm0).1;omega
 ·by_cases hd:o'.dst=some t
  ·refine⟨x9.v,.inl ⟨i,x9,hr2at,by rw[hx9];exact hd,by simp[hisz],rfl⟩,?_⟩;have hdl:=(k1.rcs i x9 hr2at).dst t (by rw[hx9];exact hd);have hlt:t<a.tmps.size:=by rw[hI.tmps];exact hdl
   rw[hd,getD_put a t t cv hlt,if_pos rfl,hx9];exact hrep'
  ·obtain⟨v',hv,hr⟩:=hslots t;refine⟨v',?_,?_⟩
   ·rcases hv with⟨j,z,hz,hzd,hl,rfl⟩|⟨hno,rfl⟩
    ·have hjl:j<ops.length:=by have:=(List.getElem?_eq_some_iff.1 hz).1;omega
     have hji:j<i:=by
      rcases Nat.lt_trichotomy j i with h1|h1|h1
      ·exact h1
      ·subst h1;rw[hJ] at hl;cases hl
      ·rw[hlater j h1 hjl] at hl;cases hl
     exact .inl ⟨j,z,by rw[hr2lo j hji,←hPlo j hji];exact hz,hzd,getD_set_true hl,rfl⟩
    ·refine .inr ⟨fun j z hz hzd=>?_,rfl⟩;have hjl:j<ops.length:=by have:=(List.getElem?_eq_some_iff.1 hz).1;omega
     have hij:i≠j:=by
      rintro rfl;have:=hr2o i z hz;rw[ho'] at this;have:=Option.some.inj this;rw[←this] at hzd;exact hd hzd
     rw[getD_set_ne false hij];rcases Nat.lt_or_ge j i with h1|h1
     ·exact hno j z (by rw[hPlo j h1,←hr2lo j h1];exact hz) hzd
     ·exact hlater j (by omega) hjl
   ·have e1:(a.put o'.dst cv).tmps.getD t undef=a.tmps.getD t undef:=by
     cases hdst:o'.dst with
     |none=>rfl
     |some d=>
      have hlt:d<a.tmps.size:=by rw[hI.tmps];exact(k1.rcs i x9 hr2at).dst d (by rw[hx9];exact hdst)
      rw[getD_put a d t cv hlt,if_neg (fun e=>hd (by rw[hdst,e]))]
    rw[e1];exact hr.keep hev'.keeps
 ·simp[Act.put];cases o'.dst<;>simp[hI.tmps]
 ·cases o'.dst<;>exact hI.defers
 ·simp[hisz]
theorem aw_drawMK {C:Cx}{id:Nat}{ops:List Oper}{Q:Exit→St→Prop}{s:St}(K:St→Prop)(nx:Nat)(eff lo:List Nat)(na:List (List Nat))(hm:C.P.follows .mixedOrders=true)(hck:drawCk ops eff lo na=true)(hef:effCk eff=true)(hmk:mCk ops eff nx=true)
  (h:madraw ⟨C,ops.toArray,eff,lo,na,K⟩ nx ops [] [(s.H,s.T,0)] (prune C.nv s.e)):AW C (.region id ops.toArray true) (ExitK K Q) s:=
 fun L0 w0 a0 hc0=>wp_region_any hm (drawM_game K nx eff lo na hck hef hmk h L0 w0 a0 hc0)
theorem aw_drawM0 {C:Cx}{id:Nat}{ops:List Oper}{Q:Exit→St→Prop}{s:St}(nx:Nat)(eff lo:List Nat)(na:List (List Nat))(hm:C.P.follows .mixedOrders=true)(hck:drawCk ops eff lo na=true)(hef:effCk eff=true)(hmk:mCk ops eff nx=true)
  (h:∀K:St→Prop,(∀s,Q .normal s→K s)→madraw ⟨C,ops.toArray,eff,lo,na,K⟩ nx ops [] [(s.H,s.T,0)] (prune C.nv s.e)):AW C (.region id ops.toArray true) Q s:=
 (aw_drawMK (Q:=Q) (fun s=>Q .normal s) nx eff lo na hm hck hef hmk (h _ fun _ h=>h)).mono fun e s q=>by cases e<;>exact q
section
variable {D : DCx} {o : Oper} {r : List Oper} {recs : List DRec} {sts : List Stg} {e : Env}
@[simp] theorem madraw_zero:madraw D 0 (o::r) recs sts e=(match sts.getLast? with
  |some (H,T,_)=>match o.guard with
   |none=>mexec D.C o e H T (fun v H' T'=>dgo D (adraw D r) o recs sts e true v H' T')
   |some _=>False
  |none=>False):=rfl
@[simp] theorem madraw_succ {n:Nat}:madraw D (n+1) (o::r) recs sts e=(match sts.getLast? with
  |some (H,T,_)=>match o.guard with
   |none=>dexec D (madraw D n r) o recs sts e H T
   |some (j,want)=>match gval D.all j e with
    |some b=>if b=some want then dexec D (madraw D n r) o recs sts e H T else dgo D (madraw D n r) o recs sts e false (.tup []) H T
    |none=>False
  |none=>False):=rfl
end
attribute [simp] mexec
def acapz (P:Program)(o:Oper)(e:Env)(H:List Blk):Bool:=
 match o.op with
 |.call { callee:=.builtin .append,args,argTypes }=>
  match argTypes.toList,args.toList.map (aev e) with
  |[t,t2],[.sl 0 [] .full,x]=>match P.underlying t with
   |some (.slice el)=>match asrc H (P.cellsOf el) x with
    |some (m,_)=>decide (m=0)&&(notInt P t2&&(azero P el).isSome)
    |none=>false
   |_=>false
  |_,_=>false
 |_=>false
def cexec (C:Cx)(o:Oper)(e:Env)(H:List Blk)(T:Toks)(κ:AV→List Blk→Toks→Prop):Prop:=
 if acapz C.P o e H=true then κ (.sl 0 [] .full) H T else
 match acap0 C.P C.bx o e H with
 |some _=>mexec C o e H T κ
 |none=>match acap o e with
  |some _=>mexec C o e H T κ
  |none=>match acallee o e with
   |some _=>False
   |none=>match aop C.P o e H T with
    |some (v,H',T')=>κ v H' T'
    |none=>False
def stab (P:Program)(H:List Blk)(T:Toks):List DRec→Prop
 |[]=>True
 |x::r=>aexec P x.o x.e H T x.v H T∧stab P H T r
def light (C:Cx)(ch:List Nat)(H:List Blk)(T:Toks)(κ:List DRec→Env→Prop):List Oper→Nat→List DRec→Env→Prop
 |[],_,R,e=>κ R e
 |o::r,i,R,e=>if ch.contains i=true then light C ch H T κ r (i+1) R e else
  match acallee o e with
  |some _=>False
  |none=>match aop C.P o e H T with
   |some (v,H',T')=>H'=H∧T'=T∧putE C.nt o.dst v e (light C ch H T κ r (i+1) (R++[⟨o,e,true,v,i,false⟩]))
   |none=>False
def cgo (C:Cx)(K:St→Prop)(R:List DRec):List Oper→Env→List Blk→Toks→Prop
 |[],e,H,T=>K ⟨e,H,T⟩
 |o::r,e,H,T=>cexec C o e H T (fun v H' T'=>stab C.P H' T' R∧putE C.nt o.dst v e (fun e'=>cgo C K R r e' H' T'))
def cdraw (C:Cx)(K:St→Prop)(ch:List Nat)(ops:List Oper)(H:List Blk)(T:Toks)(e:Env):Prop:=
 light C ch H T (fun R e'=>cgo C K R (ch.map fun i=>ops.getD i default) e' H T) ops 0 [] e
attribute [simp] cdraw light cexec acapz stab
open Go.ChangeShapes Go.WideShapes
def m0 (w:World)(b:Nat):Nat:=match w.heap[b]? with
 |some (.cells c _ _)=>c.size
 |_=>0
def lay0 (w:World):Lay:=⟨fun _=>0,fun _=>⟨0,0,0⟩,m0 w,true⟩
theorem cell_m0' {w:World}{b o:Nat}{v:Value}(h:w.cell? ⟨b,o,none⟩=some v):o<m0 w b:=by
 unfold World.cell? at h;unfold m0;simp only at h
 cases hb:w.heap[b]? with
 |none=>rw[hb] at h;simp at h
 |some x=>
  rw[hb] at h
  cases x with
  |cells c t fr=>
   simp only at h ⊢;rcases Nat.lt_or_ge o c.size with g|g
   ·exact g
   ·rw[Array.getElem?_eq_none g] at h;simp at h
  |_=>simp at h
theorem con0 (w:World)(hg:∀x∈gints,∃m,w.cell? ⟨x.1,x.2,none⟩=some (.int .i64 m)):Con (lay0 w) [] [] w:=by
 refine⟨fun i b h=>by simp at h,fun i j h=>by simp at h,fun t u z h=>by simp at h,fun t u z t' u' z' h=>by simp at h,fun t u z i h=>by simp at h,fun b hb=>?_,fun x hx=>by obtain⟨m,hm⟩:=hg x hx;exact⟨cell_m0' hm,m,hm⟩⟩;show m0 w b=0;unfold m0;rw[Array.getElem?_eq_none hb]
theorem cell_m0 {w:World}{b o:Nat}{v:Value}(h:w.cell? ⟨b,o,none⟩=some v):o<m0 w b:=by
 unfold World.cell? at h;unfold m0;simp only at h
 cases hb:w.heap[b]? with
 |none=>rw[hb] at h;simp at h
 |some x=>
  rw[hb] at h
  cases x with
  |cells c t fr=>
   simp only at h ⊢;rcases Nat.lt_or_ge o c.size with g|g
   ·exact g
   ·rw[Array.getElem?_eq_none g] at h;simp at h
  |_=>simp at h
abbrev RC (w:World)(vs:List AV)(c:List Value):Prop:=RepC (lay0 w) 0 [] w vs c
theorem RC.one {w : World} {a : AV} {v : Value} (h : Rep (lay0 w) 0 [] w a v) (h1 : v.oneCell' = true) : RC w [a] [v] :=
  ⟨rfl, fun j hj => by have : j = 0 := by simp at hj; omega
                       subst this; exact h1, fun j hj hj' => by
    have : j = 0 := by simp at hj; omega
    subst this; exact h⟩
theorem RC.rep {w:World}{a:AV}{v:Value}(h:RC w [a] [v]):Rep (lay0 w) 0 [] w a v:=h.2.2 0 (by simp) (by simp)
theorem RC.append {w:World}{a b:List AV}{c d:List Value}(h:RC w a c)(k:RC w b d):RC w (a++b) (c++d):=by
 refine⟨by simp[h.1,k.1],fun j hj=>?_,fun j hj hj'=>?_⟩
 ·rw[List.getElem_append]
  split
  ·exact h.2.1 _ _
  ·exact k.2.1 _ _
 ·rw[List.getElem_append,List.getElem_append]
  by_cases hlt:j<a.length
  ·rw[dif_pos hlt,dif_pos (by rw[h.1];exact hlt)];exact h.2.2 _ _ _
  ·rw[dif_neg hlt,dif_neg (by rw[h.1];exact hlt)];have:=k.2.2 (j-a.length) (by simp at hj;omega) (by simp at hj';rw[h.1] at hj';omega);simpa[h.1] using this
section
variable {H : Type} {enc : TypeId × Value → H} {P : Program} {w : World} {base fuel : Nat} {sp : Nat → Bool} {held : Bool} {t e : TypeId} {cs : List Value} {x : DataW H × List MemPlace}
theorem rc_int {k:IntKind}(ht:P.underlying t=some (.int k))(h:DataW.trod enc P w base sp held fuel t cs=some x):∃n,(Lit.int k n).wf=true∧RC w [.int k n] cs:=by
 obtain⟨n,rfl,_,hw⟩:=DataW.trod_int ht h;exact⟨n,hw,RC.one (.int k n) rfl⟩
theorem rc_str (ht:P.underlying t=some .string)(h:DataW.trod enc P w base sp held fuel t cs=some x):∃s:List UInt8,s.length≤maxLen∧RC w [.str s] cs:=by
 obtain⟨s,rfl,_,hs⟩:=DataW.trod_string ht h;obtain⟨⟨l⟩⟩:=s;refine⟨l,by simpa[ByteArray.size] using hs,RC.one ?_ rfl⟩;exact Rep.str l
theorem flat_get {α:Type}{c:Nat}(es:List (List α))(hc:∀a∈es,a.length=c)(i j:Nat)(hi:i<es.length)(hj:j<c):es.flatten[i*c+j]?=(es[i]'hi)[j]?:=by
 induction es generalizing i with
 |nil=>simp at hi
 |cons a r ih=>
  have ha:=hc a (by simp)
  cases i with
  |zero=>simp only[Nat.zero_mul,Nat.zero_add,List.flatten_cons,List.getElem_cons_zero];rw[List.getElem?_append_left (by omega)]
  |succ i=>
   simp only[List.flatten_cons,List.getElem_cons_succ];rw[List.getElem?_append_right (by rw[ha,Nat.succ_mul];omega)];have:=ih (fun b hb=>hc b (by simp[hb])) i (by simpa using hi);rw[←this]
   congr 1
   rw[ha,Nat.succ_mul];omega
theorem flat_len {α:Type}{c:Nat}(es:List (List α))(hc:∀a∈es,a.length=c):es.flatten.length=es.length*c:=by
 induction es with
 |nil=>simp
 |cons a r ih=>simp[hc a (by simp),ih (fun b hb=>hc b (by simp[hb])),Nat.succ_mul];omega
theorem RC.flatten {c:Nat}:∀(es:List (List AV)) (css:List (List Value)),es.length=css.length→(∀i (h:i<es.length) (h':i<css.length),RC w (es[i]'h) (css[i]'h'))→RC w es.flatten css.flatten:=by
 intro es
 induction es with
 |nil=>intro css hl _;cases css with
  |nil=>exact⟨rfl,fun _ h=>by simp at h,fun _ h=>by simp at h⟩
  |cons _ _=>simp at hl
 |cons a r ih=>
  intro css hl h
  cases css with
  |nil=>simp at hl
  |cons b s=>
   simp only[List.flatten_cons];refine RC.append (h 0 (by simp) (by simp)) (ih s (by simpa using hl) fun i hi hi'=>?_);exact h (i+1) (by simpa using hi) (by simpa using hi')
theorem rc_slice {G:List AV→Prop}(ht:P.underlying t=some (.slice e))(hp:0<P.cellsOf e)(he:∀n c y,DataW.trod enc P w base sp held n e c=some y→∃a,G a∧RC w a c)
  (h:DataW.trod enc P w base sp held fuel t cs=some x):∃es:List (List AV),(∀a∈es,G a)∧es.length≤maxLen∧RC w [.sl es.length es.flatten .none] cs:=by
 rcases DataW.trod_slice ht h with⟨rfl,_⟩|⟨a,len,cap,elems,rest,n,_,rfl,_,hb,hlc,hm,hel,hal,_,_⟩
 ·exact⟨[],fun a h=>by simp at h,Nat.zero_le _,RC.one (.sl0 _ _ _ trivial) rfl⟩
 ·have key:∀i,i<len→∃(c:List Value) (av:List AV),G av∧RC w av c∧c.length=P.cellsOf e∧∀j,j<P.cellsOf e→w.cell? ((a.add (i*P.cellsOf e)).add j)=c[j]?:=by
   intro i hi;have h1:=hal i hi;rw[List.getElem?_eq_getElem (by omega)] at h1;obtain⟨c,h2,h3⟩:=Option.bind_eq_some_iff.1 h1;obtain⟨_,h4,h5⟩:=World.cells?_some h2;obtain⟨av,h6,h7⟩:=he _ _ _ h3;exact⟨c,av,h6,h7,h4,h5⟩
  rcases Nat.eq_zero_or_pos len with h0|h0
  ·subst h0;exact⟨[],fun a h=>by simp at h,Nat.zero_le _,RC.one (.sl0 _ _ _ trivial) rfl⟩
  have hspot:a.spot=none:=by
   obtain⟨c,_,_,_,h4,h5⟩:=key 0 h0;have:=h5 0 hp;rw[List.getElem?_eq_getElem (by omega)] at this;have h6:=World.cell?_spot (a:=(a.add (0*P.cellsOf e)).add 0) this;simpa[Addr.add] using h6
  obtain⟨ab,ao,as⟩:=a;simp only at hspot;subst hspot
  let C:Nat→List Value:=fun i=>if h:i<len then Classical.choose (key i h) else []
  let A:Nat→List AV:=fun i=>if h:i<len then Classical.choose (Classical.choose_spec (key i h)) else []
  have hCA:∀i,i<len→G (A i)∧RC w (A i) (C i)∧(C i).length=P.cellsOf e∧∀j,j<P.cellsOf e→w.cell? ⟨ab,ao+(i*P.cellsOf e+j),none⟩=(C i)[j]?:=by
   intro i hi;have:=Classical.choose_spec (Classical.choose_spec (key i hi));simp only[C,A,dif_pos hi];refine⟨this.1,this.2.1,this.2.2.1,fun j hj=>?_⟩;rw[←this.2.2.2 j hj];rw[Addr.add_add];unfold Addr.add
   split
   ·rename_i h0;rw[h0];rfl
   ·rfl
  refine⟨(List.range len).map A,fun av hav=>?_,?_,?_⟩
  ·obtain⟨i,hi,rfl⟩:=List.mem_map.1 hav;exact(hCA i (List.mem_range.1 hi)).1
  ·simp;exact Nat.le_trans hlc hm
  ·have hA:∀av∈(List.range len).map A,av.length=P.cellsOf e:=by
    intro av hav;obtain⟨i,hi,rfl⟩:=List.mem_map.1 hav;obtain⟨_,h1,h2,_⟩:=hCA i (List.mem_range.1 hi);rw[←h1.1];exact h2
   have hC:∀c∈(List.range len).map C,c.length=P.cellsOf e:=by
    intro c hc;obtain⟨i,hi,rfl⟩:=List.mem_map.1 hc;exact(hCA i (List.mem_range.1 hi)).2.2.1
   have hlA:=flat_len _ hA;have hlC:=flat_len _ hC;simp only[List.length_map,List.length_range] at hlA hlC;have hcell:∀j,j<len*P.cellsOf e→w.cell? ⟨ab,ao+j,none⟩=((List.range len).map C).flatten[j]?:=by
    intro j hj;have hi:j / P.cellsOf e<len:=by rw[Nat.div_lt_iff_lt_mul hp];exact hj
    have hr:j % P.cellsOf e<P.cellsOf e:=Nat.mod_lt _ hp;have e1:j / P.cellsOf e*P.cellsOf e+j % P.cellsOf e=j:=by rw[Nat.mul_comm];exact Nat.div_add_mod _ _
    have h1:=(hCA _ hi).2.2.2 _ hr;have h2:=flat_get _ hC (j / P.cellsOf e) (j % P.cellsOf e) (by simpa using hi) hr;rw[e1] at h1 h2;rw[h1,h2];simp
   refine RC.one ?_ rfl;have hlen:((List.range len).map A).length=len:=by simp
   have hrep:RC w ((List.range len).map A).flatten ((List.range len).map C).flatten:=RC.flatten (c:=0) _ _ (by simp) fun i hi hi'=>by
    simp only[List.getElem_map,List.getElem_range];exact(hCA i (by simpa using hi)).2.1
   rw[hlen];refine Rep.sl_mk hlc ?_ hrep (fun j hj=>hcell j (by rw[hlA] at hj;exact hj)) trivial;rw[hlA];have hpos:0<len*P.cellsOf e:=Nat.mul_pos h0 hp;have hlast:=hcell (len*P.cellsOf e-1) (by omega);rw[List.getElem?_eq_getElem (by rw[hlC];omega)] at hlast;have:=cell_m0 hlast;show ao+len*P.cellsOf e≤m0 w ab;omega
theorem flatten_ints {k:IntKind}(es:List (List AV))(h:∀a∈es,∃n,(Lit.int k n).wf=true∧a=[.int k n]):∃zs:List Int,zs.length=es.length∧es.flatten=zs.map (.int k)∧∀z∈zs,(Lit.int k z).wf=true:=by
 induction es with
 |nil=>exact⟨[],rfl,rfl,fun z h=>by simp at h⟩
 |cons a r ih=>
  obtain⟨zs,h1,h2,h3⟩:=ih (fun b hb=>h b (by simp[hb]));obtain⟨n,hn,rfl⟩:=h a (by simp);exact⟨n::zs,by simp[h1],by simp[h2],fun z hz=>(List.mem_cons.1 hz).elim (fun e=>by rw[e];exact hn) (h3 z)⟩
theorem rc_nums {k:IntKind}(ht:P.underlying t=some (.slice e))(he:P.underlying e=some (.int k))(hp:0<P.cellsOf e)(h:DataW.trod enc P w base sp held fuel t cs=some x) :
  ∃zs:List Int,(∀z∈zs,(Lit.int k z).wf=true)∧zs.length≤maxLen∧RC w [.sl zs.length (zs.map (.int k)) .none] cs:=by
 obtain⟨es,h1,h2,h3⟩:=rc_slice (G:=fun a=>∃n,(Lit.int k n).wf=true∧a=[.int k n]) ht hp (fun n c y hy=>by
  obtain⟨m,g1,g2⟩:=rc_int he hy;exact⟨_,⟨m,g1,rfl⟩,g2⟩) h
 obtain⟨zs,g1,g2,g3⟩:=flatten_ints es h1;rw[g2,←g1] at h3;exact⟨zs,g3,by omega,h3⟩
theorem rc_ints (ht:P.underlying t=some (.slice e))(he:P.underlying e=some (.int .i64))(hp:0<P.cellsOf e)(h:DataW.trod enc P w base sp held fuel t cs=some x) :
  ∃zs:List Int,(∀z∈zs,-9223372036854775808≤z∧z≤9223372036854775807)∧zs.length≤maxLen∧RC w [.sl zs.length (ints zs) .none] cs:=by
 obtain⟨zs,h1,h2,h3⟩:=rc_nums ht he hp h;exact⟨zs,fun z hz=>by simpa[Lit.wf,IntKind.min,IntKind.max,IntKind.signed,IntKind.bits] using h1 z hz,h2,h3⟩
end
section
variable {H : Type} {enc : TypeId × Value → H} {P : Program} {w : World} {base fuel : Nat} {sp : Nat → Bool} {held : Bool} {t : TypeId} {cs : List Value} {x : DataW H × List MemPlace} {fs : Array Field}
theorem rc_fields (ht:P.underlying t=some (.struct fs))(h:DataW.trod enc P w base sp held fuel t cs=some x):cs.length=P.cellsOf t∧
  ∀(i:Nat)(f:Field),fs[i]?=some f→∃n y,DataW.trod enc P w base sp held n f.type ((cs.drop f.offset).take (P.cellsOf f.type))=some y:=by
 obtain⟨xs,n,_,_,hl,hx,hf⟩:=DataW.trod_struct ht h;refine⟨hl,fun i f hi=>?_⟩;have hlt:i<xs.length:=by rw[hx];exact(Array.getElem?_eq_some_iff.1 hi).1
 exact⟨n,xs[i],by rw[hf i f hi,List.getElem?_eq_getElem hlt]⟩
end
theorem ACall.law {P:Program}{f:FuncId}{avs:List AV}{w:World}{args:Array Value}(h:ACall P f avs [] [] (fun r _ _=>r=.bool true))(hg:∀x∈gints,∃m,w.cell? ⟨x.1,x.2,none⟩=some (.int .i64 m))(hs:args.size=avs.length)
  (hr:∀(j:Nat)(h:j<avs.length)(h':j<args.size),Rep (lay0 w) 0 [] w (avs[j]'h) (args[j]'h')) :
  Calls P f args w fun e w'=>e=.returned (.bool true)∧Go.RowKit.Below w.heap.size w w':=by
 refine(h.2 (lay0 w) w args (con0 w hg) hs hr).mono ?_;rintro e w' ⟨r,H',T',L',cv,rfl,rfl,_,hrep,hev⟩
 cases hrep with
 |bool _=>exact⟨rfl,hev.os,hev.tape,hev.output,hev.size,fun k hk=>hev.frame k hk (fun hw=>by
   rcases hw with⟨i,hi,_⟩|⟨t,u,z,ht,_⟩
   ·exact Nat.not_lt_zero _ hi
   ·simp at ht)⟩
section
open Go.RowKit
variable {H : Type} {enc : TypeId × Value → H} {P : Program}
theorem post_of_below {f:Func}{s:ChangeSpec}{apart fresh handsOn again:Bool}{W W':World}{args:Array Value}{v:Value}{ds gs:List (DataW H)}{before pa pv:List MemPlace}
  (hW:DataW.Whole enc P f.params.toList s.vars apart W args.toList ds gs before)
  (hres:∀(b:Nat)(sp:Nat→Bool)(hd:Bool),DataW.TrodAll enc P W' b sp hd f.resultTypes.toList (v.resultList f.resultTypes.size) (s.fn H (ds++gs)).results [])
  (hargs:∀sp:Nat→Bool,(∀p∈before,sp p.block=true)→DataW.TrodAll enc P W' 0 sp true f.params.toList args.toList (s.fn H (ds++gs)).args pa)
  (hvars:∀sp:Nat→Bool,(∀p∈before,sp p.block=true)→DataW.TrodVars enc P W' sp s.vars (s.fn H (ds++gs)).vars pv)
  (hps:before=pa++pv) (hb:Go.RowKit.Below W.heap.size W W')
  (hok:∀(j:Nat)(t:TypeId)(r:Value),f.resultTypes[j]?=some t→(v.resultList f.resultTypes.size)[j]?=some r→Value.okWide P W' .any 0 t r) :
  s.post enc P f apart fresh handsOn again W args v W':=by
 have hlt:∀p∈before,p.block<W.heap.size:=fun p hp=>hW.lt p hp;have hold:∀p∈before,(fun b=>decide (b<W.heap.size)) p.block=true:=fun p hp=>by simpa using hlt p hp
 refine⟨ds,gs,before,[],pa,pv,hW,hres _ _ _,hargs _ hold,hvars _ hold,World.keptBut_mono (fun p hp=>⟨hp,?_⟩) (hb.frame (·∈before)),fun _=>?_⟩
 ·rw[hps,List.mem_append] at hp;exact Or.inr hp
 ·obtain⟨_,_,_,_,_,hz,hn⟩:=hW;refine⟨hok,_,_,([]++pa)++pv,⟨[]++pa,pv,trodAll_append (hargs _ (fun _ _=>rfl)) (hres _ _ _),hvars _ (fun _ _=>rfl),rfl,?_,?_⟩,?_⟩
  ·intro b off hp;have hin:MemPlace.cell b off∈before:=by rw[hps];simpa using hp
   rw[hb.frozen (hlt _ hin)];exact hz b off hin
  ·intro ha;have:=hn ha;rw[hps] at this;simpa using this
  ·intro p hp _;rw[hps];simpa using hp
theorem trodAll_stays (hl:laidOutB P=true){W W':World}(hb:Go.RowKit.Below W.heap.size W W'){sp:Nat→Bool}:∀{ts:List TypeId} {vs:List Value} {ds:List (DataW H)} {ps:List MemPlace},DataW.TrodAll enc P W 0 (fun _=>true) true ts vs ds ps→
  (∀t∈ts,P.readableRec t=true∧t<P.types.size)→(∀x∈ps,x.block<W.heap.size)→(∀x∈ps,sp x.block=true)→DataW.TrodAll enc P W' 0 sp true ts vs ds ps:=by
 intro ts
 induction ts with
 |nil=>
  intro vs ds ps h _ _ _;obtain⟨rfl,rfl,rfl⟩:=trodAll_nil h;exact trodAll_mk0
 |cons t ts ih=>
  intro vs ds ps h ht hlt hsp;obtain⟨v0,vs0,d0,ds0,p0,q0,rfl,rfl,rfl,h0,r0⟩:=trodAll_cons h;have h1:=ht t (by simp);exact trodAll_cons_mk (WideElems.Trod_stays hl h1.1 h1.2 h0 (fun x hx=>hb.same (hlt x (by simp[hx]))) (fun x hx=>hsp x (by simp[hx])))
   (ih r0 (fun t' h'=>ht t' (by simp[h'])) (fun x hx=>hlt x (by simp[hx])) (fun x hx=>hsp x (by simp[hx])))
theorem law_close {f:Func}{s:ChangeSpec}{apart fresh handsOn again:Bool}{W W':World}{args:Array Value}{ds gs:List (DataW H)}{before:List MemPlace}{tb:TypeId}
  (hW:DataW.Whole enc P f.params.toList s.vars apart W args.toList ds gs before) (hv:s.vars=[]) (hfn:s.fn H ds={ results:=[.lit (.bool true)],args:=ds }) (hr:f.resultTypes=#[tb]) (htb:P.underlying tb=some .bool)
  (hl:laidOutB P=true) (hts:∀t∈f.params.toList,P.readableRec t=true∧t<P.types.size) (hb:Go.RowKit.Below W.heap.size W W') :
  s.post enc P f apart fresh handsOn again W args (.bool true) W':=by
 have hW':=hW;obtain⟨p,q,hA,hV,rfl,hfz,hnd⟩:=hW;rw[hv] at hV;obtain⟨rfl,rfl⟩:=trodVars_none hV;simp only[List.append_nil] at hW';have hlt:∀x∈p,x.block<W.heap.size:=fun x hx=>hW'.lt x hx;refine post_of_below (pa:=p) (pv:=[]) hW' (fun b sp hd=>?_) (fun sp hsp=>?_) (fun sp hsp=>?_) (by simp) hb (ok_one hr rfl (okWide_bool_mk htb _))
 ·rw[List.append_nil,hfn,hr];exact trodAll_cons_mk (shut_bool htb _) trodAll_mk0
 ·rw[List.append_nil,hfn];exact trodAll_stays hl hb hA hts hlt hsp
 ·rw[List.append_nil,hfn,hv];rfl
end
section
variable {H : Type} {enc : TypeId × Value → H} {P : Program} {w : World} {b0 base : Nat} {sp : Nat → Bool} {held : Bool} {t e : TypeId} {v : Value} {d : DataW H} {ps : List MemPlace} {r : Reach}
end
section
variable {H : List Blk} {T : Toks} {L : Lay} {w : World}
theorem Con.ownB {n z:Nat}{cs:List AV}(h:Con L (H++[.cells [.sl n cs .full]]) T w)(hz:0<z) :
  Con (L.withTok T.length ⟨0,0,0⟩) (H++[.cells [.sl n cs (.own T.length)]]) (T++[(cs.length,z)]) w:=by
 have h1:=h.own cs.length hz;have el:(H++[Blk.cells [.sl n cs .full]]).length=(H++[Blk.cells [.sl n cs (.own T.length)]]).length:=by simp
 refine⟨fun i b hi=>?_,fun i j hi hj=>h1.inj i j (by rw[el];exact hi) (by rw[el];exact hj),h1.tok,h1.tinj,fun t u z' i ht hu hi=>h1.tbox t u z' i ht hu (by rw[el];exact hi),h1.mz,h1.gl⟩;rw[←el];rcases Nat.lt_or_ge i H.length with hl|hl
 ·rw[List.getElem?_append_left hl] at hi;exact h1.box i b (by rw[List.getElem?_append_left hl];exact hi)
 ·have hi':=(List.getElem?_eq_some_iff.1 hi).1;have:i=H.length:=by simp at hi';omega
  subst this;rw[new_at0] at hi;simp at hi;subst hi;obtain⟨c,t,fr,g1,g2,g3,g3',g4,g5⟩:=h.box H.length (.cells [.sl n cs .full]) (by simp);refine⟨c,t,fr,g1,g2,by simpa using g3,g3',fun j hj hj'=>?_,g5⟩;have:j=0:=by simp at hj;omega
  subst this;exact(g4 0 (by simp) hj').own
theorem aw_ownB {C:Cx}{c:Code}{Q:Exit→St→Prop}{s:St}(z:Nat)(H:List Blk)(n:Nat)(cs:List AV)(hz:0<z)(hH:s.H=H++[.cells [.sl n cs .full]])
  (h:AW C c Q ⟨s.e,H++[.cells [.sl n cs (.own s.T.length)]],s.T++[(cs.length,z)]⟩):AW C c Q s:=by
 obtain⟨e,H0,T⟩:=s;simp only at hH h;subst hH;intro L w a hc;have el:(H++[Blk.cells [.sl n cs .full]]).length=(H++[Blk.cells [.sl n cs (.own T.length)]]).length:=by simp
 have ev:=Ev.own (H:=H++[.cells [.sl n cs .full]]) (T:=T) (L:=L) (w:=w) cs.length z;have ev':=ev.mono hc.nb hc.tb;have ek:Keeps L (H++[Blk.cells [.sl n cs .full]]).length T w (L.withTok T.length ⟨0,0,0⟩) (H++[Blk.cells [.sl n cs (.own T.length)]]).length (T++[(cs.length,z)]) w:=by
  rw[←el];exact ev.keeps
 refine wp_mono (h (L.withTok T.length ⟨0,0,0⟩) w a ⟨by rw[←el];exact hc.nb,by simp;have:=hc.tb;simp at this;omega,hc.con.ownB hz,hc.size,hc.defers,fun t=>(hc.env t).keep ek⟩) fun _ _ _ k=>
  Post.step (s1:=⟨e,H++[.cells [.sl n cs (.own T.length)]],T++[(cs.length,z)]⟩) (by rw[←el];exact ev') k
end
section
variable {H : List Blk} {T : Toks} {L : Lay} {w : World}
theorem Con.ownC {n z k:Nat}{cs vs:List AV}(h:Con L (H++[.cells vs]) T w)(hk:vs[k]?=some (.sl n cs .full))(hz:0<z) :
  Con (L.withTok T.length ⟨0,0,0⟩) (H++[.cells (vs.set k (.sl n cs (.own T.length)))]) (T++[(cs.length,z)]) w:=by
 have h1:=h.own cs.length hz;have ev:=Ev.own (H:=H++[.cells vs]) (T:=T) (L:=L) (w:=w) cs.length z;have el:(H++[Blk.cells vs]).length=(H++[Blk.cells (vs.set k (.sl n cs (.own T.length)))]).length:=by simp
 refine⟨fun i b hi=>?_,fun i j hi hj=>h1.inj i j (by rw[el];exact hi) (by rw[el];exact hj),h1.tok,h1.tinj,fun t u z' i ht hu hi=>h1.tbox t u z' i ht hu (by rw[el];exact hi),h1.mz,h1.gl⟩;rw[←el];rcases Nat.lt_or_ge i H.length with hl|hl
 ·rw[List.getElem?_append_left hl] at hi;exact h1.box i b (by rw[List.getElem?_append_left hl];exact hi)
 ·have hi':=(List.getElem?_eq_some_iff.1 hi).1;have:i=H.length:=by simp at hi';omega
  subst this;rw[new_at0] at hi;simp at hi;subst hi;obtain⟨c,t,fr,g1,g2,g3,g3',g4,g5⟩:=h.box H.length (.cells vs) (by simp);refine⟨c,t,fr,g1,g2,by simpa using g3,g3',fun j hj hj'=>?_,g5⟩
  by_cases e:k=j
  ·subst e;have hj2:k<vs.length:=by simpa using hj
   rw[List.getElem?_eq_getElem hj2] at hk;have:=g4 k hj2 hj';rw[Option.some.inj hk] at this;rw[List.getElem_set_self];exact this.own
  ·rw[List.getElem_set_ne e];exact(g4 j (by simpa using hj) hj').keep ev.keeps
theorem aw_ownC {C:Cx}{c:Code}{Q:Exit→St→Prop}{s:St}(z k:Nat)(H:List Blk)(vs:List AV)(n:Nat)(cs:List AV)(hz:0<z)(hk:vs[k]?=some (.sl n cs .full))(hH:s.H=H++[.cells vs])
  (h:AW C c Q ⟨s.e,H++[.cells (vs.set k (.sl n cs (.own s.T.length)))],s.T++[(cs.length,z)]⟩):AW C c Q s:=by
 obtain⟨e,H0,T⟩:=s;simp only at hH h;subst hH;intro L w a hc;have el:(H++[Blk.cells vs]).length=(H++[Blk.cells (vs.set k (.sl n cs (.own T.length)))]).length:=by simp
 have ev:=Ev.own (H:=H++[.cells vs]) (T:=T) (L:=L) (w:=w) cs.length z;have ev':=ev.mono hc.nb hc.tb;have ek:Keeps L (H++[Blk.cells vs]).length T w (L.withTok T.length ⟨0,0,0⟩) (H++[Blk.cells (vs.set k (.sl n cs (.own T.length)))]).length (T++[(cs.length,z)]) w:=by
  rw[←el];exact ev.keeps
 refine wp_mono (h (L.withTok T.length ⟨0,0,0⟩) w a ⟨by rw[←el];exact hc.nb,by simp;have:=hc.tb;simp at this;omega,hc.con.ownC hk hz,hc.size,hc.defers,fun t=>(hc.env t).keep ek⟩) fun _ _ _ kk=>
  Post.step (s1:=⟨e,H++[.cells (vs.set k (.sl n cs (.own T.length)))],T++[(cs.length,z)]⟩) (by rw[←el];exact ev') kk
end
def untagA:AV→AV
 |.agg cs=>.agg (cs.map untag)
 |v=>untag v
theorem Rep.aggUntag {L:Lay}{N:Nat}{T:Toks}{w:World}{cs:List AV}{v:Value}(h:Rep L N T w (.agg cs) v):Rep L N T w (.agg (cs.map Am.untag)) v:=by
 cases h with
 |agg cs cv h1 h2 hr=>exact .agg _ cv (by simpa using h1) h2 (fun j hj hj'=>by
   rw[List.getElem_map];exact(hr j (by simpa using hj) hj').untag)
theorem Rep.untagA {L:Lay}{N:Nat}{T:Toks}{w:World}{v:AV}{c:Value}(h:Rep L N T w v c):Rep L N T w (untagA v) c:=by
 cases v with
 |agg cs=>exact h.aggUntag
 |_=>exact h.untag
theorem ACall.dropTA {P:Program}{f:FuncId}{args:List AV}{H:List Blk}{T:Toks}{rs:List AV}(h:ACall P f args H T (fun r H' T'=>(∃rH,H'=H++rH)∧(∃rT,T'=T++rT)∧∃vs,r=.tup vs∧vs.map Am.untagA=rs))(hb:∀v∈rs,Below H.length T.length v):ACall P f args H T (Is (.tup rs) H T):=by
 refine⟨h.1,fun L w ca hc hl' hr=>(h.2 L w ca hc hl' hr).mono ?_⟩;rintro e w' ⟨r',H',T',L',cv,⟨⟨rH,e1⟩,⟨rT,e2⟩,vs,e3,e4⟩,rfl,hcon,hrep,hev⟩;subst e1;subst e2;subst e3;refine⟨_,H,T,L',cv,⟨rfl,rfl,rfl⟩,rfl,Con.front P hcon hc.hok,?_,hev.front (Nat.le_refl _) (Nat.le_refl _)⟩;have hrep':Rep L' (H++rH).length (T++rT) w' (.tup (vs.map Am.untagA)) cv:=by
  cases hrep with
  |tup _ cv h1 hr=>
   refine .tup _ cv (by simpa using h1) (fun j hj hj'=>?_);rw[List.getElem_map];exact(hr j (by simpa using hj) hj').untagA
 rw[e4] at hrep';have:=hrep'.drop (.tup _ hb);simpa using this
theorem ACall.dropA {P:Program}{f:FuncId}{args:List AV}{H:List Blk}{T:Toks}{r0:AV}(h:ACall P f args H T (fun r H' T'=>(∃rH,H'=H++rH)∧(∃rT,T'=T++rT)∧Am.untagA r=r0))(hb:Below H.length T.length r0):ACall P f args H T (Is r0 H T):=by
 refine⟨h.1,fun L w ca hc hl' hr=>(h.2 L w ca hc hl' hr).mono ?_⟩;rintro e w' ⟨r',H',T',L',cv,⟨⟨rH,e1⟩,⟨rT,e2⟩,e4⟩,rfl,hcon,hrep,hev⟩;subst e1;subst e2;refine⟨_,H,T,L',cv,⟨rfl,rfl,rfl⟩,rfl,Con.front P hcon hc.hok,?_,hev.front (Nat.le_refl _) (Nat.le_refl _)⟩;have hrep':=hrep.untagA;rw[e4] at hrep';have:=hrep'.drop hb;simpa using this
end Go.Am
