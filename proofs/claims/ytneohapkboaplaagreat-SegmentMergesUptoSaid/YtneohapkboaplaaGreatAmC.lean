/- Calls with more than one result: what they have made is forgotten. Boxes that are finished become immutable, however deep they lie. Boxes that are finished become immutable; the one they hang on stays a box. A region that draws its order, where two operations with effects may come in either order: both orders are walked. A region that draws its order, in which one operation with an effect (an append to a box that is held with its capacity) can come out in several ways. Regions that draw their order, in which the operations with an effect stand in a chain, each with several outcomes, and the others have no effect and nothing of the chain ahead of them. From the readings of a law's arguments to abstract values, and from a contract of the machine to the row's post. The arguments of a row, as abstract values. A box whose cell is an empty end gets a token for it: only the abstract state takes the step. A box of several cells, one of which is an empty end, gets a token for it.
  Conditions: none; it speaks of every program. -/
import Derived.Test.YtneohapkboaplaaGreatAmB
import Derived.WalkKit
import Derived.ProofKit
import Derived.OpenShut
import Derived.JoinedCond
import Derived.Below
import Derived.Carry
import Derived.DataElems
import Derived.ChangeSame
import Derived.ChangeMaps5
import Derived.WideShapes
set_option linter.all false
namespace Go.Am
open Go
section
variable {P : Program} {f : FuncId} {args : List AV} {H : List Blk} {T : Toks}
end
inductive Frz (n0 t0:Nat) (H:List Blk):AV→AV→Prop
 |keep {v v':AV} (h:v'=v∨v'=untag v) (hb:Below n0 t0 v'):Frz n0 t0 H v v'
 |top (v:AV):Frz n0 t0 H v .top
 |msl {i o n:Nat} {vs cs:List AV} (hi:n0≤i) (hH:H[i]?=some (.cells vs)) (hl:o+cs.length≤vs.length) (hc:∀(j:Nat)(h:j<cs.length),Frz n0 t0 H (vs.getD (o+j) .top) (cs[j]'h)):Frz n0 t0 H (.msl i o n) (.sl n cs .none)
 |csl {i n cap:Nat} {vs cs:List AV} (hi:n0≤i) (hH:H[i]?=some (.cells vs)) (hl:cs.length≤vs.length) (hc:∀(j:Nat)(h:j<cs.length),Frz n0 t0 H (vs.getD j .top) (cs[j]'h)):Frz n0 t0 H (.csl i n cap) (.sl n cs .none)
 |cslF {i n:Nat} {vs cs:List AV} (hi:n0≤i) (hH:H[i]?=some (.cells vs)) (hl:cs.length≤vs.length) (hc:∀(j:Nat)(h:j<cs.length),Frz n0 t0 H (vs.getD j .top) (cs[j]'h)):Frz n0 t0 H (.csl i n n) (.sl n cs .full)
 |slT {n t:Nat} {cs cs':List AV} (hl:cs'.length=cs.length) (ht:t<t0) (hc:∀(j:Nat)(h:j<cs'.length),Frz n0 t0 H (cs.getD j .top) (cs'[j]'h)):Frz n0 t0 H (.sl n cs (.own t)) (.sl n cs' (.own t))
 |ptr {i o:Nat} {vs cs:List AV} (hi:n0≤i) (hH:H[i]?=some (.cells vs)) (hl:cs.length≤vs.length) (hc:∀(j:Nat)(h:j<cs.length),Frz n0 t0 H (vs.getD j .top) (cs[j]'h)):Frz n0 t0 H (.ptr i o) (.vptr cs o)
 |sl {n:Nat} {cs cs':List AV} {tg:Tag} (hl:cs'.length=cs.length) (hc:∀(j:Nat)(h:j<cs'.length),Frz n0 t0 H (cs.getD j .top) (cs'[j]'h)):Frz n0 t0 H (.sl n cs tg) (.sl n cs' .none)
 |agg {cs cs':List AV} (hl:cs'.length=cs.length) (hc:∀(j:Nat)(h:j<cs'.length),Frz n0 t0 H (cs.getD j .top) (cs'[j]'h)):Frz n0 t0 H (.agg cs) (.agg cs')
 |tup {cs cs':List AV} (hl:cs'.length=cs.length) (hc:∀(j:Nat)(h:j<cs'.length),Frz n0 t0 H (cs.getD j .top) (cs'[j]'h)):Frz n0 t0 H (.tup cs) (.tup cs')
open Classical in
noncomputable def Lay.frz (L:Lay)(n0 n:Nat)(w:World):Lay:=
 { L with m:=fun b=>if ∃i,n0≤i∧i<n∧L.phi i=b then max (L.m b) (match w.heap[b]? with|some (.cells c _ _)=>c.size|_=>0) else L.m b }
section
variable {L : Lay} {H : List Blk} {T : Toks} {w : World} {n0 t0 : Nat}
open Classical in
theorem frz_le (L:Lay)(n0 n:Nat)(w:World)(b:Nat):L.m b≤(L.frz n0 n w).m b:=by
 show L.m b≤if _ then _ else _
 split
 ·exact Nat.le_max_left _ _
 ·exact Nat.le_refl _
theorem Keeps.frz {m:Nat}(N:Nat)(T:Toks):Keeps L N T w (L.frz n0 m w) N T w:=by
 exact⟨Nat.le_refl _,fun _ _=>rfl,fun t u z h=>⟨u,h,Nat.le_refl _,fun _=>rfl⟩,fun b=>frz_le L n0 m w b,fun _ _ _=>rfl,rfl⟩
open Classical in
theorem Con.frz (h:Con L H T w)(hn:n0≤H.length)(hf:Con L (H.take n0) (T.take t0) w):Con (L.frz n0 H.length w) (H.take n0) (T.take t0) w:=by
 have hlen:(H.take n0).length=n0:=by rw[List.length_take];omega
 have ne:∀b,(¬∃i,n0≤i∧i<H.length∧L.phi i=b)→(L.frz n0 H.length w).m b=L.m b:=fun b hb=>if_neg hb;have hTt:∀(t:Nat)(x:Nat×Nat),(T.take t0)[t]?=some x→T[t]?=some x:=by
  intro t x hx;rw[List.getElem?_take] at hx
  split at hx
  ·exact hx
  ·cases hx
 have nbox:∀i,i<n0→¬∃j,n0≤j∧j<H.length∧L.phi j=L.phi i:=by
  rintro i hi ⟨j,h1,h2,e⟩;have:=h.inj j i h2 (by omega) e;omega
 have ntok:∀t u z,T[t]?=some (u,z)→u<(L.tau t).c*z→¬∃j,n0≤j∧j<H.length∧L.phi j=(L.tau t).b:=by
  rintro t u z ht hs ⟨j,h1,h2,e⟩;exact h.tbox t u z j ht hs h2 e.symm
 refine⟨fun i x hx=>?_,hf.inj,fun t u z ht=>?_,hf.tinj,hf.tbox,fun x hx=>?_,h.gl.keep (fun b=>frz_le L n0 H.length w b) (fun _ _ _=>rfl)⟩
 ·have hi:=(List.getElem?_eq_some_iff.1 hx).1;refine(hf.box i x hx).stay (Keeps.frz _ _) hi rfl fun h5=>?_;rw[ne _ (nbox i (by omega))];exact h5
 ·obtain⟨h1,h2⟩:=hf.tok t u z ht;refine⟨h1,fun hs=>?_⟩;obtain⟨c,e,fr,g1,g2,g3,g4⟩:=h2 hs;exact⟨c,e,fr,g1,g2,g3,by rw[show ((L.frz n0 H.length w).tau t).b=(L.tau t).b from rfl,ne _ (ntok t u z (hTt t _ ht) hs)];exact g4⟩
 ·rw[ne _ (fun⟨j,h1,h2,e⟩=>by have:=h.phi_lt h2;omega)];exact h.mz x hx
open Classical in
theorem Frz.rep (h:Con L H T w)(hn:n0≤H.length){v v':AV}(k:Frz n0 t0 H v v'):∀c,Rep L H.length T w v c→Rep (L.frz n0 H.length w) n0 (T.take t0) w v' c:=by
 have size:∀(i:Nat)(c:Array Value)(t:TypeId)(fr:Nat×Nat),n0≤i→i<H.length→w.heap[L.phi i]?=some (.cells c t fr)→c.size≤(L.frz n0 H.length w).m (L.phi i):=by
  intro i c t fr h1 h2 hh;show _≤if _ then _ else _
  rw[if_pos ⟨i,h1,h2,rfl⟩,hh];exact Nat.le_max_right _ _
 have row:∀(i o:Nat)(vs cs:List AV),n0≤i→H[i]?=some (.cells vs)→o+cs.length≤vs.length→(∀(j:Nat)(h:j<cs.length)(c:Value),Rep L H.length T w (vs.getD (o+j) .top) c→Rep (L.frz n0 H.length w) n0 (T.take t0) w (cs[j]'h) c)→
   ∃cv,o+cs.length≤(L.frz n0 H.length w).m (L.phi i)∧RepC (L.frz n0 H.length w) n0 (T.take t0) w cs cv∧∀j,j<cs.length→w.cell? ⟨L.phi i,o+j,none⟩=cv[j]?:=by
  intro i o vs cs hi hH hl ih;obtain⟨c,t,fr,g1,g2,g3,g3',g4,g5⟩:=h.box i _ hH;have hiH:=(List.getElem?_eq_some_iff.1 hH).1;have hs:=size i c t fr hi hiH g1;refine⟨(c.toList.drop o).take cs.length,by omega,⟨by simp;omega,fun j hj=>?_,fun j hj hj'=>?_⟩,fun j hj=>?_⟩
  ·have hjc:o+j<c.size:=by simp at hj;omega
   have:=g3' (o+j) hjc;rw[List.getElem_take,List.getElem_drop,Array.getElem_toList];exact this
  ·have hjc:o+j<c.size:=by omega
   have:=g4 (o+j) (by omega) hjc;rw[List.getElem_take,List.getElem_drop,Array.getElem_toList];refine ih j hj _ ?_;rw[List.getD_eq_getElem?_getD,List.getElem?_eq_getElem (by omega)];exact this
  ·rw[cell_row g1,List.getElem?_take,if_pos hj,List.getElem?_drop];simp
 induction k with
 |keep hv hb=>
  rename_i v v';intro c hr;have h1:Rep L H.length T w v' c:=by
   rcases hv with rfl|rfl
   ·exact hr
   ·exact hr.untag
  exact(h1.drop hb).keep (Keeps.frz _ _)
 |top v=>intro c _;exact .top _
 |msl hi hH hl hc ih=>
  intro c hr;obtain⟨cap,rfl,hcap,hlt⟩:=hr.msl_inv;obtain⟨cv,h1,h2,h3⟩:=row _ _ _ _ hi hH hl ih;exact Rep.sl_mk hcap h1 h2 h3 trivial
 |csl hi hH hl hc ih=>
  intro c hr;obtain⟨rfl,hcap,hlt⟩:=hr.csl_inv;obtain⟨cv,h1,h2,h3⟩:=row _ 0 _ _ hi hH (by omega) (fun j hj c hc'=>ih j hj c (by rwa [Nat.zero_add] at hc'));exact Rep.sl_mk hcap h1 h2 h3 trivial
 |cslF hi hH hl hc ih=>
  intro c hr;obtain⟨rfl,hcap,hlt⟩:=hr.csl_inv;obtain⟨cv,h1,h2,h3⟩:=row _ 0 _ _ hi hH (by omega) (fun j hj c hc'=>ih j hj c (by rwa [Nat.zero_add] at hc'));exact Rep.sl_mk hcap h1 h2 h3 rfl
 |slT hl ht hc ih=>
  rename_i n t cs cs';intro c hr;obtain⟨a,cap,rfl,hcap,htg,hor⟩:=hr.sl_inv;have htg':tagOk (L.frz n0 H.length w) (T.take t0) (.own t) n cs'.length a cap:=by
   obtain⟨u0,z,g0,g1,g2⟩:=htg;exact⟨u0,z,by rw[List.getElem?_take,if_pos ht];exact g0,by omega,fun e=>g2 (by omega)⟩
  rcases hor with⟨e1,e2⟩|⟨b,base,cv,e1,h1,h2,h3⟩
  ·subst e1;subst e2;have:cs'=[]:=List.eq_nil_of_length_eq_zero hl;subst this;exact .sl0 (.own t) a cap htg'
  ·subst e1;refine Rep.sl_mk (cv:=cv) hcap (by rw[hl];exact Nat.le_trans h1 (frz_le _ _ _ _ _)) ⟨by rw[hl];exact h2.1,h2.2.1,fun j hj hj'=>ih j hj _ ?_⟩ (fun j hj=>h3 j (by omega)) htg';have:=h2.2.2 j (by omega) hj';rw[List.getD_eq_getElem?_getD,List.getElem?_eq_getElem (by omega)];exact this
 |ptr hi hH hl hc ih=>
  rename_i i o vs cs;intro c hr;obtain⟨rfl,hlt⟩:=hr.ptr_inv;obtain⟨cv,h1,h2,h3⟩:=row _ 0 _ _ hi hH (by omega) (fun j hj c hc'=>ih j hj c (by rwa [Nat.zero_add] at hc'));have:=Rep.vptr (L:=L.frz n0 H.length w) (N:=n0) (T:=T.take t0) (w:=w) cs o (L.phi i) 0 (fun j=>cv.getD j undef) h1 (fun j hj=>?_) (fun j hj=>?_) (fun j hj=>?_)
  ·rwa [Nat.zero_add] at this
  ·have hj':j<cv.length:=by rw[h2.1];exact hj
   rw[h3 j hj];simp[hj']
  ·have hj':j<cv.length:=by rw[h2.1];exact hj
   simpa[hj'] using h2.2.1 j hj'
  ·have hj':j<cv.length:=by rw[h2.1];exact hj
   simpa[hj'] using h2.2.2 j hj hj'
 |sl hl hc ih=>
  rename_i n cs cs' tg;intro c hr;obtain⟨a,cap,rfl,hcap,ht,hor⟩:=hr.sl_inv;rcases hor with⟨e1,e2⟩|⟨b,base,cv,e1,h1,h2,h3⟩
  ·subst e1;subst e2;have:cs'=[]:=List.eq_nil_of_length_eq_zero hl;subst this;exact .sl0 .none a cap trivial
  ·subst e1;refine Rep.sl_mk (cv:=cv) hcap (by rw[hl];exact Nat.le_trans h1 (frz_le _ _ _ _ _)) ⟨by rw[hl];exact h2.1,h2.2.1,fun j hj hj'=>ih j hj _ ?_⟩ (fun j hj=>h3 j (by omega)) trivial;have:=h2.2.2 j (by omega) hj';rw[List.getD_eq_getElem?_getD,List.getElem?_eq_getElem (by omega)];exact this
 |agg hl hc ih=>
  rename_i cs cs';intro c hr
  cases hr with
  |agg _ cv h1 h2 h3=>
   refine .agg _ _ (by omega) h2 fun j hj hj'=>ih j hj _ ?_;have:=h3 j (by omega) hj';rw[List.getD_eq_getElem?_getD,List.getElem?_eq_getElem (by omega)];exact this
 |tup hl hc ih=>
  rename_i cs cs';intro c hr
  cases hr with
  |tup _ cv h1 h3=>
   refine .tup _ _ (by omega) fun j hj hj'=>ih j hj _ ?_;have:=h3 j (by omega) hj';rw[List.getD_eq_getElem?_getD,List.getElem?_eq_getElem (by omega)];exact this
end
section
variable {P : Program} {f : FuncId} {args : List AV} {H : List Blk} {T : Toks}
theorem ACall.frzC {r0:AV}(H1:List Blk)(T1:Toks)(hl:H.length≤H1.length)(ht:T.length≤T1.length)(ho:HOk H T→HOk H1 T1)
  (h:ACall P f args H T (fun r H' T'=>(∃G,H'=H1++G)∧(∃rT,T'=T1++rT)∧Frz H1.length T1.length H' r r0)):ACall P f args H T (Is r0 H1 T1):=by
 refine⟨h.1,fun L w ca hc hl' hr=>(h.2 L w ca hc hl' hr).mono ?_⟩;rintro e w' ⟨r',H',T',L',cv,⟨⟨G,e1⟩,⟨rT,e2⟩,e3⟩,rfl,hcon,hrep,hev⟩;subst e1;subst e2;have hf:Con L' H1 T1 w':=Con.front P hcon (ho hc.hok);have hn:H1.length≤(H1++G).length:=by rw[List.length_append];omega
 have hc2:=hcon.frz (n0:=H1.length) (t0:=T1.length) hn (by rw[List.take_left',List.take_left']<;>first|exact hf|rfl);have hr2:=e3.rep hcon hn _ hrep;rw[List.take_left' rfl,List.take_left' rfl] at hc2;rw[List.take_left' rfl] at hr2;have e1:=hev.front hl ht;exact⟨_,H1,T1,_,cv,⟨rfl,rfl,rfl⟩,rfl,hc2,hr2,⟨e1.n,e1.phi,e1.tok,e1.t,fun b=>Nat.le_trans (e1.m b) (frz_le _ _ _ _ _),e1.com,e1.size,e1.frame,e1.wr,e1.os,e1.tape,e1.output,e1.drawn,e1.dr⟩⟩
theorem ACall.frz {r0:AV}(h:ACall P f args H T (fun r H' T'=>(∃G,H'=H++G)∧(∃rT,T'=T++rT)∧Frz H.length T.length H' r r0)):ACall P f args H T (Is r0 H T):=
 ACall.frzC H T (Nat.le_refl _) (Nat.le_refl _) id h
def envFz (n0 t0:Nat)(H:List Blk)(e:Env):Env→Prop
 |[]=>True
 |(s,v)::r=>Frz n0 t0 H (eget e s) v∧envFz n0 t0 H e r
theorem envFz_get {n0 t0:Nat}{H:List Blk}{e:Env}:∀{e':Env},envFz n0 t0 H e e'→∀s,Frz n0 t0 H (eget e s) (eget e' s):=by
 intro e'
 induction e' with
 |nil=>intro _ s;exact .top _
 |cons x r ih=>
  obtain⟨s0,v⟩:=x;intro h s
  by_cases hs:s0=s
  ·subst hs;simp only[eget,if_true];exact h.1
  ·simp only[eget,if_neg hs];exact ih h.2 s
theorem aw_frz {C:Cx}{c:Code}{Q:Exit→St→Prop}{e e':Env}{G:List Blk}{rT:Toks}(hnb:C.nb≤H.length)(htb:C.tb≤T.length)(ho:HOk H T)
  (he:envFz H.length T.length (H++G) e e') (h:AW C c Q ⟨e',H,T⟩):AW C c Q ⟨e,H++G,T++rT⟩:=fun L w a hc=>by
 have hf:Con L H T w:=Con.front C.P hc.con ho;have hn:H.length≤(H++G).length:=by rw[List.length_append];omega
 have hc2:=hc.con.frz (n0:=H.length) (t0:=T.length) hn (by rw[List.take_left',List.take_left']<;>first|exact hf|rfl);rw[List.take_left' rfl,List.take_left' rfl] at hc2;have e0:Ev C.nb C.tb L (H++G).length (T++rT) w L (H++G).length (T++rT) w:=Ev.refl hc.nb hc.tb;have e1:=e0.front hnb htb;have e2:Ev C.nb C.tb L (H++G).length (T++rT) w (L.frz H.length (H++G).length w) H.length T w:=⟨e1.n,e1.phi,e1.tok,e1.t,fun b=>frz_le _ _ _ _ _,e1.com,e1.size,e1.frame,e1.wr,e1.os,e1.tape,e1.output,e1.drawn,e1.dr⟩
 refine wp_mono (h (L.frz H.length (H++G).length w) w a ⟨hnb,htb,hc2,hc.size,hc.defers,fun t=>?_⟩) fun _ _ _ k=>Post.step (s1:=⟨e',H,T⟩) e2 k;have:=(envFz_get he t).rep hc.con hn _ (hc.env t)
 rwa [List.take_left' rfl] at this
theorem aw_hok {C:Cx}{c:Code}{Q:Exit→St→Prop}{s:St}(h:HOk s.H s.T→AW C c Q s):AW C c Q s:=fun L w a hc=>h hc.con.hok L w a hc
end
section
variable {n0 t0 : Nat} {H : List Blk}
theorem Frz.same {v:AV}(hb:Below n0 t0 v):Frz n0 t0 H v v:=.keep (.inl rfl) hb
theorem Frz.all {cs:List AV}(hb:BelowAll n0 t0 cs)(rest:List AV):∀(j:Nat)(h:j<cs.length),Frz n0 t0 H ((cs++rest).getD j .top) (cs[j]'h):=fun j h=>by
 rw[List.getD_eq_getElem?_getD,List.getElem?_append_left h,List.getElem?_eq_getElem h];exact .same (hb _ (List.getElem_mem h))
theorem Frz.msl0 {i n:Nat}{cs rest:List AV}(hi:n0≤i)(hH:H[i]?=some (.cells (cs++rest)))(hb:BelowAll n0 t0 cs):Frz n0 t0 H (.msl i 0 n) (.sl n cs .none):=
 .msl hi hH (by rw[List.length_append];omega) fun j h=>by rw[Nat.zero_add];exact Frz.all hb rest j h
theorem Frz.csl0 {i n cap:Nat}{cs rest:List AV}(hi:n0≤i)(hH:H[i]?=some (.cells (cs++rest)))(hb:BelowAll n0 t0 cs):Frz n0 t0 H (.csl i n cap) (.sl n cs .none):=
 .csl hi hH (by rw[List.length_append];omega) (Frz.all hb rest)
theorem Frz.pair {a b a' b':AV}(h1:Frz n0 t0 H a a')(h2:Frz n0 t0 H b b'):Frz n0 t0 H (.tup [a,b]) (.tup [a',b']):=
 .tup rfl fun j h=>by
  match j,h with
  |0,_=>exact h1
  |1,_=>exact h2
end
section
variable {L : Lay} {Hb G : List Blk} {T1 rT : Toks} {w : World} {vs vs' : List AV}
theorem Con.frzIn (h:Con L (Hb++Blk.cells vs::G) (T1++rT) w)(hf:Con L Hb T1 w)(hl:vs'.length=vs.length)
  (hv:∀(j:Nat)(hj:j<vs'.length),Frz (Hb.length+1) T1.length (Hb++Blk.cells vs::G) (vs.getD j .top) (vs'[j]'hj)):Con (L.frz (Hb.length+1) (Hb++Blk.cells vs::G).length w) (Hb++[Blk.cells vs']) T1 w:=by
 have hlen:(Hb++Blk.cells vs::G).length=Hb.length+1+G.length:=by simp;omega
 have hn:Hb.length+1≤(Hb++Blk.cells vs::G).length:=by omega
 have ne:∀b,(¬∃i,Hb.length+1≤i∧i<(Hb++Blk.cells vs::G).length∧L.phi i=b)→(L.frz (Hb.length+1) (Hb++Blk.cells vs::G).length w).m b=L.m b:=fun b hb=>if_neg hb;have nbox:∀i,i<Hb.length+1→¬∃j,Hb.length+1≤j∧j<(Hb++Blk.cells vs::G).length∧L.phi j=L.phi i:=by
  rintro i hi ⟨j,h1,h2,e⟩;have:=h.inj j i h2 (by omega) e;omega
 have hTt:∀(t:Nat)(x:Nat×Nat),T1[t]?=some x→(T1++rT)[t]?=some x:=fun t x hx=>by
  rw[List.getElem?_append_left ((List.getElem?_eq_some_iff.1 hx).1)];exact hx
 have ntok:∀t u z,(T1++rT)[t]?=some (u,z)→u<(L.tau t).c*z→¬∃j,Hb.length+1≤j∧j<(Hb++Blk.cells vs::G).length∧L.phi j=(L.tau t).b:=by
  rintro t u z ht hs ⟨j,h1,h2,e⟩;exact h.tbox t u z j ht hs h2 e.symm
 have hT1:(T1++rT).take T1.length=T1:=by simp
 have hk:Keeps L Hb.length T1 w (L.frz (Hb.length+1) (Hb++Blk.cells vs::G).length w) (Hb++[Blk.cells vs']).length T1 w:=
  ⟨by simp,fun _ _=>rfl,fun t u z h=>⟨u,h,Nat.le_refl _,fun _=>rfl⟩,fun b=>frz_le L _ _ w b,fun _ _ _=>rfl,rfl⟩
 have hl1:(Hb++[Blk.cells vs']).length=Hb.length+1:=by simp
 refine⟨fun i x hx=>?_,fun i j hi hj=>h.inj i j (by omega) (by omega),fun t u z ht=>?_,hf.tinj,fun t u z i ht hs hi=>h.tbox t u z i (hTt t _ ht) hs (by omega),fun x hx=>?_,h.gl.keep (fun b=>frz_le L _ _ w b) (fun _ _ _=>rfl)⟩
 ·have hi:=(List.getElem?_eq_some_iff.1 hx).1;rcases Nat.lt_or_ge i Hb.length with h1|h1
  ·rw[List.getElem?_append_left h1] at hx;refine(hf.box i x hx).stay hk h1 rfl fun h5=>?_;rw[ne _ (nbox i (by omega))];exact h5
  ·have hi2:i=Hb.length:=by omega
   subst hi2;rw[List.getElem?_append_right (Nat.le_refl _),Nat.sub_self] at hx;simp only[List.getElem?_cons_zero,Option.some.injEq] at hx;subst hx;obtain⟨c,t,fr,g1,g2,g3,g3',g4,g5⟩:=h.box Hb.length (.cells vs) (by rw[List.getElem?_append_right (Nat.le_refl _),Nat.sub_self];rfl);refine⟨c,t,fr,g1,g2,by omega,g3',fun j hj hj'=>?_,by rw[show (L.frz (Hb.length+1) (Hb++Blk.cells vs::G).length w).phi Hb.length=L.phi Hb.length from rfl,ne _ (nbox Hb.length (by omega))];exact g5⟩;have:=(hv j hj).rep h hn (c[j]'hj') (by
    have:=g4 j (by omega) hj';rw[List.getD_eq_getElem?_getD,List.getElem?_eq_getElem (by omega)];exact this)
   rw[hT1] at this;rw[hl1];exact this
 ·obtain⟨h1,h2⟩:=hf.tok t u z ht;refine⟨h1,fun hs=>?_⟩;obtain⟨c,e,fr,g1,g2,g3,g4⟩:=h2 hs;exact⟨c,e,fr,g1,g2,g3,by rw[show ((L.frz (Hb.length+1) (Hb++Blk.cells vs::G).length w).tau t).b=(L.tau t).b from rfl,ne _ (ntok t u z (hTt t _ ht) hs)];exact g4⟩
 ·rw[ne _ (fun⟨j,h1,h2,e⟩=>by have:=h.phi_lt h2;omega)];exact h.mz x hx
end
section
variable {P : Program} {f : FuncId} {args : List AV} {H : List Blk} {T : Toks}
theorem ACall.frzIn {n cap:Nat}{vs':List AV}(H1:List Blk)(hl:H.length≤H1.length)(ho:HOk H T→HOk H1 T)
  (h:ACall P f args H T (fun r H' T'=>∃vs G,H'=H1++Blk.cells vs::G∧(∃rT,T'=T++rT)∧vs'.length=vs.length∧(∀(j:Nat)(hj:j<vs'.length),Frz (H1.length+1) T.length H' (vs.getD j .top) (vs'[j]'hj))∧r=.csl H1.length n cap)) :
  ACall P f args H T (Is (.csl H1.length n cap) (H1++[.cells vs']) T):=by
 refine⟨h.1,fun L w ca hc hl' hr=>(h.2 L w ca hc hl' hr).mono ?_⟩;rintro e w' ⟨r',H',T',L',cv,⟨vs,G,e1,⟨rT,e2⟩,e3,e4,e5⟩,rfl,hcon,hrep,hev⟩;subst e1;subst e2;subst e5;have hf:Con L' H1 T w':=Con.front P hcon (ho hc.hok);have hc2:=hcon.frzIn hf e3 e4;have ev1:Ev H.length T.length L H.length T w L' H1.length T w':=Ev.front (rH:=Blk.cells vs::G) (rT:=rT) hev hl (Nat.le_refl _);obtain⟨rfl,hcap,hlt⟩:=hrep.csl_inv;refine⟨_,H1++[.cells vs'],T,L'.frz (H1.length+1) (H1++Blk.cells vs::G).length w',_,⟨rfl,rfl,rfl⟩,rfl,hc2,.csl H1.length n cap (by simp) hcap,⟨?_,ev1.phi,ev1.tok,ev1.t,fun b=>Nat.le_trans (ev1.m b) (frz_le _ _ _ _ _),ev1.com,ev1.size,ev1.frame,?_,ev1.os,ev1.tape,ev1.output,ev1.drawn,ev1.dr⟩⟩
 ·rw[List.length_append];exact Nat.le_trans ev1.n (Nat.le_add_right _ _)
 ·intro b hb;refine hev.wr b ?_;rcases hb with⟨i,hi,e⟩|⟨t,u,z,ht,hu,e⟩
  ·refine .inl ⟨i,?_,e⟩;rw[List.length_append] at hi ⊢;simp only[List.length_cons,List.length_nil] at hi ⊢;omega
  ·exact .inr ⟨t,u,z,by rw[List.getElem?_append_left ((List.getElem?_eq_some_iff.1 ht).1)];exact ht,hu,e⟩
end
section
variable {P : Program} {Q : Exit → Act → World → Prop}
def sw (a b i:Nat):Nat:=if i=a then b else if i=b then a else i
end
structure RecOkM (nx:Nat)(D:DCx)(ops:List Oper)(sts:List Stg)(recs:List DRec)(i:Nat)(x:DRec):Prop where
 o:ops[i]?=some x.o
 k:x.k<sts.length
 eff:x.eff=D.eff.contains i
 gate:match x.o.guard with
  |none=>x.run=true
  |some (j,want)=>∃b,gval D.all j x.e=some b∧x.run=(b==some want)
 dst:∀d,x.o.dst=some d→d<D.C.nt
 skip:x.run=false→x.v=.tup []
 still:x.run=true→x.eff=false→∀k H T e,sts[k]?=some (H,T,e)→D.lo.getD i 0≤k→(k≤x.k∨(D.na.getD (k-1) []).contains i=true)→aexec D.C.P x.o x.e H T x.v H T
 effect:x.eff=true→∃H T e H' T',sts[x.k]?=some (H,T,e)∧sts[x.k+1]?=some (H',T',i)∧(x.run=true→i≠nx→aexec D.C.P x.o x.e H T x.v H' T')∧(x.run=false→H'=H∧T'=T)
structure WalkOkM (nx:Nat)(D:DCx)(ops:List Oper)(e0:Env)(recs:List DRec)(sts:List Stg)(e:Env):Prop where
 st:StOk D recs sts
 rcs:∀(i:Nat)(x:DRec),recs[i]?=some x→RecOkM nx D ops sts recs i x
 envs:∀(i:Nat)(x:DRec),recs[i]?=some x→x.e=envAfter e0 (recs.take i)
 cur:e=envAfter e0 recs
theorem dgo_stepM {nx:Nat}{D:DCx}{ops:List Oper}{e0:Env}{recs:List DRec}{sts:List Stg}{e:Env}{next:List DRec→List Stg→Env→Prop}{o:Oper}{run:Bool}{v:AV}{H H':List Blk}{T T':Toks}{i0:Nat}(hck:effCk D.eff=true)(hnx:D.eff.contains nx=true)
  (hw:WalkOkM nx D ops e0 recs sts e) (hops:ops[recs.length]?=some o) (hlast:sts.getLast?=some (H,T,i0))
  (hgate:match o.guard with|none=>run=true|some (j,want)=>∃b,gval D.all j e=some b∧run=(b==some want)) (hskip:run=false→v=.tup []∧H'=H∧T'=T) (hrun:run=true→recs.length≠nx→aexec D.C.P o e H T v H' T')
  (hstill:D.eff.contains recs.length=false→H'=H∧T'=T) (h:dgo D next o recs sts e run v H' T') :
  ∃recs' sts' e',WalkOkM nx D ops e0 recs' sts' e'∧recs'.length=recs.length+1∧next recs' sts' e'∧sts'[0]?=sts[0]?∧sts'≠[]∧(∃x,recs'=recs++[x]∧(D.eff.contains recs.length=true→x=⟨o,e,run,v,sts.length-1,true⟩))∧(∃q,sts'=sts++q)∧(D.eff.contains recs.length=true→sts'=sts++[(H',T',recs.length)]):=by
 have hne:sts≠[]:=by intro e;rw[e] at hlast;cases hlast
 have hpos:0<sts.length:=List.length_pos_iff.2 hne;have hat:sts[sts.length-1]?=some (H,T,i0):=by rw[←hlast,List.getLast?_eq_getElem?]
 have hlen:=hw.st.len;unfold dgo at h
 split at h
 ·rename_i heff;obtain⟨hna,hput⟩:=h;obtain⟨hdst,hnext⟩:=putE_spec hput;obtain⟨ek,es⟩:=effCk_spec hck heff;refine⟨_,_,_,⟨⟨?_,fun i x hx=>?_⟩,fun i x hx=>?_,fun i x hx=>?_,?_⟩,by simp,hnext,by rw[List.getElem?_append_left hpos],by simp,⟨_,rfl,fun _=>rfl⟩,⟨_,rfl⟩,fun _=>rfl⟩
  ·simp only[List.length_append,List.length_singleton,hlen];rw[es];omega
  ·rcases Nat.lt_or_ge i recs.length with hi|hi
   ·rw[List.getElem?_append_left hi] at hx;exact hw.st.k i x hx
   ·have hi':i=recs.length:=by have:=(List.getElem?_eq_some_iff.1 hx).1;simp at this;omega
    subst hi';simp at hx;subst hx;simp;omega
  ·rcases Nat.lt_or_ge i recs.length with hi|hi
   ·rw[List.getElem?_append_left hi] at hx;have hr:=hw.rcs i x hx;refine⟨hr.o,by simp;have:=hr.k;omega,hr.eff,hr.gate,hr.dst,hr.skip,fun h1 h2 k H2 T2 e2 hk hlo hor=>?_,fun h1=>?_⟩
    ·rcases Nat.lt_or_ge k sts.length with hkl|hkl
     ·rw[List.getElem?_append_left hkl] at hk;exact hr.still h1 h2 k H2 T2 e2 hk hlo hor
     ·have hk':k=sts.length:=by have:=(List.getElem?_eq_some_iff.1 hk).1;simp at this;omega
      subst hk';simp at hk;obtain⟨rfl,rfl,rfl⟩:=hk;rcases hor with hor|hor
      ·have:=hr.k;omega
      ·exact naOb_spec hna i hor x hx h1 h2
    ·obtain⟨Ha,Ta,ea,Hb,Tb,g1,g2,g3,g4⟩:=hr.effect h1;have l1:=(List.getElem?_eq_some_iff.1 g1).1;have l2:=(List.getElem?_eq_some_iff.1 g2).1;exact⟨Ha,Ta,ea,Hb,Tb,by rw[List.getElem?_append_left l1];exact g1,by rw[List.getElem?_append_left l2];exact g2,g3,g4⟩
   ·have hi':i=recs.length:=by have:=(List.getElem?_eq_some_iff.1 hx).1;simp at this;omega
    subst hi';simp at hx;subst hx;refine⟨hops,(by rw[List.length_append,List.length_singleton];exact(by omega:sts.length-1<sts.length+1)),heff.symm,hgate,hdst,fun hr=>(hskip hr).1,fun _ h2=>(by cases h2),fun _=>⟨H,T,i0,H',T',by show (sts++[_])[sts.length-1]?=_;rw[List.getElem?_append_left (by omega)];exact hat,?_,hrun,fun hr=>(hskip hr).2⟩⟩;show (sts++[_])[sts.length-1+1]?=_;rw[show sts.length-1+1=sts.length by omega];simp
  ·rcases Nat.lt_or_ge i recs.length with hi|hi
   ·rw[List.getElem?_append_left hi] at hx;rw[List.take_append_of_le_length (by omega)];exact hw.envs i x hx
   ·have hi':i=recs.length:=by have:=(List.getElem?_eq_some_iff.1 hx).1;simp at this;omega
    subst hi';simp at hx;subst hx;rw[List.take_append_of_le_length (Nat.le_refl _),List.take_length];exact hw.cur
  ·rw[envAfter_snoc,←hw.cur];rfl
 ·rename_i heff;simp only[Bool.not_eq_true] at heff;obtain⟨hex,hput⟩:=h;obtain⟨hdst,hnext⟩:=putE_spec hput;obtain⟨rfl,rfl⟩:=hstill heff;refine⟨_,_,_,⟨⟨?_,fun i x hx=>?_⟩,fun i x hx=>?_,fun i x hx=>?_,?_⟩,by simp,hnext,rfl,hne,⟨_,rfl,fun h=>absurd h (by rw[heff];decide)⟩,⟨[],by simp⟩,fun h=>absurd h (by rw[heff];decide)⟩
  ·simp only[List.length_append,List.length_singleton,hlen];rw[filter_succ_not heff]
  ·rcases Nat.lt_or_ge i recs.length with hi|hi
   ·rw[List.getElem?_append_left hi] at hx;exact hw.st.k i x hx
   ·have hi':i=recs.length:=by have:=(List.getElem?_eq_some_iff.1 hx).1;simp at this;omega
    subst hi';simp at hx;subst hx;simp;omega
  ·rcases Nat.lt_or_ge i recs.length with hi|hi
   ·rw[List.getElem?_append_left hi] at hx;have hr:=hw.rcs i x hx;exact⟨hr.o,hr.k,hr.eff,hr.gate,hr.dst,hr.skip,hr.still,hr.effect⟩
   ·have hi':i=recs.length:=by have:=(List.getElem?_eq_some_iff.1 hx).1;simp at this;omega
    subst hi';simp at hx;subst hx;refine⟨hops,(by exact(by omega:sts.length-1<sts.length)),heff.symm,hgate,hdst,fun hr=>(hskip hr).1,fun h1 _ k H2 T2 e2 hk hlo hor=>?_,fun h=>(by cases h)⟩;simp only at hk hlo hor h1 ⊢;have hkl:=(List.getElem?_eq_some_iff.1 hk).1;rcases Nat.lt_or_ge k (sts.length-1) with hlt|hge
    ·have hk2:((sts.drop (D.lo.getD recs.length 0)).dropLast)[k-D.lo.getD recs.length 0]?=some (H2,T2,e2):=by
      rw[List.getElem?_dropLast,if_pos (by rw[List.length_drop];omega),List.getElem?_drop,show D.lo.getD recs.length 0+(k-D.lo.getD recs.length 0)=k by omega];exact hk
     exact exAt_spec (hex h1) _ _ hk2
    ·have hk':k=sts.length-1:=by omega
     subst hk';rw[hat] at hk
     cases hk
     exact hrun h1 (fun e=>by rw[e,hnx] at heff;cases heff)
  ·rcases Nat.lt_or_ge i recs.length with hi|hi
   ·rw[List.getElem?_append_left hi] at hx;rw[List.take_append_of_le_length (by omega)];exact hw.envs i x hx
   ·have hi':i=recs.length:=by have:=(List.getElem?_eq_some_iff.1 hx).1;simp at this;omega
    subst hi';simp at hx;subst hx;rw[List.take_append_of_le_length (Nat.le_refl _),List.take_length];exact hw.cur
  ·rw[envAfter_snoc,←hw.cur];rfl
theorem adraw_walkM {nx:Nat}{D:DCx}{ops:List Oper}{e0:Env}(hck:effCk D.eff=true)(hnx:D.eff.contains nx=true):∀(l:List Oper)(recs:List DRec)(sts:List Stg)(e:Env),WalkOkM nx D ops e0 recs sts e→ops.drop recs.length=l→recs.length≤ops.length→adraw D l recs sts e→
  ∃recs' sts' H T i,WalkOkM nx D ops e0 recs' sts' (envAfter e0 recs')∧recs'.length=ops.length∧sts'.getLast?=some (H,T,i)∧D.K ⟨envAfter e0 recs',H,T⟩∧sts'[0]?=sts[0]?∧(∃q,recs'=recs++q)∧∃q,sts'=sts++q:=by
 intro l
 induction l with
 |nil=>
  intro recs sts e hw hl hle h;unfold adraw at h
  split at h
  ·rename_i H T i hlast;have hlen:recs.length=ops.length:=by
    have:=congrArg List.length hl;simp at this;omega
   have hc:=hw.cur;subst hc;exact⟨recs,sts,H,T,i,hw,hlen,hlast,h,rfl,⟨[],by simp⟩,⟨[],by simp⟩⟩
  ·exact h.elim
 |cons o r ih=>
  intro recs sts e hw hl hle h;have hlt:recs.length<ops.length:=by
   have:=congrArg List.length hl;simp at this;omega
  have hops:ops[recs.length]?=some o:=by
   have:=congrArg (fun l=>l[0]?) hl;simpa using this
  have hdrop:ops.drop (recs.length+1)=r:=by
   have:=congrArg (fun l=>l.drop 1) hl;simpa[List.drop_drop,Nat.add_comm] using this
  have fin:∀{H T i0 run v H' T'},sts.getLast?=some (H,T,i0)→(match o.guard with|none=>run=true|some (j,want)=>∃b,gval D.all j e=some b∧run=(b==some want))→(run=false→v=.tup []∧H'=H∧T'=T)→(run=true→recs.length≠nx→aexec D.C.P o e H T v H' T')→
    (D.eff.contains recs.length=false→H'=H∧T'=T)→dgo D (adraw D r) o recs sts e run v H' T'→∃recs' sts' H T i,WalkOkM nx D ops e0 recs' sts' (envAfter e0 recs')∧recs'.length=ops.length∧sts'.getLast?=some (H,T,i)∧D.K ⟨envAfter e0 recs',H,T⟩∧sts'[0]?=sts[0]?∧(∃q,recs'=recs++q)∧∃q,sts'=sts++q:=by
   intro H T i0 run v H' T' hlast hg h1 h2 h3 h4;obtain⟨recs',sts',e',g1,g2,g3,g4,_,⟨x9,g9,_⟩,⟨q8,g8⟩,_⟩:=dgo_stepM hck hnx hw hops hlast hg h1 h2 h3 h4;obtain⟨r2,s2,H2,T2,i2,k1,k2,k3,k4,k5,⟨q6,k6⟩,⟨q7,k7⟩⟩:=ih recs' sts' e' g1 (by rw[g2];exact hdrop) (by omega) g3;exact⟨r2,s2,H2,T2,i2,k1,k2,k3,k4,k5.trans g4,⟨_,by rw[k6,g9,List.append_assoc]⟩,⟨_,by rw[k7,g8,List.append_assoc]⟩⟩
  have exec:∀{H T i0},sts.getLast?=some (H,T,i0)→(match o.guard with|none=>true=true|some (j,want)=>∃b,gval D.all j e=some b∧true=(b==some want))→dexec D (adraw D r) o recs sts e H T→
    ∃recs' sts' H T i,WalkOkM nx D ops e0 recs' sts' (envAfter e0 recs')∧recs'.length=ops.length∧sts'.getLast?=some (H,T,i)∧D.K ⟨envAfter e0 recs',H,T⟩∧sts'[0]?=sts[0]?∧(∃q,recs'=recs++q)∧∃q,sts'=sts++q:=by
   intro H T i0 hlast hg hx;unfold dexec at hx
   split at hx
   ·rename_i g as hcal;obtain⟨v,H',T',hc,hs,hd⟩:=hx;refine fin (run:=true) hlast hg (fun e=>by cases e) (fun _ _=>?_) hs hd;unfold aexec;rw[hcal];exact hc
   ·rename_i hcal
    split at hx
    ·rename_i v H' T' hop;refine fin (run:=true) hlast hg (fun e=>by cases e) (fun _ _=>?_) hx.1 hx.2;unfold aexec;rw[hcal];exact hop
    ·exact hx.elim
  unfold adraw at h
  split at h
  ·rename_i H T i0 hlast
   split at h
   ·rename_i hg;exact exec hlast (by rw[hg]) h
   ·rename_i j want hg
    split at h
    ·rename_i b hb
     split at h
     ·rename_i hbw;exact exec hlast (by rw[hg];exact⟨b,hb,by simp[hbw]⟩) h
     ·rename_i hbw;exact fin (run:=false) hlast (by rw[hg];exact⟨b,hb,by simp[hbw]⟩) (fun _=>⟨rfl,rfl,rfl⟩) (fun e=>by cases e) (fun _=>⟨rfl,rfl⟩) h
    ·exact h.elim
  ·exact h.elim
def mexec (C:Cx)(o:Oper)(e:Env)(H:List Blk)(T:Toks)(κ:AV→List Blk→Toks→Prop):Prop:=
 match acap0 C.P C.bx o e H with
 |some (m,ys,z)=>∀nc:Nat,m≤nc→κ (.csl H.length m nc) (H++[.cells (ys++List.replicate ((nc-m)*z) .top)]) T
 |none=>match acap o e with
  |some (t,t2,i,n,cap,x)=>∃(el:TypeId) (vs xs:List AV) (m:Nat),C.P.underlying t=some (.slice el)∧H[i]?=some (.cells vs)∧vs.length=cap*C.P.cellsOf el∧asrc H (C.P.cellsOf el) x=some (m,xs)∧(n+m)*C.P.bytesOf el≤140737488355328∧n+m≤9223372036854775807∧
    notInt C.P t2=true∧(azero C.P el).isSome=true∧
    (n+m≤cap→κ (.csl i (n+m) cap) (H.set i (.cells (vs.take (n*C.P.cellsOf el)++xs++vs.drop ((n+m)*C.P.cellsOf el)))) T)∧
    ∀nc,cap<n+m→n+m≤nc→κ (.csl H.length (n+m) nc) (H++[.cells (vs.take (n*C.P.cellsOf el)++xs++List.replicate ((nc-(n+m))*C.P.cellsOf el) .top)]) T
  |none=>False
theorem acap_congr {o:Oper}{e e':Env}(h:∀x∈o.op.operands,aev e x=aev e' x):acap o e=acap o e':=by
 unfold acap
 cases ho:o.op<;>try rfl
 rename_i c;rw[ho] at h;obtain⟨callee,args,ats⟩:=c
 cases callee<;>try rfl
 rename_i bi
 cases bi<;>try rfl
 have h2:args.toList.map (aev e)=args.toList.map (aev e'):=List.map_congr_left fun x hx=>h x (by simp only[Op.operands,Call.operands];exact Array.mem_append.2 (.inr (Array.mem_toList_iff.1 hx)));simp only[h2]
theorem acap0_congr {P:Program}{bx:List Nat}{o:Oper}{e e':Env}{H:List Blk}(h:∀x∈o.op.operands,aev e x=aev e' x):acap0 P bx o e H=acap0 P bx o e' H:=by
 obtain⟨dst,op,type,pos,after,guard⟩:=o;unfold acap0;simp only at h ⊢
 cases op<;>try rfl
 rename_i c;obtain⟨callee,args,ats⟩:=c
 cases callee<;>try rfl
 rename_i bi
 cases bi<;>try rfl
 cases dst<;>try rfl
 have h2:args.toList.map (aev e)=args.toList.map (aev e'):=List.map_congr_left fun x hx=>h x (by simp only[Op.operands,Call.operands];exact Array.mem_append.2 (.inr (Array.mem_toList_iff.1 hx)));simp only[h2]
theorem mexec_congr {C:Cx}{o:Oper}{e e':Env}{H:List Blk}{T:Toks}{κ:AV→List Blk→Toks→Prop}(h:∀x∈o.op.operands,aev e x=aev e' x)(k:mexec C o e H T κ):mexec C o e' H T κ:=by
 unfold mexec at k ⊢;rw[←acap0_congr h,←acap_congr h];exact k
theorem mexec_wp {C:Cx}{o:Oper}{e:Env}{H:List Blk}{T:Toks}{κ:AV→List Blk→Toks→Prop}(k:mexec C o e H T κ){L:Lay}{w:World}{a:Act}(hc:Con L H T w)(he:EnvRep L H.length T w e a){K:Act→World→Prop}{Q:Exit→Act→World→Prop}
  (hk:∀v H' T' cv w' L',κ v H' T'→Con L' H' T' w'→Rep L' H'.length T' w' v cv→Ev H.length T.length L H.length T w L' H'.length T' w'→K (a.put o.dst cv) w'):o.wp C.P a w K Q:=by
 unfold mexec at k
 split at k
 ·rename_i m ys z hbo;obtain⟨nc,hnc,cv,w',L',hrun,hcon,hrep,hev⟩:=run_acap0 hbo hc he;unfold Oper.wp;rw[hrun];exact hk _ _ _ _ _ _ (k nc hnc) hcon hrep hev
 ·split at k
  ·rename_i t t2 i n cap x hac;obtain⟨el,vs,xs,m,hu,hH,hvs,hsrc,hby,hmax,hni,hzs,hk1,hk2⟩:=k;unfold acap at hac
   split at hac
   ·rename_i args ats hop
    split at hac
    ·rename_i t' t2' i' n' cap' x' hts hargs
     cases hac
     have hts':ats=#[t,t2]:=by rw[←Array.toList_inj];exact hts
     subst hts';have hl2:args.toList.length=2:=by have:=congrArg List.length hargs;simpa using this
     match hal:args.toList,hl2,hargs with
     |[p,q],_,hargs=>
      simp only[List.map_cons,List.map_nil,List.cons.injEq,and_true] at hargs;obtain⟨e1,e2⟩:=hargs;have h0:=he.aev p;have h1:=he.aev q;rw[e1] at h0;rw[e2] at h1;have hargs':args=#[p,q]:=by rw[←Array.toList_inj];exact hal
      subst hargs';have hex:∀cv w',(Builtin.append_ #[t,t2] o.type #[a.eval p,a.eval q]).run C.P w=.ok cv w'→(execOp a.eval o).run C.P w=.ok (.value cv) w':=fun cv w' hr=>by
       simp only[execOp,hop,resolve,Sem.run_bind,Sem.run_pure,Result.andThen_ok,invoke,builtin,List.map_toArray,List.map_cons,List.map_nil,hr]
      rcases run_appC (ty:=o.type) hc h0 h1 hu hH hvs hsrc hby hmax hni hzs with⟨hle,cv,w',L',hrun,hcon,hrep,hev⟩|⟨hlt,nc,hnc,cv,w',L',hrun,hcon,hrep,hev⟩
      ·unfold Oper.wp;rw[hex _ _ hrun];exact hk _ _ _ _ _ _ (hk1 hle) hcon hrep hev
      ·unfold Oper.wp;rw[hex _ _ hrun];exact hk _ _ _ _ _ _ (hk2 nc hlt hnc) hcon hrep hev
    ·cases hac
   ·cases hac
  ·exact k.elim
def madraw (D:DCx):Nat→List Oper→List DRec→List Stg→Env→Prop
 |_,[],_,_,_=>False
 |0,o::r,recs,sts,e=>match sts.getLast? with
  |some (H,T,_)=>match o.guard with
   |none=>mexec D.C o e H T (fun v H' T'=>dgo D (adraw D r) o recs sts e true v H' T')
   |some _=>False
  |none=>False
 |n+1,o::r,recs,sts,e=>match sts.getLast? with
  |some (H,T,_)=>match o.guard with
   |none=>dexec D (madraw D n r) o recs sts e H T
   |some (j,want)=>match gval D.all j e with
    |some b=>if b=some want then dexec D (madraw D n r) o recs sts e H T else dgo D (madraw D n r) o recs sts e false (.tup []) H T
    |none=>False
  |none=>False
theorem madraw_walk {nx:Nat}{D:DCx}{ops:List Oper}{e0:Env}(hck:effCk D.eff=true)(hnx:D.eff.contains nx=true):∀(n:Nat)(l:List Oper)(recs:List DRec)(sts:List Stg)(e:Env),WalkOkM nx D ops e0 recs sts e→ops.drop recs.length=l→recs.length≤ops.length→recs.length+n=nx→madraw D n l recs sts e→
  ∃recs' sts' H T i o r,WalkOkM nx D ops e0 recs' sts' (envAfter e0 recs')∧recs'.length=nx∧sts'.getLast?=some (H,T,i)∧sts'[0]?=sts[0]?∧ops.drop nx=o::r∧o.guard=none∧mexec D.C o (envAfter e0 recs') H T (fun v H' T'=>dgo D (adraw D r) o recs' sts' (envAfter e0 recs') true v H' T'):=by
 intro n
 induction n with
 |zero=>
  intro l recs sts e hw hl hle hn h
  cases l with
  |nil=>exact h.elim
  |cons o r=>
   unfold madraw at h
   split at h
   ·rename_i H T i hlast
    split at h
    ·rename_i hg;have hc:=hw.cur;subst hc;exact⟨recs,sts,H,T,i,o,r,hw,by omega,hlast,rfl,by rw[←hl];congr 1;omega,hg,h⟩
    ·exact h.elim
   ·exact h.elim
 |succ n ih=>
  intro l recs sts e hw hl hle hn h
  cases l with
  |nil=>exact h.elim
  |cons o r=>
  have hlt:recs.length<ops.length:=by
   have:=congrArg List.length hl;simp at this;omega
  have hops:ops[recs.length]?=some o:=by
   have:=congrArg (fun l=>l[0]?) hl;simpa using this
  have hdrop:ops.drop (recs.length+1)=r:=by
   have:=congrArg (fun l=>l.drop 1) hl;simpa[List.drop_drop,Nat.add_comm] using this
  have fin:∀{H T i0 run v H' T'},sts.getLast?=some (H,T,i0)→(match o.guard with|none=>run=true|some (j,want)=>∃b,gval D.all j e=some b∧run=(b==some want))→(run=false→v=.tup []∧H'=H∧T'=T)→(run=true→recs.length≠nx→aexec D.C.P o e H T v H' T')→
    (D.eff.contains recs.length=false→H'=H∧T'=T)→dgo D (madraw D n r) o recs sts e run v H' T'→∃recs' sts' H T i o r,WalkOkM nx D ops e0 recs' sts' (envAfter e0 recs')∧recs'.length=nx∧sts'.getLast?=some (H,T,i)∧sts'[0]?=sts[0]?∧ops.drop nx=o::r∧o.guard=none∧mexec D.C o (envAfter e0 recs') H T (fun v H' T'=>dgo D (adraw D r) o recs' sts' (envAfter e0 recs') true v H' T'):=by
   intro H T i0 run v H' T' hlast hg h1 h2 h3 h4;obtain⟨recs',sts',e',g1,g2,g3,g4,_⟩:=dgo_stepM hck hnx hw hops hlast hg h1 h2 h3 h4;obtain⟨r2,s2,H2,T2,i2,o2,q2,k1,k2,k3,k4,k5⟩:=ih r recs' sts' e' g1 (by rw[g2];exact hdrop) (by omega) (by omega) g3;exact⟨r2,s2,H2,T2,i2,o2,q2,k1,k2,k3,k4.trans g4,k5⟩
  have exec:∀{H T i0},sts.getLast?=some (H,T,i0)→(match o.guard with|none=>true=true|some (j,want)=>∃b,gval D.all j e=some b∧true=(b==some want))→dexec D (madraw D n r) o recs sts e H T→
    ∃recs' sts' H T i o r,WalkOkM nx D ops e0 recs' sts' (envAfter e0 recs')∧recs'.length=nx∧sts'.getLast?=some (H,T,i)∧sts'[0]?=sts[0]?∧ops.drop nx=o::r∧o.guard=none∧mexec D.C o (envAfter e0 recs') H T (fun v H' T'=>dgo D (adraw D r) o recs' sts' (envAfter e0 recs') true v H' T'):=by
   intro H T i0 hlast hg hx;unfold dexec at hx
   split at hx
   ·rename_i g as hcal;obtain⟨v,H',T',hc,hs,hd⟩:=hx;refine fin (run:=true) hlast hg (fun e=>by cases e) (fun _ _=>?_) hs hd;unfold aexec;rw[hcal];exact hc
   ·rename_i hcal
    split at hx
    ·rename_i v H' T' hop;refine fin (run:=true) hlast hg (fun e=>by cases e) (fun _ _=>?_) hx.1 hx.2;unfold aexec;rw[hcal];exact hop
    ·exact hx.elim
  unfold madraw at h
  split at h
  ·rename_i H T i0 hlast
   split at h
   ·rename_i hg;exact exec hlast (by rw[hg]) h
   ·rename_i j want hg
    split at h
    ·rename_i b hb
     split at h
     ·rename_i hbw;exact exec hlast (by rw[hg];exact⟨b,hb,by simp[hbw]⟩) h
     ·rename_i hbw;exact fin (run:=false) hlast (by rw[hg];exact⟨b,hb,by simp[hbw]⟩) (fun _=>⟨rfl,rfl,rfl⟩) (fun e=>by cases e) (fun _=>⟨rfl,rfl⟩) h
    ·exact h.elim
  ·exact h.elim
theorem core_game {C:Cx}{ops:List Oper}{Q:Exit→St→Prop}{s':St}{K:St→Prop}{eff lo:List Nat}{na:List (List Nat)}(hck:drawCk ops eff lo na=true)(hef:effCk eff=true){nx:Nat}{L0:Lay}{w0:World}{D:DCx}
  (hDC:D.C=C) (hDe:D.eff=eff) (hDl:D.lo=lo) (hDn:D.na=na) (hDa:D.all=ops.toArray) {recs:List DRec} {sts:List Stg} (hlen:recs.length=ops.length) (hro:∀(i:Nat)(x:DRec),recs[i]?=some x→ops[i]?=some x.o)
  (Rk:Nat→Prop) (hnx:∀i,Rk i→i≠nx) (hRk:∀(i:Nat)(x:DRec),recs[i]?=some x→Rk i→RecOkM nx D ops sts recs i x) (henvs:∀(i:Nat)(x:DRec),recs[i]?=some x→Rk i→x.e=envAfter s'.e (recs.take i))
  (hks:∀(i:Nat)(x:DRec),recs[i]?=some x→Rk i→x.k=(D.eff.filter (·<i)).length) (J:Array Bool→Prop) (hJ:∀listed i,Rk i→J listed→J (listed.setIfInBounds i true))
  (hfin:∀(listed:Array Bool)(a:Act)(w:World),Inv D s' recs sts L0 w0 listed a w→J listed→(∀i,i<ops.length→listed.getD i false=true)→Post C (ExitK K Q) L0 s' w0 .normal a w)
  (hother:∀(fuel:Nat)(listed:Array Bool)(a:Act)(w:World),Inv D s' recs sts L0 w0 listed a w→J listed→∀i,i∈Region.ready .any ops.toArray listed→¬Rk i→
   ((∀j,j<ops.length→(listed.setIfInBounds i true).getD j false=true)∨(List.range ops.length).countP (fun j=>!(listed.setIfInBounds i true).getD j false)≤fuel)→
   wpOp C.P ops.toArray (Post C (ExitK K Q) L0 s' w0) i (wpAny C.P .any ops.toArray (Post C (ExitK K Q) L0 s' w0) fuel (listed.setIfInBounds i true)) a w) :
  ∀(fuel:Nat)(listed:Array Bool)(a:Act)(w:World),Inv D s' recs sts L0 w0 listed a w→J listed→(∀i,i<ops.length→listed.getD i false=true)∨(List.range ops.length).countP (fun i=>!listed.getD i false)≤fuel→
   wpAny C.P .any ops.toArray (Post C (ExitK K Q) L0 s' w0) fuel listed a w:=by
 obtain⟨d1,d2,d3,d4,d5,d6,d7⟩:=drawCk_spec hck;have hmap:recs.map (·.o)=ops:=by
  apply List.ext_getElem?;intro i;rw[List.getElem?_map]
  by_cases hi:i<recs.length
  ·rw[List.getElem?_eq_getElem hi,Option.map_some,hro i _ (List.getElem?_eq_getElem hi)]
  ·rw[List.getElem?_eq_none (by omega),List.getElem?_eq_none (by omega)];rfl
 have hrec:∀i,i<ops.length→∃x:DRec,recs[i]?=some x:=fun i hi=>⟨_,List.getElem?_eq_getElem (by omega)⟩
 have stp:∀(listed:Array Bool)(a:Act)(w:World)(i:Nat)(KK:Act→World→Prop),Inv D s' recs sts L0 w0 listed a w→Rk i→i∈Region.ready .any ops.toArray listed→
   (∀a' w',Inv D s' recs sts L0 w0 (listed.setIfInBounds i true) a' w'→KK a' w')→wpOp C.P ops.toArray (Post C (ExitK K Q) L0 s' w0) i KK a w:=by
  intro listed a w i KK hI hrk hi hKK';obtain⟨hnl,o,ho,hready⟩:=mem_ready.1 hi;rw[List.getElem?_toArray] at ho;have hil:i<ops.length:=(List.getElem?_eq_some_iff.1 ho).1;have hisz:i<listed.size:=by rw[hI.size];omega
  have hnl':listed.getD i false=false:=by rw[←getD_false hisz];exact hnl
  obtain⟨x,hx⟩:=hrec i hil;have hox:x.o=o:=by have:=hro i x hx;rw[ho] at this;injection this with this;exact this.symm
  have hR:=hRk i x hx hrk;have hcl:∀i j,listed.getD i false=true→anc (ancs ops []) j i=true→listed.getD j false=true:=by
   have:=hI.closed;rw[hmap] at this;exact this
  have hancl:∀j,anc (ancs ops []) j i=true→listed.getD j false=true:=fun j hj=>anc_listed hcl ho hready (d6 i o ho) hj;obtain⟨k,H,T,e,L,hk,hkl,hstk,hcon,hnb,htb,hslots,hev⟩:=hI.st;rw[hDe] at hk hkl;rw[hDC] at hnb htb hev;have hlook:∀t∈o.looksAt ops.toArray,∀v,VS recs listed s'.e t v→v=eget x.e t:=by
   intro t ht v hv;rw[henvs i x hx hrk];have hw_:∀(j:Nat)(z:DRec),recs[j]?=some z→z.o.dst=some t→i≠j∧((j<i∧anc (ancs ops []) j i=true)∨(i<j∧anc (ancs ops []) i j=true)):=fun j z hz hd=>d2 i j o z.o t ho (hro j z hz) ht hd;rcases hv with⟨j,z,hz,hd,hl,rfl⟩|⟨hno,rfl⟩
   ·obtain⟨hne,h1|h1⟩:=hw_ j z hz hd
    ·rw[eget_envAfter_at (recs.take i) s'.e t j z (by rw[List.getElem?_take,if_pos h1.1];exact hz) hd (fun i' y' hy' hd'=>by
      rw[List.getElem?_take] at hy'
      split at hy'
      ·exact d1 i' j y'.o z.o t (hro i' y' hy') (hro j z hz) hd' hd
      ·cases hy')]
    ·have:=hcl j i hl h1.2;rw[hnl'] at this;cases this
   ·rw[eget_envAfter_none (recs.take i) s'.e t (fun z hz hd=>by
     obtain⟨j,hj,e1⟩:=List.mem_iff_getElem.1 hz;simp at hj;have hz':recs[j]?=some z:=by rw[List.getElem?_eq_getElem (by omega),←e1];simp
     have hf:=hno j z hz' hd;obtain⟨hne,h1|h1⟩:=hw_ j z hz' hd
     ·have:=hancl j h1.2;rw[hf] at this;cases this
     ·omega)]
  have henv:EnvRep L H.length T w (keepOf x.e (o.looksAt ops.toArray)) a:=by
   intro t;rw[eget_keepOf]
   split
   ·rename_i ht;obtain⟨v,hv,hr⟩:=hslots t;rw[←hlook t ht v hv];exact hr
   ·exact .top _
  have haev:∀z∈o.op.operands,aev x.e z=aev (keepOf x.e (o.looksAt ops.toArray)) z:=by
   intro z hz
   cases z with
   |tmp t=>
    have:t∈o.looksAt ops.toArray:=by
     unfold Oper.looksAt;exact List.mem_append.2 (.inl (List.mem_filterMap.2 ⟨_,Array.mem_toList_iff.2 hz,rfl⟩))
    simp only[aev,eget_keepOf,if_pos this]
   |_=>rfl
  have behind:∀(H':List Blk)(T':Toks)(cv:Value)(w':World)(L':Lay),Con L' H' T' w'→Rep L' H'.length T' w' x.v cv→Ev H.length T.length L H.length T w L' H'.length T' w'→
    ((eff.contains i=false∧H'=H∧T'=T)∨(eff.contains i=true∧eff[k]?=some i∧∃e',sts[k+1]?=some (H',T',e')))→KK (a.put o.dst cv) w':=by
   intro H' T' cv w' L' hcon' hrep' hev' hor;refine hKK' _ _ ⟨by simp[hI.size],fun i' j' hl' hanc'=>?_,?_,?_,by cases o.dst<;>exact hI.defers⟩
   ·rw[hmap] at hanc'
    by_cases hii:i=i'
    ·subst hii;have:=hancl j' hanc'
     by_cases hij:i=j'
     ·subst hij;rw[hnl'] at this;cases this
     ·rw[getD_set_ne false hij];exact this
    ·rw[getD_set_ne false hii] at hl';have:=hcl i' j' hl' hanc';exact getD_set_true this
   ·have hval:∀t,∃v,VS recs (listed.setIfInBounds i true) s'.e t v∧Rep L' H'.length T' w' v ((a.put o.dst cv).tmps.getD t undef):=by
     intro t
     by_cases hd:o.dst=some t
     ·refine⟨x.v,.inl ⟨i,x,hx,by rw[hox];exact hd,by simp[hisz],rfl⟩,?_⟩;have hlt:t<a.tmps.size:=by rw[hI.tmps];exact hR.dst t (by rw[hox];exact hd)
      rw[hd,getD_put a t t cv hlt,if_pos rfl];exact hrep'
     ·obtain⟨v,hv,hr⟩:=hslots t;refine⟨v,?_,?_⟩
      ·rcases hv with⟨j,z,hz,hzd,hl,rfl⟩|⟨hno,rfl⟩
       ·exact .inl ⟨j,z,hz,hzd,getD_set_true hl,rfl⟩
       ·refine .inr ⟨fun j z hz hzd=>?_,rfl⟩;have hij:i≠j:=by
         rintro rfl;rw[hx] at hz
         cases hz
         rw[hox] at hzd;exact hd hzd
        rw[getD_set_ne false hij];exact hno j z hz hzd
      ·have e1:(a.put o.dst cv).tmps.getD t undef=a.tmps.getD t undef:=by
        cases hdst:o.dst with
        |none=>rfl
        |some d=>
         have hlt:d<a.tmps.size:=by rw[hI.tmps];exact hR.dst d (by rw[hox];exact hdst)
         rw[getD_put a d t cv hlt,if_neg (fun e=>hd (by rw[hdst,e]))]
       rw[e1];exact hr.keep hev'.keeps
    have hev2:=hev.trans (hev'.mono hnb htb);rcases hor with⟨hne,rfl,rfl⟩|⟨heq,hek,e',hst'⟩
    ·refine⟨k,H',T',e,L',fun m i' hm'=>?_,by rw[hDe];exact hkl,hstk,hcon',by rw[hDC];exact hnb,by rw[hDC];exact htb,hval,by rw[hDC];exact hev2⟩;rw[hDe] at hm';have hii:i≠i':=by
      rintro rfl;have:=List.mem_of_getElem? hm';rw[←List.contains_iff_mem] at this;rw[hne] at this;cases this
     rw[getD_set_ne false hii];exact hk m i' hm'
    ·refine⟨k+1,H',T',e',L',fun m i' hm'=>?_,by rw[hDe];have:=(List.getElem?_eq_some_iff.1 hek).1;omega,hst',hcon',by rw[hDC];exact Nat.le_trans hnb hev'.n,by rw[hDC];exact Nat.le_trans htb hev'.t,hval,by rw[hDC];exact hev2⟩;rw[hDe] at hm'
     by_cases hii:i=i'
     ·subst hii;have e1:=(effCk_spec hef heq).1;have hmk:∀m',eff[m']?=some i→m'=(eff.filter (·<i)).length:=by
       intro m' hm'';have hml:=(List.getElem?_eq_some_iff.1 hm'').1;have:=List.all_eq_true.1 hef m' (List.mem_range.2 hml);simp only[Bool.and_eq_true,beq_iff_eq,List.getD_eq_getElem?_getD,hm'',Option.getD_some] at this;exact this.1.symm
      have h1:=hmk m hm';have h2:=hmk k hek;simp[hisz];omega
     ·rw[getD_set_ne false hii,hk m i' hm']
      constructor
      ·intro h;omega
      ·intro h;rcases Nat.lt_or_ge m k with h1|h1
       ·exact h1
       ·have:m=k:=by omega
        subst this;rw[hek] at hm'
        injection hm' with hm'
        exact absurd hm' hii
   ·simp[Act.put];cases o.dst<;>simp[hI.tmps]
  have hstage:eff.contains i=true→eff[k]?=some i∧x.k=k:=by
   intro heq;obtain⟨e1,_⟩:=effCk_spec hef heq;have hxk:=hks i x hx hrk;rw[hDe] at hxk;have hge:k≤(eff.filter (·<i)).length:=by
    rcases Nat.lt_or_ge (eff.filter (·<i)).length k with h1|h1
    ·have:=(hk _ i e1).2 h1;rw[hnl'] at this;cases this
    ·exact h1
   have hle:(eff.filter (·<i)).length≤k:=by
    rcases Nat.eq_zero_or_pos (eff.filter (·<i)).length with h0|h0
    ·omega
    ·obtain⟨e',h1,h2⟩:=(d3 _ i e1).2 h0;have:=(hk _ e' h1).1 (hancl e' h2);omega
   have:(eff.filter (·<i)).length=k:=by omega
   exact⟨by rw[←this];exact e1,by omega⟩
  have hgv:∀j b,gval D.all j x.e=some b→o.guard=some (j,true)∨o.guard=some (j,false)→yielded ops.toArray a.tmps j=b:=by
   intro j b hb hg;rw[hDa] at hb;refine yielded_gval henv ?_;unfold gval at hb ⊢
   split at hb
   ·rename_i d hd;have:d∈o.looksAt ops.toArray:=by
     unfold Oper.looksAt;refine List.mem_append.2 (.inr ?_);rcases hg with hg|hg<;>rw[hg]<;>simp only[hd]<;>simp
    rw[eget_keepOf,if_pos this];exact hb
   ·cases hb
  unfold wpOp;rw[List.getElem?_toArray,ho]
  dsimp only
  have hgate:=hR.gate;rw[hox] at hgate
  by_cases hrun:x.run=true
  ·
   have hwant:Region.wanted o (yielded ops.toArray a.tmps)=true:=by
    unfold Region.wanted
    cases hg:o.guard with
    |none=>rfl
    |some jw=>
     obtain⟨j,want⟩:=jw;rw[hg] at hgate;obtain⟨b,hb,hb2⟩:=hgate;have:=hgv j b hb (by cases want<;>simp[hg]);rw[hrun] at hb2;simp only[this];have hbw:b=some want:=by simpa using hb2.symm
     simp[hbw]
   rw[if_pos hwant];refine .inl ?_;have hxx:∃H' T',aexec C.P o x.e H T x.v H' T'∧((eff.contains i=false∧H'=H∧T'=T)∨(eff.contains i=true∧eff[k]?=some i∧∃e',sts[k+1]?=some (H',T',e'))):=by
    cases heq:eff.contains i with
    |false=>
     have hxe:x.eff=false:=by rw[hR.eff,hDe];exact heq
     have hst:=hR.still hrun hxe k H T e hstk ?_ ?_
     ·rw[hDC,hox] at hst;exact⟨H,T,hst,.inl ⟨rfl,rfl,rfl⟩⟩
     ·rw[hDl];refine Nat.le_trans (d4 i hil) ?_;unfold effIn;have hsub:∀e'∈eff.filter (fun e=>anc (ancs ops []) e i),∃m,m<k∧eff[m]?=some e':=by
       intro e' he';obtain⟨h1,h2⟩:=List.mem_filter.1 he';obtain⟨m,hm1,hm2⟩:=List.mem_iff_getElem.1 h1;have hm3:eff[m]?=some e':=by rw[List.getElem?_eq_getElem hm1,hm2]
       exact⟨m,(hk m e' hm3).1 (hancl e' h2),hm3⟩
      have hle:(eff.filter (fun e=>anc (ancs ops []) e i)).length≤(eff.take k).length:=by
       have e1:eff.filter (fun e=>anc (ancs ops []) e i)=(eff.take k).filter (fun e=>anc (ancs ops []) e i)++(eff.drop k).filter (fun e=>anc (ancs ops []) e i):=by
        rw[←List.filter_append,List.take_append_drop]
       have e2:(eff.drop k).filter (fun e=>anc (ancs ops []) e i)=[]:=by
        rw[List.filter_eq_nil_iff];intro e' he' hanc';obtain⟨m,hm1,hm2⟩:=List.mem_iff_getElem.1 he';simp at hm1;have hm3:eff[k+m]?=some e':=by
         rw[List.getElem?_eq_getElem (by omega),←hm2];simp
        have:=(hk (k+m) e' hm3).1 (hancl e' hanc');omega
       rw[e1,e2,List.append_nil];exact List.length_filter_le _ _
      refine Nat.le_trans hle ?_;simp;omega
     ·rcases Nat.lt_or_ge x.k k with hlt|hge
      ·right
       rw[hDn];have hkk:k-1<eff.length:=by omega
       have he':=List.getElem?_eq_getElem hkk;have hll:=(hk (k-1) _ he').2 (by omega);have hgt:i<eff[k-1]:=by
        rcases Nat.lt_or_ge i eff[k-1] with h1|h1
        ·exact h1
        ·exfalso;have hne:eff[k-1]≠i:=by
          intro e1;have:=List.mem_of_getElem? he';rw[e1,←List.contains_iff_mem] at this;rw[heq] at this;cases this
         have hxk:=hks i x hx hrk;rw[hDe] at hxk;have h2:=List.all_eq_true.1 hef (k-1) (List.mem_range.2 hkk);simp only[Bool.and_eq_true,beq_iff_eq,List.getD_eq_getElem?_getD,he',Option.getD_some] at h2;have h3:(eff.filter (·<eff[k-1]+1)).length≤(eff.filter (·<i)).length:=by
          rw[←List.countP_eq_length_filter,←List.countP_eq_length_filter];exact List.countP_mono_left (fun z _ hz=>by simp at hz ⊢;omega)
         omega
       rcases d5 (k-1) _ he' i hgt with h1|h1|h1
       ·rw[heq] at h1;cases h1
       ·exact h1
       ·have:=hcl _ i hll h1;rw[hnl'] at this;cases this
      ·exact .inl hge
    |true=>
     have hxe:x.eff=true:=by rw[hR.eff,hDe];exact heq
     obtain⟨hek,hxk⟩:=hstage heq;obtain⟨Ha,Ta,ea,Hb,Tb,g1,g2,g3,_⟩:=hR.effect hxe;rw[hxk,hstk] at g1;obtain⟨rfl,rfl⟩:H=Ha∧T=Ta:=by injection g1 with h1;injection h1 with h1 h2;injection h2 with h2 h3;exact⟨h1,h2⟩
     rw[hxk] at g2;have:=g3 hrun (hnx i hrk);rw[hDC,hox] at this;exact⟨Hb,Tb,this,.inr ⟨rfl,hek,i,g2⟩⟩
   obtain⟨H',T',hex,hor⟩:=hxx;exact aexec_wp (aexec_congr haev hex) hcon henv fun cv w' L' g1 g2 g3=>behind H' T' cv w' L' g1 g2 g3 hor
  ·
   have hrun':x.run=false:=by simpa using hrun
   have hwant:Region.wanted o (yielded ops.toArray a.tmps)=false:=by
    unfold Region.wanted
    cases hg:o.guard with
    |none=>rw[hg] at hgate;rw[hgate] at hrun';cases hrun'
    |some jw=>
     obtain⟨j,want⟩:=jw;rw[hg] at hgate;obtain⟨b,hb,hb2⟩:=hgate;have:=hgv j b hb (by cases want<;>simp[hg]);rw[hrun'] at hb2;simp only[this];have hbw:b≠some want:=by simpa using hb2.symm
     simp[hbw]
   rw[if_neg (by simp[hwant])];have hv:x.v=.tup []:=hR.skip hrun'
   cases heq:eff.contains i with
   |false=>exact behind H T undef w L hcon (by rw[hv];exact .tup [] #[] rfl (fun j hj=>by simp at hj)) (Ev.refl (Nat.le_refl _) (Nat.le_refl _)) (.inl ⟨heq,rfl,rfl⟩)
   |true=>
    have hxe:x.eff=true:=by rw[hR.eff,hDe];exact heq
    obtain⟨hek,hxk⟩:=hstage heq;obtain⟨Ha,Ta,ea,Hb,Tb,g1,g2,_,g4⟩:=hR.effect hxe;rw[hxk,hstk] at g1;obtain⟨rfl,rfl⟩:H=Ha∧T=Ta:=by injection g1 with h1;injection h1 with h1 h2;injection h2 with h2 h3;exact⟨h1,h2⟩
    obtain⟨rfl,rfl⟩:=g4 hrun';rw[hxk] at g2;exact behind _ _ undef w L hcon (by rw[hv];exact .tup [] #[] rfl (fun j hj=>by simp at hj)) (Ev.refl (Nat.le_refl _) (Nat.le_refl _)) (.inr ⟨heq,hek,i,g2⟩)
 have some_ready:∀(listed:Array Bool),listed.size=recs.length→Region.ready .any ops.toArray listed=[]→∀i,i<ops.length→listed.getD i false=true:=by
  intro listed hsz hr i
  induction i using Nat.strongRecOn with
  |_ i ih=>
   intro hil
   cases hli:listed.getD i false with
   |true=>rfl
   |false=>
    exfalso;have hmem:i∈Region.ready .any ops.toArray listed:=by
     refine mem_ready.2 ⟨by rw[getD_false (by omega)];exact hli,ops[i],by rw[List.getElem?_toArray,List.getElem?_eq_getElem hil],fun e he hb=>?_⟩;have hlt:=d6 i _ (List.getElem?_eq_getElem hil) e he hb;exact ih e.on hlt (by omega)
    rw[hr] at hmem;simp at hmem
 intro fuel
 induction fuel with
 |zero=>
  intro listed a w hI hJ' hcnt;have hall:∀i,i<ops.length→listed.getD i false=true:=by
   rcases hcnt with h1|h1
   ·exact h1
   ·intro i hi;have h2:(List.range ops.length).countP (fun i=>!listed.getD i false)=0:=by omega
    have:=List.countP_eq_zero.1 h2 i (List.mem_range.2 hi);simpa using this
  refine⟨?_,hfin listed a w hI hJ' hall⟩;rw[List.eq_nil_iff_forall_not_mem];intro i hi;obtain⟨h1,o,ho,_⟩:=mem_ready.1 hi;rw[List.getElem?_toArray] at ho;have hil:=(List.getElem?_eq_some_iff.1 ho).1;rw[getD_false (by rw[hI.size];omega),hall i hil] at h1
  cases h1
 |succ fuel ih=>
  intro listed a w hI hJ' hcnt;refine⟨fun hr=>hfin listed a w hI hJ' (some_ready listed hI.size hr),fun i hi=>?_⟩;have hcnt':i∈Region.ready .any ops.toArray listed→(∀j,j<ops.length→(listed.setIfInBounds i true).getD j false=true)∨(List.range ops.length).countP (fun j=>!(listed.setIfInBounds i true).getD j false)≤fuel:=fun hi=>?_
  ·by_cases hrk:Rk i
   ·exact stp listed a w i _ hI hrk hi fun a' w' hI'=>ih _ a' w' hI' (hJ _ _ hrk hJ') (hcnt' hi)
   ·exact hother fuel listed a w hI hJ' i hi hrk (hcnt' hi)
  obtain⟨h1,o,ho,_⟩:=mem_ready.1 hi;rw[List.getElem?_toArray] at ho;have hil:=(List.getElem?_eq_some_iff.1 ho).1;have hisz:i<listed.size:=by rw[hI.size];omega
  rw[getD_false hisz] at h1;rcases hcnt with h2|h2
  ·rw[h2 i hil] at h1;cases h1
  ·right
   have:(List.range ops.length).countP (fun j=>!(listed.setIfInBounds i true).getD j false)+1≤(List.range ops.length).countP (fun j=>!listed.getD j false):=by
    have hsplit:(List.range ops.length).countP (fun j=>!listed.getD j false)=(List.range ops.length).countP (fun j=>!(listed.setIfInBounds i true).getD j false)+(List.range ops.length).countP (fun j=>decide (j=i)):=by
     generalize List.range ops.length=l
     induction l with
     |nil=>rfl
     |cons y r ihl=>
      simp only[List.countP_cons,ihl]
      by_cases hy:y=i
      ·subst hy;simp[h1,hisz];omega
      ·rw[getD_set_ne false (fun e=>hy e.symm)];simp[hy];omega
    have hpos:0<(List.range ops.length).countP (fun j=>decide (j=i)):=List.countP_pos_iff.2 ⟨i,List.mem_range.2 hil,by simp⟩;omega
   omega
def mCk (ops:List Oper)(eff:List Nat)(nx:Nat):Bool:=
 (eff[0]?==some nx)&&(List.range ops.length).all fun i=>decide (i≤nx)||anc (ancs ops []) nx i
theorem drawM_game {C:Cx}{ops:List Oper}{Q:Exit→St→Prop}{s:St}(K:St→Prop)(nx:Nat)(eff lo:List Nat)(na:List (List Nat))(hck:drawCk ops eff lo na=true)(hef:effCk eff=true)(hm:mCk ops eff nx=true)
  (h:madraw ⟨C,ops.toArray,eff,lo,na,K⟩ nx ops [] [(s.H,s.T,0)] (prune C.nv s.e)):∀L0 w0 a0,ConSt C s L0 w0 a0→
   wpAny C.P .any ops.toArray (Post C (ExitK K Q) L0 s w0) ops.toArray.size (Array.replicate ops.toArray.size false) a0 { w0 with drawn:=w0.drawn+1 }:=by
 intro L0 w0 a0 hc0;have hc:ConSt C ⟨prune C.nv s.e,s.H,s.T⟩ L0 w0 a0:=⟨hc0.nb,hc0.tb,hc0.con,hc0.size,hc0.defers,fun t=>by
  rcases eget_prune C.nv s.e t with e|e<;>rw[e]
  ·exact hc0.env t
  ·exact .top _⟩
 generalize hs':(⟨prune C.nv s.e,s.H,s.T⟩:St)=s' at hc;have hs1:prune C.nv s.e=s'.e:=by rw[←hs']
 have hs2:s.H=s'.H:=by rw[←hs']
 have hs3:s.T=s'.T:=by rw[←hs']
 rw[hs1,hs2,hs3] at h;rw[show Post C (ExitK K Q) L0 s w0=Post C (ExitK K Q) L0 s' w0 by unfold Post;rw[hs2,hs3]];clear hs' hs1 hs2 hs3 hc0;generalize hD:(⟨C,ops.toArray,eff,lo,na,K⟩:DCx)=D at h;have hDC:D.C=C:=by rw[←hD]
 have hDe:D.eff=eff:=by rw[←hD]
 have hDl:D.lo=lo:=by rw[←hD]
 have hDn:D.na=na:=by rw[←hD]
 have hDa:D.all=ops.toArray:=by rw[←hD]
 have hDK:D.K=K:=by rw[←hD]
 unfold mCk at hm;simp only[Bool.and_eq_true,beq_iff_eq,List.all_eq_true,List.mem_range,Bool.or_eq_true,decide_eq_true_eq] at hm;obtain⟨hm0,hmA⟩:=hm;have hnxe:eff.contains nx=true:=by rw[List.contains_iff_mem];exact List.mem_of_getElem? hm0
 have hnxD:D.eff.contains nx=true:=by rw[hDe];exact hnxe
 have hfl0:(eff.filter (·<nx)).length=0:=by
  have:=List.all_eq_true.1 hef 0 (List.mem_range.2 (List.getElem?_eq_some_iff.1 hm0).1);simp only[Bool.and_eq_true,beq_iff_eq,List.getD_eq_getElem?_getD,hm0,Option.getD_some] at this;exact this.1
 have hefge:∀m i,eff[m]?=some i→nx≤i:=fun m i hmi=>by
  rcases Nat.lt_or_ge i nx with h1|h1
  ·have:i∈eff.filter (·<nx):=List.mem_filter.2 ⟨List.mem_of_getElem? hmi,by simpa using h1⟩;rw[List.length_eq_zero_iff.1 hfl0] at this;simp at this
  ·exact h1
 obtain⟨recs1,sts1,H1,T1,i1,o,r,hw1,hl1,hlast1,hst01,hdrop,hguard,hmx⟩:=madraw_walk (D:=D) (ops:=ops) (e0:=s'.e) (by rw[hDe];exact hef) hnxD nx ops [] [(s'.H,s'.T,0)] s'.e
  ⟨⟨by simp,fun i x hx=>by simp at hx⟩,fun i x hx=>by simp at hx,fun i x hx=>by simp at hx,rfl⟩ (by simp) (by simp) (by simp) h
 obtain⟨d1,d2,d3,d4,d5,d6,d7⟩:=drawCk_spec hck;have hnxl:nx<ops.length:=(d3 0 nx hm0).1;have hon:ops[nx]?=some o:=by
  have:=congrArg (fun l=>l[0]?) hdrop;simpa using this
 have hsl1:sts1.length=1:=by
  have:=hw1.st.len;rw[hDe,hl1,hfl0] at this;exact this
 have hsts1:sts1=[(s'.H,s'.T,0)]:=by
  match sts1,hsl1,hst01 with
  |[x],_,h0=>simpa using h0
 subst hsts1;simp only[List.getLast?_singleton,Option.some.injEq,Prod.mk.injEq] at hlast1;obtain⟨rfl,rfl,rfl⟩:=hlast1;obtain⟨recsP,hP⟩:∃l,l=recs1++(ops.drop nx).map fun o=>(⟨o,[],false,.top,0,false⟩:DRec):=⟨_,rfl⟩
 have hPlen:recsP.length=ops.length:=by rw[hP];simp[hl1];omega
 have hPlo:∀i,i<nx→recsP[i]?=recs1[i]?:=fun i hi=>by rw[hP,List.getElem?_append_left (by omega)]
 have hPo:∀(i:Nat)(x:DRec),recsP[i]?=some x→ops[i]?=some x.o:=fun i x hx=>by
  rcases Nat.lt_or_ge i nx with hi|hi
  ·rw[hPlo i hi] at hx;exact(hw1.rcs i x hx).o
  ·rw[hP,List.getElem?_append_right (by omega),hl1,List.getElem?_map,List.getElem?_drop,show nx+(i-nx)=i by omega] at hx
   cases ho:ops[i]? with
   |none=>rw[ho] at hx;cases hx
   |some z=>rw[ho] at hx;cases hx;rfl
 have hPtake:recsP.take nx=recs1:=by rw[hP,List.take_append_of_le_length (by omega),←hl1,List.take_length]
 have hmapP:recsP.map (·.o)=ops:=by
  apply List.ext_getElem?;intro i;rw[List.getElem?_map]
  by_cases hi:i<recsP.length
  ·rw[List.getElem?_eq_getElem hi,Option.map_some,hPo i _ (List.getElem?_eq_getElem hi)]
  ·rw[List.getElem?_eq_none (by omega),List.getElem?_eq_none (by omega)];rfl
 have hsz:ops.toArray.size=ops.length:=by simp
 rw[hsz];refine core_game (sts:=[(s'.H,s'.T,0)]) hck hef hDC hDe hDl hDn hDa hPlen hPo (fun i=>i<nx) (nx:=nx) (fun i hi=>by omega) (fun i x hx hi=>by have hr:=hw1.rcs i x (by rw[←hPlo i hi];exact hx);exact⟨hr.o,hr.k,hr.eff,hr.gate,hr.dst,hr.skip,hr.still,hr.effect⟩) (fun i x hx hi=>?_) (fun i x hx hi=>hw1.st.k i x (by rw[←hPlo i hi];exact hx)) (fun l=>l.getD nx false=false)
  (fun l i hi hl=>by rw[getD_set_ne false (by omega)];exact hl) (fun listed a w hI hJ hall=>by rw[hall nx hnxl] at hJ;cases hJ) ?_ ops.length _ a0 _ ⟨by simp[hPlen],fun i j hl _=>?_,⟨0,s'.H,s'.T,0,L0,fun m i hmi=>?_,Nat.zero_le _,rfl,hc.con.drew rfl,by rw[hDC];exact hc.nb,by rw[hDC];exact hc.tb,fun t=>?_,?_⟩,by rw[hDC];exact hc.size,hc.defers⟩ ?_ (.inr ?_)
 ·rw[hw1.envs i x (by rw[←hPlo i hi];exact hx)]
  congr 1
  rw[hP,List.take_append_of_le_length (by omega)]
 rotate_left
 ·exfalso
  by_cases hi:i<ops.length<;>simp[hi] at hl
 ·constructor
  ·intro hl;exfalso
   by_cases hi:i<ops.length<;>simp[hi] at hl
  ·intro h;omega
 ·refine⟨eget s'.e t,.inr ⟨fun j x hx hd=>?_,rfl⟩,?_⟩
  ·by_cases hj:j<ops.length<;>simp[hj]
  ·have kd:Keeps L0 s'.H.length s'.T w0 L0 s'.H.length s'.T { w0 with drawn:=w0.drawn+1 }:=(Ev.drew (H:=s'.H) (T:=s'.T) (L:=L0) (w:=w0) (w':={ w0 with drawn:=w0.drawn+1 }) rfl rfl rfl rfl (Nat.le_succ _)).keeps;exact(hc.env t).keep kd
 ·rw[hDC];exact(Ev.drew (H:=s'.H) (T:=s'.T) (L:=L0) (w:=w0) (w':={ w0 with drawn:=w0.drawn+1 }) rfl rfl rfl rfl (Nat.le_succ _)).mono hc.nb hc.tb
 ·simp[hnxl]
 ·refine Nat.le_trans (List.countP_le_length) ?_;simp
 intro fuel listed a w hI hJ i hi hnr hcnt;obtain⟨hnl,o',ho',hready⟩:=mem_ready.1 hi;rw[List.getElem?_toArray] at ho';have hil:i<ops.length:=(List.getElem?_eq_some_iff.1 ho').1;have hcl:∀i j,listed.getD i false=true→anc (ancs ops []) j i=true→listed.getD j false=true:=by
  have:=hI.closed;rw[hmapP] at this;exact this
 have hancl:∀j,anc (ancs ops []) j i=true→listed.getD j false=true:=fun j hj=>anc_listed hcl ho' hready (d6 i o' ho') hj;have hinx:i=nx:=by
  rcases hmA i hil with h1|h1
  ·omega
  ·have:=hancl nx h1;rw[hJ] at this;cases this
 subst hinx;have hoo:o'=o:=by rw[ho'] at hon;exact Option.some.inj hon
 subst hoo;have hlater:∀j,i<j→j<ops.length→listed.getD j false=false:=fun j hj hjl=>by
  rcases hmA j hjl with h1|h1
  ·omega
  ·cases hlj:listed.getD j false with
   |false=>rfl
   |true=>have:=hcl j i hlj h1;rw[hJ] at this;cases this
 obtain⟨k,H,T,e,L,hk,hkl,hstk,hcon,hnb,htb,hslots,hev⟩:=hI.st;rw[hDe] at hk hkl;rw[hDC] at hnb htb hev;have hk0:k=0:=by
  have:=(hk 0 i hm0)
  rw[hJ] at this;have h2:¬0<k:=fun hh=>by have:=this.2 hh;cases this
  omega
 subst hk0;simp at hstk;obtain⟨rfl,rfl,rfl⟩:=hstk;have hlook:∀t∈o'.looksAt ops.toArray,∀v,VS recsP listed s'.e t v→v=eget (envAfter s'.e recs1) t:=by
  intro t ht v hv;rw[←hPtake];have hw_:∀(j:Nat)(z:DRec),recsP[j]?=some z→z.o.dst=some t→i≠j∧((j<i∧anc (ancs ops []) j i=true)∨(i<j∧anc (ancs ops []) i j=true)):=fun j z hz hd=>d2 i j o' z.o t ho' (hPo j z hz) ht hd;rcases hv with⟨j,z,hz,hd,hl,rfl⟩|⟨hno,rfl⟩
  ·obtain⟨hne,h1|h1⟩:=hw_ j z hz hd
   ·rw[eget_envAfter_at (recsP.take i) s'.e t j z (by rw[List.getElem?_take,if_pos h1.1];exact hz) hd (fun i' y' hy' hd'=>by
     rw[List.getElem?_take] at hy'
     split at hy'
     ·exact d1 i' j y'.o z.o t (hPo i' y' hy') (hPo j z hz) hd' hd
     ·cases hy')]
   ·have:=hcl j i hl h1.2;rw[hJ] at this;cases this
  ·rw[eget_envAfter_none (recsP.take i) s'.e t (fun z hz hd=>by
    obtain⟨j,hj,e1⟩:=List.mem_iff_getElem.1 hz;simp at hj;have hz':recsP[j]?=some z:=by rw[List.getElem?_eq_getElem (by omega),←e1];simp
    have hf:=hno j z hz' hd;obtain⟨hne,h1|h1⟩:=hw_ j z hz' hd
    ·have:=hancl j h1.2;rw[hf] at this;cases this
    ·omega)]
 have henv:EnvRep L s'.H.length s'.T w (keepOf (envAfter s'.e recs1) (o'.looksAt ops.toArray)) a:=by
  intro t;rw[eget_keepOf]
  split
  ·rename_i ht;obtain⟨v,hv,hr⟩:=hslots t;rw[←hlook t ht v hv];exact hr
  ·exact .top _
 have haev:∀z∈o'.op.operands,aev (envAfter s'.e recs1) z=aev (keepOf (envAfter s'.e recs1) (o'.looksAt ops.toArray)) z:=by
  intro z hz
  cases z with
  |tmp t=>
   have:t∈o'.looksAt ops.toArray:=by
    unfold Oper.looksAt;exact List.mem_append.2 (.inl (List.mem_filterMap.2 ⟨_,Array.mem_toList_iff.2 hz,rfl⟩))
   simp only[aev,eget_keepOf,if_pos this]
  |_=>rfl
 have hwant:Region.wanted o' (yielded ops.toArray a.tmps)=true:=by
  unfold Region.wanted;rw[hguard]
 have hisz:i<listed.size:=by rw[hI.size];omega
 unfold wpOp;rw[List.getElem?_toArray,ho']
 dsimp only
 rw[if_pos hwant];refine .inl ?_;rw[hDC] at hmx;refine mexec_wp (mexec_congr haev hmx) hcon henv fun v H' T' cv w' L' hgo hcon' hrep' hev'=>?_;obtain⟨recs',sts',e',g1,g2,g3,g4,_,⟨x9,g9,gx⟩,_,g8⟩:=dgo_stepM (nx:=i) (ops:=ops) (e0:=s'.e) (H:=s'.H) (T:=s'.T) (i0:=0) (by rw[hDe];exact hef) hnxD hw1 (by rw[hl1];exact ho') rfl (by rw[hguard]) (fun hh=>by cases hh) (fun _ hne=>absurd hl1 hne) (fun hh=>by rw[hl1,hnxD] at hh;cases hh) hgo;have hx9:=gx (by rw[hl1];exact hnxD);have hs9:=g8 (by rw[hl1];exact hnxD);obtain⟨recs2,sts2,HL,TL,iL,k1,k2,k3,k4,k5,⟨q6,k6⟩,⟨q7,k7⟩⟩:=adraw_walkM (nx:=i) (D:=D) (ops:=ops) (e0:=s'.e) (by rw[hDe];exact hef) hnxD r recs' sts' e' g1 (by
  rw[g2,hl1];have:=congrArg (fun l=>l.drop 1) hdrop;simpa[List.drop_drop,Nat.add_comm] using this) (by rw[g2,hl1];omega) g3
 have hr2lo:∀j,j<i→recs2[j]?=recs1[j]?:=fun j hj=>by rw[k6,g9,List.append_assoc,List.getElem?_append_left (by omega)]
 have hr2at:recs2[i]?=some x9:=by rw[k6,g9,List.append_assoc,List.getElem?_append_right (by omega),hl1,Nat.sub_self];rfl
 have hr2o:∀(j:Nat)(x:DRec),recs2[j]?=some x→ops[j]?=some x.o:=fun j x hx=>(k1.rcs j x hx).o;have hmap2:recs2.map (·.o)=ops:=by
  apply List.ext_getElem?;intro j;rw[List.getElem?_map]
  by_cases hj:j<recs2.length
  ·rw[List.getElem?_eq_getElem hj,Option.map_some,hr2o j _ (List.getElem?_eq_getElem hj)]
  ·rw[List.getElem?_eq_none (by omega),List.getElem?_eq_none (by omega)];rfl
 have hst2:sts2[1]?=some (H',T',i):=by
  rw[k7,hs9,hl1];rfl
 have hstl:sts2.length=1+eff.length:=by
  have h1:=k1.st.len;rw[hDe] at h1;rw[h1]
  congr 2
  apply List.filter_eq_self.2;intro e he;obtain⟨m,hm,e1⟩:=List.mem_iff_getElem.1 he;have:=(d3 m e (by rw[List.getElem?_eq_getElem hm,e1])).1;simp;omega
 refine core_game hck hef hDC hDe hDl hDn hDa k2 hr2o (fun j=>j≠i) (nx:=i) (fun j hj=>hj) (fun j x hx _=>k1.rcs j x hx) (fun j x hx _=>k1.envs j x hx) (fun j x hx _=>k1.st.k j x hx) (fun l=>l.getD i false=true)
  (fun l j _ hl=>getD_set_true hl) (fun listed a w hI2 _ hall=>?_) (fun fuel listed a w hI2 hJ2 j hj hne _=>?_) fuel _ _ _ ⟨by simp[hI.size,hPlen,k2],fun i' j' hl' hanc'=>?_,⟨1,H',T',i,L',fun m i' hm'=>?_,?_,hst2,hcon',by rw[hDC];exact Nat.le_trans hnb hev'.n,by rw[hDC];exact Nat.le_trans htb hev'.t,fun t=>?_,by rw[hDC];exact hev.trans (hev'.mono hnb htb)⟩,?_,?_⟩ ?_ hcnt
 ·
  obtain⟨k,H,T,e,L,hk,hkl,hstk,hcon,hnb,htb,hslots,hev⟩:=hI2.st;have hkk:k=eff.length:=by
   rw[hDe] at hk hkl;rcases Nat.lt_or_ge k eff.length with hlt|hge
   ·have:=(hk k _ (List.getElem?_eq_getElem hlt)).1 (hall _ (d3 k _ (List.getElem?_eq_getElem hlt)).1);omega
   ·omega
  have hlst:sts2[k]?=some (HL,TL,iL):=by rw[←k3,List.getLast?_eq_getElem?,hstl,hkk];congr 1;omega
  rw[hstk] at hlst;obtain⟨rfl,rfl,rfl⟩:H=HL∧T=TL∧e=iL:=by injection hlst with h1;injection h1 with h1 h2;injection h2 with h2 h3;exact⟨h1,h2,h3⟩
  rw[hDK] at k4;rw[hDC] at hev hnb htb;refine⟨_,L,k4,⟨hnb,htb,hcon,by rw[hI2.tmps,hDC],hI2.defers,fun t=>?_⟩,hev⟩;obtain⟨v,hv,hr⟩:=hslots t;show Rep L H.length T w (eget (envAfter s'.e recs2) t) _;rcases hv with⟨j,x,hx,hd,hl,rfl⟩|⟨hno,rfl⟩
  ·rw[eget_envAfter_at recs2 s'.e t j x hx hd (fun i y hy hyd=>d1 i j y.o x.o t (hr2o i y hy) (hr2o j x hx) hyd hd)];exact hr
  ·rw[eget_envAfter_none recs2 s'.e t (fun x hx hd=>by
    obtain⟨j,hj,e1⟩:=List.mem_iff_getElem.1 hx;have h1:=hno j x (by rw[List.getElem?_eq_getElem hj,e1]) hd;have h2:=hall j (by omega);rw[h1] at h2;cases h2)]
   exact hr
 ·have:j=i:=Classical.byContradiction hne;subst this;obtain⟨h1,z,hz,_⟩:=mem_ready.1 hj;rw[getD_false (by rw[hI2.size,k2];exact hnxl),hJ2] at h1
  cases h1
 ·rw[hmap2] at hanc'
  by_cases hii:i=i'
  ·subst hii;have:=hancl j' hanc'
   by_cases hij:i=j'
   ·subst hij;rw[hJ] at this;cases this
   ·rw[getD_set_ne false hij];exact this
  ·rw[getD_set_ne false hii] at hl';have:=hcl i' j' hl' hanc';exact getD_set_true this
 ·rw[hDe] at hm';have hnl':=(List.getElem?_eq_some_iff.1 hm').1
  by_cases hm0':m=0
  ·subst hm0';rw[hm0] at hm'
   cases hm'
   simp[hisz]
  ·have hne:i≠i':=by
    rintro rfl;have h1:=List.all_eq_true.1 hef m (List.mem_range.2 hnl');simp only[Bool.and_eq_true,beq_iff_eq,List.getD_eq_getElem?_getD,hm',Option.getD_some] at h1;omega
   rw[getD_set_ne false hne,hk m i' hm'];omega
 ·rw[hDe];have:=(List.getElem?_eq_some_iff.1 hm0).1;omega
 ·by_cases hd:o'.dst=some t
  ·refine⟨x9.v,.inl ⟨i,x9,hr2at,by rw[hx9];exact hd,by simp[hisz],rfl⟩,?_⟩;have hdl:=(k1.rcs i x9 hr2at).dst t (by rw[hx9];exact hd);have hlt:t<a.tmps.size:=by rw[hI.tmps];exact hdl
   rw[hd,getD_put a t t cv hlt,if_pos rfl,hx9];exact hrep'
  ·obtain⟨v',hv,hr⟩:=hslots t;refine⟨v',?_,?_⟩
   ·rcases hv with⟨j,z,hz,hzd,hl,rfl⟩|⟨hno,rfl⟩
    ·have hjl:j<ops.length:=by have:=(List.getElem?_eq_some_iff.1 hz).1;omega
     have hji:j<i:=by
      rcases Nat.lt_trichotomy j i with h1|h1|h1
      ·exact h1
      ·subst h1;rw[hJ] at hl;cases hl
      ·rw[hlater j h1 hjl] at hl;cases hl
     exact .inl ⟨j,z,by rw[hr2lo j hji,←hPlo j hji];exact hz,hzd,getD_set_true hl,rfl⟩
    ·refine .inr ⟨fun j z hz hzd=>?_,rfl⟩;have hjl:j<ops.length:=by have:=(List.getElem?_eq_some_iff.1 hz).1;omega
     have hij:i≠j:=by
      rintro rfl;have:=hr2o i z hz;rw[ho'] at this;have:=Option.some.inj this;rw[←this] at hzd;exact hd hzd
     rw[getD_set_ne false hij];rcases Nat.lt_or_ge j i with h1|h1
     ·exact hno j z (by rw[hPlo j h1,←hr2lo j h1];exact hz) hzd
     ·exact hlater j (by omega) hjl
   ·have e1:(a.put o'.dst cv).tmps.getD t undef=a.tmps.getD t undef:=by
     cases hdst:o'.dst with
     |none=>rfl
     |some d=>
      have hlt:d<a.tmps.size:=by rw[hI.tmps];exact(k1.rcs i x9 hr2at).dst d (by rw[hx9];exact hdst)
      rw[getD_put a d t cv hlt,if_neg (fun e=>hd (by rw[hdst,e]))]
    rw[e1];exact hr.keep hev'.keeps
 ·simp[Act.put];cases o'.dst<;>simp[hI.tmps]
 ·cases o'.dst<;>exact hI.defers
 ·simp[hisz]
theorem aw_drawMK {C:Cx}{id:Nat}{ops:List Oper}{Q:Exit→St→Prop}{s:St}(K:St→Prop)(nx:Nat)(eff lo:List Nat)(na:List (List Nat))(hm:C.P.follows .mixedOrders=true)(hck:drawCk ops eff lo na=true)(hef:effCk eff=true)(hmk:mCk ops eff nx=true)
  (h:madraw ⟨C,ops.toArray,eff,lo,na,K⟩ nx ops [] [(s.H,s.T,0)] (prune C.nv s.e)):AW C (.region id ops.toArray true) (ExitK K Q) s:=
 fun L0 w0 a0 hc0=>wp_region_any hm (drawM_game K nx eff lo na hck hef hmk h L0 w0 a0 hc0)
theorem aw_drawM0 {C:Cx}{id:Nat}{ops:List Oper}{Q:Exit→St→Prop}{s:St}(nx:Nat)(eff lo:List Nat)(na:List (List Nat))(hm:C.P.follows .mixedOrders=true)(hck:drawCk ops eff lo na=true)(hef:effCk eff=true)(hmk:mCk ops eff nx=true)
  (h:∀K:St→Prop,(∀s,Q .normal s→K s)→madraw ⟨C,ops.toArray,eff,lo,na,K⟩ nx ops [] [(s.H,s.T,0)] (prune C.nv s.e)):AW C (.region id ops.toArray true) Q s:=
 (aw_drawMK (Q:=Q) (fun s=>Q .normal s) nx eff lo na hm hck hef hmk (h _ fun _ h=>h)).mono fun e s q=>by cases e<;>exact q
section
variable {D : DCx} {o : Oper} {r : List Oper} {recs : List DRec} {sts : List Stg} {e : Env}
@[simp] theorem madraw_zero:madraw D 0 (o::r) recs sts e=(match sts.getLast? with
  |some (H,T,_)=>match o.guard with
   |none=>mexec D.C o e H T (fun v H' T'=>dgo D (adraw D r) o recs sts e true v H' T')
   |some _=>False
  |none=>False):=rfl
@[simp] theorem madraw_succ {n:Nat}:madraw D (n+1) (o::r) recs sts e=(match sts.getLast? with
  |some (H,T,_)=>match o.guard with
   |none=>dexec D (madraw D n r) o recs sts e H T
   |some (j,want)=>match gval D.all j e with
    |some b=>if b=some want then dexec D (madraw D n r) o recs sts e H T else dgo D (madraw D n r) o recs sts e false (.tup []) H T
    |none=>False
  |none=>False):=rfl
end
attribute [simp] mexec
def acapz (P:Program)(o:Oper)(e:Env)(H:List Blk):Bool:=
 match o.op with
 |.call { callee:=.builtin .append,args,argTypes }=>
  match argTypes.toList,args.toList.map (aev e) with
  |[t,t2],[.sl 0 [] .full,x]=>match P.underlying t with
   |some (.slice el)=>match asrc H (P.cellsOf el) x with
    |some (m,_)=>decide (m=0)&&(notInt P t2&&(azero P el).isSome)
    |none=>false
   |_=>false
  |_,_=>false
 |_=>false
theorem acapz_congr {P:Program}{o:Oper}{e e':Env}{H:List Blk}(h:∀x∈o.op.operands,aev e x=aev e' x):acapz P o e H=acapz P o e' H:=by
 unfold acapz
 cases ho:o.op<;>try rfl
 rename_i c;rw[ho] at h;obtain⟨callee,args,ats⟩:=c
 cases callee<;>try rfl
 rename_i bi
 cases bi<;>try rfl
 have h2:args.toList.map (aev e)=args.toList.map (aev e'):=List.map_congr_left fun x hx=>h x (by simp only[Op.operands,Call.operands];exact Array.mem_append.2 (.inr (Array.mem_toList_iff.1 hx)));simp only[h2]
theorem run_acapz {P:Program}{o:Oper}{e:Env}{a:Act}{L:Lay}{H:List Blk}{T:Toks}{w:World}(h:acapz P o e H=true)(hc:Con L H T w)(he:EnvRep L H.length T w e a) :
  ∃cv,(execOp a.eval o).run P w=.ok (.value cv) w∧Rep L H.length T w (.sl 0 [] .full) cv:=by
 unfold acapz at h
 split at h
 ·rename_i args ats hop
  split at h
  ·rename_i t t2 x hts hargs
   split at h
   ·rename_i el hu
    split at h
    ·rename_i m ys hsrc;rw[Bool.and_eq_true,Bool.and_eq_true,decide_eq_true_eq] at h;obtain⟨hm0,hni,hzs⟩:=h;subst hm0;have hts':ats=#[t,t2]:=by rw[←Array.toList_inj];exact hts
     subst hts';have hl2:args.toList.length=2:=by have:=congrArg List.length hargs;simpa using this
     match hal:args.toList,hl2,hargs with
     |[p,q],_,hargs=>
      simp only[List.map_cons,List.map_nil,List.cons.injEq,and_true] at hargs;obtain⟨e1,e2⟩:=hargs;have hs:=he.aev p;have hx:=he.aev q;rw[e1] at hs;rw[e2] at hx;have hargs':args=#[p,q]:=by rw[←Array.toList_inj];exact hal
      subst hargs';obtain⟨zs,hzs⟩:=Option.isSome_iff_exists.1 hzs;obtain⟨i',z,hi,hzz,hzr,hzsz⟩:=azero_rep (L:=L) (N:=H.length) (T:=T) (w:=w) hzs;have hcz:P.cellsOf el=i'.size:=by simp[Program.cellsOf,hi]
      obtain⟨new,hyl,hynew,hlen,hfirst⟩:=run_src (P:=P) hc hx hsrc;have hcd:Con L H T w.drew:=hc.drew rfl;have kd:Keeps L H.length T w L H.length T w.drew:=(Ev.drew (H:=H) (T:=T) (L:=L) (w:=w) (w':=w.drew) rfl rfl rfl rfl (Nat.le_succ _)).keeps;obtain⟨new',_,hynew',_,hfirst'⟩:=run_src (P:=P) hcd (hx.keep kd) hsrc;have hsold:asrc H (P.cellsOf el) (.sl 0 [] .full)=some (0,[]):=by simp[asrc]
      obtain⟨old,_,hyold,_,hfold⟩:=run_src (P:=P) hcd (hs.keep kd) hsold;obtain⟨ad,cap,hsv,hcap,ht,_⟩:=hs.sl_inv;rw[hsv] at hfold;have h2:=run_append_two (P:=P) (w:=w) (ty:=o.type) hu hni hi hzz (a:=ad) (n:=0) (cap:=cap) (m:=0) hlen (hcz▸hfirst) (hcz▸hfirst') (hcz▸hfold) (by simp) (by simp);have hn0:new=[]:=List.eq_nil_of_length_eq_zero (by rw[hynew.1];simpa using hyl);have h3:=h2.1 (by omega);rw[hn0] at h3;refine⟨.slice ad 0 cap,?_,.sl0 _ _ _ ht⟩;have h4:(Builtin.append_ #[t,t2] o.type #[a.eval p,a.eval q]).run P w=.ok (.slice ad 0 cap) w:=by
       rw[hsv,h3]
       cases ad<;>rfl
      simp only[execOp,hop,resolve,Sem.run_bind,Sem.run_pure,Result.andThen_ok,invoke,builtin,List.map_toArray,List.map_cons,List.map_nil,h4]
    ·cases h
   ·cases h
  ·cases h
 ·cases h
def cexec (C:Cx)(o:Oper)(e:Env)(H:List Blk)(T:Toks)(κ:AV→List Blk→Toks→Prop):Prop:=
 if acapz C.P o e H=true then κ (.sl 0 [] .full) H T else
 match acap0 C.P C.bx o e H with
 |some _=>mexec C o e H T κ
 |none=>match acap o e with
  |some _=>mexec C o e H T κ
  |none=>match acallee o e with
   |some _=>False
   |none=>match aop C.P o e H T with
    |some (v,H',T')=>κ v H' T'
    |none=>False
theorem cexec_congr {C:Cx}{o:Oper}{e e':Env}{H:List Blk}{T:Toks}{κ:AV→List Blk→Toks→Prop}(h:∀x∈o.op.operands,aev e x=aev e' x)(k:cexec C o e H T κ):cexec C o e' H T κ:=by
 have hm:mexec C o e H T κ→mexec C o e' H T κ:=mexec_congr h;unfold cexec at k ⊢;rw[←acapz_congr h,←acap0_congr h,←acap_congr h,←acallee_congr h,←aop_congr H T h]
 split
 ·rename_i h1;rw[if_pos h1] at k;exact k
 ·rename_i h1;rw[if_neg h1] at k
  split
  ·rename_i h2;rw[h2] at k;exact hm k
  ·rename_i h2;rw[h2] at k
   dsimp only at k
   split
   ·rename_i h3;rw[h3] at k;exact hm k
   ·rename_i h3;rw[h3] at k;exact k
theorem cexec_wp {C:Cx}{o:Oper}{e:Env}{H:List Blk}{T:Toks}{κ:AV→List Blk→Toks→Prop}(k:cexec C o e H T κ){L:Lay}{w:World}{a:Act}(hc:Con L H T w)(he:EnvRep L H.length T w e a){K:Act→World→Prop}{Q:Exit→Act→World→Prop}
  (hk:∀v H' T' cv w' L',κ v H' T'→Con L' H' T' w'→Rep L' H'.length T' w' v cv→Ev H.length T.length L H.length T w L' H'.length T' w'→K (a.put o.dst cv) w'):o.wp C.P a w K Q:=by
 unfold cexec at k
 split at k
 ·rename_i hz;obtain⟨cv,hrun,hrep⟩:=run_acapz hz hc he;unfold Oper.wp;rw[hrun];exact hk _ _ _ _ _ _ k hc hrep (Ev.refl (Nat.le_refl _) (Nat.le_refl _))
 ·split at k
  ·exact mexec_wp k hc he hk
  ·split at k
   ·exact mexec_wp k hc he hk
   ·split at k
    ·exact k.elim
    ·rename_i hcal
     split at k
     ·rename_i v H' T' hop;exact aexec_wp (v:=v) (H':=H') (T':=T') (by unfold aexec;rw[hcal];exact hop) hc he fun cv w' L' g1 g2 g3=>hk _ _ _ _ _ _ k g1 g2 g3
     ·exact k.elim
def stab (P:Program)(H:List Blk)(T:Toks):List DRec→Prop
 |[]=>True
 |x::r=>aexec P x.o x.e H T x.v H T∧stab P H T r
def light (C:Cx)(ch:List Nat)(H:List Blk)(T:Toks)(κ:List DRec→Env→Prop):List Oper→Nat→List DRec→Env→Prop
 |[],_,R,e=>κ R e
 |o::r,i,R,e=>if ch.contains i=true then light C ch H T κ r (i+1) R e else
  match acallee o e with
  |some _=>False
  |none=>match aop C.P o e H T with
   |some (v,H',T')=>H'=H∧T'=T∧putE C.nt o.dst v e (light C ch H T κ r (i+1) (R++[⟨o,e,true,v,i,false⟩]))
   |none=>False
def cgo (C:Cx)(K:St→Prop)(R:List DRec):List Oper→Env→List Blk→Toks→Prop
 |[],e,H,T=>K ⟨e,H,T⟩
 |o::r,e,H,T=>cexec C o e H T (fun v H' T'=>stab C.P H' T' R∧putE C.nt o.dst v e (fun e'=>cgo C K R r e' H' T'))
def cdraw (C:Cx)(K:St→Prop)(ch:List Nat)(ops:List Oper)(H:List Blk)(T:Toks)(e:Env):Prop:=
 light C ch H T (fun R e'=>cgo C K R (ch.map fun i=>ops.getD i default) e' H T) ops 0 [] e
def chCk (ops:List Oper)(ch:List Nat):Bool:=
 drawCk ops ch [] (ch.map fun _=>List.range ops.length)&&effCk ch&&((List.range ops.length).all fun i=>ch.contains i||ch.all fun c=>!anc (ancs ops []) c i)&&ops.all fun o=>o.guard.isNone
structure LOk (C:Cx)(ch:List Nat)(ops:List Oper)(H:List Blk)(T:Toks)(e0:Env)(n:Nat)(R:List DRec):Prop where
 recs:∀(j:Nat)(x:DRec),R[j]?=some x→ops[x.k]?=some x.o∧x.k<n∧ch.contains x.k=false∧x.e=envAfter e0 (R.take j)∧aexec C.P x.o x.e H T x.v H T∧(∀d,x.o.dst=some d→d<C.nt)
 all:∀i,i<n→ch.contains i=false→∃x∈R,x.k=i
 ord:R.Pairwise fun x y=>x.k<y.k
theorem light_walk {C:Cx}{ch:List Nat}{ops:List Oper}{H:List Blk}{T:Toks}{e0:Env}{κ:List DRec→Env→Prop}:∀(l:List Oper)(n:Nat)(R:List DRec),ops.drop n=l→n≤ops.length→LOk C ch ops H T e0 n R→light C ch H T κ l n R (envAfter e0 R)→
  ∃R',LOk C ch ops H T e0 ops.length R'∧κ R' (envAfter e0 R'):=by
 intro l
 induction l with
 |nil=>
  intro n R hl hn hR h;have:n=ops.length:=by have:=congrArg List.length hl;simp at this;omega
  subst this;exact⟨R,hR,h⟩
 |cons o r ih=>
  intro n R hl hn hR h;have hlt:n<ops.length:=by
   rcases Nat.lt_or_ge n ops.length with h1|h1
   ·exact h1
   ·rw[List.drop_eq_nil_of_le h1] at hl;cases hl
  have ho:ops[n]?=some o:=by
   have:=congrArg (fun l=>l[0]?) hl;simpa using this
  have hr:ops.drop (n+1)=r:=by
   rw[←List.tail_drop,hl];rfl
  rw[light] at h
  split at h
  ·rename_i hc;exact ih (n+1) R hr (by omega) ⟨fun j x hx=>by obtain⟨a1,a2,a3⟩:=hR.recs j x hx;exact⟨a1,by omega,a3⟩,fun i hi hni=>by
    rcases Nat.lt_or_ge i n with h1|h1
    ·exact hR.all i h1 hni
    ·have:i=n:=by omega
     subst this;rw[hc] at hni;exact absurd hni (by simp),hR.ord⟩ h
  ·rename_i hc
   split at h
   ·exact h.elim
   ·rename_i hcal
    split at h
    ·rename_i v H' T' hop;obtain⟨rfl,rfl,h⟩:=h;obtain⟨hd,h⟩:=putE_spec h;have hc:ch.contains n=false:=by simpa using hc
     refine ih (n+1) (R++[⟨o,envAfter e0 R,true,v,n,false⟩]) hr (by omega) ⟨fun j x hx=>?_,fun i hi hni=>?_,?_⟩ (by rw[envAfter_snoc];exact h)
     ·rcases Nat.lt_or_ge j R.length with h1|h1
      ·rw[List.getElem?_append_left h1] at hx;obtain⟨a1,a2,a3,a4,a5⟩:=hR.recs j x hx;refine⟨a1,by omega,a3,?_,a5⟩;rw[List.take_append_of_le_length (by omega)];exact a4
      ·rw[List.getElem?_append_right h1] at hx;have hj:j=R.length:=by
        rcases Nat.lt_or_ge (j-R.length) 1 with h2|h2
        ·omega
        ·rw[List.getElem?_eq_none (by simpa using h2)] at hx;cases hx
       subst hj;simp at hx;subst hx;refine⟨ho,by show n<n+1;omega,hc,?_,?_,hd⟩
       ·rw[List.take_left' rfl]
       ·show aexec _ _ _ _ _ _ _ _;unfold aexec;dsimp only;rw[hcal];exact hop
     ·rcases Nat.lt_or_ge i n with h1|h1
      ·obtain⟨x,hx,e1⟩:=hR.all i h1 hni;exact⟨x,List.mem_append_left _ hx,e1⟩
      ·have:i=n:=by omega
       subst this;exact⟨_,List.mem_append_right _ (List.mem_singleton.2 rfl),rfl⟩
     ·rw[List.pairwise_append];refine⟨hR.ord,List.pairwise_singleton _ _,fun x hx y hy=>?_⟩;rw[List.mem_singleton] at hy;subst hy;obtain⟨j,hj,e1⟩:=List.mem_iff_getElem.1 hx;exact(hR.recs j x (by rw[List.getElem?_eq_getElem hj,e1])).2.1
    ·exact h.elim
theorem stab_mem {P:Program}{H:List Blk}{T:Toks}:∀{R:List DRec},stab P H T R→∀x∈R,aexec P x.o x.e H T x.v H T:=by
 intro R
 induction R with
 |nil=>intro _ x hx;simp at hx
 |cons y r ih=>
  intro h x hx;rcases List.mem_cons.1 hx with rfl|hx
  ·exact h.1
  ·exact ih h.2 x hx
theorem stab_of {P:Program}{H:List Blk}{T:Toks}:∀{R:List DRec},(∀x∈R,aexec P x.o x.e H T x.v H T)→stab P H T R:=by
 intro R
 induction R with
 |nil=>intro _;trivial
 |cons y r ih=>intro h;exact⟨h y (by simp),ih fun x hx=>h x (by simp[hx])⟩
theorem envR_at {e0:Env}{R:List DRec}{t:Nat}{x:DRec}(hx:x∈R)(hd:x.o.dst=some t)(hn:R.Pairwise fun x y=>x.k≠y.k)(hu:∀y∈R,y.o.dst=some t→y.k=x.k):eget (envAfter e0 R) t=x.v:=by
 obtain⟨j,hj,e1⟩:=List.mem_iff_getElem.1 hx;refine eget_envAfter_at R e0 t j x (by rw[List.getElem?_eq_getElem hj,e1]) hd fun i y hy hyd=>?_;obtain⟨hi,e2⟩:=List.getElem?_eq_some_iff.1 hy;have hk:y.k=x.k:=hu y (by rw[←e2];exact List.getElem_mem hi) hyd;rcases Nat.lt_trichotomy i j with h1|h1|h1
 ·have:=List.pairwise_iff_getElem.1 hn i j hi hj h1;rw[e2,e1] at this;exact absurd hk this
 ·exact h1
 ·have:=List.pairwise_iff_getElem.1 hn j i hj hi h1;rw[e2,e1] at this;exact absurd hk.symm this
def VC (R:List DRec)(listed:Array Bool)(e0:Env)(t:Nat)(v:AV):Prop:=
 (∃x∈R,x.o.dst=some t∧listed.getD x.k false=true∧v=x.v)∨((∀x∈R,x.o.dst=some t→listed.getD x.k false=false)∧v=eget e0 t)
structure CInv (C:Cx)(K:St→Prop)(ch:List Nat)(ops:List Oper)(R0:List DRec)(s:St)(L0:Lay)(w0:World)(listed:Array Bool)(a:Act)(w:World):Prop where
 size:listed.size=ops.length
 closed:∀i j,listed.getD i false=true→anc (ancs ops []) j i=true→listed.getD j false=true
 st:∃(k:Nat) (Rc:List DRec) (H:List Blk) (T:Toks) (L:Lay),(∀(m i:Nat),ch[m]?=some i→(listed.getD i false=true↔m<k))∧k≤ch.length∧Rc.length=k∧
  (∀(m:Nat)(x:DRec),Rc[m]?=some x→ch[m]?=some x.k∧ops[x.k]?=some x.o∧(∀d,x.o.dst=some d→d<C.nt))∧stab C.P H T R0∧
  cgo C K R0 ((ch.drop k).map fun i=>ops.getD i default) (envAfter s.e (R0++Rc)) H T∧Con L H T w∧C.nb≤H.length∧C.tb≤T.length∧
  (∀t,∃v,VC (R0++Rc) listed s.e t v∧Rep L H.length T w v (a.tmps.getD t undef))∧Ev C.nb C.tb L0 s.H.length s.T w0 L H.length T w
 tmps:a.tmps.size=C.nt
 defers:a.defers=[]
theorem chain_game {C:Cx}{ops:List Oper}{Q:Exit→St→Prop}{s:St}(K:St→Prop)(ch:List Nat)(hck:chCk ops ch=true)
  (h:cdraw C K ch ops s.H s.T (prune C.nv s.e)):∀L0 w0 a0,ConSt C s L0 w0 a0→
   wpAny C.P .any ops.toArray (Post C (ExitK K Q) L0 s w0) ops.toArray.size (Array.replicate ops.toArray.size false) a0 { w0 with drawn:=w0.drawn+1 }:=by
 intro L0 w0 a0 hc0;have hc:ConSt C ⟨prune C.nv s.e,s.H,s.T⟩ L0 w0 a0:=⟨hc0.nb,hc0.tb,hc0.con,hc0.size,hc0.defers,fun t=>by
  rcases eget_prune C.nv s.e t with e|e<;>rw[e]
  ·exact hc0.env t
  ·exact .top _⟩
 generalize hs':(⟨prune C.nv s.e,s.H,s.T⟩:St)=s' at hc;have hs1:prune C.nv s.e=s'.e:=by rw[←hs']
 have hs2:s.H=s'.H:=by rw[←hs']
 have hs3:s.T=s'.T:=by rw[←hs']
 rw[hs1,hs2,hs3] at h;rw[show Post C (ExitK K Q) L0 s w0=Post C (ExitK K Q) L0 s' w0 by unfold Post;rw[hs2,hs3]];clear hs' hs1 hs2 hs3 hc0;unfold chCk at hck;simp only[Bool.and_eq_true] at hck;obtain⟨⟨⟨hdk,hef⟩,hlc⟩,hgd⟩:=hck;obtain⟨d1,d2,d3,_,_,d6,d7⟩:=drawCk_spec hdk;have hlight:∀i c,i<ops.length→ch.contains i=false→c∈ch→anc (ancs ops []) c i=false:=by
  intro i c hi hn hcc;have:=List.all_eq_true.1 hlc i (List.mem_range.2 hi);rw[hn,Bool.false_or] at this;simpa using List.all_eq_true.1 this c hcc
 have hguard:∀(i:Nat)(o:Oper),ops[i]?=some o→o.guard=none:=fun i o ho=>by
  have:=List.all_eq_true.1 hgd o (List.mem_of_getElem? ho);simpa using this
 obtain⟨R0,hR,hgo⟩:=light_walk (C:=C) (ch:=ch) (ops:=ops) (H:=s'.H) (T:=s'.T) (e0:=s'.e) ops 0 [] rfl (Nat.zero_le _) ⟨fun j x hx=>by simp at hx,fun i hi=>by omega,List.Pairwise.nil⟩ h;have hR0m:∀x∈R0,∃j,R0[j]?=some x:=fun x hx=>by
  obtain⟨j,hj,e1⟩:=List.mem_iff_getElem.1 hx;exact⟨j,by rw[List.getElem?_eq_getElem hj,e1]⟩
 have hchn:∀(m m' c:Nat),ch[m]?=some c→ch[m']?=some c→m=m':=by
  intro m m' c h1 h2;have key:∀m,ch[m]?=some c→m=(ch.filter (·<c)).length:=by
   intro m hm;have hml:=(List.getElem?_eq_some_iff.1 hm).1;have:=List.all_eq_true.1 hef m (List.mem_range.2 hml);simp only[Bool.and_eq_true,beq_iff_eq,List.getD_eq_getElem?_getD,hm,Option.getD_some] at this;exact this.1.symm
  rw[key m h1,key m' h2]
 have hnod:∀(Rc:List DRec),(∀(m:Nat)(x:DRec),Rc[m]?=some x→ch[m]?=some x.k∧ops[x.k]?=some x.o∧(∀d,x.o.dst=some d→d<C.nt))→(R0++Rc).Pairwise fun x y=>x.k≠y.k:=by
  intro Rc hRc;rw[List.pairwise_append];refine⟨hR.ord.imp fun h=>by omega,?_,fun x hx y hy=>?_⟩
  ·rw[List.pairwise_iff_getElem];intro i j hi hj hij e;have h1:=(hRc i _ (List.getElem?_eq_getElem hi)).1;have h2:=(hRc j _ (List.getElem?_eq_getElem hj)).1;rw[e] at h1;have:=hchn _ _ _ h1 h2;omega
  ·obtain⟨j,hj⟩:=hR0m x hx;obtain⟨m,hm,e1⟩:=List.mem_iff_getElem.1 hy;have h1:=(hR.recs j x hj).2.2.1;have h2:=List.mem_of_getElem? (hRc m y (by rw[List.getElem?_eq_getElem hm,e1])).1;intro e;rw[e] at h1;rw[←List.contains_iff_mem] at h2;rw[h2] at h1;cases h1
 have hops:∀(Rc:List DRec),(∀(m:Nat)(x:DRec),Rc[m]?=some x→ch[m]?=some x.k∧ops[x.k]?=some x.o∧(∀d,x.o.dst=some d→d<C.nt))→∀x∈R0++Rc,ops[x.k]?=some x.o∧(∀d,x.o.dst=some d→d<C.nt):=by
  intro Rc hRc x hx;rcases List.mem_append.1 hx with hx|hx
  ·obtain⟨j,hj⟩:=hR0m x hx;obtain⟨a1,_,_,_,_,a6⟩:=hR.recs j x hj;exact⟨a1,a6⟩
  ·obtain⟨m,hm,e1⟩:=List.mem_iff_getElem.1 hx;exact(hRc m x (by rw[List.getElem?_eq_getElem hm,e1])).2
 have done:∀(listed:Array Bool)(a:Act)(w:World),CInv C K ch ops R0 s' L0 w0 listed a w→(∀i,i<ops.length→listed.getD i false=true)→Post C (ExitK K Q) L0 s' w0 .normal a w:=by
  intro listed a w hI hall;obtain⟨k,Rc,H,T,L,hk,hkl,hRcl,hRc,hstab,hpend,hcon,hnb,htb,hslots,hev⟩:=hI.st;have hkk:k=ch.length:=by
   rcases Nat.lt_or_ge k ch.length with hlt|hge
   ·have:=(hk k _ (List.getElem?_eq_getElem hlt)).1 (hall _ (d3 k _ (List.getElem?_eq_getElem hlt)).1);omega
   ·omega
  rw[hkk,List.drop_length] at hpend;refine⟨⟨envAfter s'.e (R0++Rc),H,T⟩,L,hpend,⟨hnb,htb,hcon,hI.tmps,hI.defers,fun t=>?_⟩,hev⟩;obtain⟨v,hv,hr⟩:=hslots t;show Rep L H.length T w (eget (envAfter s'.e (R0++Rc)) t) _;rcases hv with⟨x,hx,hd,hl,rfl⟩|⟨hno,rfl⟩
  ·rw[envR_at hx hd (hnod Rc hRc) (fun y hy hyd=>d1 y.k x.k y.o x.o t (hops Rc hRc y hy).1 (hops Rc hRc x hx).1 hyd hd)];exact hr
  ·rw[eget_envAfter_none (R0++Rc) s'.e t (fun x hx hd=>by
    have h1:=hno x hx hd;have h2:=hall x.k (List.getElem?_eq_some_iff.1 (hops Rc hRc x hx).1).1;rw[h1] at h2;cases h2)]
   exact hr
 have stp:∀(listed:Array Bool)(a:Act)(w:World)(i:Nat)(KK:Act→World→Prop),CInv C K ch ops R0 s' L0 w0 listed a w→i∈Region.ready .any ops.toArray listed→
   (∀a' w',CInv C K ch ops R0 s' L0 w0 (listed.setIfInBounds i true) a' w'→KK a' w')→wpOp C.P ops.toArray (Post C (ExitK K Q) L0 s' w0) i KK a w:=by
  intro listed a w i KK hI hi hKK';obtain⟨hnl,o,ho,hready⟩:=mem_ready.1 hi;rw[List.getElem?_toArray] at ho;have hil:i<ops.length:=(List.getElem?_eq_some_iff.1 ho).1;have hisz:i<listed.size:=by rw[hI.size];omega
  have hnl':listed.getD i false=false:=by rw[←getD_false hisz];exact hnl
  have hcl:=hI.closed;have hancl:∀j,anc (ancs ops []) j i=true→listed.getD j false=true:=fun j hj=>anc_listed hcl ho hready (d6 i o ho) hj;obtain⟨k,Rc,H,T,L,hk,hkl,hRcl,hRc,hstab,hpend,hcon,hnb,htb,hslots,hev⟩:=hI.st;have hgn:=hguard i o ho;have hwant:Region.wanted o (yielded ops.toArray a.tmps)=true:=by unfold Region.wanted;rw[hgn]
  have hrun:∀(ex:Env),(∀t∈o.looksAt ops.toArray,∀v,VC (R0++Rc) listed s'.e t v→v=eget ex t)→
    EnvRep L H.length T w (keepOf ex (o.looksAt ops.toArray)) a∧∀z∈o.op.operands,aev ex z=aev (keepOf ex (o.looksAt ops.toArray)) z:=by
   intro ex hlook;refine⟨fun t=>?_,fun z hz=>?_⟩
   ·rw[eget_keepOf]
    split
    ·rename_i ht;obtain⟨v,hv,hr⟩:=hslots t;rw[←hlook t ht v hv];exact hr
    ·exact .top _
   ·cases z with
    |tmp t=>
     have:t∈o.looksAt ops.toArray:=by
      unfold Oper.looksAt;exact List.mem_append.2 (.inl (List.mem_filterMap.2 ⟨_,Array.mem_toList_iff.2 hz,rfl⟩))
     simp only[aev,eget_keepOf,if_pos this]
    |_=>rfl
  have behind:∀(x:DRec)(H':List Blk)(T':Toks)(cv:Value)(w':World)(L':Lay)(k':Nat)(Rc':List DRec),x.k=i→x.o=o→(∀d,o.dst=some d→d<C.nt)→x∈R0++Rc'→(∀y∈R0++Rc',y=x∨y∈R0++Rc)→(∀y∈R0++Rc,y∈R0++Rc')→
    (∀(m j:Nat),ch[m]?=some j→((listed.setIfInBounds i true).getD j false=true↔m<k'))→k'≤ch.length→Rc'.length=k'→
    (∀(m:Nat)(x:DRec),Rc'[m]?=some x→ch[m]?=some x.k∧ops[x.k]?=some x.o∧(∀d,x.o.dst=some d→d<C.nt))→stab C.P H' T' R0→
    cgo C K R0 ((ch.drop k').map fun i=>ops.getD i default) (envAfter s'.e (R0++Rc')) H' T'→
    Con L' H' T' w'→Rep L' H'.length T' w' x.v cv→Ev H.length T.length L H.length T w L' H'.length T' w'→KK (a.put o.dst cv) w':=by
   intro x H' T' cv w' L' k' Rc' hxk hxo hdst hxm hback hfwd hk' hkl' hRcl' hRc' hstab' hpend' hcon' hrep' hev';refine hKK' _ _ ⟨by simp[hI.size],fun i' j' hl' hanc'=>?_,⟨k',Rc',H',T',L',hk',hkl',hRcl',hRc',hstab',hpend',hcon',Nat.le_trans hnb hev'.n,Nat.le_trans htb hev'.t,fun t=>?_,hev.trans (hev'.mono hnb htb)⟩,?_,by cases o.dst<;>exact hI.defers⟩
   ·by_cases hii:i=i'
    ·subst hii;have:=hancl j' hanc'
     by_cases hij:i=j'
     ·subst hij;rw[hnl'] at this;cases this
     ·rw[getD_set_ne false hij];exact this
    ·rw[getD_set_ne false hii] at hl';have:=hcl i' j' hl' hanc';exact getD_set_true this
   ·by_cases hd:o.dst=some t
    ·refine⟨x.v,.inl ⟨x,hxm,by rw[hxo];exact hd,by rw[hxk];simp[hisz],rfl⟩,?_⟩;have hlt:t<a.tmps.size:=by rw[hI.tmps];exact hdst t hd
     rw[hd,getD_put a t t cv hlt,if_pos rfl];exact hrep'
    ·obtain⟨v,hv,hr⟩:=hslots t;refine⟨v,?_,?_⟩
     ·rcases hv with⟨z,hz,hzd,hl,rfl⟩|⟨hno,rfl⟩
      ·exact .inl ⟨z,hfwd z hz,hzd,getD_set_true hl,rfl⟩
      ·refine .inr ⟨fun z hz hzd=>?_,rfl⟩;rcases hback z hz with rfl|hz'
       ·rw[hxo] at hzd;exact absurd hzd hd
       ·have hij:i≠z.k:=by
         intro e;have h1:=(hops Rc hRc z hz').1;rw[←e,ho] at h1
         injection h1 with h1
         rw[←h1] at hzd;exact hd hzd
        rw[getD_set_ne false hij];exact hno z hz' hzd
     ·have e1:(a.put o.dst cv).tmps.getD t undef=a.tmps.getD t undef:=by
       cases hdst':o.dst with
       |none=>rfl
       |some d=>
        have hlt:d<a.tmps.size:=by rw[hI.tmps];exact hdst d hdst'
        rw[getD_put a d t cv hlt,if_neg (fun e=>hd (by rw[hdst',e]))]
      rw[e1];exact hr.keep hev'.keeps
   ·simp[Act.put];cases o.dst<;>simp[hI.tmps]
  unfold wpOp;rw[List.getElem?_toArray,ho]
  dsimp only
  rw[if_pos hwant];refine .inl ?_
  cases hch:ch.contains i with
  |false=>
   obtain⟨x,hxm,hxk⟩:=hR.all i hil hch;obtain⟨j,hj⟩:=hR0m x hxm;obtain⟨a1,a2,a3,a4,a5,a6⟩:=hR.recs j x hj;have hox:x.o=o:=by rw[hxk,ho] at a1;injection a1 with a1;exact a1.symm
   have hlook:∀t∈o.looksAt ops.toArray,∀v,VC (R0++Rc) listed s'.e t v→v=eget x.e t:=by
    intro t ht v hv;rw[a4];have hw_:∀z∈R0++Rc,z.o.dst=some t→i≠z.k∧((z.k<i∧anc (ancs ops []) z.k i=true)∨(i<z.k∧anc (ancs ops []) i z.k=true)):=fun z hz hd=>d2 i z.k o z.o t ho (hops Rc hRc z hz).1 ht hd;rcases hv with⟨z,hz,hd,hl,rfl⟩|⟨hno,rfl⟩
    ·obtain⟨hne,h1|h1⟩:=hw_ z hz hd
     ·have hz0:z∈R0:=by
       rcases List.mem_append.1 hz with hz|hz
       ·exact hz
       ·exfalso;obtain⟨m,hm,e1⟩:=List.mem_iff_getElem.1 hz;have h2:=List.mem_of_getElem? (hRc m z (by rw[List.getElem?_eq_getElem hm,e1])).1;rw[hlight i z.k hil hch h2] at h1
        cases h1.2
      obtain⟨j',hj'⟩:=hR0m z hz0;have hlt:j'<j:=by
       obtain⟨b1,b2⟩:=List.getElem?_eq_some_iff.1 hj;obtain⟨c1,c2⟩:=List.getElem?_eq_some_iff.1 hj';rcases Nat.lt_trichotomy j' j with h3|h3|h3
       ·exact h3
       ·subst h3;rw[hj] at hj';injection hj' with hj'
        rw[←hj',hxk] at h1;omega
       ·have:=List.pairwise_iff_getElem.1 hR.ord j j' b1 c1 h3;rw[b2,c2,hxk] at this;omega
      have hzt:z∈R0.take j:=List.mem_of_getElem? (i:=j') (by rw[List.getElem?_take,if_pos hlt];exact hj');rw[envR_at hzt hd ((hR.ord.imp fun h=>by omega).sublist (List.take_sublist _ _)) (fun y hy hyd=>d1 y.k z.k y.o z.o t (hops Rc hRc y (List.mem_append_left _ (List.mem_of_mem_take hy))).1 (hops Rc hRc z hz).1 hyd hd)]
     ·have:=hcl z.k i hl h1.2;rw[hnl'] at this;cases this
    ·rw[eget_envAfter_none (R0.take j) s'.e t (fun z hz hd=>by
      have hz0:=List.mem_of_mem_take hz;have hf:=hno z (List.mem_append_left _ hz0) hd;obtain⟨j',hj',e1⟩:=List.mem_iff_getElem.1 hz;simp at hj';obtain⟨hne,h1|h1⟩:=hw_ z (List.mem_append_left _ hz0) hd
      ·have:=hancl z.k h1.2;rw[hf] at this;cases this
      ·obtain⟨b1,b2⟩:=List.getElem?_eq_some_iff.1 hj;have:=List.pairwise_iff_getElem.1 hR.ord j' j (by omega) b1 (by omega);rw[List.getElem_take] at e1;rw[b2,e1,hxk] at this;omega)]
   obtain⟨henv,haev⟩:=hrun x.e hlook;have hex:=stab_mem hstab x hxm;rw[hox] at hex;refine aexec_wp (aexec_congr haev hex) hcon henv fun cv w' L' g1 g2 g3=>behind x H T cv w' L' k Rc hxk hox (by rw[←hox];exact a6) (List.mem_append_left _ hxm) (fun y hy=>.inr hy) (fun y hy=>hy) (fun m j' hm=>?_) hkl hRcl hRc hstab hpend g1 g2 g3;have hij:i≠j':=by
    rintro rfl;have:=List.mem_of_getElem? hm;rw[←List.contains_iff_mem] at this;rw[hch] at this;cases this
   rw[getD_set_ne false hij];exact hk m j' hm
  |true=>
   obtain⟨e1,_⟩:=effCk_spec hef hch;have hik:ch[k]?=some i:=by
    have hge:k≤(ch.filter (·<i)).length:=by
     rcases Nat.lt_or_ge (ch.filter (·<i)).length k with h1|h1
     ·have:=(hk _ i e1).2 h1;rw[hnl'] at this;cases this
     ·exact h1
    have hle:(ch.filter (·<i)).length≤k:=by
     rcases Nat.eq_zero_or_pos (ch.filter (·<i)).length with h0|h0
     ·omega
     ·obtain⟨e',h1,h2⟩:=(d3 _ i e1).2 h0;have:=(hk _ e' h1).1 (hancl e' h2);omega
    rw[show k=(ch.filter (·<i)).length by omega];exact e1
   have hklt:=(List.getElem?_eq_some_iff.1 hik).1;have hdrop:(ch.drop k).map (fun i=>ops.getD i default)=o::(ch.drop (k+1)).map (fun i=>ops.getD i default):=by
    rw[List.drop_eq_getElem_cons hklt,List.map_cons]
    congr 1
    rw[(List.getElem?_eq_some_iff.1 hik).2,List.getD_eq_getElem?_getD,ho];rfl
   rw[hdrop,cgo] at hpend;have hlook:∀t∈o.looksAt ops.toArray,∀v,VC (R0++Rc) listed s'.e t v→v=eget (envAfter s'.e (R0++Rc)) t:=by
    intro t ht v hv;have hw_:∀z∈R0++Rc,z.o.dst=some t→i≠z.k∧((z.k<i∧anc (ancs ops []) z.k i=true)∨(i<z.k∧anc (ancs ops []) i z.k=true)):=fun z hz hd=>d2 i z.k o z.o t ho (hops Rc hRc z hz).1 ht hd;rcases hv with⟨z,hz,hd,hl,rfl⟩|⟨hno,rfl⟩
    ·rw[envR_at hz hd (hnod Rc hRc) (fun y hy hyd=>d1 y.k z.k y.o z.o t (hops Rc hRc y hy).1 (hops Rc hRc z hz).1 hyd hd)]
    ·rw[eget_envAfter_none (R0++Rc) s'.e t (fun z hz hd=>by
      have hf:=hno z hz hd;obtain⟨hne,h1|h1⟩:=hw_ z hz hd
      ·have:=hancl z.k h1.2;rw[hf] at this;cases this
      ·rcases List.mem_append.1 hz with hz0|hzc
       ·obtain⟨j,hj⟩:=hR0m z hz0;obtain⟨b1,_,b3,_⟩:=hR.recs j z hj;have:=hlight z.k i (List.getElem?_eq_some_iff.1 b1).1 b3 (List.contains_iff_mem.1 hch);rw[this] at h1;cases h1.2
       ·obtain⟨m,hm,e2⟩:=List.mem_iff_getElem.1 hzc;have h2:=(hRc m z (by rw[List.getElem?_eq_getElem hm,e2])).1;have:=(hk m z.k h2).2 (by omega);rw[hf] at this;cases this)]
   obtain⟨henv,haev⟩:=hrun _ hlook;refine cexec_wp (cexec_congr haev hpend) hcon henv fun v H' T' cv w' L' hκ g1 g2 g3=>?_;obtain⟨hst',hput⟩:=hκ;obtain⟨hdst,hput⟩:=putE_spec hput;refine behind ⟨o,envAfter s'.e (R0++Rc),true,v,i,true⟩ H' T' cv w' L' (k+1) (Rc++[⟨o,envAfter s'.e (R0++Rc),true,v,i,true⟩]) rfl rfl hdst (by simp) (fun y hy=>?_) (fun y hy=>?_) (fun m j hm=>?_) (by omega) (by simp[hRcl]) (fun m x hx=>?_) hst' ?_ g1 g2 g3
   ·rw[←List.append_assoc] at hy;rcases List.mem_append.1 hy with hy|hy
    ·exact .inr hy
    ·exact .inl (List.mem_singleton.1 hy)
   ·rw[←List.append_assoc];exact List.mem_append_left _ hy
   ·by_cases hij:i=j
    ·subst hij;have:=hchn _ _ _ hm hik;simp[hisz];omega
    ·rw[getD_set_ne false hij,hk m j hm]
     constructor
     ·intro h;omega
     ·intro h;rcases Nat.lt_or_ge m k with h1|h1
      ·exact h1
      ·have:m=k:=by omega
       subst this;rw[hik] at hm
       injection hm with hm
       exact absurd hm hij
   ·rcases Nat.lt_or_ge m Rc.length with h1|h1
    ·rw[List.getElem?_append_left h1] at hx;exact hRc m x hx
    ·rw[List.getElem?_append_right h1] at hx;have hm:m=Rc.length:=by
      rcases Nat.lt_or_ge (m-Rc.length) 1 with h2|h2
      ·omega
      ·rw[List.getElem?_eq_none (by simpa using h2)] at hx;cases hx
     subst hm;simp at hx;subst hx;exact⟨by rw[hRcl];exact hik,ho,hdst⟩
   ·rw[←List.append_assoc,envAfter_snoc];exact hput
 have some_ready:∀(listed:Array Bool),listed.size=ops.length→Region.ready .any ops.toArray listed=[]→∀i,i<ops.length→listed.getD i false=true:=by
  intro listed hsz hr i
  induction i using Nat.strongRecOn with
  |_ i ih=>
   intro hil
   cases hli:listed.getD i false with
   |true=>rfl
   |false=>
    exfalso;have hmem:i∈Region.ready .any ops.toArray listed:=by
     refine mem_ready.2 ⟨by rw[getD_false (by omega)];exact hli,ops[i],by rw[List.getElem?_toArray,List.getElem?_eq_getElem hil],fun e he hb=>?_⟩;have hlt:=d6 i _ (List.getElem?_eq_getElem hil) e he hb;exact ih e.on hlt (by omega)
    rw[hr] at hmem;simp at hmem
 have key:∀(fuel:Nat)(listed:Array Bool)(a:Act)(w:World),CInv C K ch ops R0 s' L0 w0 listed a w→(∀i,i<ops.length→listed.getD i false=true)∨(List.range ops.length).countP (fun i=>!listed.getD i false)≤fuel→
   wpAny C.P .any ops.toArray (Post C (ExitK K Q) L0 s' w0) fuel listed a w:=by
  intro fuel
  induction fuel with
  |zero=>
   intro listed a w hI hcnt;have hall:∀i,i<ops.length→listed.getD i false=true:=by
    rcases hcnt with h1|h1
    ·exact h1
    ·intro i hi;have h2:(List.range ops.length).countP (fun i=>!listed.getD i false)=0:=by omega
     have:=List.countP_eq_zero.1 h2 i (List.mem_range.2 hi);simpa using this
   refine⟨?_,done listed a w hI hall⟩;rw[List.eq_nil_iff_forall_not_mem];intro i hi;obtain⟨h1,o,ho,_⟩:=mem_ready.1 hi;rw[List.getElem?_toArray] at ho;have hil:=(List.getElem?_eq_some_iff.1 ho).1;rw[getD_false (by rw[hI.size];omega),hall i hil] at h1
   cases h1
  |succ fuel ih=>
   intro listed a w hI hcnt;refine⟨fun hr=>done listed a w hI (some_ready listed hI.size hr),fun i hi=>?_⟩;refine stp listed a w i _ hI hi fun a' w' hI'=>ih _ a' w' hI' ?_;obtain⟨h1,o,ho,_⟩:=mem_ready.1 hi;rw[List.getElem?_toArray] at ho;have hil:=(List.getElem?_eq_some_iff.1 ho).1;have hisz:i<listed.size:=by rw[hI.size];omega
   rw[getD_false hisz] at h1;rcases hcnt with h2|h2
   ·rw[h2 i hil] at h1;cases h1
   ·right
    have:(List.range ops.length).countP (fun j=>!(listed.setIfInBounds i true).getD j false)+1≤(List.range ops.length).countP (fun j=>!listed.getD j false):=by
     have hsplit:(List.range ops.length).countP (fun j=>!listed.getD j false)=(List.range ops.length).countP (fun j=>!(listed.setIfInBounds i true).getD j false)+(List.range ops.length).countP (fun j=>decide (j=i)):=by
      generalize List.range ops.length=l
      induction l with
      |nil=>rfl
      |cons y r ihl=>
       simp only[List.countP_cons,ihl]
       by_cases hy:y=i
       ·subst hy;simp[h1,hisz];omega
       ·rw[getD_set_ne false (fun e=>hy e.symm)];simp[hy];omega
     have hpos:0<(List.range ops.length).countP (fun j=>decide (j=i)):=List.countP_pos_iff.2 ⟨i,List.mem_range.2 hil,by simp⟩;omega
    omega
 have hsz:ops.toArray.size=ops.length:=by simp
 rw[hsz];refine key ops.length _ a0 _ ⟨by simp,fun i j hl _=>?_,⟨0,[],s'.H,s'.T,L0,fun m i hmi=>?_,Nat.zero_le _,rfl,fun m x hx=>by simp at hx,stab_of fun x hx=>?_,by simpa using hgo,hc.con.drew rfl,hc.nb,hc.tb,fun t=>?_,?_⟩,hc.size,hc.defers⟩ (.inr ?_)
 ·exfalso
  by_cases hi:i<ops.length<;>simp[hi] at hl
 ·constructor
  ·intro hl;exfalso
   by_cases hi:i<ops.length<;>simp[hi] at hl
  ·intro h;omega
 ·obtain⟨j,hj⟩:=hR0m x hx;exact(hR.recs j x hj).2.2.2.2.1
 ·refine⟨eget s'.e t,.inr ⟨fun x hx hd=>?_,rfl⟩,?_⟩
  ·by_cases hj:x.k<ops.length<;>simp[hj]
  ·have kd:Keeps L0 s'.H.length s'.T w0 L0 s'.H.length s'.T { w0 with drawn:=w0.drawn+1 }:=(Ev.drew (H:=s'.H) (T:=s'.T) (L:=L0) (w:=w0) (w':={ w0 with drawn:=w0.drawn+1 }) rfl rfl rfl rfl (Nat.le_succ _)).keeps;exact(hc.env t).keep kd
 ·exact(Ev.drew (H:=s'.H) (T:=s'.T) (L:=L0) (w:=w0) (w':={ w0 with drawn:=w0.drawn+1 }) rfl rfl rfl rfl (Nat.le_succ _)).mono hc.nb hc.tb
 ·refine Nat.le_trans (List.countP_le_length) ?_;simp
theorem aw_chainK {C:Cx}{id:Nat}{ops:List Oper}{Q:Exit→St→Prop}{s:St}(K:St→Prop)(ch:List Nat)(hm:C.P.follows .mixedOrders=true)(hck:chCk ops ch=true)
  (h:cdraw C K ch ops s.H s.T (prune C.nv s.e)):AW C (.region id ops.toArray true) (ExitK K Q) s:=
 fun L0 w0 a0 hc0=>wp_region_any hm (chain_game K ch hck h L0 w0 a0 hc0)
theorem aw_chain0 {C:Cx}{id:Nat}{ops:List Oper}{Q:Exit→St→Prop}{s:St}(ch:List Nat)(hm:C.P.follows .mixedOrders=true)(hck:chCk ops ch=true)
  (h:∀K:St→Prop,(∀s,Q .normal s→K s)→cdraw C K ch ops s.H s.T (prune C.nv s.e)):AW C (.region id ops.toArray true) Q s:=
 (aw_chainK (Q:=Q) (fun s=>Q .normal s) ch hm hck (h _ fun _ h=>h)).mono fun e s q=>by cases e<;>exact q
theorem mexec_mono {C:Cx}{o:Oper}{e:Env}{H:List Blk}{T:Toks}{κ κ':AV→List Blk→Toks→Prop}(h:∀v J U,κ v J U→κ' v J U)(k:mexec C o e H T κ):mexec C o e H T κ':=by
 unfold mexec at k ⊢
 split at k
 ·exact fun nc hnc=>h _ _ _ (k nc hnc)
 ·split at k
  ·obtain⟨el,vs,xs,m,a1,a2,a3,a4,a5,a6,a7,a8,k1,k2⟩:=k;exact⟨el,vs,xs,m,a1,a2,a3,a4,a5,a6,a7,a8,fun x=>h _ _ _ (k1 x),fun nc x y=>h _ _ _ (k2 nc x y)⟩
  ·exact k.elim
theorem cexec_mono {C:Cx}{o:Oper}{e:Env}{H:List Blk}{T:Toks}{κ κ':AV→List Blk→Toks→Prop}(h:∀v J U,κ v J U→κ' v J U)(k:cexec C o e H T κ):cexec C o e H T κ':=by
 unfold cexec at k ⊢
 split at k
 ·rename_i h1;rw[if_pos h1];exact h _ _ _ k
 ·rename_i h1;rw[if_neg h1]
  split at k
  ·exact mexec_mono h k
  ·split at k
   ·exact mexec_mono h k
   ·split at k
    ·exact k.elim
    ·split at k
     ·exact h _ _ _ k
     ·exact k.elim
def cgo2 (C:Cx)(K:St→Prop)(P:List Blk→Toks→Prop):List Oper→Env→List Blk→Toks→Prop
 |[],e,H,T=>K ⟨e,H,T⟩
 |o::r,e,H,T=>cexec C o e H T (fun v H' T'=>P H' T'∧putE C.nt o.dst v e (fun e'=>cgo2 C K P r e' H' T'))
theorem putE_mono {nt:Nat}{dst:Option Tmp}{v:AV}{e:Env}{k k':Env→Prop}(h:∀e,k e→k' e)(x:putE nt dst v e k):putE nt dst v e k':=by
 cases dst with
 |none=>exact h _ x
 |some d=>exact⟨x.1,h _ x.2⟩
theorem cgo_of {C:Cx}{K:St→Prop}{R:List DRec}(P:List Blk→Toks→Prop)(h1:∀J U,P J U→stab C.P J U R):∀{l:List Oper} {e:Env} {H:List Blk} {T:Toks},cgo2 C K P l e H T→cgo C K R l e H T
 |[],_,_,_,h=>h
 |o::r,e,H,T,h=>cexec_mono (fun v J U ⟨a,b⟩=>⟨h1 J U a,putE_mono (fun e' x=>cgo_of P h1 x) b⟩) h
theorem cgo2_nil {C:Cx}{K:St→Prop}{P:List Blk→Toks→Prop}{e:Env}{H:List Blk}{T:Toks}:cgo2 C K P [] e H T=K ⟨e,H,T⟩:=rfl
theorem cgo2_cons {C:Cx}{K:St→Prop}{P:List Blk→Toks→Prop}{o:Oper}{r:List Oper}{e:Env}{H:List Blk}{T:Toks}:cgo2 C K P (o::r) e H T=cexec C o e H T (fun v H' T'=>P H' T'∧putE C.nt o.dst v e (fun e'=>cgo2 C K P r e' H' T')):=rfl
theorem putE_some {nt d:Nat}{v:AV}{e:Env}{k:Env→Prop}(h:d<nt)(x:k (eput e d v)):putE nt (some d) v e k:=⟨h,x⟩
theorem cexec_z {C:Cx}{o:Oper}{e:Env}{H:List Blk}{T:Toks}{κ:AV→List Blk→Toks→Prop}(hz:acapz C.P o e H=true)(k:κ (.sl 0 [] .full) H T):cexec C o e H T κ:=by
 unfold cexec;rw[if_pos hz];exact k
theorem cexec_cap0 {C:Cx}{o:Oper}{e:Env}{H:List Blk}{T:Toks}{κ:AV→List Blk→Toks→Prop}{m z:Nat}{ys:List AV}(hz:acapz C.P o e H=false)(h0:acap0 C.P C.bx o e H=some (m,ys,z))
  (k:∀nc,m≤nc→κ (.csl H.length m nc) (H++[.cells (ys++List.replicate ((nc-m)*z) .top)]) T):cexec C o e H T κ:=by
 unfold cexec;rw[if_neg (by rw[hz];simp),h0]
 dsimp only
 unfold mexec;rw[h0];exact k
theorem cexec_op {C:Cx}{o:Oper}{e:Env}{H H':List Blk}{T T':Toks}{κ:AV→List Blk→Toks→Prop}{v:AV}(hz:acapz C.P o e H=false)(h0:acap0 C.P C.bx o e H=none)(hc:acap o e=none)(hl:acallee o e=none)(ho:aop C.P o e H T=some (v,H',T'))(k:κ v H' T'):cexec C o e H T κ:=by
 unfold cexec;rw[if_neg (by rw[hz];simp),h0,hc,hl,ho];exact k
theorem cexec_csl {C:Cx}{o:Oper}{e:Env}{H:List Blk}{T:Toks}{κ:AV→List Blk→Toks→Prop}{t t2:TypeId}{i n cap:Nat}{x:AV}(el:TypeId)(A B xs:List AV)(m:Nat)
  (hz:acapz C.P o e H=false) (h0:acap0 C.P C.bx o e H=none) (hc:acap o e=some (t,t2,i,n,cap,x)) (hu:C.P.underlying t=some (.slice el)) (hH:H[i]?=some (.cells (A++B))) (hA:A.length=n*C.P.cellsOf el) (hl:(A++B).length=cap*C.P.cellsOf el)
  (hs:asrc H (C.P.cellsOf el) x=some (m,xs)) (hxs:xs.length=m*C.P.cellsOf el) (hby:(n+m)*C.P.bytesOf el≤140737488355328) (hmx:n+m≤9223372036854775807) (hni:notInt C.P t2=true) (hzs:(azero C.P el).isSome=true)
  (k:∀(i' cap':Nat)(B':List AV)(J':List Blk),(J'=H.set i (.cells (A++xs++B'))∧i'=i∨J'=H++[.cells (A++xs++B')]∧i'=H.length)→(A++xs++B').length=cap'*C.P.cellsOf el→n+m≤cap'→κ (.csl i' (n+m) cap') J' T):cexec C o e H T κ:=by
 unfold cexec;rw[if_neg (by rw[hz];simp),h0,hc]
 dsimp only
 unfold mexec;rw[h0,hc]
 dsimp only
 have htk:(A++B).take (n*C.P.cellsOf el)=A:=by rw[←hA,List.take_left' rfl]
 refine⟨el,A++B,xs,m,hu,hH,hl,hs,hby,hmx,hni,hzs,fun hle=>?_,fun nc hlt hnc=>?_⟩
 ·have h1:(n+m)*C.P.cellsOf el≤cap*C.P.cellsOf el:=Nat.mul_le_mul_right _ hle;rw[htk];refine k i cap _ _ (.inl ⟨rfl,rfl⟩) ?_ hle;rw[List.length_append,List.length_append,List.length_drop,hA,hxs,hl];rw[Nat.add_mul] at h1 ⊢;omega
 ·have h1:(n+m)*C.P.cellsOf el≤nc*C.P.cellsOf el:=Nat.mul_le_mul_right _ hnc;rw[htk];refine k H.length nc _ _ (.inr ⟨rfl,rfl⟩) ?_ hnc;rw[List.length_append,List.length_append,List.length_replicate,hA,hxs,Nat.sub_mul];rw[Nat.add_mul] at h1 ⊢;omega
attribute [simp] cdraw light cexec acapz stab
open Go.ChangeShapes Go.WideShapes
def m0 (w:World)(b:Nat):Nat:=match w.heap[b]? with
 |some (.cells c _ _)=>c.size
 |_=>0
def lay0 (w:World):Lay:=⟨fun _=>0,fun _=>⟨0,0,0⟩,m0 w,true⟩
theorem cell_m0' {w:World}{b o:Nat}{v:Value}(h:w.cell? ⟨b,o,none⟩=some v):o<m0 w b:=by
 unfold World.cell? at h;unfold m0;simp only at h
 cases hb:w.heap[b]? with
 |none=>rw[hb] at h;simp at h
 |some x=>
  rw[hb] at h
  cases x with
  |cells c t fr=>
   simp only at h ⊢;rcases Nat.lt_or_ge o c.size with g|g
   ·exact g
   ·rw[Array.getElem?_eq_none g] at h;simp at h
  |_=>simp at h
theorem con0 (w:World)(hg:∀x∈gints,∃m,w.cell? ⟨x.1,x.2,none⟩=some (.int .i64 m)):Con (lay0 w) [] [] w:=by
 refine⟨fun i b h=>by simp at h,fun i j h=>by simp at h,fun t u z h=>by simp at h,fun t u z t' u' z' h=>by simp at h,fun t u z i h=>by simp at h,fun b hb=>?_,fun x hx=>by obtain⟨m,hm⟩:=hg x hx;exact⟨cell_m0' hm,m,hm⟩⟩;show m0 w b=0;unfold m0;rw[Array.getElem?_eq_none hb]
theorem cell_m0 {w:World}{b o:Nat}{v:Value}(h:w.cell? ⟨b,o,none⟩=some v):o<m0 w b:=by
 unfold World.cell? at h;unfold m0;simp only at h
 cases hb:w.heap[b]? with
 |none=>rw[hb] at h;simp at h
 |some x=>
  rw[hb] at h
  cases x with
  |cells c t fr=>
   simp only at h ⊢;rcases Nat.lt_or_ge o c.size with g|g
   ·exact g
   ·rw[Array.getElem?_eq_none g] at h;simp at h
  |_=>simp at h
abbrev RC (w:World)(vs:List AV)(c:List Value):Prop:=RepC (lay0 w) 0 [] w vs c
theorem RC.one {w : World} {a : AV} {v : Value} (h : Rep (lay0 w) 0 [] w a v) (h1 : v.oneCell' = true) : RC w [a] [v] :=
  ⟨rfl, fun j hj => by have : j = 0 := by simp at hj; omega
                       subst this; exact h1, fun j hj hj' => by
    have : j = 0 := by simp at hj; omega
    subst this; exact h⟩
theorem RC.rep {w:World}{a:AV}{v:Value}(h:RC w [a] [v]):Rep (lay0 w) 0 [] w a v:=h.2.2 0 (by simp) (by simp)
theorem RC.append {w:World}{a b:List AV}{c d:List Value}(h:RC w a c)(k:RC w b d):RC w (a++b) (c++d):=by
 refine⟨by simp[h.1,k.1],fun j hj=>?_,fun j hj hj'=>?_⟩
 ·rw[List.getElem_append]
  split
  ·exact h.2.1 _ _
  ·exact k.2.1 _ _
 ·rw[List.getElem_append,List.getElem_append]
  by_cases hlt:j<a.length
  ·rw[dif_pos hlt,dif_pos (by rw[h.1];exact hlt)];exact h.2.2 _ _ _
  ·rw[dif_neg hlt,dif_neg (by rw[h.1];exact hlt)];have:=k.2.2 (j-a.length) (by simp at hj;omega) (by simp at hj';rw[h.1] at hj';omega);simpa[h.1] using this
section
variable {H : Type} {enc : TypeId × Value → H} {P : Program} {w : World} {base fuel : Nat} {sp : Nat → Bool} {held : Bool} {t e : TypeId} {cs : List Value} {x : DataW H × List MemPlace}
theorem rc_int {k:IntKind}(ht:P.underlying t=some (.int k))(h:DataW.trod enc P w base sp held fuel t cs=some x):∃n,(Lit.int k n).wf=true∧RC w [.int k n] cs:=by
 obtain⟨n,rfl,_,hw⟩:=DataW.trod_int ht h;exact⟨n,hw,RC.one (.int k n) rfl⟩
theorem rc_str (ht:P.underlying t=some .string)(h:DataW.trod enc P w base sp held fuel t cs=some x):∃s:List UInt8,s.length≤maxLen∧RC w [.str s] cs:=by
 obtain⟨s,rfl,_,hs⟩:=DataW.trod_string ht h;obtain⟨⟨l⟩⟩:=s;refine⟨l,by simpa[ByteArray.size] using hs,RC.one ?_ rfl⟩;exact Rep.str l
theorem flat_get {α:Type}{c:Nat}(es:List (List α))(hc:∀a∈es,a.length=c)(i j:Nat)(hi:i<es.length)(hj:j<c):es.flatten[i*c+j]?=(es[i]'hi)[j]?:=by
 induction es generalizing i with
 |nil=>simp at hi
 |cons a r ih=>
  have ha:=hc a (by simp)
  cases i with
  |zero=>simp only[Nat.zero_mul,Nat.zero_add,List.flatten_cons,List.getElem_cons_zero];rw[List.getElem?_append_left (by omega)]
  |succ i=>
   simp only[List.flatten_cons,List.getElem_cons_succ];rw[List.getElem?_append_right (by rw[ha,Nat.succ_mul];omega)];have:=ih (fun b hb=>hc b (by simp[hb])) i (by simpa using hi);rw[←this]
   congr 1
   rw[ha,Nat.succ_mul];omega
theorem flat_len {α:Type}{c:Nat}(es:List (List α))(hc:∀a∈es,a.length=c):es.flatten.length=es.length*c:=by
 induction es with
 |nil=>simp
 |cons a r ih=>simp[hc a (by simp),ih (fun b hb=>hc b (by simp[hb])),Nat.succ_mul];omega
theorem RC.flatten {c:Nat}:∀(es:List (List AV)) (css:List (List Value)),es.length=css.length→(∀i (h:i<es.length) (h':i<css.length),RC w (es[i]'h) (css[i]'h'))→RC w es.flatten css.flatten:=by
 intro es
 induction es with
 |nil=>intro css hl _;cases css with
  |nil=>exact⟨rfl,fun _ h=>by simp at h,fun _ h=>by simp at h⟩
  |cons _ _=>simp at hl
 |cons a r ih=>
  intro css hl h
  cases css with
  |nil=>simp at hl
  |cons b s=>
   simp only[List.flatten_cons];refine RC.append (h 0 (by simp) (by simp)) (ih s (by simpa using hl) fun i hi hi'=>?_);exact h (i+1) (by simpa using hi) (by simpa using hi')
end
section
variable {H : Type} {enc : TypeId × Value → H} {P : Program} {w : World} {base fuel : Nat} {sp : Nat → Bool} {held : Bool} {t : TypeId} {cs : List Value} {x : DataW H × List MemPlace} {fs : Array Field}
theorem rc_fields (ht:P.underlying t=some (.struct fs))(h:DataW.trod enc P w base sp held fuel t cs=some x):cs.length=P.cellsOf t∧
  ∀(i:Nat)(f:Field),fs[i]?=some f→∃n y,DataW.trod enc P w base sp held n f.type ((cs.drop f.offset).take (P.cellsOf f.type))=some y:=by
 obtain⟨xs,n,_,_,hl,hx,hf⟩:=DataW.trod_struct ht h;refine⟨hl,fun i f hi=>?_⟩;have hlt:i<xs.length:=by rw[hx];exact(Array.getElem?_eq_some_iff.1 hi).1
 exact⟨n,xs[i],by rw[hf i f hi,List.getElem?_eq_getElem hlt]⟩
end
theorem ACall.law {P:Program}{f:FuncId}{avs:List AV}{w:World}{args:Array Value}(h:ACall P f avs [] [] (fun r _ _=>r=.bool true))(hg:∀x∈gints,∃m,w.cell? ⟨x.1,x.2,none⟩=some (.int .i64 m))(hs:args.size=avs.length)
  (hr:∀(j:Nat)(h:j<avs.length)(h':j<args.size),Rep (lay0 w) 0 [] w (avs[j]'h) (args[j]'h')) :
  Calls P f args w fun e w'=>e=.returned (.bool true)∧Go.RowKit.Below w.heap.size w w':=by
 refine(h.2 (lay0 w) w args (con0 w hg) hs hr).mono ?_;rintro e w' ⟨r,H',T',L',cv,rfl,rfl,_,hrep,hev⟩
 cases hrep with
 |bool _=>exact⟨rfl,hev.os,hev.tape,hev.output,hev.size,fun k hk=>hev.frame k hk (fun hw=>by
   rcases hw with⟨i,hi,_⟩|⟨t,u,z,ht,_⟩
   ·exact Nat.not_lt_zero _ hi
   ·simp at ht)⟩
section
open Go.RowKit
variable {H : Type} {enc : TypeId × Value → H} {P : Program}
theorem post_of_below {f:Func}{s:ChangeSpec}{apart fresh handsOn again:Bool}{W W':World}{args:Array Value}{v:Value}{ds gs:List (DataW H)}{before pa pv:List MemPlace}
  (hW:DataW.Whole enc P f.params.toList s.vars apart W args.toList ds gs before)
  (hres:∀(b:Nat)(sp:Nat→Bool)(hd:Bool),DataW.TrodAll enc P W' b sp hd f.resultTypes.toList (v.resultList f.resultTypes.size) (s.fn H (ds++gs)).results [])
  (hargs:∀sp:Nat→Bool,(∀p∈before,sp p.block=true)→DataW.TrodAll enc P W' 0 sp true f.params.toList args.toList (s.fn H (ds++gs)).args pa)
  (hvars:∀sp:Nat→Bool,(∀p∈before,sp p.block=true)→DataW.TrodVars enc P W' sp s.vars (s.fn H (ds++gs)).vars pv)
  (hps:before=pa++pv) (hb:Go.RowKit.Below W.heap.size W W')
  (hok:∀(j:Nat)(t:TypeId)(r:Value),f.resultTypes[j]?=some t→(v.resultList f.resultTypes.size)[j]?=some r→Value.okWide P W' .any 0 t r) :
  s.post enc P f apart fresh handsOn again W args v W':=by
 have hlt:∀p∈before,p.block<W.heap.size:=fun p hp=>hW.lt p hp;have hold:∀p∈before,(fun b=>decide (b<W.heap.size)) p.block=true:=fun p hp=>by simpa using hlt p hp
 refine⟨ds,gs,before,[],pa,pv,hW,hres _ _ _,hargs _ hold,hvars _ hold,World.keptBut_mono (fun p hp=>⟨hp,?_⟩) (hb.frame (·∈before)),fun _=>?_⟩
 ·rw[hps,List.mem_append] at hp;exact Or.inr hp
 ·obtain⟨_,_,_,_,_,hz,hn⟩:=hW;refine⟨hok,_,_,([]++pa)++pv,⟨[]++pa,pv,trodAll_append (hargs _ (fun _ _=>rfl)) (hres _ _ _),hvars _ (fun _ _=>rfl),rfl,?_,?_⟩,?_⟩
  ·intro b off hp;have hin:MemPlace.cell b off∈before:=by rw[hps];simpa using hp
   rw[hb.frozen (hlt _ hin)];exact hz b off hin
  ·intro ha;have:=hn ha;rw[hps] at this;simpa using this
  ·intro p hp _;rw[hps];simpa using hp
theorem trodAll_stays (hl:laidOutB P=true){W W':World}(hb:Go.RowKit.Below W.heap.size W W'){sp:Nat→Bool}:∀{ts:List TypeId} {vs:List Value} {ds:List (DataW H)} {ps:List MemPlace},DataW.TrodAll enc P W 0 (fun _=>true) true ts vs ds ps→
  (∀t∈ts,P.readableRec t=true∧t<P.types.size)→(∀x∈ps,x.block<W.heap.size)→(∀x∈ps,sp x.block=true)→DataW.TrodAll enc P W' 0 sp true ts vs ds ps:=by
 intro ts
 induction ts with
 |nil=>
  intro vs ds ps h _ _ _;obtain⟨rfl,rfl,rfl⟩:=trodAll_nil h;exact trodAll_mk0
 |cons t ts ih=>
  intro vs ds ps h ht hlt hsp;obtain⟨v0,vs0,d0,ds0,p0,q0,rfl,rfl,rfl,h0,r0⟩:=trodAll_cons h;have h1:=ht t (by simp);exact trodAll_cons_mk (WideElems.Trod_stays hl h1.1 h1.2 h0 (fun x hx=>hb.same (hlt x (by simp[hx]))) (fun x hx=>hsp x (by simp[hx])))
   (ih r0 (fun t' h'=>ht t' (by simp[h'])) (fun x hx=>hlt x (by simp[hx])) (fun x hx=>hsp x (by simp[hx])))
theorem law_close {f:Func}{s:ChangeSpec}{apart fresh handsOn again:Bool}{W W':World}{args:Array Value}{ds gs:List (DataW H)}{before:List MemPlace}{tb:TypeId}
  (hW:DataW.Whole enc P f.params.toList s.vars apart W args.toList ds gs before) (hv:s.vars=[]) (hfn:s.fn H ds={ results:=[.lit (.bool true)],args:=ds }) (hr:f.resultTypes=#[tb]) (htb:P.underlying tb=some .bool)
  (hl:laidOutB P=true) (hts:∀t∈f.params.toList,P.readableRec t=true∧t<P.types.size) (hb:Go.RowKit.Below W.heap.size W W') :
  s.post enc P f apart fresh handsOn again W args (.bool true) W':=by
 have hW':=hW;obtain⟨p,q,hA,hV,rfl,hfz,hnd⟩:=hW;rw[hv] at hV;obtain⟨rfl,rfl⟩:=trodVars_none hV;simp only[List.append_nil] at hW';have hlt:∀x∈p,x.block<W.heap.size:=fun x hx=>hW'.lt x hx;refine post_of_below (pa:=p) (pv:=[]) hW' (fun b sp hd=>?_) (fun sp hsp=>?_) (fun sp hsp=>?_) (by simp) hb (ok_one hr rfl (okWide_bool_mk htb _))
 ·rw[List.append_nil,hfn,hr];exact trodAll_cons_mk (shut_bool htb _) trodAll_mk0
 ·rw[List.append_nil,hfn];exact trodAll_stays hl hb hA hts hlt hsp
 ·rw[List.append_nil,hfn,hv];rfl
end
section
variable {H : Type} {enc : TypeId × Value → H} {P : Program} {w : World} {b0 base : Nat} {sp : Nat → Bool} {held : Bool} {t e : TypeId} {v : Value} {d : DataW H} {ps : List MemPlace} {r : Reach}
end
section
variable {H : List Blk} {T : Toks} {L : Lay} {w : World}
theorem Con.ownB {n z:Nat}{cs:List AV}(h:Con L (H++[.cells [.sl n cs .full]]) T w)(hz:0<z) :
  Con (L.withTok T.length ⟨0,0,0⟩) (H++[.cells [.sl n cs (.own T.length)]]) (T++[(cs.length,z)]) w:=by
 have h1:=h.own cs.length hz;have el:(H++[Blk.cells [.sl n cs .full]]).length=(H++[Blk.cells [.sl n cs (.own T.length)]]).length:=by simp
 refine⟨fun i b hi=>?_,fun i j hi hj=>h1.inj i j (by rw[el];exact hi) (by rw[el];exact hj),h1.tok,h1.tinj,fun t u z' i ht hu hi=>h1.tbox t u z' i ht hu (by rw[el];exact hi),h1.mz,h1.gl⟩;rw[←el];rcases Nat.lt_or_ge i H.length with hl|hl
 ·rw[List.getElem?_append_left hl] at hi;exact h1.box i b (by rw[List.getElem?_append_left hl];exact hi)
 ·have hi':=(List.getElem?_eq_some_iff.1 hi).1;have:i=H.length:=by simp at hi';omega
  subst this;rw[new_at0] at hi;simp at hi;subst hi;obtain⟨c,t,fr,g1,g2,g3,g3',g4,g5⟩:=h.box H.length (.cells [.sl n cs .full]) (by simp);refine⟨c,t,fr,g1,g2,by simpa using g3,g3',fun j hj hj'=>?_,g5⟩;have:j=0:=by simp at hj;omega
  subst this;exact(g4 0 (by simp) hj').own
theorem aw_ownB {C:Cx}{c:Code}{Q:Exit→St→Prop}{s:St}(z:Nat)(H:List Blk)(n:Nat)(cs:List AV)(hz:0<z)(hH:s.H=H++[.cells [.sl n cs .full]])
  (h:AW C c Q ⟨s.e,H++[.cells [.sl n cs (.own s.T.length)]],s.T++[(cs.length,z)]⟩):AW C c Q s:=by
 obtain⟨e,H0,T⟩:=s;simp only at hH h;subst hH;intro L w a hc;have el:(H++[Blk.cells [.sl n cs .full]]).length=(H++[Blk.cells [.sl n cs (.own T.length)]]).length:=by simp
 have ev:=Ev.own (H:=H++[.cells [.sl n cs .full]]) (T:=T) (L:=L) (w:=w) cs.length z;have ev':=ev.mono hc.nb hc.tb;have ek:Keeps L (H++[Blk.cells [.sl n cs .full]]).length T w (L.withTok T.length ⟨0,0,0⟩) (H++[Blk.cells [.sl n cs (.own T.length)]]).length (T++[(cs.length,z)]) w:=by
  rw[←el];exact ev.keeps
 refine wp_mono (h (L.withTok T.length ⟨0,0,0⟩) w a ⟨by rw[←el];exact hc.nb,by simp;have:=hc.tb;simp at this;omega,hc.con.ownB hz,hc.size,hc.defers,fun t=>(hc.env t).keep ek⟩) fun _ _ _ k=>
  Post.step (s1:=⟨e,H++[.cells [.sl n cs (.own T.length)]],T++[(cs.length,z)]⟩) (by rw[←el];exact ev') k
end
section
variable {H : List Blk} {T : Toks} {L : Lay} {w : World}
theorem Con.ownC {n z k:Nat}{cs vs:List AV}(h:Con L (H++[.cells vs]) T w)(hk:vs[k]?=some (.sl n cs .full))(hz:0<z) :
  Con (L.withTok T.length ⟨0,0,0⟩) (H++[.cells (vs.set k (.sl n cs (.own T.length)))]) (T++[(cs.length,z)]) w:=by
 have h1:=h.own cs.length hz;have ev:=Ev.own (H:=H++[.cells vs]) (T:=T) (L:=L) (w:=w) cs.length z;have el:(H++[Blk.cells vs]).length=(H++[Blk.cells (vs.set k (.sl n cs (.own T.length)))]).length:=by simp
 refine⟨fun i b hi=>?_,fun i j hi hj=>h1.inj i j (by rw[el];exact hi) (by rw[el];exact hj),h1.tok,h1.tinj,fun t u z' i ht hu hi=>h1.tbox t u z' i ht hu (by rw[el];exact hi),h1.mz,h1.gl⟩;rw[←el];rcases Nat.lt_or_ge i H.length with hl|hl
 ·rw[List.getElem?_append_left hl] at hi;exact h1.box i b (by rw[List.getElem?_append_left hl];exact hi)
 ·have hi':=(List.getElem?_eq_some_iff.1 hi).1;have:i=H.length:=by simp at hi';omega
  subst this;rw[new_at0] at hi;simp at hi;subst hi;obtain⟨c,t,fr,g1,g2,g3,g3',g4,g5⟩:=h.box H.length (.cells vs) (by simp);refine⟨c,t,fr,g1,g2,by simpa using g3,g3',fun j hj hj'=>?_,g5⟩
  by_cases e:k=j
  ·subst e;have hj2:k<vs.length:=by simpa using hj
   rw[List.getElem?_eq_getElem hj2] at hk;have:=g4 k hj2 hj';rw[Option.some.inj hk] at this;rw[List.getElem_set_self];exact this.own
  ·rw[List.getElem_set_ne e];exact(g4 j (by simpa using hj) hj').keep ev.keeps
theorem aw_ownC {C:Cx}{c:Code}{Q:Exit→St→Prop}{s:St}(z k:Nat)(H:List Blk)(vs:List AV)(n:Nat)(cs:List AV)(hz:0<z)(hk:vs[k]?=some (.sl n cs .full))(hH:s.H=H++[.cells vs])
  (h:AW C c Q ⟨s.e,H++[.cells (vs.set k (.sl n cs (.own s.T.length)))],s.T++[(cs.length,z)]⟩):AW C c Q s:=by
 obtain⟨e,H0,T⟩:=s;simp only at hH h;subst hH;intro L w a hc;have el:(H++[Blk.cells vs]).length=(H++[Blk.cells (vs.set k (.sl n cs (.own T.length)))]).length:=by simp
 have ev:=Ev.own (H:=H++[.cells vs]) (T:=T) (L:=L) (w:=w) cs.length z;have ev':=ev.mono hc.nb hc.tb;have ek:Keeps L (H++[Blk.cells vs]).length T w (L.withTok T.length ⟨0,0,0⟩) (H++[Blk.cells (vs.set k (.sl n cs (.own T.length)))]).length (T++[(cs.length,z)]) w:=by
  rw[←el];exact ev.keeps
 refine wp_mono (h (L.withTok T.length ⟨0,0,0⟩) w a ⟨by rw[←el];exact hc.nb,by simp;have:=hc.tb;simp at this;omega,hc.con.ownC hk hz,hc.size,hc.defers,fun t=>(hc.env t).keep ek⟩) fun _ _ _ kk=>
  Post.step (s1:=⟨e,H++[.cells (vs.set k (.sl n cs (.own T.length)))],T++[(cs.length,z)]⟩) (by rw[←el];exact ev') kk
end
end Go.Am
