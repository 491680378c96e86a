/- Calls with more than one result: what they have made is forgotten. Boxes that are finished become immutable, however deep they lie. Boxes that are finished become immutable; the one they hang on stays a box. A region that draws its order, where two operations with effects may come in either order: both orders are walked. A region that draws its order, in which one operation with an effect (an append to a box that is held with its capacity) can come out in several ways. Regions that draw their order, in which the operations with an effect stand in a chain, each with several outcomes, and the others have no effect and nothing of the chain ahead of them. From the readings of a law's arguments to abstract values, and from a contract of the machine to the row's post. The arguments of a row, as abstract values. A box whose cell is an empty end gets a token for it: only the abstract state takes the step. A box of several cells, one of which is an empty end, gets a token for it.
  Conditions: none; it speaks of every program. -/
import Derived.Test.YtneohapkboaplaaGreatAmB
import Derived.WalkKit
import Derived.ProofKit
import Derived.OpenShut
import Derived.JoinedCond
import Derived.Below
import Derived.Carry
import Derived.DataElems
import Derived.ChangeSame
import Derived.ChangeMaps5
import Derived.WideShapes
set_option linter.all false
open Nat (lt_or_ge le_refl le_trans zero_add zero_le le_succ sub_self add_comm succ_mul)
open List (getElem?_eq_getElem getElem?_toArray getElem?_append_left getD_eq_getElem?_getD length_append take_left' mem_of_getElem? getElem?_take getElem?_eq_none getElem?_append_right take_append_of_le_length append_assoc mem_append_left getElem?_map map_cons contains_iff_mem append_nil map_nil take_length drop_drop)
namespace Go.Am
open Go
section
variable {P : Program} {f : FuncId} {args : List AV} {H : List aA} {T : ar}
end
inductive gk (n0 t0:Nat) (H:List aA):AV→AV→Prop
 |keep {v v':AV} (h:v'=v∨v'=cY v) (hb:Below n0 t0 v'):gk n0 t0 H v v'
 |top (v:AV):gk n0 t0 H v .top
 |bV {i o n:Nat} {vs cs:List AV} (hi:n0≤i) (hH:H[i]?=some (.cells vs)) (hl:o+cs.length≤vs.length) (hc:∀(j:Nat)(h:j<cs.length),gk n0 t0 H (vs.getD (o+j) .top) (cs[j]'h)):gk n0 t0 H (.bV i o n) (.sl n cs .none)
 |bJ {i n cap:Nat} {vs cs:List AV} (hi:n0≤i) (hH:H[i]?=some (.cells vs)) (hl:cs.length≤vs.length) (hc:∀(j:Nat)(h:j<cs.length),gk n0 t0 H (vs.getD j .top) (cs[j]'h)):gk n0 t0 H (.bJ i n cap) (.sl n cs .none)
 |TO {i n:Nat} {vs cs:List AV} (hi:n0≤i) (hH:H[i]?=some (.cells vs)) (hl:cs.length≤vs.length) (hc:∀(j:Nat)(h:j<cs.length),gk n0 t0 H (vs.getD j .top) (cs[j]'h)):gk n0 t0 H (.bJ i n n) (.sl n cs .full)
 |slT {n t:Nat} {cs ss:List AV} (hl:ss.length=cs.length) (ht:t<t0) (hc:∀(j:Nat)(h:j<ss.length),gk n0 t0 H (cs.getD j .top) (ss[j]'h)):gk n0 t0 H (.sl n cs (.own t)) (.sl n ss (.own t))
 |ptr {i o:Nat} {vs cs:List AV} (hi:n0≤i) (hH:H[i]?=some (.cells vs)) (hl:cs.length≤vs.length) (hc:∀(j:Nat)(h:j<cs.length),gk n0 t0 H (vs.getD j .top) (cs[j]'h)):gk n0 t0 H (.ptr i o) (.dK cs o)
 |sl {n:Nat} {cs ss:List AV} {tg:Tag} (hl:ss.length=cs.length) (hc:∀(j:Nat)(h:j<ss.length),gk n0 t0 H (cs.getD j .top) (ss[j]'h)):gk n0 t0 H (.sl n cs tg) (.sl n ss .none)
 |agg {cs ss:List AV} (hl:ss.length=cs.length) (hc:∀(j:Nat)(h:j<ss.length),gk n0 t0 H (cs.getD j .top) (ss[j]'h)):gk n0 t0 H (.agg cs) (.agg ss)
 |df {cs ss:List AV} (hl:ss.length=cs.length) (hc:∀(j:Nat)(h:j<ss.length),gk n0 t0 H (cs.getD j .top) (ss[j]'h)):gk n0 t0 H (.df cs) (.df ss)
open Classical in
noncomputable def Lay.nF (L:Lay)(n0 n:Nat)(w:World):Lay:=
 { L with m:=fun b=>if ∃i,n0≤i∧i<n∧L.bN i=b then max (L.m b) (match w.heap[b]? with|some (.cells c _ _)=>c.size|_=>0) else L.m b }
section
variable {L : Lay} {H : List aA} {T : ar} {w : World} {n0 t0 : Nat}
open Classical in
theorem mw (L:Lay)(n0 n:Nat)(w:World)(b:Nat):L.m b≤(L.nF n0 n w).m b:=by
 show L.m b≤if _ then _ else _
 split
 ·exact Nat.le_max_left _ _
 ·exact le_refl _
theorem cS.nF {m:Nat}(N:Nat)(T:ar):cS L N T w (L.nF n0 m w) N T w:=by
 exact⟨le_refl _,fun _ _=>rfl,fun t u z h=>⟨u,h,le_refl _,fun _=>rfl⟩,fun b=>mw L n0 m w b,fun _ _ _=>rfl,rfl⟩
open Classical in
theorem bT.nF (h:bT L H T w)(hn:n0≤H.length)(hf:bT L (H.take n0) (T.take t0) w):bT (L.nF n0 H.length w) (H.take n0) (T.take t0) w:=by
 have hlen:(H.take n0).length=n0:=by rw[List.length_take];omega
 have ne:∀b,(¬∃i,n0≤i∧i<H.length∧L.bN i=b)→(L.nF n0 H.length w).m b=L.m b:=fun b hb=>if_neg hb;have RD:∀(t:Nat)(x:Nat×Nat),(T.take t0)[t]?=some x→T[t]?=some x:=by
  intro t x hx;rw[getElem?_take] at hx
  split at hx
  ·exact hx
  ·cases hx
 have MM:∀i,i<n0→¬∃j,n0≤j∧j<H.length∧L.bN j=L.bN i:=by
  rintro i hi ⟨j,h1,h2,e⟩;have:=h.inj j i h2 (by omega) e;omega
 have PY:∀t u z,T[t]?=some (u,z)→u<(L.dM t).c*z→¬∃j,n0≤j∧j<H.length∧L.bN j=(L.dM t).b:=by
  rintro t u z ht hs ⟨j,h1,h2,e⟩;exact h.jv t u z j ht hs h2 e.symm
 refine⟨fun i x hx=>?_,hf.inj,fun t u z ht=>?_,hf.nH,hf.jv,fun x hx=>?_,h.gl.keep (fun b=>mw L n0 H.length w b) (fun _ _ _=>rfl)⟩
 ·have hi:=(List.getElem?_eq_some_iff.1 hx).1;refine(hf.box i x hx).stay (cS.nF _ _) hi rfl fun h5=>?_;rw[ne _ (MM i (by omega))];exact h5
 ·obtain⟨h1,h2⟩:=hf.tok t u z ht;refine⟨h1,fun hs=>?_⟩;obtain⟨c,e,fr,g1,g2,g3,g4⟩:=h2 hs;exact⟨c,e,fr,g1,g2,g3,by rw[show ((L.nF n0 H.length w).dM t).b=(L.dM t).b from rfl,ne _ (PY t u z (RD t _ ht) hs)];exact g4⟩
 ·rw[ne _ (fun⟨j,h1,h2,e⟩=>by have:=h.lE h2;omega)];exact h.mz x hx
open Classical in
theorem gk.rep (h:bT L H T w)(hn:n0≤H.length){v v':AV}(k:gk n0 t0 H v v'):∀c,bc L H.length T w v c→bc (L.nF n0 H.length w) n0 (T.take t0) w v' c:=by
 have size:∀(i:Nat)(c:Array Value)(t:TypeId)(fr:Nat×Nat),n0≤i→i<H.length→w.heap[L.bN i]?=some (.cells c t fr)→c.size≤(L.nF n0 H.length w).m (L.bN i):=by
  intro i c t fr h1 h2 hh;show _≤if _ then _ else _
  rw[if_pos ⟨i,h1,h2,rfl⟩,hh];exact Nat.le_max_right _ _
 have row:∀(i o:Nat)(vs cs:List AV),n0≤i→H[i]?=some (.cells vs)→o+cs.length≤vs.length→(∀(j:Nat)(h:j<cs.length)(c:Value),bc L H.length T w (vs.getD (o+j) .top) c→bc (L.nF n0 H.length w) n0 (T.take t0) w (cs[j]'h) c)→
   ∃cv,o+cs.length≤(L.nF n0 H.length w).m (L.bN i)∧cz (L.nF n0 H.length w) n0 (T.take t0) w cs cv∧∀j,j<cs.length→w.cell? ⟨L.bN i,o+j,none⟩=cv[j]?:=by
  intro i o vs cs hi hH hl ih;obtain⟨c,t,fr,g1,g2,g3,vO,g4,g5⟩:=h.box i _ hH;have hiH:=(List.getElem?_eq_some_iff.1 hH).1;have hs:=size i c t fr hi hiH g1;refine⟨(c.toList.drop o).take cs.length,by omega,⟨by simp;omega,fun j hj=>?_,fun j hj bR=>?_⟩,fun j hj=>?_⟩
  ·have so:o+j<c.size:=by simp at hj;omega
   have:=vO (o+j) so;rw[List.getElem_take,List.getElem_drop,Array.getElem_toList];exact this
  ·have so:o+j<c.size:=by omega
   have:=g4 (o+j) (by omega) so;rw[List.getElem_take,List.getElem_drop,Array.getElem_toList];refine ih j hj _ ?_;rw[getD_eq_getElem?_getD,getElem?_eq_getElem (by omega)];exact this
  ·rw[fo g1,getElem?_take,if_pos hj,List.getElem?_drop];simp
 induction k with
 |keep hv hb=>
  rename_i v v';intro c hr;have h1:bc L H.length T w v' c:=by
   rcases hv with rfl|rfl
   ·exact hr
   ·exact hr.cY
  exact(h1.drop hb).keep (cS.nF _ _)
 |top v=>intro c _;exact .top _
 |bV hi hH hl hc ih=>
  intro c hr;obtain⟨cap,rfl,cg,aZ⟩:=hr.jb;obtain⟨cv,h1,h2,h3⟩:=row _ _ _ _ hi hH hl ih;exact bc.kV cg h1 h2 h3 trivial
 |bJ hi hH hl hc ih=>
  intro c hr;obtain⟨rfl,cg,aZ⟩:=hr.ir;obtain⟨cv,h1,h2,h3⟩:=row _ 0 _ _ hi hH (by omega) (fun j hj c jT=>ih j hj c (by rwa [zero_add] at jT));exact bc.kV cg h1 h2 h3 trivial
 |TO hi hH hl hc ih=>
  intro c hr;obtain⟨rfl,cg,aZ⟩:=hr.ir;obtain⟨cv,h1,h2,h3⟩:=row _ 0 _ _ hi hH (by omega) (fun j hj c jT=>ih j hj c (by rwa [zero_add] at jT));exact bc.kV cg h1 h2 h3 rfl
 |slT hl ht hc ih=>
  rename_i n t cs ss;intro c hr;obtain⟨a,cap,rfl,cg,htg,mY⟩:=hr.eO;have P5:kg (L.nF n0 H.length w) (T.take t0) (.own t) n ss.length a cap:=by
   obtain⟨u0,z,g0,g1,g2⟩:=htg;exact⟨u0,z,by rw[getElem?_take,if_pos ht];exact g0,by omega,fun e=>g2 (by omega)⟩
  rcases mY with⟨e1,e2⟩|⟨b,base,cv,e1,h1,h2,h3⟩
  ·subst e1;subst e2;have:ss=[]:=List.eq_nil_of_length_eq_zero hl;subst this;exact .wD (.own t) a cap P5
  ·subst e1;refine bc.kV (cv:=cv) cg (by rw[hl];exact le_trans h1 (mw _ _ _ _ _)) ⟨by rw[hl];exact h2.1,h2.2.1,fun j hj bR=>ih j hj _ ?_⟩ (fun j hj=>h3 j (by omega)) P5;have:=h2.2.2 j (by omega) bR;rw[getD_eq_getElem?_getD,getElem?_eq_getElem (by omega)];exact this
 |ptr hi hH hl hc ih=>
  rename_i i o vs cs;intro c hr;obtain⟨rfl,aZ⟩:=hr.mA;obtain⟨cv,h1,h2,h3⟩:=row _ 0 _ _ hi hH (by omega) (fun j hj c jT=>ih j hj c (by rwa [zero_add] at jT));have:=bc.dK (L:=L.nF n0 H.length w) (N:=n0) (T:=T.take t0) (w:=w) cs o (L.bN i) 0 (fun j=>cv.getD j undef) h1 (fun j hj=>?_) (fun j hj=>?_) (fun j hj=>?_)
  ·rwa [zero_add] at this
  ·have bR:j<cv.length:=by rw[h2.1];exact hj
   rw[h3 j hj];simp[bR]
  ·have bR:j<cv.length:=by rw[h2.1];exact hj
   simpa[bR] using h2.2.1 j bR
  ·have bR:j<cv.length:=by rw[h2.1];exact hj
   simpa[bR] using h2.2.2 j hj bR
 |sl hl hc ih=>
  rename_i n cs ss tg;intro c hr;obtain⟨a,cap,rfl,cg,ht,mY⟩:=hr.eO;rcases mY with⟨e1,e2⟩|⟨b,base,cv,e1,h1,h2,h3⟩
  ·subst e1;subst e2;have:ss=[]:=List.eq_nil_of_length_eq_zero hl;subst this;exact .wD .none a cap trivial
  ·subst e1;refine bc.kV (cv:=cv) cg (by rw[hl];exact le_trans h1 (mw _ _ _ _ _)) ⟨by rw[hl];exact h2.1,h2.2.1,fun j hj bR=>ih j hj _ ?_⟩ (fun j hj=>h3 j (by omega)) trivial;have:=h2.2.2 j (by omega) bR;rw[getD_eq_getElem?_getD,getElem?_eq_getElem (by omega)];exact this
 |agg hl hc ih=>
  rename_i cs ss;intro c hr
  cases hr with
  |agg _ cv h1 h2 h3=>
   refine .agg _ _ (by omega) h2 fun j hj bR=>ih j hj _ ?_;have:=h3 j (by omega) bR;rw[getD_eq_getElem?_getD,getElem?_eq_getElem (by omega)];exact this
 |df hl hc ih=>
  rename_i cs ss;intro c hr
  cases hr with
  |df _ cv h1 h3=>
   refine .df _ _ (by omega) fun j hj bR=>ih j hj _ ?_;have:=h3 j (by omega) bR;rw[getD_eq_getElem?_getD,getElem?_eq_getElem (by omega)];exact this
end
section
variable {P : Program} {f : FuncId} {args : List AV} {H : List aA} {T : ar}
theorem aq.TI {r0:AV}(H1:List aA)(T1:ar)(hl:H.length≤H1.length)(ht:T.length≤T1.length)(ho:bC H T→bC H1 T1)
  (h:aq P f args H T (fun r H' T'=>(∃G,H'=H1++G)∧(∃rT,T'=T1++rT)∧gk H1.length T1.length H' r r0)):aq P f args H T (Is r0 H1 T1):=by
 refine⟨h.1,fun L w ca hc mO hr=>(h.2 L w ca hc mO hr).mono ?_⟩;rintro e w' ⟨r',H',T',L',cv,⟨⟨G,e1⟩,⟨rT,e2⟩,e3⟩,rfl,cT,dI,dP⟩;subst e1;subst e2;have hf:bT L' H1 T1 w':=bT.front P cT (ho hc.iG);have hn:H1.length≤(H1++G).length:=by rw[length_append];omega
 have jg:=cT.nF (n0:=H1.length) (t0:=T1.length) hn (by rw[take_left',take_left']<;>first|exact hf|rfl);have mN:=e3.rep cT hn _ dI;rw[take_left' rfl,take_left' rfl] at jg;rw[take_left' rfl] at mN;have e1:=dP.front hl ht;exact⟨_,H1,T1,_,cv,⟨rfl,rfl,rfl⟩,rfl,jg,mN,⟨e1.n,e1.bN,e1.tok,e1.t,fun b=>le_trans (e1.m b) (mw _ _ _ _ _),e1.rz,e1.size,e1.frame,e1.wr,e1.os,e1.tape,e1.output,e1.drawn,e1.dr⟩⟩
theorem aq.nF {r0:AV}(h:aq P f args H T (fun r H' T'=>(∃G,H'=H++G)∧(∃rT,T'=T++rT)∧gk H.length T.length H' r r0)):aq P f args H T (Is r0 H T):=
 aq.TI H T (le_refl _) (le_refl _) id h
def JI (n0 t0:Nat)(H:List aA)(e:Env):Env→Prop
 |[]=>True
 |(s,v)::r=>gk n0 t0 H (bF e s) v∧JI n0 t0 H e r
theorem HY {n0 t0:Nat}{H:List aA}{e:Env}:∀{e':Env},JI n0 t0 H e e'→∀s,gk n0 t0 H (bF e s) (bF e' s):=by
 intro e'
 induction e' with
 |nil=>intro _ s;exact .top _
 |cons x r ih=>
  obtain⟨s0,v⟩:=x;intro h s
  by_cases hs:s0=s
  ·subst hs;simp only[bF,if_true];exact h.1
  ·simp only[bF,if_neg hs];exact ih h.2 s
theorem Kf {C:Cx}{c:Code}{Q:Exit→St→Prop}{e e':Env}{G:List aA}{rT:ar}(fO:C.nb≤H.length)(eS:C.tb≤T.length)(ho:bC H T)
  (he:JI H.length T.length (H++G) e e') (h:AW C c Q ⟨e',H,T⟩):AW C c Q ⟨e,H++G,T++rT⟩:=fun L w a hc=>by
 have hf:bT L H T w:=bT.front C.P hc.mQ ho;have hn:H.length≤(H++G).length:=by rw[length_append];omega
 have jg:=hc.mQ.nF (n0:=H.length) (t0:=T.length) hn (by rw[take_left',take_left']<;>first|exact hf|rfl);rw[take_left' rfl,take_left' rfl] at jg;have e0:Ev C.nb C.tb L (H++G).length (T++rT) w L (H++G).length (T++rT) w:=Ev.refl hc.nb hc.tb;have e1:=e0.front fO eS;have e2:Ev C.nb C.tb L (H++G).length (T++rT) w (L.nF H.length (H++G).length w) H.length T w:=⟨e1.n,e1.bN,e1.tok,e1.t,fun b=>mw _ _ _ _ _,e1.rz,e1.size,e1.frame,e1.wr,e1.os,e1.tape,e1.output,e1.drawn,e1.dr⟩
 refine wp_mono (h (L.nF H.length (H++G).length w) w a ⟨fO,eS,jg,hc.size,hc.defers,fun t=>?_⟩) fun _ _ _ k=>dh.step (s1:=⟨e',H,T⟩) e2 k;have:=(HY he t).rep hc.mQ hn _ (hc.env t)
 rwa [take_left' rfl] at this
theorem cZ {C:Cx}{c:Code}{Q:Exit→St→Prop}{s:St}(h:bC s.H s.T→AW C c Q s):AW C c Q s:=fun L w a hc=>h hc.mQ.iG L w a hc
end
section
variable {n0 t0 : Nat} {H : List aA}
theorem gk.same {v:AV}(hb:Below n0 t0 v):gk n0 t0 H v v:=.keep (.inl rfl) hb
theorem gk.all {cs:List AV}(hb:aJ n0 t0 cs)(rest:List AV):∀(j:Nat)(h:j<cs.length),gk n0 t0 H ((cs++rest).getD j .top) (cs[j]'h):=fun j h=>by
 rw[getD_eq_getElem?_getD,getElem?_append_left h,getElem?_eq_getElem h];exact .same (hb _ (List.getElem_mem h))
theorem gk.PZ {i n:Nat}{cs rest:List AV}(hi:n0≤i)(hH:H[i]?=some (.cells (cs++rest)))(hb:aJ n0 t0 cs):gk n0 t0 H (.bV i 0 n) (.sl n cs .none):=
 .bV hi hH (by rw[length_append];omega) fun j h=>by rw[zero_add];exact gk.all hb rest j h
theorem gk.aaW {i n cap:Nat}{cs rest:List AV}(hi:n0≤i)(hH:H[i]?=some (.cells (cs++rest)))(hb:aJ n0 t0 cs):gk n0 t0 H (.bJ i n cap) (.sl n cs .none):=
 .bJ hi hH (by rw[length_append];omega) (gk.all hb rest)
theorem gk.pair {a b a' b':AV}(h1:gk n0 t0 H a a')(h2:gk n0 t0 H b b'):gk n0 t0 H (.df [a,b]) (.df [a',b']):=
 .df rfl fun j h=>by
  match j,h with
  |0,_=>exact h1
  |1,_=>exact h2
end
section
variable {L : Lay} {Hb G : List aA} {T1 rT : ar} {w : World} {vs vs' : List AV}
theorem bT.JE (h:bT L (Hb++aA.cells vs::G) (T1++rT) w)(hf:bT L Hb T1 w)(hl:vs'.length=vs.length)
  (hv:∀(j:Nat)(hj:j<vs'.length),gk (Hb.length+1) T1.length (Hb++aA.cells vs::G) (vs.getD j .top) (vs'[j]'hj)):bT (L.nF (Hb.length+1) (Hb++aA.cells vs::G).length w) (Hb++[aA.cells vs']) T1 w:=by
 have hlen:(Hb++aA.cells vs::G).length=Hb.length+1+G.length:=by simp;omega
 have hn:Hb.length+1≤(Hb++aA.cells vs::G).length:=by omega
 have ne:∀b,(¬∃i,Hb.length+1≤i∧i<(Hb++aA.cells vs::G).length∧L.bN i=b)→(L.nF (Hb.length+1) (Hb++aA.cells vs::G).length w).m b=L.m b:=fun b hb=>if_neg hb;have MM:∀i,i<Hb.length+1→¬∃j,Hb.length+1≤j∧j<(Hb++aA.cells vs::G).length∧L.bN j=L.bN i:=by
  rintro i hi ⟨j,h1,h2,e⟩;have:=h.inj j i h2 (by omega) e;omega
 have RD:∀(t:Nat)(x:Nat×Nat),T1[t]?=some x→(T1++rT)[t]?=some x:=fun t x hx=>by
  rw[getElem?_append_left ((List.getElem?_eq_some_iff.1 hx).1)];exact hx
 have PY:∀t u z,(T1++rT)[t]?=some (u,z)→u<(L.dM t).c*z→¬∃j,Hb.length+1≤j∧j<(Hb++aA.cells vs::G).length∧L.bN j=(L.dM t).b:=by
  rintro t u z ht hs ⟨j,h1,h2,e⟩;exact h.jv t u z j ht hs h2 e.symm
 have Xf:(T1++rT).take T1.length=T1:=by simp
 have hk:cS L Hb.length T1 w (L.nF (Hb.length+1) (Hb++aA.cells vs::G).length w) (Hb++[aA.cells vs']).length T1 w:=
  ⟨by simp,fun _ _=>rfl,fun t u z h=>⟨u,h,le_refl _,fun _=>rfl⟩,fun b=>mw L _ _ w b,fun _ _ _=>rfl,rfl⟩
 have ql:(Hb++[aA.cells vs']).length=Hb.length+1:=by simp
 refine⟨fun i x hx=>?_,fun i j hi hj=>h.inj i j (by omega) (by omega),fun t u z ht=>?_,hf.nH,fun t u z i ht hs hi=>h.jv t u z i (RD t _ ht) hs (by omega),fun x hx=>?_,h.gl.keep (fun b=>mw L _ _ w b) (fun _ _ _=>rfl)⟩
 ·have hi:=(List.getElem?_eq_some_iff.1 hx).1;rcases lt_or_ge i Hb.length with h1|h1
  ·rw[getElem?_append_left h1] at hx;refine(hf.box i x hx).stay hk h1 rfl fun h5=>?_;rw[ne _ (MM i (by omega))];exact h5
  ·have dY:i=Hb.length:=by omega
   subst dY;rw[getElem?_append_right (le_refl _),sub_self] at hx;simp only[List.getElem?_cons_zero,Option.some.injEq] at hx;subst hx;obtain⟨c,t,fr,g1,g2,g3,vO,g4,g5⟩:=h.box Hb.length (.cells vs) (by rw[getElem?_append_right (le_refl _),sub_self];rfl);refine⟨c,t,fr,g1,g2,by omega,vO,fun j hj bR=>?_,by rw[show (L.nF (Hb.length+1) (Hb++aA.cells vs::G).length w).bN Hb.length=L.bN Hb.length from rfl,ne _ (MM Hb.length (by omega))];exact g5⟩;have:=(hv j hj).rep h hn (c[j]'bR) (by
    have:=g4 j (by omega) bR;rw[getD_eq_getElem?_getD,getElem?_eq_getElem (by omega)];exact this)
   rw[Xf] at this;rw[ql];exact this
 ·obtain⟨h1,h2⟩:=hf.tok t u z ht;refine⟨h1,fun hs=>?_⟩;obtain⟨c,e,fr,g1,g2,g3,g4⟩:=h2 hs;exact⟨c,e,fr,g1,g2,g3,by rw[show ((L.nF (Hb.length+1) (Hb++aA.cells vs::G).length w).dM t).b=(L.dM t).b from rfl,ne _ (PY t u z (RD t _ ht) hs)];exact g4⟩
 ·rw[ne _ (fun⟨j,h1,h2,e⟩=>by have:=h.lE h2;omega)];exact h.mz x hx
end
section
variable {P : Program} {f : FuncId} {args : List AV} {H : List aA} {T : ar}
theorem aq.JE {n cap:Nat}{vs':List AV}(H1:List aA)(hl:H.length≤H1.length)(ho:bC H T→bC H1 T)
  (h:aq P f args H T (fun r H' T'=>∃vs G,H'=H1++aA.cells vs::G∧(∃rT,T'=T++rT)∧vs'.length=vs.length∧(∀(j:Nat)(hj:j<vs'.length),gk (H1.length+1) T.length H' (vs.getD j .top) (vs'[j]'hj))∧r=.bJ H1.length n cap)) :
  aq P f args H T (Is (.bJ H1.length n cap) (H1++[.cells vs']) T):=by
 refine⟨h.1,fun L w ca hc mO hr=>(h.2 L w ca hc mO hr).mono ?_⟩;rintro e w' ⟨r',H',T',L',cv,⟨vs,G,e1,⟨rT,e2⟩,e3,e4,e5⟩,rfl,cT,dI,dP⟩;subst e1;subst e2;subst e5;have hf:bT L' H1 T w':=bT.front P cT (ho hc.iG);have jg:=cT.JE hf e3 e4;have wK:Ev H.length T.length L H.length T w L' H1.length T w':=Ev.front (rH:=aA.cells vs::G) (rT:=rT) dP hl (le_refl _);obtain⟨rfl,cg,aZ⟩:=dI.ir;refine⟨_,H1++[.cells vs'],T,L'.nF (H1.length+1) (H1++aA.cells vs::G).length w',_,⟨rfl,rfl,rfl⟩,rfl,jg,.bJ H1.length n cap (by simp) cg,⟨?_,wK.bN,wK.tok,wK.t,fun b=>le_trans (wK.m b) (mw _ _ _ _ _),wK.rz,wK.size,wK.frame,?_,wK.os,wK.tape,wK.output,wK.drawn,wK.dr⟩⟩
 ·rw[length_append];exact le_trans wK.n (Nat.le_add_right _ _)
 ·intro b hb;refine dP.wr b ?_;rcases hb with⟨i,hi,e⟩|⟨t,u,z,ht,hu,e⟩
  ·refine .inl ⟨i,?_,e⟩;rw[length_append] at hi ⊢;simp only[List.length_cons,List.length_nil] at hi ⊢;omega
  ·exact .inr ⟨t,u,z,by rw[getElem?_append_left ((List.getElem?_eq_some_iff.1 ht).1)];exact ht,hu,e⟩
end
def qJ:Op→Bool
 |.move _|.assign _|.alloc _|.build _ _|.buildSlice _ _ _|.load _ _|.store _ _ _|.binOp _ _ _ _ _|.fieldAddr _ _ _|.indexAddr _ _ _|.index _ _ _|.convert ..|.slice ..|.extract ..|.unOp ..=>true
 |_=>false
def C1:Result Next→Prop
 |.ok (.value _) _=>True
 |.ok .skip _=>True
 |.ok _ _=>False
 |.halt _ _=>True
theorem GF {P:Program}{o:Oper}(h:qJ o.op=true)(ρ:Operand→Value)(w:World):C1 ((execOp ρ o).run P w):=by
 obtain⟨dst,op,type,pos,after,guard⟩:=o;have hv:∀s:Sem Value,C1 ((do pure (Next.value (←s)):Sem Next).run P w):=fun s=>by
  simp only[Sem.run_bind]
  cases s.run P w with
  |ok x w'=>exact trivial
  |halt x w'=>exact trivial
 have hu:∀s:Sem Unit,C1 ((do s;pure Next.skip:Sem Next).run P w):=fun s=>by
  simp only[Sem.run_bind]
  cases s.run P w with
  |ok x w'=>exact trivial
  |halt x w'=>exact trivial
 cases op<;>first
  |exact trivial
  |exact hv _
  |exact hu _
  |(revert h;simp[qJ];done)
theorem Ni {P:Program}{o:Oper}{a:Act}{w:World}{K1 K2:Act→World→Prop}{Q:Exit→Act→World→Prop}(hs:qJ o.op=true)(h1:o.wp P a w K1 Q)(h2:o.wp P a w K2 Q):o.wp P a w (fun a w=>K1 a w∧K2 a w) Q:=by
 have hr:=GF (P:=P) hs a.eval w;unfold Oper.wp at *;generalize (execOp a.eval o).run P w=r at *
 cases r with
 |ok n w'=>cases n<;>first
  |exact⟨h1,h2⟩
  |exact hr.elim
 |halt x w'=>cases x<;>exact h1
section
variable {P : Program} {Q : Exit → Act → World → Prop}
def Fx (x y:List Oper):Prop:=∀i:Nat,(y[i]?).map (fun o=>(o.dst,o.op,o.type,o.guard))=(x[i]?).map (fun o=>(o.dst,o.op,o.type,o.guard))
theorem HV {o o':Oper}(h1:o'.op=o.op)(h2:o'.type=o.type)(ρ:Operand→Value):execOp ρ o'=execOp ρ o:=by
 obtain⟨dst,op,type,pos,after,guard⟩:=o;obtain⟨acu,op',abV,pos',abQ,abv⟩:=o';simp only at h1 h2;subst h1;subst h2;rfl
theorem xm {o o':Oper}(h0:o'.dst=o.dst)(h1:o'.op=o.op)(h2:o'.type=o.type)(a:Act)(w:World)(K:Act→World→Prop):(o'.wp P a w K Q↔o.wp P a w K Q)∧(o'.asks P a w↔o.asks P a w):=by
 have he:=HV h1 h2 a.eval
 constructor
 ·unfold Oper.wp;rw[he];generalize (execOp a.eval o).run P w=r
  cases r with
  |ok n w'=>cases n<;>simp only[Oper.upon,h0]
  |halt x w'=>cases x<;>rfl
 ·unfold Oper.asks;rw[he]
theorem qL {x y:List Oper}(h:Fx x y){i:Nat}{K:Act→World→Prop}{a:Act}{w:World}(hh:wpOp P y.toArray Q i K a w):wpOp P x.toArray Q i K a w:=by
 unfold wpOp at *;rw[getElem?_toArray] at *;have hi:=h i;have hy:∀t j,yielded y.toArray t j=yielded x.toArray t j:=fun t j=>by
  unfold yielded;rw[getElem?_toArray,getElem?_toArray];have hj:=h j;have:(y[j]?).bind (·.dst)=(x[j]?).bind (·.dst):=by
   cases hx:x[j]? with
   |none=>rw[hx] at hj;cases WU:y[j]? with
    |none=>rfl
    |some o'=>rw[WU] at hj;cases hj
   |some o=>rw[hx] at hj;cases WU:y[j]? with
    |none=>rw[WU] at hj;cases hj
    |some o'=>rw[WU] at hj;simp only[Option.map_some,Option.some.injEq,Prod.mk.injEq] at hj;exact hj.1
  rw[this]
 cases hx:x[i]? with
 |none=>
  rw[hx] at hi
  cases Sh:y[i]? with
  |none=>rw[Sh] at hh;exact hh
  |some o'=>rw[Sh] at hi;cases hi
 |some o=>
  rw[hx] at hi
  cases Sh:y[i]? with
  |none=>rw[Sh] at hi;cases hi
  |some o'=>
   rw[Sh] at hi hh;simp only[Option.map_some,Option.some.injEq,Prod.mk.injEq] at hi;obtain⟨e0,e1,e2,e3⟩:=hi
   dsimp only at hh ⊢
   have hw:Region.wanted o' (yielded y.toArray a.tmps)=Region.wanted o (yielded x.toArray a.tmps):=by
    unfold Region.wanted;rw[e3]
    cases o.guard with
    |none=>rfl
    |some g=>simp only[hy]
   rw[hw] at hh;obtain⟨g1,g2⟩:=xm (P:=P) (Q:=Q) e0 e1 e2 a w K
   split at hh
   ·rename_i Er;rw[if_pos Er];rw[g1,g2] at hh;exact hh
   ·rename_i Er;rw[if_neg Er];rw[e0] at hh;exact hh
def gE (ops:List Oper)(b a:Nat):List Oper:=ops.modify b fun o=>{ o with after:=o.after.push { on:=a,ground:=.data } }
theorem Bv (ops:List Oper)(b a i:Nat):(gE ops b a)[i]?=if b=i then (ops[i]?).map (fun o=>{ o with after:=o.after.push { on:=a,ground:=.data } }) else ops[i]?:=by
 rw[gE,List.getElem?_modify]
 split
 ·rfl
 ·cases ops[i]?<;>rfl
theorem me (ops:List Oper)(b a:Nat):Fx ops (gE ops b a):=by
 intro i;rw[Bv]
 split
 ·cases ops[i]?<;>rfl
 ·rfl
theorem gh {ops:List Oper}{a b i:Nat}{ay:Array Bool}:i∈Region.ready .any (gE ops b a).toArray ay↔i∈Region.ready .any ops.toArray ay∧(i=b→ay.getD a false=true):=by
 rw[mem_ready,mem_ready,getElem?_toArray,getElem?_toArray,Bv]
 by_cases hb:b=i
 ·subst hb;rw[if_pos rfl]
  cases ops[b]? with
  |none=>simp
  |some o=>
   simp only[Option.map_some,Option.some.injEq,exists_eq_left',Array.mem_push,true_imp_iff]
   constructor
   ·rintro⟨h1,h2⟩;exact⟨⟨h1,fun e he hb=>h2 e (.inl he) hb⟩,h2 ⟨a,.data⟩ (.inr rfl) rfl⟩
   ·rintro⟨⟨h1,h2⟩,h3⟩;refine⟨h1,fun e he hb=>?_⟩;rcases he with he|rfl
    ·exact h2 e he hb
    ·exact h3
 ·rw[if_neg hb];simp[Ne.symm hb]
theorem ya {ops:List Oper}{a b:Nat}:∀(fuel:Nat)(ay:Array Bool)(s:Act)(w:World),ay.getD a false=true→wpAny P .any (gE ops b a).toArray Q fuel ay s w→wpAny P .any ops.toArray Q fuel ay s w:=by
 intro fuel;have hr:∀ay:Array Bool,ay.getD a false=true→Region.ready .any (gE ops b a).toArray ay=Region.ready .any ops.toArray ay:=fun ay hl=>by
  have:∀i,i∈Region.ready .any (gE ops b a).toArray ay↔i∈Region.ready .any ops.toArray ay:=fun i=>by rw[gh];exact⟨fun h=>h.1,fun h=>⟨h,fun _=>hl⟩⟩
  unfold Region.ready at this ⊢;have iQ:(gE ops b a).toArray.size=ops.toArray.size:=by simp[gE]
  rw[iQ] at this ⊢;refine List.filter_congr fun i hi=>?_;have:=this i;rw[List.mem_filter,List.mem_filter] at this;rw[Bool.eq_iff_iff];exact⟨fun h=>(this.1 ⟨hi,h⟩).2,fun h=>(this.2 ⟨hi,h⟩).2⟩
 induction fuel with
 |zero=>
  intro ay s w hl h;exact⟨by rw[←hr ay hl];exact h.1,h.2⟩
 |succ fuel ih=>
  intro ay s w hl h;refine⟨fun hn=>h.1 (by rw[hr ay hl];exact hn),fun i hi=>?_⟩;have:=h.2 i (by rw[hr ay hl];exact hi);exact wpOp_mono (fun s' w' h'=>ih _ s' w' (getD_set_true hl) h') (qL (me ops b a) this)
theorem Ik {ops:List Oper}{a b:Nat}(iZ:a≠b)(eM:∀(i:Nat)(o:Oper),ops[i]?=some o→i≠a→i≠b→qJ o.op=true):∀(fuel:Nat)(ay:Array Bool)(s:Act)(w:World),ay.size=ops.length→ay.getD a false=false→ay.getD b false=false→
  wpAny P .any (gE ops b a).toArray Q fuel ay s w→wpAny P .any (gE ops a b).toArray Q fuel ay s w→wpAny P .any ops.toArray Q fuel ay s w:=by
 intro fuel
 induction fuel with
 |zero=>
  intro ay s w iQ ha hb h1 h2;refine⟨?_,h1.2⟩
  cases hr:Region.ready .any ops.toArray ay with
  |nil=>rfl
  |cons i r=>
   have hi:i∈Region.ready .any ops.toArray ay:=by rw[hr];simp
   by_cases yh:i=b
   ·subst yh;have:i∈Region.ready .any (gE ops a i).toArray ay:=gh.2 ⟨hi,fun e=>absurd e.symm iZ⟩;rw[h2.1] at this;cases this
   ·have:i∈Region.ready .any (gE ops b a).toArray ay:=gh.2 ⟨hi,fun e=>absurd e yh⟩;rw[h1.1] at this;cases this
 |succ fuel ih=>
  intro ay s w iQ ha hb h1 h2;refine⟨fun hn=>h1.1 ?_,fun i hi=>?_⟩
  ·cases hr:Region.ready .any (gE ops b a).toArray ay with
   |nil=>rfl
   |cons i r=>
    have hi:i∈Region.ready .any (gE ops b a).toArray ay:=by rw[hr];simp
    have:=(gh.1 hi).1;rw[hn] at this;cases this
  ·have cC:i<ay.size:=by
    obtain⟨_,o,ho,_⟩:=mem_ready.1 hi;rw[getElem?_toArray] at ho;have:=(List.getElem?_eq_some_iff.1 ho).1;omega
   by_cases yh:i=b
   ·subst yh;have g:=qL (me ops a i) (h2.2 i (gh.2 ⟨hi,fun e=>absurd e.symm iZ⟩));exact wpOp_mono (fun s' w' h'=>ya _ _ s' w' (by simp[cC]) h') g
   ·by_cases mg:i=a
    ·subst mg;have g:=qL (me ops b i) (h1.2 i (gh.2 ⟨hi,fun e=>absurd e iZ⟩));exact wpOp_mono (fun s' w' h'=>ya _ _ s' w' (by simp[cC]) h') g
    ·have g1:=qL (me ops b a) (h1.2 i (gh.2 ⟨hi,fun e=>absurd e yh⟩));have g2:=qL (me ops a b) (h2.2 i (gh.2 ⟨hi,fun e=>absurd e mg⟩));have g:wpOp P ops.toArray Q i (fun s' w'=>wpAny P .any (gE ops b a).toArray Q fuel (ay.setIfInBounds i true) s' w'∧wpAny P .any (gE ops a b).toArray Q fuel (ay.setIfInBounds i true) s' w') s w:=by
      unfold wpOp at g1 g2 ⊢;rw[getElem?_toArray] at g1 g2 ⊢
      cases ho:ops[i]? with
      |none=>rw[ho] at g1 g2;exact⟨g1,g2⟩
      |some o=>
       rw[ho] at g1 g2
       dsimp only at g1 g2 ⊢
       split at g1
       ·rename_i hw;rw[if_pos hw] at g2;rw[if_pos hw];rcases g1 with g1|g1
        ·rcases g2 with g2|g2
         ·exact .inl (Ni (eM i o ho mg yh) g1 g2)
         ·exact .inr g2
        ·exact .inr g1
       ·rename_i hw;rw[if_neg hw] at g2;rw[if_neg hw];exact⟨g1,g2⟩
     refine wpOp_mono (fun s' w' h'=>ih _ s' w' (by simpa using iQ) ?_ ?_ h'.1 h'.2) g
     ·rw[getD_set_ne false mg];exact ha
     ·rw[getD_set_ne false yh];exact hb
def sw (a b i:Nat):Nat:=if i=a then b else if i=b then a else i
theorem qy (a b i:Nat):sw a b (sw a b i)=i:=by
 unfold sw
 by_cases h1:i=a
 ·subst h1;rw[if_pos rfl]
  by_cases h2:b=i
  ·rw[if_pos h2];exact h2
  ·rw[if_neg h2,if_pos rfl]
 ·rw[if_neg h1]
  by_cases h2:i=b
  ·subst h2;rw[if_pos rfl,if_pos rfl]
  ·rw[if_neg h2,if_neg h1,if_neg h2]
theorem zV {a b i n:Nat}(ha:a<n)(hb:b<n)(hi:i<n):sw a b i<n:=by
 unfold sw
 split
 ·exact hb
 ·split
  ·exact ha
  ·exact hi
def ym (a b:Nat)(o:Oper):Oper:={ o with after:=o.after.map (fun e=>{ e with on:=sw a b e.on }),guard:=o.guard.map (fun g=>(sw a b g.1,g.2)) }
def jC (a b:Nat)(ops:List Oper):List Oper:=((ops.set a (ops.getD b default)).set b (ops.getD a default)).map (ym a b)
theorem rQ {a b:Nat}{ops:List Oper}(iZ:a≠b)(ha:a<ops.length)(hb:b<ops.length)(i:Nat):(jC a b ops)[i]?=(ops[sw a b i]?).map (ym a b):=by
 rw[jC,getElem?_map]
 congr 1
 rw[List.getElem?_set,List.getElem?_set,List.length_set];unfold sw
 by_cases h1:i=a
 ·subst h1;rw[if_neg (Ne.symm iZ),if_pos rfl,if_pos ha,if_pos rfl,getD_eq_getElem?_getD,getElem?_eq_getElem hb];rfl
 ·by_cases h2:i=b
  ·subst h2;rw[if_pos rfl,if_pos hb,if_neg h1,if_pos rfl,getD_eq_getElem?_getD,getElem?_eq_getElem ha];rfl
  ·rw[if_neg (Ne.symm h2),if_neg (Ne.symm h1),if_neg h1,if_neg h2]
theorem sD {a b:Nat}{ops:List Oper}(iZ:a≠b)(ha:a<ops.length)(hb:b<ops.length){l l2:Array Bool}(hl:l.size=ops.length)(iD:l2.size=ops.length)(hr:∀i,i<ops.length→l2.getD i false=l.getD (sw a b i) false)(i:Nat) :
  i∈Region.ready .any ops.toArray l↔sw a b i∈Region.ready .any (jC a b ops).toArray l2:=by
 rw[mem_ready,mem_ready,getElem?_toArray,getElem?_toArray,rQ iZ ha hb,qy]
 cases ho:ops[i]? with
 |none=>simp
 |some o=>
  have hi:i<ops.length:=(List.getElem?_eq_some_iff.1 ho).1;have e1:l2.getD (sw a b i) true=l.getD i true:=by
   have:=zV ha hb hi;rw[dj (by omega),dj (by omega),hr _ this,qy]
  simp only[Option.map_some,Option.some.injEq,exists_eq_left',e1];have e2:(∀e∈o.after,Region.binds .any e=true→l.getD e.on false=true)↔∀e∈(ym a b o).after,Region.binds .any e=true→l2.getD e.on false=true:=by
   have out:∀(z:Array Bool)(n:Nat),z.size=ops.length→¬n<ops.length→z.getD n false=false:=fun z n hz hn=>by
    have:¬n<z.size:=by omega
    simp[this]
   constructor
   ·intro h e he tj;simp only[ym,Array.mem_map] at he;obtain⟨e',s9,rfl⟩:=he;have:=h e' s9 tj;have aZ:e'.on<ops.length:=by
     rcases lt_or_ge e'.on ops.length with h1|h1
     ·exact h1
     ·rw[out l _ hl (by omega)] at this;cases this
    show l2.getD (sw a b e'.on) false=true;rw[hr _ (zV ha hb aZ),qy];exact this
   ·intro h e he tj;have:=h { e with on:=sw a b e.on } (by simp only[ym,Array.mem_map];exact⟨e,he,rfl⟩) tj;have aZ:sw a b e.on<ops.length:=by
     rcases lt_or_ge (sw a b e.on) ops.length with h1|h1
     ·exact h1
     ·have h2:=out l2 (sw a b e.on) iD (by omega);rw[show l2.getD (sw a b e.on) false=true from this] at h2;cases h2
    have h3:=hr _ aZ;rw[qy] at h3;rw[←h3];exact this
  rw[e2]
theorem Ko {a b:Nat}{ops:List Oper}(iZ:a≠b)(ha:a<ops.length)(hb:b<ops.length){i:Nat}{K:Act→World→Prop}{s:Act}{w:World}(hh:wpOp P (jC a b ops).toArray Q (sw a b i) K s w):wpOp P ops.toArray Q i K s w:=by
 unfold wpOp at *;rw[getElem?_toArray] at *;rw[rQ iZ ha hb,qy] at hh;have hy:∀t j,yielded (jC a b ops).toArray t (sw a b j)=yielded ops.toArray t j:=fun t j=>by
  unfold yielded;rw[getElem?_toArray,getElem?_toArray,rQ iZ ha hb,qy]
  cases ops[j]?<;>rfl
 cases ho:ops[i]? with
 |none=>rw[ho] at hh;exact hh
 |some o=>
  rw[ho] at hh;simp only[Option.map_some] at hh
  dsimp only
  have hw:Region.wanted (ym a b o) (yielded (jC a b ops).toArray s.tmps)=Region.wanted o (yielded ops.toArray s.tmps):=by
   unfold Region.wanted ym
   cases o.guard with
   |none=>rfl
   |some g=>simp only[Option.map_some,hy]
  rw[hw] at hh;obtain⟨g1,g2⟩:=xm (P:=P) (Q:=Q) (o:=o) (o':=ym a b o) rfl rfl rfl s w K
  split at hh
  ·rename_i Er;rw[if_pos Er];rw[g1,g2] at hh;exact hh
  ·rename_i Er;rw[if_neg Er];exact hh
theorem Dn {a b:Nat}{ops:List Oper}(iZ:a≠b)(ha:a<ops.length)(hb:b<ops.length):∀(fuel:Nat)(l l2:Array Bool)(s:Act)(w:World),l.size=ops.length→l2.size=ops.length→(∀i,i<ops.length→l2.getD i false=l.getD (sw a b i) false)→
  wpAny P .any (jC a b ops).toArray Q fuel l2 s w→wpAny P .any ops.toArray Q fuel l s w:=by
 intro fuel;have Tu:∀l l2:Array Bool,l.size=ops.length→l2.size=ops.length→(∀i,i<ops.length→l2.getD i false=l.getD (sw a b i) false)→(Region.ready .any ops.toArray l=[]↔Region.ready .any (jC a b ops).toArray l2=[]):=by
  intro l l2 hl iD hr;have h:=sD iZ ha hb hl iD hr
  constructor
  ·intro hn
   cases hx:Region.ready .any (jC a b ops).toArray l2 with
   |nil=>rfl
   |cons j r=>
    have hj:j∈Region.ready .any (jC a b ops).toArray l2:=by rw[hx];simp
    have:=(h (sw a b j)).2 (by rw[qy];exact hj);rw[hn] at this;cases this
  ·intro hn
   cases hx:Region.ready .any ops.toArray l with
   |nil=>rfl
   |cons j r=>
    have hj:j∈Region.ready .any ops.toArray l:=by rw[hx];simp
    have:=(h j).1 hj;rw[hn] at this;cases this
 induction fuel with
 |zero=>intro l l2 s w hl iD hr h;exact⟨(Tu l l2 hl iD hr).2 h.1,h.2⟩
 |succ fuel ih=>
  intro l l2 s w hl iD hr h;refine⟨fun hn=>h.1 ((Tu l l2 hl iD hr).1 hn),fun i hi=>?_⟩;have dY:=(sD iZ ha hb hl iD hr i).1 hi;have cC:i<ops.length:=by
   obtain⟨_,o,ho,_⟩:=mem_ready.1 hi;rw[getElem?_toArray] at ho;exact(List.getElem?_eq_some_iff.1 ho).1
  have g:=Ko iZ ha hb (h.2 _ dY);refine wpOp_mono (fun s' w' h'=>ih _ _ s' w' (by simpa using hl) (by simpa using iD) (fun j hj=>?_) h') g;have Ml:=zV ha hb cC;have hsj:=zV ha hb hj
  by_cases sZ:j=sw a b i
  ·subst sZ;rw[qy];simp[hl,iD,cC,Ml]
  ·rw[getD_set_ne false (fun e=>sZ e.symm),getD_set_ne false (fun e=>sZ (by rw[e,qy])),hr j hj]
end
theorem LN {C:Cx}{id:Nat}{ops:List Oper}{Q:Exit→St→Prop}{s:St}{y:Code}(a b:Nat)(M0 Y7:List Nat)(Y0:List (List Nat))(MZ Y6:List Nat)(YZ:List (List Nat))(hm:C.P.follows .mixedOrders=true)
  (mP:(decide (a≠b)&&decide (a<ops.length)&&decide (b<ops.length)&&ops.all fun o=>qJ o.op)=true) (aaI:iU (gE ops b a) M0 Y7 Y0=true) (aaB:jm M0=true) (aaH:iU (jC a b (gE ops a b)) MZ Y6 YZ=true) (aaA:jm MZ=true)
  (h:∀K:St→Prop,(∀s,AW C y Q s→K s)→eE ⟨C,(gE ops b a).toArray,M0,Y7,Y0,K⟩ (gE ops b a) [] [(s.H,s.T,0)] (prune C.nv s.e)∧
   eE ⟨C,(jC a b (gE ops a b)).toArray,MZ,Y6,YZ,K⟩ (jC a b (gE ops a b)) [] [(s.H,s.T,0)] (prune C.nv s.e)):AW C (.seq (.region id ops.toArray true) y) Q s:=by
 simp only[Bool.and_eq_true,decide_eq_true_eq,List.all_eq_true] at mP;obtain⟨⟨⟨iZ,ha⟩,hb⟩,eM⟩:=mP;refine yF fun K hK=>fun L0 w0 a0 nE=>wp_region_any hm ?_;obtain⟨h1,h2⟩:=h K hK;have g1:=sf (Q:=Q) K M0 Y7 Y0 aaI aaB h1 L0 w0 a0 nE;have g2:=sf (Q:=Q) K MZ Y6 YZ aaH aaA h2 L0 w0 a0 nE;have l1:(gE ops b a).toArray.size=ops.toArray.size:=by simp[gE]
 have l2:(jC a b (gE ops a b)).toArray.size=ops.toArray.size:=by simp[gE,jC]
 have l3:(gE ops a b).length=ops.length:=by simp[gE]
 rw[l1] at g1;rw[l2] at g2;have g3:=Dn (ops:=gE ops a b) iZ (by rw[l3];exact ha) (by rw[l3];exact hb) _ (Array.replicate ops.toArray.size false) (Array.replicate ops.toArray.size false) _ _ (by simp[l3]) (by simp[l3]) (fun i hi=>by
  rw[l3] at hi;have:=zV ha hb hi;simp[hi,this]) g2
 exact Ik iZ (fun i o ho _ _=>eM o (mem_of_getElem? ho)) _ _ _ _ (by simp) (by simp[ha]) (by simp[hb]) g1 g3
structure Ki (nx:Nat)(D:tK)(ops:List Oper)(sts:List pz)(aL:List bW)(i:Nat)(x:bW):Prop where
 o:ops[i]?=some x.o
 k:x.k<sts.length
 bu:x.bu=D.bu.contains i
 gate:match x.o.guard with
  |none=>x.run=true
  |some (j,want)=>∃b,jN D.all j x.e=some b∧x.run=(b==some want)
 dst:∀d,x.o.dst=some d→d<D.C.nt
 skip:x.run=false→x.v=.df []
 still:x.run=true→x.bu=false→∀k H T e,sts[k]?=some (H,T,e)→D.lo.getD i 0≤k→(k≤x.k∨(D.na.getD (k-1) []).contains i=true)→dN D.C.P x.o x.e H T x.v H T
 effect:x.bu=true→∃H T e H' T',sts[x.k]?=some (H,T,e)∧sts[x.k+1]?=some (H',T',i)∧(x.run=true→i≠nx→dN D.C.P x.o x.e H T x.v H' T')∧(x.run=false→H'=H∧T'=T)
structure je (nx:Nat)(D:tK)(ops:List Oper)(e0:Env)(aL:List bW)(sts:List pz)(e:Env):Prop where
 st:TU D aL sts
 FA:∀(i:Nat)(x:bW),aL[i]?=some x→Ki nx D ops sts aL i x
 zO:∀(i:Nat)(x:bW),aL[i]?=some x→x.e=aT e0 (aL.take i)
 cur:e=aT e0 aL
theorem sg {nx:Nat}{D:tK}{ops:List Oper}{e0:Env}{aL:List bW}{sts:List pz}{e:Env}{next:List bW→List pz→Env→Prop}{o:Oper}{run:Bool}{v:AV}{H H':List aA}{T T':ar}{i0:Nat}(mP:jm D.bu=true)(tI:D.bu.contains nx=true)
  (hw:je nx D ops e0 aL sts e) (kR:ops[aL.length]?=some o) (cL:sts.getLast?=some (H,T,i0))
  (hgate:match o.guard with|none=>run=true|some (j,want)=>∃b,jN D.all j e=some b∧run=(b==some want)) (ux:run=false→v=.df []∧H'=H∧T'=T) (cK:run=true→aL.length≠nx→dN D.C.P o e H T v H' T')
  (C3:D.bu.contains aL.length=false→H'=H∧T'=T) (h:v8 D next o aL sts e run v H' T') :
  ∃bE dn e',je nx D ops e0 bE dn e'∧bE.length=aL.length+1∧next bE dn e'∧dn[0]?=sts[0]?∧dn≠[]∧(∃x,bE=aL++[x]∧(D.bu.contains aL.length=true→x=⟨o,e,run,v,sts.length-1,true⟩))∧(∃q,dn=sts++q)∧(D.bu.contains aL.length=true→dn=sts++[(H',T',aL.length)]):=by
 have dA:sts≠[]:=by intro e;rw[e] at cL;cases cL
 have ji:0<sts.length:=List.length_pos_iff.2 dA;have fP:sts[sts.length-1]?=some (H,T,i0):=by rw[←cL,List.getLast?_eq_getElem?]
 have hlen:=hw.st.len;unfold v8 at h
 split at h
 ·rename_i mn;obtain⟨Zp,ia⟩:=h;obtain⟨kS,uz⟩:=jW ia;obtain⟨ek,es⟩:=gQ mP mn;refine⟨_,_,_,⟨⟨?_,fun i x hx=>?_⟩,fun i x hx=>?_,fun i x hx=>?_,?_⟩,by simp,uz,by rw[getElem?_append_left ji],by simp,⟨_,rfl,fun _=>rfl⟩,⟨_,rfl⟩,fun _=>rfl⟩
  ·simp only[length_append,List.length_singleton,hlen];rw[es];omega
  ·rcases lt_or_ge i aL.length with hi|hi
   ·rw[getElem?_append_left hi] at hx;exact hw.st.k i x hx
   ·have gX:i=aL.length:=by have:=(List.getElem?_eq_some_iff.1 hx).1;simp at this;omega
    subst gX;simp at hx;subst hx;simp;omega
  ·rcases lt_or_ge i aL.length with hi|hi
   ·rw[getElem?_append_left hi] at hx;have hr:=hw.FA i x hx;refine⟨hr.o,by simp;have:=hr.k;omega,hr.bu,hr.gate,hr.dst,hr.skip,fun h1 h2 k H2 T2 e2 hk CD mY=>?_,fun h1=>?_⟩
    ·rcases lt_or_ge k sts.length with gB|gB
     ·rw[getElem?_append_left gB] at hk;exact hr.still h1 h2 k H2 T2 e2 hk CD mY
     ·have mi:k=sts.length:=by have:=(List.getElem?_eq_some_iff.1 hk).1;simp at this;omega
      subst mi;simp at hk;obtain⟨rfl,rfl,rfl⟩:=hk;rcases mY with mY|mY
      ·have:=hr.k;omega
      ·exact xu Zp i mY x hx h1 h2
    ·obtain⟨Ha,Ta,ea,Hb,Tb,g1,g2,g3,g4⟩:=hr.effect h1;have l1:=(List.getElem?_eq_some_iff.1 g1).1;have l2:=(List.getElem?_eq_some_iff.1 g2).1;exact⟨Ha,Ta,ea,Hb,Tb,by rw[getElem?_append_left l1];exact g1,by rw[getElem?_append_left l2];exact g2,g3,g4⟩
   ·have gX:i=aL.length:=by have:=(List.getElem?_eq_some_iff.1 hx).1;simp at this;omega
    subst gX;simp at hx;subst hx;refine⟨kR,(by rw[length_append,List.length_singleton];exact(by omega:sts.length-1<sts.length+1)),mn.symm,hgate,kS,fun hr=>(ux hr).1,fun _ h2=>(by cases h2),fun _=>⟨H,T,i0,H',T',by show (sts++[_])[sts.length-1]?=_;rw[getElem?_append_left (by omega)];exact fP,?_,cK,fun hr=>(ux hr).2⟩⟩;show (sts++[_])[sts.length-1+1]?=_;rw[show sts.length-1+1=sts.length by omega];simp
  ·rcases lt_or_ge i aL.length with hi|hi
   ·rw[getElem?_append_left hi] at hx;rw[take_append_of_le_length (by omega)];exact hw.zO i x hx
   ·have gX:i=aL.length:=by have:=(List.getElem?_eq_some_iff.1 hx).1;simp at this;omega
    subst gX;simp at hx;subst hx;rw[take_append_of_le_length (le_refl _),take_length];exact hw.cur
  ·rw[fC,←hw.cur];rfl
 ·rename_i mn;simp only[Bool.not_eq_true] at mn;obtain⟨hex,ia⟩:=h;obtain⟨kS,uz⟩:=jW ia;obtain⟨rfl,rfl⟩:=C3 mn;refine⟨_,_,_,⟨⟨?_,fun i x hx=>?_⟩,fun i x hx=>?_,fun i x hx=>?_,?_⟩,by simp,uz,rfl,dA,⟨_,rfl,fun h=>absurd h (by rw[mn];decide)⟩,⟨[],by simp⟩,fun h=>absurd h (by rw[mn];decide)⟩
  ·simp only[length_append,List.length_singleton,hlen];rw[mW mn]
  ·rcases lt_or_ge i aL.length with hi|hi
   ·rw[getElem?_append_left hi] at hx;exact hw.st.k i x hx
   ·have gX:i=aL.length:=by have:=(List.getElem?_eq_some_iff.1 hx).1;simp at this;omega
    subst gX;simp at hx;subst hx;simp;omega
  ·rcases lt_or_ge i aL.length with hi|hi
   ·rw[getElem?_append_left hi] at hx;have hr:=hw.FA i x hx;exact⟨hr.o,hr.k,hr.bu,hr.gate,hr.dst,hr.skip,hr.still,hr.effect⟩
   ·have gX:i=aL.length:=by have:=(List.getElem?_eq_some_iff.1 hx).1;simp at this;omega
    subst gX;simp at hx;subst hx;refine⟨kR,(by exact(by omega:sts.length-1<sts.length)),mn.symm,hgate,kS,fun hr=>(ux hr).1,fun h1 _ k H2 T2 e2 hk CD mY=>?_,fun h=>(by cases h)⟩;simp only at hk CD mY h1 ⊢;have gB:=(List.getElem?_eq_some_iff.1 hk).1;rcases lt_or_ge k (sts.length-1) with aZ|jE
    ·have dg:((sts.drop (D.lo.getD aL.length 0)).dropLast)[k-D.lo.getD aL.length 0]?=some (H2,T2,e2):=by
      rw[List.getElem?_dropLast,if_pos (by rw[List.length_drop];omega),List.getElem?_drop,show D.lo.getD aL.length 0+(k-D.lo.getD aL.length 0)=k by omega];exact hk
     exact xK (hex h1) _ _ dg
    ·have mi:k=sts.length-1:=by omega
     subst mi;rw[fP] at hk
     cases hk
     exact cK h1 (fun e=>by rw[e,tI] at mn;cases mn)
  ·rcases lt_or_ge i aL.length with hi|hi
   ·rw[getElem?_append_left hi] at hx;rw[take_append_of_le_length (by omega)];exact hw.zO i x hx
   ·have gX:i=aL.length:=by have:=(List.getElem?_eq_some_iff.1 hx).1;simp at this;omega
    subst gX;simp at hx;subst hx;rw[take_append_of_le_length (le_refl _),take_length];exact hw.cur
  ·rw[fC,←hw.cur];rfl
theorem Ck {nx:Nat}{D:tK}{ops:List Oper}{e0:Env}(mP:jm D.bu=true)(tI:D.bu.contains nx=true):∀(l:List Oper)(aL:List bW)(sts:List pz)(e:Env),je nx D ops e0 aL sts e→ops.drop aL.length=l→aL.length≤ops.length→eE D l aL sts e→
  ∃bE dn H T i,je nx D ops e0 bE dn (aT e0 bE)∧bE.length=ops.length∧dn.getLast?=some (H,T,i)∧D.K ⟨aT e0 bE,H,T⟩∧dn[0]?=sts[0]?∧(∃q,bE=aL++q)∧∃q,dn=sts++q:=by
 intro l
 induction l with
 |nil=>
  intro aL sts e hw hl hle h;unfold eE at h
  split at h
  ·rename_i H T i cL;have hlen:aL.length=ops.length:=by
    have:=congrArg List.length hl;simp at this;omega
   have hc:=hw.cur;subst hc;exact⟨aL,sts,H,T,i,hw,hlen,cL,h,rfl,⟨[],by simp⟩,⟨[],by simp⟩⟩
  ·exact h.elim
 |cons o r ih=>
  intro aL sts e hw hl hle h;have aZ:aL.length<ops.length:=by
   have:=congrArg List.length hl;simp at this;omega
  have kR:ops[aL.length]?=some o:=by
   have:=congrArg (fun l=>l[0]?) hl;simpa using this
  have pB:ops.drop (aL.length+1)=r:=by
   have:=congrArg (fun l=>l.drop 1) hl;simpa[drop_drop,add_comm] using this
  have fin:∀{H T i0 run v H' T'},sts.getLast?=some (H,T,i0)→(match o.guard with|none=>run=true|some (j,want)=>∃b,jN D.all j e=some b∧run=(b==some want))→(run=false→v=.df []∧H'=H∧T'=T)→(run=true→aL.length≠nx→dN D.C.P o e H T v H' T')→
    (D.bu.contains aL.length=false→H'=H∧T'=T)→v8 D (eE D r) o aL sts e run v H' T'→∃bE dn H T i,je nx D ops e0 bE dn (aT e0 bE)∧bE.length=ops.length∧dn.getLast?=some (H,T,i)∧D.K ⟨aT e0 bE,H,T⟩∧dn[0]?=sts[0]?∧(∃q,bE=aL++q)∧∃q,dn=sts++q:=by
   intro H T i0 run v H' T' cL hg h1 h2 h3 h4;obtain⟨bE,dn,e',g1,g2,g3,g4,_,⟨x9,g9,_⟩,⟨q8,g8⟩,_⟩:=sg mP tI hw kR cL hg h1 h2 h3 h4;obtain⟨r2,s2,H2,T2,i2,k1,k2,k3,k4,k5,⟨q6,k6⟩,⟨q7,k7⟩⟩:=ih bE dn e' g1 (by rw[g2];exact pB) (by omega) g3;exact⟨r2,s2,H2,T2,i2,k1,k2,k3,k4,k5.trans g4,⟨_,by rw[k6,g9,append_assoc]⟩,⟨_,by rw[k7,g8,append_assoc]⟩⟩
  have exec:∀{H T i0},sts.getLast?=some (H,T,i0)→(match o.guard with|none=>true=true|some (j,want)=>∃b,jN D.all j e=some b∧true=(b==some want))→kj D (eE D r) o aL sts e H T→
    ∃bE dn H T i,je nx D ops e0 bE dn (aT e0 bE)∧bE.length=ops.length∧dn.getLast?=some (H,T,i)∧D.K ⟨aT e0 bE,H,T⟩∧dn[0]?=sts[0]?∧(∃q,bE=aL++q)∧∃q,dn=sts++q:=by
   intro H T i0 cL hg hx;unfold kj at hx
   split at hx
   ·rename_i g as ic;obtain⟨v,H',T',hc,hs,hd⟩:=hx;refine fin (run:=true) cL hg (fun e=>by cases e) (fun _ _=>?_) hs hd;unfold dN;rw[ic];exact hc
   ·rename_i ic
    split at hx
    ·rename_i v H' T' lq;refine fin (run:=true) cL hg (fun e=>by cases e) (fun _ _=>?_) hx.1 hx.2;unfold dN;rw[ic];exact lq
    ·exact hx.elim
  unfold eE at h
  split at h
  ·rename_i H T i0 cL
   split at h
   ·rename_i hg;exact exec cL (by rw[hg]) h
   ·rename_i j want hg
    split at h
    ·rename_i b hb
     split at h
     ·rename_i th;exact exec cL (by rw[hg];exact⟨b,hb,by simp[th]⟩) h
     ·rename_i th;exact fin (run:=false) cL (by rw[hg];exact⟨b,hb,by simp[th]⟩) (fun _=>⟨rfl,rfl,rfl⟩) (fun e=>by cases e) (fun _=>⟨rfl,rfl⟩) h
    ·exact h.elim
  ·exact h.elim
def fF (C:Cx)(o:Oper)(e:Env)(H:List aA)(T:ar)(κ:AV→List aA→ar→Prop):Prop:=
 match jD C.P C.bx o e H with
 |some (m,ys,z)=>∀nc:Nat,m≤nc→κ (.bJ H.length m nc) (H++[.cells (ys++List.replicate ((nc-m)*z) .top)]) T
 |none=>match qv o e with
  |some (t,t2,i,n,cap,x)=>∃(el:TypeId) (vs xs:List AV) (m:Nat),C.P.underlying t=some (.slice el)∧H[i]?=some (.cells vs)∧vs.length=cap*C.P.cellsOf el∧fN H (C.P.cellsOf el) x=some (m,xs)∧(n+m)*C.P.bytesOf el≤140737488355328∧n+m≤9223372036854775807∧
    iS C.P t2=true∧(br C.P el).isSome=true∧
    (n+m≤cap→κ (.bJ i (n+m) cap) (H.set i (.cells (vs.take (n*C.P.cellsOf el)++xs++vs.drop ((n+m)*C.P.cellsOf el)))) T)∧
    ∀nc,cap<n+m→n+m≤nc→κ (.bJ H.length (n+m) nc) (H++[.cells (vs.take (n*C.P.cellsOf el)++xs++List.replicate ((nc-(n+m))*C.P.cellsOf el) .top)]) T
  |none=>False
theorem vF {o:Oper}{e e':Env}(h:∀x∈o.op.operands,bK e x=bK e' x):qv o e=qv o e':=by
 unfold qv
 cases ho:o.op<;>try rfl
 rename_i c;rw[ho] at h;obtain⟨callee,args,zu⟩:=c
 cases callee<;>try rfl
 rename_i bi
 cases bi<;>try rfl
 have h2:args.toList.map (bK e)=args.toList.map (bK e'):=List.map_congr_left fun x hx=>h x (by simp only[Op.operands,Call.operands];exact Array.mem_append.2 (.inr (Array.mem_toList_iff.1 hx)));simp only[h2]
theorem sS {P:Program}{bx:List Nat}{o:Oper}{e e':Env}{H:List aA}(h:∀x∈o.op.operands,bK e x=bK e' x):jD P bx o e H=jD P bx o e' H:=by
 obtain⟨dst,op,type,pos,after,guard⟩:=o;unfold jD;simp only at h ⊢
 cases op<;>try rfl
 rename_i c;obtain⟨callee,args,zu⟩:=c
 cases callee<;>try rfl
 rename_i bi
 cases bi<;>try rfl
 cases dst<;>try rfl
 have h2:args.toList.map (bK e)=args.toList.map (bK e'):=List.map_congr_left fun x hx=>h x (by simp only[Op.operands,Call.operands];exact Array.mem_append.2 (.inr (Array.mem_toList_iff.1 hx)));simp only[h2]
theorem sI {C:Cx}{o:Oper}{e e':Env}{H:List aA}{T:ar}{κ:AV→List aA→ar→Prop}(h:∀x∈o.op.operands,bK e x=bK e' x)(k:fF C o e H T κ):fF C o e' H T κ:=by
 unfold fF at k ⊢;rw[←sS h,←vF h];exact k
theorem uV {C:Cx}{o:Oper}{e:Env}{H:List aA}{T:ar}{κ:AV→List aA→ar→Prop}(k:fF C o e H T κ){L:Lay}{w:World}{a:Act}(hc:bT L H T w)(he:ew L H.length T w e a){K:Act→World→Prop}{Q:Exit→Act→World→Prop}
  (hk:∀v H' T' cv w' L',κ v H' T'→bT L' H' T' w'→bc L' H'.length T' w' v cv→Ev H.length T.length L H.length T w L' H'.length T' w'→K (a.put o.dst cv) w'):o.wp C.P a w K Q:=by
 unfold fF at k
 split at k
 ·rename_i m ys z yk;obtain⟨nc,kT,cv,w',L',cK,cT,dI,dP⟩:=xe yk hc he;unfold Oper.wp;rw[cK];exact hk _ _ _ _ _ _ (k nc kT) cT dI dP
 ·split at k
  ·rename_i t t2 i n cap x FN;obtain⟨el,vs,xs,m,hu,hH,Iz,lB,sq,rF,sX,pf,CF,dg⟩:=k;unfold qv at FN
   split at FN
   ·rename_i args zu lq
    split at FN
    ·rename_i t' t2' i' n' jO x' zz eu
     cases FN
     have pP:zu=#[t,t2]:=by rw[←Array.toList_inj];exact zz
     subst pP;have iD:args.toList.length=2:=by have:=congrArg List.length eu;simpa using this
     match Ey:args.toList,iD,eu with
     |[p,q],_,eu=>
      simp only[map_cons,map_nil,List.cons.injEq,and_true] at eu;obtain⟨e1,e2⟩:=eu;have h0:=he.bK p;have h1:=he.bK q;rw[e1] at h0;rw[e2] at h1;have mv:args=#[p,q]:=by rw[←Array.toList_inj];exact Ey
      subst mv;have hex:∀cv w',(Builtin.append_ #[t,t2] o.type #[a.eval p,a.eval q]).run C.P w=.ok cv w'→(execOp a.eval o).run C.P w=.ok (.value cv) w':=fun cv w' hr=>by
       simp only[execOp,lq,resolve,Sem.run_bind,Sem.run_pure,Result.andThen_ok,invoke,builtin,List.map_toArray,map_cons,map_nil,hr]
      rcases AH (ty:=o.type) hc h0 h1 hu hH Iz lB sq rF sX pf with⟨hle,cv,w',L',cK,cT,dI,dP⟩|⟨aZ,nc,kT,cv,w',L',cK,cT,dI,dP⟩
      ·unfold Oper.wp;rw[hex _ _ cK];exact hk _ _ _ _ _ _ (CF hle) cT dI dP
      ·unfold Oper.wp;rw[hex _ _ cK];exact hk _ _ _ _ _ _ (dg nc aZ kT) cT dI dP
    ·cases FN
   ·cases FN
  ·exact k.elim
def gA (D:tK):Nat→List Oper→List bW→List pz→Env→Prop
 |_,[],_,_,_=>False
 |0,o::r,aL,sts,e=>match sts.getLast? with
  |some (H,T,_)=>match o.guard with
   |none=>fF D.C o e H T (fun v H' T'=>v8 D (eE D r) o aL sts e true v H' T')
   |some _=>False
  |none=>False
 |n+1,o::r,aL,sts,e=>match sts.getLast? with
  |some (H,T,_)=>match o.guard with
   |none=>kj D (gA D n r) o aL sts e H T
   |some (j,want)=>match jN D.all j e with
    |some b=>if b=some want then kj D (gA D n r) o aL sts e H T else v8 D (gA D n r) o aL sts e false (.df []) H T
    |none=>False
  |none=>False
theorem B2 {nx:Nat}{D:tK}{ops:List Oper}{e0:Env}(mP:jm D.bu=true)(tI:D.bu.contains nx=true):∀(n:Nat)(l:List Oper)(aL:List bW)(sts:List pz)(e:Env),je nx D ops e0 aL sts e→ops.drop aL.length=l→aL.length≤ops.length→aL.length+n=nx→gA D n l aL sts e→
  ∃bE dn H T i o r,je nx D ops e0 bE dn (aT e0 bE)∧bE.length=nx∧dn.getLast?=some (H,T,i)∧dn[0]?=sts[0]?∧ops.drop nx=o::r∧o.guard=none∧fF D.C o (aT e0 bE) H T (fun v H' T'=>v8 D (eE D r) o bE dn (aT e0 bE) true v H' T'):=by
 intro n
 induction n with
 |zero=>
  intro l aL sts e hw hl hle hn h
  cases l with
  |nil=>exact h.elim
  |cons o r=>
   unfold gA at h
   split at h
   ·rename_i H T i cL
    split at h
    ·rename_i hg;have hc:=hw.cur;subst hc;exact⟨aL,sts,H,T,i,o,r,hw,by omega,cL,rfl,by rw[←hl];congr 1;omega,hg,h⟩
    ·exact h.elim
   ·exact h.elim
 |succ n ih=>
  intro l aL sts e hw hl hle hn h
  cases l with
  |nil=>exact h.elim
  |cons o r=>
  have aZ:aL.length<ops.length:=by
   have:=congrArg List.length hl;simp at this;omega
  have kR:ops[aL.length]?=some o:=by
   have:=congrArg (fun l=>l[0]?) hl;simpa using this
  have pB:ops.drop (aL.length+1)=r:=by
   have:=congrArg (fun l=>l.drop 1) hl;simpa[drop_drop,add_comm] using this
  have fin:∀{H T i0 run v H' T'},sts.getLast?=some (H,T,i0)→(match o.guard with|none=>run=true|some (j,want)=>∃b,jN D.all j e=some b∧run=(b==some want))→(run=false→v=.df []∧H'=H∧T'=T)→(run=true→aL.length≠nx→dN D.C.P o e H T v H' T')→
    (D.bu.contains aL.length=false→H'=H∧T'=T)→v8 D (gA D n r) o aL sts e run v H' T'→∃bE dn H T i o r,je nx D ops e0 bE dn (aT e0 bE)∧bE.length=nx∧dn.getLast?=some (H,T,i)∧dn[0]?=sts[0]?∧ops.drop nx=o::r∧o.guard=none∧fF D.C o (aT e0 bE) H T (fun v H' T'=>v8 D (eE D r) o bE dn (aT e0 bE) true v H' T'):=by
   intro H T i0 run v H' T' cL hg h1 h2 h3 h4;obtain⟨bE,dn,e',g1,g2,g3,g4,_⟩:=sg mP tI hw kR cL hg h1 h2 h3 h4;obtain⟨r2,s2,H2,T2,i2,o2,q2,k1,k2,k3,k4,k5⟩:=ih r bE dn e' g1 (by rw[g2];exact pB) (by omega) (by omega) g3;exact⟨r2,s2,H2,T2,i2,o2,q2,k1,k2,k3,k4.trans g4,k5⟩
  have exec:∀{H T i0},sts.getLast?=some (H,T,i0)→(match o.guard with|none=>true=true|some (j,want)=>∃b,jN D.all j e=some b∧true=(b==some want))→kj D (gA D n r) o aL sts e H T→
    ∃bE dn H T i o r,je nx D ops e0 bE dn (aT e0 bE)∧bE.length=nx∧dn.getLast?=some (H,T,i)∧dn[0]?=sts[0]?∧ops.drop nx=o::r∧o.guard=none∧fF D.C o (aT e0 bE) H T (fun v H' T'=>v8 D (eE D r) o bE dn (aT e0 bE) true v H' T'):=by
   intro H T i0 cL hg hx;unfold kj at hx
   split at hx
   ·rename_i g as ic;obtain⟨v,H',T',hc,hs,hd⟩:=hx;refine fin (run:=true) cL hg (fun e=>by cases e) (fun _ _=>?_) hs hd;unfold dN;rw[ic];exact hc
   ·rename_i ic
    split at hx
    ·rename_i v H' T' lq;refine fin (run:=true) cL hg (fun e=>by cases e) (fun _ _=>?_) hx.1 hx.2;unfold dN;rw[ic];exact lq
    ·exact hx.elim
  unfold gA at h
  split at h
  ·rename_i H T i0 cL
   split at h
   ·rename_i hg;exact exec cL (by rw[hg]) h
   ·rename_i j want hg
    split at h
    ·rename_i b hb
     split at h
     ·rename_i th;exact exec cL (by rw[hg];exact⟨b,hb,by simp[th]⟩) h
     ·rename_i th;exact fin (run:=false) cL (by rw[hg];exact⟨b,hb,by simp[th]⟩) (fun _=>⟨rfl,rfl,rfl⟩) (fun e=>by cases e) (fun _=>⟨rfl,rfl⟩) h
    ·exact h.elim
  ·exact h.elim
theorem xT {C:Cx}{ops:List Oper}{Q:Exit→St→Prop}{s':St}{K:St→Prop}{bu lo:List Nat}{na:List (List Nat)}(mP:iU ops bu lo na=true)(pK:jm bu=true){nx:Nat}{L0:Lay}{w0:World}{D:tK}
  (mj:D.C=C) (mZ:D.bu=bu) (EB:D.lo=lo) (RG:D.na=na) (RH:D.all=ops.toArray) {aL:List bW} {sts:List pz} (hlen:aL.length=ops.length) (FH:∀(i:Nat)(x:bW),aL[i]?=some x→ops[i]?=some x.o)
  (Rk:Nat→Prop) (tI:∀i,Rk i→i≠nx) (hRk:∀(i:Nat)(x:bW),aL[i]?=some x→Rk i→Ki nx D ops sts aL i x) (Us:∀(i:Nat)(x:bW),aL[i]?=some x→Rk i→x.e=aT s'.e (aL.take i))
  (L4:∀(i:Nat)(x:bW),aL[i]?=some x→Rk i→x.k=(D.bu.filter (·<i)).length) (J:Array Bool→Prop) (hJ:∀ay i,Rk i→J ay→J (ay.setIfInBounds i true))
  (F8:∀(ay:Array Bool)(a:Act)(w:World),Inv D s' aL sts L0 w0 ay a w→J ay→(∀i,i<ops.length→ay.getD i false=true)→dh C (dL K Q) L0 s' w0 .normal a w)
  (QN:∀(fuel:Nat)(ay:Array Bool)(a:Act)(w:World),Inv D s' aL sts L0 w0 ay a w→J ay→∀i,i∈Region.ready .any ops.toArray ay→¬Rk i→
   ((∀j,j<ops.length→(ay.setIfInBounds i true).getD j false=true)∨(List.range ops.length).countP (fun j=>!(ay.setIfInBounds i true).getD j false)≤fuel)→
   wpOp C.P ops.toArray (dh C (dL K Q) L0 s' w0) i (wpAny C.P .any ops.toArray (dh C (dL K Q) L0 s' w0) fuel (ay.setIfInBounds i true)) a w) :
  ∀(fuel:Nat)(ay:Array Bool)(a:Act)(w:World),Inv D s' aL sts L0 w0 ay a w→J ay→(∀i,i<ops.length→ay.getD i false=true)∨(List.range ops.length).countP (fun i=>!ay.getD i false)≤fuel→
   wpAny C.P .any ops.toArray (dh C (dL K Q) L0 s' w0) fuel ay a w:=by
 obtain⟨d1,d2,d3,d4,d5,d6,d7⟩:=ln mP;have CP:aL.map (·.o)=ops:=by
  apply List.ext_getElem?;intro i;rw[getElem?_map]
  by_cases hi:i<aL.length
  ·rw[getElem?_eq_getElem hi,Option.map_some,FH i _ (getElem?_eq_getElem hi)]
  ·rw[getElem?_eq_none (by omega),getElem?_eq_none (by omega)];rfl
 have Qa:∀i,i<ops.length→∃x:bW,aL[i]?=some x:=fun i hi=>⟨_,getElem?_eq_getElem (by omega)⟩
 have Sa:∀(ay:Array Bool)(a:Act)(w:World)(i:Nat)(KK:Act→World→Prop),Inv D s' aL sts L0 w0 ay a w→Rk i→i∈Region.ready .any ops.toArray ay→
   (∀a' w',Inv D s' aL sts L0 w0 (ay.setIfInBounds i true) a' w'→KK a' w')→wpOp C.P ops.toArray (dh C (dL K Q) L0 s' w0) i KK a w:=by
  intro ay a w i KK hI Mn hi Jm;obtain⟨zA,o,ho,pZ⟩:=mem_ready.1 hi;rw[getElem?_toArray] at ho;have cC:i<ops.length:=(List.getElem?_eq_some_iff.1 ho).1;have jL:i<ay.size:=by rw[hI.size];omega
  have pR:ay.getD i false=false:=by rw[←dj jL];exact zA
  obtain⟨x,hx⟩:=Qa i cC;have yg:x.o=o:=by have:=FH i x hx;rw[ho] at this;injection this with this;exact this.symm
  have hR:=hRk i x hx Mn;have fK:∀i j,ay.getD i false=true→j7 (dW ops []) j i=true→ay.getD j false=true:=by
   have:=hI.closed;rw[CP] at this;exact this
  have gT:∀j,j7 (dW ops []) j i=true→ay.getD j false=true:=fun j hj=>mI fK ho pZ (d6 i o ho) hj;obtain⟨k,H,T,e,L,hk,gB,pk,cT,fO,eS,fV,dP⟩:=hI.st;rw[mZ] at hk gB;rw[mj] at fO eS dP;have dH:∀t∈o.looksAt ops.toArray,∀v,VS aL ay s'.e t v→v=bF x.e t:=by
   intro t ht v hv;rw[Us i x hx Mn];have FG:∀(j:Nat)(z:bW),aL[j]?=some z→z.o.dst=some t→i≠j∧((j<i∧j7 (dW ops []) j i=true)∨(i<j∧j7 (dW ops []) i j=true)):=fun j z hz hd=>d2 i j o z.o t ho (FH j z hz) ht hd;rcases hv with⟨j,z,hz,hd,hl,rfl⟩|⟨nC,rfl⟩
   ·obtain⟨dA,h1|h1⟩:=FG j z hz hd
    ·rw[eg (aL.take i) s'.e t j z (by rw[getElem?_take,if_pos h1.1];exact hz) hd (fun i' y' zo SL=>by
      rw[getElem?_take] at zo
      split at zo
      ·exact d1 i' j y'.o z.o t (FH i' y' zo) (FH j z hz) SL hd
      ·cases zo)]
    ·have:=fK j i hl h1.2;rw[pR] at this;cases this
   ·rw[cp (aL.take i) s'.e t (fun z hz hd=>by
     obtain⟨j,hj,e1⟩:=List.mem_iff_getElem.1 hz;simp at hj;have Ep:aL[j]?=some z:=by rw[getElem?_eq_getElem (by omega),←e1];simp
     have hf:=nC j z Ep hd;obtain⟨dA,h1|h1⟩:=FG j z Ep hd
     ·have:=gT j h1.2;rw[hf] at this;cases this
     ·omega)]
  have pq:ew L H.length T w (kq x.e (o.looksAt ops.toArray)) a:=by
   intro t;rw[dZ]
   split
   ·rename_i ht;obtain⟨v,hv,hr⟩:=fV t;rw[←dH t ht v hv];exact hr
   ·exact .top _
  have yq:∀z∈o.op.operands,bK x.e z=bK (kq x.e (o.looksAt ops.toArray)) z:=by
   intro z hz
   cases z with
   |tmp t=>
    have:t∈o.looksAt ops.toArray:=by
     unfold Oper.looksAt;exact List.mem_append.2 (.inl (List.mem_filterMap.2 ⟨_,Array.mem_toList_iff.2 hz,rfl⟩))
    simp only[bK,dZ,if_pos this]
   |_=>rfl
  have behind:∀(H':List aA)(T':ar)(cv:Value)(w':World)(L':Lay),bT L' H' T' w'→bc L' H'.length T' w' x.v cv→Ev H.length T.length L H.length T w L' H'.length T' w'→
    ((bu.contains i=false∧H'=H∧T'=T)∨(bu.contains i=true∧bu[k]?=some i∧∃e',sts[k+1]?=some (H',T',e')))→KK (a.put o.dst cv) w':=by
   intro H' T' cv w' L' qD qB ml mY;refine Jm _ _ ⟨by simp[hI.size],fun i' j' mO iP=>?_,?_,?_,by cases o.dst<;>exact hI.defers⟩
   ·rw[CP] at iP
    by_cases s8:i=i'
    ·subst s8;have:=gT j' iP
     by_cases jt:i=j'
     ·subst jt;rw[pR] at this;cases this
     ·rw[getD_set_ne false jt];exact this
    ·rw[getD_set_ne false s8] at mO;have:=fK i' j' mO iP;exact getD_set_true this
   ·have jh:∀t,∃v,VS aL (ay.setIfInBounds i true) s'.e t v∧bc L' H'.length T' w' v ((a.put o.dst cv).tmps.getD t undef):=by
     intro t
     by_cases hd:o.dst=some t
     ·refine⟨x.v,.inl ⟨i,x,hx,by rw[yg];exact hd,by simp[jL],rfl⟩,?_⟩;have aZ:t<a.tmps.size:=by rw[hI.tmps];exact hR.dst t (by rw[yg];exact hd)
      rw[hd,iw a t t cv aZ,if_pos rfl];exact qB
     ·obtain⟨v,hv,hr⟩:=fV t;refine⟨v,?_,?_⟩
      ·rcases hv with⟨j,z,hz,sV,hl,rfl⟩|⟨nC,rfl⟩
       ·exact .inl ⟨j,z,hz,sV,getD_set_true hl,rfl⟩
       ·refine .inr ⟨fun j z hz sV=>?_,rfl⟩;have jt:i≠j:=by
         rintro rfl;rw[hx] at hz
         cases hz
         rw[yg] at sV;exact hd sV
        rw[getD_set_ne false jt];exact nC j z hz sV
      ·have e1:(a.put o.dst cv).tmps.getD t undef=a.tmps.getD t undef:=by
        cases kS:o.dst with
        |none=>rfl
        |some d=>
         have aZ:d<a.tmps.size:=by rw[hI.tmps];exact hR.dst d (by rw[yg];exact kS)
         rw[iw a d t cv aZ,if_neg (fun e=>hd (by rw[kS,e]))]
       rw[e1];exact hr.keep ml.keeps
    have Ji:=dP.trans (ml.mono fO eS);rcases mY with⟨dA,rfl,rfl⟩|⟨heq,ry,e',Ja⟩
    ·refine⟨k,H',T',e,L',fun m i' qi=>?_,by rw[mZ];exact gB,pk,qD,by rw[mj];exact fO,by rw[mj];exact eS,jh,by rw[mj];exact Ji⟩;rw[mZ] at qi;have s8:i≠i':=by
      rintro rfl;have:=mem_of_getElem? qi;rw[←contains_iff_mem] at this;rw[dA] at this;cases this
     rw[getD_set_ne false s8];exact hk m i' qi
    ·refine⟨k+1,H',T',e',L',fun m i' qi=>?_,by rw[mZ];have:=(List.getElem?_eq_some_iff.1 ry).1;omega,Ja,qD,by rw[mj];exact le_trans fO ml.n,by rw[mj];exact le_trans eS ml.t,jh,by rw[mj];exact Ji⟩;rw[mZ] at qi
     by_cases s8:i=i'
     ·subst s8;have e1:=(gQ pK heq).1;have Mq:∀m',bu[m']?=some i→m'=(bu.filter (·<i)).length:=by
       intro m' Je;have hY:=(List.getElem?_eq_some_iff.1 Je).1;have:=List.all_eq_true.1 pK m' (List.mem_range.2 hY);simp only[Bool.and_eq_true,beq_iff_eq,getD_eq_getElem?_getD,Je,Option.getD_some] at this;exact this.1.symm
      have h1:=Mq m qi;have h2:=Mq k ry;simp[jL];omega
     ·rw[getD_set_ne false s8,hk m i' qi]
      constructor
      ·intro h;omega
      ·intro h;rcases lt_or_ge m k with h1|h1
       ·exact h1
       ·have:m=k:=by omega
        subst this;rw[ry] at qi
        injection qi with qi
        exact absurd qi s8
   ·simp[Act.put];cases o.dst<;>simp[hI.tmps]
  have uG:bu.contains i=true→bu[k]?=some i∧x.k=k:=by
   intro heq;obtain⟨e1,_⟩:=gQ pK heq;have rB:=L4 i x hx Mn;rw[mZ] at rB;have jE:k≤(bu.filter (·<i)).length:=by
    rcases lt_or_ge (bu.filter (·<i)).length k with h1|h1
    ·have:=(hk _ i e1).2 h1;rw[pR] at this;cases this
    ·exact h1
   have hle:(bu.filter (·<i)).length≤k:=by
    rcases Nat.eq_zero_or_pos (bu.filter (·<i)).length with h0|h0
    ·omega
    ·obtain⟨e',h1,h2⟩:=(d3 _ i e1).2 h0;have:=(hk _ e' h1).1 (gT e' h2);omega
   have:(bu.filter (·<i)).length=k:=by omega
   exact⟨by rw[←this];exact e1,by omega⟩
  have SF:∀j b,jN D.all j x.e=some b→o.guard=some (j,true)∨o.guard=some (j,false)→yielded ops.toArray a.tmps j=b:=by
   intro j b hb hg;rw[RH] at hb;refine mL pq ?_;unfold jN at hb ⊢
   split at hb
   ·rename_i d hd;have:d∈o.looksAt ops.toArray:=by
     unfold Oper.looksAt;refine List.mem_append.2 (.inr ?_);rcases hg with hg|hg<;>rw[hg]<;>simp only[hd]<;>simp
    rw[dZ,if_pos this];exact hb
   ·cases hb
  unfold wpOp;rw[getElem?_toArray,ho]
  dsimp only
  have hgate:=hR.gate;rw[yg] at hgate
  by_cases cK:x.run=true
  ·
   have nS:Region.wanted o (yielded ops.toArray a.tmps)=true:=by
    unfold Region.wanted
    cases hg:o.guard with
    |none=>rfl
    |some jw=>
     obtain⟨j,want⟩:=jw;rw[hg] at hgate;obtain⟨b,hb,iE⟩:=hgate;have:=SF j b hb (by cases want<;>simp[hg]);rw[cK] at iE;simp only[this];have th:b=some want:=by simpa using iE.symm
     simp[th]
   rw[if_pos nS];refine .inl ?_;have Sj:∃H' T',dN C.P o x.e H T x.v H' T'∧((bu.contains i=false∧H'=H∧T'=T)∨(bu.contains i=true∧bu[k]?=some i∧∃e',sts[k+1]?=some (H',T',e'))):=by
    cases heq:bu.contains i with
    |false=>
     have IT:x.bu=false:=by rw[hR.bu,mZ];exact heq
     have eM:=hR.still cK IT k H T e pk ?_ ?_
     ·rw[mj,yg] at eM;exact⟨H,T,eM,.inl ⟨rfl,rfl,rfl⟩⟩
     ·rw[EB];refine le_trans (d4 i cC) ?_;unfold EK;have aac:∀e'∈bu.filter (fun e=>j7 (dW ops []) e i),∃m,m<k∧bu[m]?=some e':=by
       intro e' s9;obtain⟨h1,h2⟩:=List.mem_filter.1 s9;obtain⟨m,FI,IB⟩:=List.mem_iff_getElem.1 h1;have Mr:bu[m]?=some e':=by rw[getElem?_eq_getElem FI,IB]
       exact⟨m,(hk m e' Mr).1 (gT e' h2),Mr⟩
      have hle:(bu.filter (fun e=>j7 (dW ops []) e i)).length≤(bu.take k).length:=by
       have e1:bu.filter (fun e=>j7 (dW ops []) e i)=(bu.take k).filter (fun e=>j7 (dW ops []) e i)++(bu.drop k).filter (fun e=>j7 (dW ops []) e i):=by
        rw[←List.filter_append,List.take_append_drop]
       have e2:(bu.drop k).filter (fun e=>j7 (dW ops []) e i)=[]:=by
        rw[List.filter_eq_nil_iff];intro e' s9 iP;obtain⟨m,FI,IB⟩:=List.mem_iff_getElem.1 s9;simp at FI;have Mr:bu[k+m]?=some e':=by
         rw[getElem?_eq_getElem (by omega),←IB];simp
        have:=(hk (k+m) e' Mr).1 (gT e' iP);omega
       rw[e1,e2,append_nil];exact List.length_filter_le _ _
      refine le_trans hle ?_;simp;omega
     ·rcases lt_or_ge x.k k with aZ|jE
      ·right
       rw[RG];have pI:k-1<bu.length:=by omega
       have s9:=getElem?_eq_getElem pI;have wG:=(hk (k-1) _ s9).2 (by omega);have L6:i<bu[k-1]:=by
        rcases lt_or_ge i bu[k-1] with h1|h1
        ·exact h1
        ·exfalso;have dA:bu[k-1]≠i:=by
          intro e1;have:=mem_of_getElem? s9;rw[e1,←contains_iff_mem] at this;rw[heq] at this;cases this
         have rB:=L4 i x hx Mn;rw[mZ] at rB;have h2:=List.all_eq_true.1 pK (k-1) (List.mem_range.2 pI);simp only[Bool.and_eq_true,beq_iff_eq,getD_eq_getElem?_getD,s9,Option.getD_some] at h2;have h3:(bu.filter (·<bu[k-1]+1)).length≤(bu.filter (·<i)).length:=by
          rw[←List.countP_eq_length_filter,←List.countP_eq_length_filter];exact List.countP_mono_left (fun z _ hz=>by simp at hz ⊢;omega)
         omega
       rcases d5 (k-1) _ s9 i L6 with h1|h1|h1
       ·rw[heq] at h1;cases h1
       ·exact h1
       ·have:=fK _ i wG h1;rw[pR] at this;cases this
      ·exact .inl jE
    |true=>
     have IT:x.bu=true:=by rw[hR.bu,mZ];exact heq
     obtain⟨ry,rB⟩:=uG heq;obtain⟨Ha,Ta,ea,Hb,Tb,g1,g2,g3,_⟩:=hR.effect IT;rw[rB,pk] at g1;obtain⟨rfl,rfl⟩:H=Ha∧T=Ta:=by injection g1 with h1;injection h1 with h1 h2;injection h2 with h2 h3;exact⟨h1,h2⟩
     rw[rB] at g2;have:=g3 cK (tI i Mn);rw[mj,yg] at this;exact⟨Hb,Tb,this,.inr ⟨rfl,ry,i,g2⟩⟩
   obtain⟨H',T',hex,mY⟩:=Sj;exact rk (oE yq hex) cT pq fun cv w' L' g1 g2 g3=>behind H' T' cv w' L' g1 g2 g3 mY
  ·
   have nT:x.run=false:=by simpa using cK
   have nS:Region.wanted o (yielded ops.toArray a.tmps)=false:=by
    unfold Region.wanted
    cases hg:o.guard with
    |none=>rw[hg] at hgate;rw[hgate] at nT;cases nT
    |some jw=>
     obtain⟨j,want⟩:=jw;rw[hg] at hgate;obtain⟨b,hb,iE⟩:=hgate;have:=SF j b hb (by cases want<;>simp[hg]);rw[nT] at iE;simp only[this];have th:b≠some want:=by simpa using iE.symm
     simp[th]
   rw[if_neg (by simp[nS])];have hv:x.v=.df []:=hR.skip nT
   cases heq:bu.contains i with
   |false=>exact behind H T undef w L cT (by rw[hv];exact .df [] #[] rfl (fun j hj=>by simp at hj)) (Ev.refl (le_refl _) (le_refl _)) (.inl ⟨heq,rfl,rfl⟩)
   |true=>
    have IT:x.bu=true:=by rw[hR.bu,mZ];exact heq
    obtain⟨ry,rB⟩:=uG heq;obtain⟨Ha,Ta,ea,Hb,Tb,g1,g2,_,g4⟩:=hR.effect IT;rw[rB,pk] at g1;obtain⟨rfl,rfl⟩:H=Ha∧T=Ta:=by injection g1 with h1;injection h1 with h1 h2;injection h2 with h2 h3;exact⟨h1,h2⟩
    obtain⟨rfl,rfl⟩:=g4 nT;rw[rB] at g2;exact behind _ _ undef w L cT (by rw[hv];exact .df [] #[] rfl (fun j hj=>by simp at hj)) (Ev.refl (le_refl _) (le_refl _)) (.inr ⟨heq,ry,i,g2⟩)
 have kF:∀(ay:Array Bool),ay.size=aL.length→Region.ready .any ops.toArray ay=[]→∀i,i<ops.length→ay.getD i false=true:=by
  intro ay iQ hr i
  induction i using Nat.strongRecOn with
  |_ i ih=>
   intro cC
   cases Rp:ay.getD i false with
   |true=>rfl
   |false=>
    exfalso;have iR:i∈Region.ready .any ops.toArray ay:=by
     refine mem_ready.2 ⟨by rw[dj (by omega)];exact Rp,ops[i],by rw[getElem?_toArray,getElem?_eq_getElem cC],fun e he hb=>?_⟩;have aZ:=d6 i _ (getElem?_eq_getElem cC) e he hb;exact ih e.on aZ (by omega)
    rw[hr] at iR;simp at iR
 intro fuel
 induction fuel with
 |zero=>
  intro ay a w hI Ez rI;have fj:∀i,i<ops.length→ay.getD i false=true:=by
   rcases rI with h1|h1
   ·exact h1
   ·intro i hi;have h2:(List.range ops.length).countP (fun i=>!ay.getD i false)=0:=by omega
    have:=List.countP_eq_zero.1 h2 i (List.mem_range.2 hi);simpa using this
  refine⟨?_,F8 ay a w hI Ez fj⟩;rw[List.eq_nil_iff_forall_not_mem];intro i hi;obtain⟨h1,o,ho,_⟩:=mem_ready.1 hi;rw[getElem?_toArray] at ho;have cC:=(List.getElem?_eq_some_iff.1 ho).1;rw[dj (by rw[hI.size];omega),fj i cC] at h1
  cases h1
 |succ fuel ih=>
  intro ay a w hI Ez rI;refine⟨fun hr=>F8 ay a w hI Ez (kF ay hI.size hr),fun i hi=>?_⟩;have O3:i∈Region.ready .any ops.toArray ay→(∀j,j<ops.length→(ay.setIfInBounds i true).getD j false=true)∨(List.range ops.length).countP (fun j=>!(ay.setIfInBounds i true).getD j false)≤fuel:=fun hi=>?_
  ·by_cases Mn:Rk i
   ·exact Sa ay a w i _ hI Mn hi fun a' w' PD=>ih _ a' w' PD (hJ _ _ Mn Ez) (O3 hi)
   ·exact QN fuel ay a w hI Ez i hi Mn (O3 hi)
  obtain⟨h1,o,ho,_⟩:=mem_ready.1 hi;rw[getElem?_toArray] at ho;have cC:=(List.getElem?_eq_some_iff.1 ho).1;have jL:i<ay.size:=by rw[hI.size];omega
  rw[dj jL] at h1;rcases rI with h2|h2
  ·rw[h2 i cC] at h1;cases h1
  ·right
   have:(List.range ops.length).countP (fun j=>!(ay.setIfInBounds i true).getD j false)+1≤(List.range ops.length).countP (fun j=>!ay.getD j false):=by
    have JY:(List.range ops.length).countP (fun j=>!ay.getD j false)=(List.range ops.length).countP (fun j=>!(ay.setIfInBounds i true).getD j false)+(List.range ops.length).countP (fun j=>decide (j=i)):=by
     generalize List.range ops.length=l
     induction l with
     |nil=>rfl
     |cons y r Se=>
      simp only[List.countP_cons,Se]
      by_cases hy:y=i
      ·subst hy;simp[h1,jL];omega
      ·rw[getD_set_ne false (fun e=>hy e.symm)];simp[hy];omega
    have ji:0<(List.range ops.length).countP (fun j=>decide (j=i)):=List.countP_pos_iff.2 ⟨i,List.mem_range.2 cC,by simp⟩;omega
   omega
def WQ (ops:List Oper)(bu:List Nat)(nx:Nat):Bool:=
 (bu[0]?==some nx)&&(List.range ops.length).all fun i=>decide (i≤nx)||j7 (dW ops []) nx i
theorem D0 {C:Cx}{ops:List Oper}{Q:Exit→St→Prop}{s:St}(K:St→Prop)(nx:Nat)(bu lo:List Nat)(na:List (List Nat))(mP:iU ops bu lo na=true)(pK:jm bu=true)(hm:WQ ops bu nx=true)
  (h:gA ⟨C,ops.toArray,bu,lo,na,K⟩ nx ops [] [(s.H,s.T,0)] (prune C.nv s.e)):∀L0 w0 a0,eF C s L0 w0 a0→
   wpAny C.P .any ops.toArray (dh C (dL K Q) L0 s w0) ops.toArray.size (Array.replicate ops.toArray.size false) a0 { w0 with drawn:=w0.drawn+1 }:=by
 intro L0 w0 a0 nE;have hc:eF C ⟨prune C.nv s.e,s.H,s.T⟩ L0 w0 a0:=⟨nE.nb,nE.tb,nE.mQ,nE.size,nE.defers,fun t=>by
  rcases mH C.nv s.e t with e|e<;>rw[e]
  ·exact nE.env t
  ·exact .top _⟩
 generalize vU:(⟨prune C.nv s.e,s.H,s.T⟩:St)=s' at hc;have IA:prune C.nv s.e=s'.e:=by rw[←vU]
 have CB:s.H=s'.H:=by rw[←vU]
 have IW:s.T=s'.T:=by rw[←vU]
 rw[IA,CB,IW] at h;rw[show dh C (dL K Q) L0 s w0=dh C (dL K Q) L0 s' w0 by unfold dh;rw[CB,IW]];clear vU IA CB IW nE;generalize hD:(⟨C,ops.toArray,bu,lo,na,K⟩:tK)=D at h;have mj:D.C=C:=by rw[←hD]
 have mZ:D.bu=bu:=by rw[←hD]
 have EB:D.lo=lo:=by rw[←hD]
 have RG:D.na=na:=by rw[←hD]
 have RH:D.all=ops.toArray:=by rw[←hD]
 have ZJ:D.K=K:=by rw[←hD]
 unfold WQ at hm;simp only[Bool.and_eq_true,beq_iff_eq,List.all_eq_true,List.mem_range,Bool.or_eq_true,decide_eq_true_eq] at hm;obtain⟨Ms,W3⟩:=hm;have aal:bu.contains nx=true:=by rw[contains_iff_mem];exact mem_of_getElem? Ms
 have F0:D.bu.contains nx=true:=by rw[mZ];exact aal
 have TA:(bu.filter (·<nx)).length=0:=by
  have:=List.all_eq_true.1 pK 0 (List.mem_range.2 (List.getElem?_eq_some_iff.1 Ms).1);simp only[Bool.and_eq_true,beq_iff_eq,getD_eq_getElem?_getD,Ms,Option.getD_some] at this;exact this.1
 have ab0:∀m i,bu[m]?=some i→nx≤i:=fun m i W2=>by
  rcases lt_or_ge i nx with h1|h1
  ·have:i∈bu.filter (·<nx):=List.mem_filter.2 ⟨mem_of_getElem? W2,by simpa using h1⟩;rw[List.length_eq_zero_iff.1 TA] at this;simp at this
  ·exact h1
 obtain⟨sv,PQ,H1,T1,i1,o,r,zy,ql,Ka,Ud,pB,yB,W1⟩:=B2 (D:=D) (ops:=ops) (e0:=s'.e) (by rw[mZ];exact pK) F0 nx ops [] [(s'.H,s'.T,0)] s'.e
  ⟨⟨by simp,fun i x hx=>by simp at hx⟩,fun i x hx=>by simp at hx,fun i x hx=>by simp at hx,rfl⟩ (by simp) (by simp) (by simp) h
 obtain⟨d1,d2,d3,d4,d5,d6,d7⟩:=ln mP;have Qd:nx<ops.length:=(d3 0 nx Ms).1;have hon:ops[nx]?=some o:=by
  have:=congrArg (fun l=>l[0]?) pB;simpa using this
 have aaf:PQ.length=1:=by
  have:=zy.st.len;rw[mZ,ql,TA] at this;exact this
 have Uc:PQ=[(s'.H,s'.T,0)]:=by
  match PQ,aaf,Ud with
  |[x],_,h0=>simpa using h0
 subst Uc;simp only[List.getLast?_singleton,Option.some.injEq,Prod.mk.injEq] at Ka;obtain⟨rfl,rfl,rfl⟩:=Ka;obtain⟨nR,hP⟩:∃l,l=sv++(ops.drop nx).map fun o=>(⟨o,[],false,.top,0,false⟩:bW):=⟨_,rfl⟩
 have JD:nR.length=ops.length:=by rw[hP];simp[ql];omega
 have Ga:∀i,i<nx→nR[i]?=sv[i]?:=fun i hi=>by rw[hP,getElem?_append_left (by omega)]
 have SQ:∀(i:Nat)(x:bW),nR[i]?=some x→ops[i]?=some x.o:=fun i x hx=>by
  rcases lt_or_ge i nx with hi|hi
  ·rw[Ga i hi] at hx;exact(zy.FA i x hx).o
  ·rw[hP,getElem?_append_right (by omega),ql,getElem?_map,List.getElem?_drop,show nx+(i-nx)=i by omega] at hx
   cases ho:ops[i]? with
   |none=>rw[ho] at hx;cases hx
   |some z=>rw[ho] at hx;cases hx;rfl
 have QR:nR.take nx=sv:=by rw[hP,take_append_of_le_length (by omega),←ql,take_length]
 have Ul:nR.map (·.o)=ops:=by
  apply List.ext_getElem?;intro i;rw[getElem?_map]
  by_cases hi:i<nR.length
  ·rw[getElem?_eq_getElem hi,Option.map_some,SQ i _ (getElem?_eq_getElem hi)]
  ·rw[getElem?_eq_none (by omega),getElem?_eq_none (by omega)];rfl
 have iQ:ops.toArray.size=ops.length:=by simp
 rw[iQ];refine xT (sts:=[(s'.H,s'.T,0)]) mP pK mj mZ EB RG RH JD SQ (fun i=>i<nx) (nx:=nx) (fun i hi=>by omega) (fun i x hx hi=>by have hr:=zy.FA i x (by rw[←Ga i hi];exact hx);exact⟨hr.o,hr.k,hr.bu,hr.gate,hr.dst,hr.skip,hr.still,hr.effect⟩) (fun i x hx hi=>?_) (fun i x hx hi=>zy.st.k i x (by rw[←Ga i hi];exact hx)) (fun l=>l.getD nx false=false)
  (fun l i hi hl=>by rw[getD_set_ne false (by omega)];exact hl) (fun ay a w hI hJ fj=>by rw[fj nx Qd] at hJ;cases hJ) ?_ ops.length _ a0 _ ⟨by simp[JD],fun i j hl _=>?_,⟨0,s'.H,s'.T,0,L0,fun m i W2=>?_,zero_le _,rfl,hc.mQ.drew rfl,by rw[mj];exact hc.nb,by rw[mj];exact hc.tb,fun t=>?_,?_⟩,by rw[mj];exact hc.size,hc.defers⟩ ?_ (.inr ?_)
 ·rw[zy.zO i x (by rw[←Ga i hi];exact hx)]
  congr 1
  rw[hP,take_append_of_le_length (by omega)]
 rotate_left
 ·exfalso
  by_cases hi:i<ops.length<;>simp[hi] at hl
 ·constructor
  ·intro hl;exfalso
   by_cases hi:i<ops.length<;>simp[hi] at hl
  ·intro h;omega
 ·refine⟨bF s'.e t,.inr ⟨fun j x hx hd=>?_,rfl⟩,?_⟩
  ·by_cases hj:j<ops.length<;>simp[hj]
  ·have kd:cS L0 s'.H.length s'.T w0 L0 s'.H.length s'.T { w0 with drawn:=w0.drawn+1 }:=(Ev.drew (H:=s'.H) (T:=s'.T) (L:=L0) (w:=w0) (w':={ w0 with drawn:=w0.drawn+1 }) rfl rfl rfl rfl (le_succ _)).keeps;exact(hc.env t).keep kd
 ·rw[mj];exact(Ev.drew (H:=s'.H) (T:=s'.T) (L:=L0) (w:=w0) (w':={ w0 with drawn:=w0.drawn+1 }) rfl rfl rfl rfl (le_succ _)).mono hc.nb hc.tb
 ·simp[Qd]
 ·refine le_trans (List.countP_le_length) ?_;simp
 intro fuel ay a w hI hJ i hi hnr rI;obtain⟨zA,o',IX,pZ⟩:=mem_ready.1 hi;rw[getElem?_toArray] at IX;have cC:i<ops.length:=(List.getElem?_eq_some_iff.1 IX).1;have fK:∀i j,ay.getD i false=true→j7 (dW ops []) j i=true→ay.getD j false=true:=by
  have:=hI.closed;rw[Ul] at this;exact this
 have gT:∀j,j7 (dW ops []) j i=true→ay.getD j false=true:=fun j hj=>mI fK IX pZ (d6 i o' IX) hj;have aat:i=nx:=by
  rcases W3 i cC with h1|h1
  ·omega
  ·have:=gT nx h1;rw[hJ] at this;cases this
 subst aat;have hoo:o'=o:=by rw[IX] at hon;exact Option.some.inj hon
 subst hoo;have J9:∀j,i<j→j<ops.length→ay.getD j false=false:=fun j hj ph=>by
  rcases W3 j ph with h1|h1
  ·omega
  ·cases hlj:ay.getD j false with
   |false=>rfl
   |true=>have:=fK j i hlj h1;rw[hJ] at this;cases this
 obtain⟨k,H,T,e,L,hk,gB,pk,cT,fO,eS,fV,dP⟩:=hI.st;rw[mZ] at hk gB;rw[mj] at fO eS dP;have Mt:k=0:=by
  have:=(hk 0 i Ms)
  rw[hJ] at this;have h2:¬0<k:=fun hh=>by have:=this.2 hh;cases this
  omega
 subst Mt;simp at pk;obtain⟨rfl,rfl,rfl⟩:=pk;have dH:∀t∈o'.looksAt ops.toArray,∀v,VS nR ay s'.e t v→v=bF (aT s'.e sv) t:=by
  intro t ht v hv;rw[←QR];have FG:∀(j:Nat)(z:bW),nR[j]?=some z→z.o.dst=some t→i≠j∧((j<i∧j7 (dW ops []) j i=true)∨(i<j∧j7 (dW ops []) i j=true)):=fun j z hz hd=>d2 i j o' z.o t IX (SQ j z hz) ht hd;rcases hv with⟨j,z,hz,hd,hl,rfl⟩|⟨nC,rfl⟩
  ·obtain⟨dA,h1|h1⟩:=FG j z hz hd
   ·rw[eg (nR.take i) s'.e t j z (by rw[getElem?_take,if_pos h1.1];exact hz) hd (fun i' y' zo SL=>by
     rw[getElem?_take] at zo
     split at zo
     ·exact d1 i' j y'.o z.o t (SQ i' y' zo) (SQ j z hz) SL hd
     ·cases zo)]
   ·have:=fK j i hl h1.2;rw[hJ] at this;cases this
  ·rw[cp (nR.take i) s'.e t (fun z hz hd=>by
    obtain⟨j,hj,e1⟩:=List.mem_iff_getElem.1 hz;simp at hj;have Ep:nR[j]?=some z:=by rw[getElem?_eq_getElem (by omega),←e1];simp
    have hf:=nC j z Ep hd;obtain⟨dA,h1|h1⟩:=FG j z Ep hd
    ·have:=gT j h1.2;rw[hf] at this;cases this
    ·omega)]
 have pq:ew L s'.H.length s'.T w (kq (aT s'.e sv) (o'.looksAt ops.toArray)) a:=by
  intro t;rw[dZ]
  split
  ·rename_i ht;obtain⟨v,hv,hr⟩:=fV t;rw[←dH t ht v hv];exact hr
  ·exact .top _
 have yq:∀z∈o'.op.operands,bK (aT s'.e sv) z=bK (kq (aT s'.e sv) (o'.looksAt ops.toArray)) z:=by
  intro z hz
  cases z with
  |tmp t=>
   have:t∈o'.looksAt ops.toArray:=by
    unfold Oper.looksAt;exact List.mem_append.2 (.inl (List.mem_filterMap.2 ⟨_,Array.mem_toList_iff.2 hz,rfl⟩))
   simp only[bK,dZ,if_pos this]
  |_=>rfl
 have nS:Region.wanted o' (yielded ops.toArray a.tmps)=true:=by
  unfold Region.wanted;rw[yB]
 have jL:i<ay.size:=by rw[hI.size];omega
 unfold wpOp;rw[getElem?_toArray,IX]
 dsimp only
 rw[if_pos nS];refine .inl ?_;rw[mj] at W1;refine uV (sI yq W1) cT pq fun v H' T' cv w' L' SG qD qB ml=>?_;obtain⟨bE,dn,e',g1,g2,g3,g4,_,⟨x9,g9,gx⟩,_,g8⟩:=sg (nx:=i) (ops:=ops) (e0:=s'.e) (H:=s'.H) (T:=s'.T) (i0:=0) (by rw[mZ];exact pK) F0 zy (by rw[ql];exact IX) rfl (by rw[yB]) (fun hh=>by cases hh) (fun _ dA=>absurd ql dA) (fun hh=>by rw[ql,F0] at hh;cases hh) SG;have WV:=gx (by rw[ql];exact F0);have hs9:=g8 (by rw[ql];exact F0);obtain⟨su,PO,HL,TL,iL,k1,k2,k3,k4,k5,⟨q6,k6⟩,⟨q7,k7⟩⟩:=Ck (nx:=i) (D:=D) (ops:=ops) (e0:=s'.e) (by rw[mZ];exact pK) F0 r bE dn e' g1 (by
  rw[g2,ql];have:=congrArg (fun l=>l.drop 1) pB;simpa[drop_drop,add_comm] using this) (by rw[g2,ql];omega) g3
 have OV:∀j,j<i→su[j]?=sv[j]?:=fun j hj=>by rw[k6,g9,append_assoc,getElem?_append_left (by omega)]
 have Jy:su[i]?=some x9:=by rw[k6,g9,append_assoc,getElem?_append_right (by omega),ql,sub_self];rfl
 have Jb:∀(j:Nat)(x:bW),su[j]?=some x→ops[j]?=some x.o:=fun j x hx=>(k1.FA j x hx).o;have Um:su.map (·.o)=ops:=by
  apply List.ext_getElem?;intro j;rw[getElem?_map]
  by_cases hj:j<su.length
  ·rw[getElem?_eq_getElem hj,Option.map_some,Jb j _ (getElem?_eq_getElem hj)]
  ·rw[getElem?_eq_none (by omega),getElem?_eq_none (by omega)];rfl
 have aad:PO[1]?=some (H',T',i):=by
  rw[k7,hs9,ql];rfl
 have P8:PO.length=1+bu.length:=by
  have h1:=k1.st.len;rw[mZ] at h1;rw[h1]
  congr 2
  apply List.filter_eq_self.2;intro e he;obtain⟨m,hm,e1⟩:=List.mem_iff_getElem.1 he;have:=(d3 m e (by rw[getElem?_eq_getElem hm,e1])).1;simp;omega
 refine xT mP pK mj mZ EB RG RH k2 Jb (fun j=>j≠i) (nx:=i) (fun j hj=>hj) (fun j x hx _=>k1.FA j x hx) (fun j x hx _=>k1.zO j x hx) (fun j x hx _=>k1.st.k j x hx) (fun l=>l.getD i false=true)
  (fun l j _ hl=>getD_set_true hl) (fun ay a w SZ _ fj=>?_) (fun fuel ay a w SZ gL j hj dA _=>?_) fuel _ _ _ ⟨by simp[hI.size,JD,k2],fun i' j' mO iP=>?_,⟨1,H',T',i,L',fun m i' qi=>?_,?_,aad,qD,by rw[mj];exact le_trans fO ml.n,by rw[mj];exact le_trans eS ml.t,fun t=>?_,by rw[mj];exact dP.trans (ml.mono fO eS)⟩,?_,?_⟩ ?_ rI
 ·
  obtain⟨k,H,T,e,L,hk,gB,pk,cT,fO,eS,fV,dP⟩:=SZ.st;have pI:k=bu.length:=by
   rw[mZ] at hk gB;rcases lt_or_ge k bu.length with aZ|jE
   ·have:=(hk k _ (getElem?_eq_getElem aZ)).1 (fj _ (d3 k _ (getElem?_eq_getElem aZ)).1);omega
   ·omega
  have Jf:PO[k]?=some (HL,TL,iL):=by rw[←k3,List.getLast?_eq_getElem?,P8,pI];congr 1;omega
  rw[pk] at Jf;obtain⟨rfl,rfl,rfl⟩:H=HL∧T=TL∧e=iL:=by injection Jf with h1;injection h1 with h1 h2;injection h2 with h2 h3;exact⟨h1,h2,h3⟩
  rw[ZJ] at k4;rw[mj] at dP fO eS;refine⟨_,L,k4,⟨fO,eS,cT,by rw[SZ.tmps,mj],SZ.defers,fun t=>?_⟩,dP⟩;obtain⟨v,hv,hr⟩:=fV t;show bc L H.length T w (bF (aT s'.e su) t) _;rcases hv with⟨j,x,hx,hd,hl,rfl⟩|⟨nC,rfl⟩
  ·rw[eg su s'.e t j x hx hd (fun i y hy IS=>d1 i j y.o x.o t (Jb i y hy) (Jb j x hx) IS hd)];exact hr
  ·rw[cp su s'.e t (fun x hx hd=>by
    obtain⟨j,hj,e1⟩:=List.mem_iff_getElem.1 hx;have h1:=nC j x (by rw[getElem?_eq_getElem hj,e1]) hd;have h2:=fj j (by omega);rw[h1] at h2;cases h2)]
   exact hr
 ·have:j=i:=Classical.byContradiction dA;subst this;obtain⟨h1,z,hz,_⟩:=mem_ready.1 hj;rw[dj (by rw[SZ.size,k2];exact Qd),gL] at h1
  cases h1
 ·rw[Um] at iP
  by_cases s8:i=i'
  ·subst s8;have:=gT j' iP
   by_cases jt:i=j'
   ·subst jt;rw[hJ] at this;cases this
   ·rw[getD_set_ne false jt];exact this
  ·rw[getD_set_ne false s8] at mO;have:=fK i' j' mO iP;exact getD_set_true this
 ·rw[mZ] at qi;have pR:=(List.getElem?_eq_some_iff.1 qi).1
  by_cases aan:m=0
  ·subst aan;rw[Ms] at qi
   cases qi
   simp[jL]
  ·have dA:i≠i':=by
    rintro rfl;have h1:=List.all_eq_true.1 pK m (List.mem_range.2 pR);simp only[Bool.and_eq_true,beq_iff_eq,getD_eq_getElem?_getD,qi,Option.getD_some] at h1;omega
   rw[getD_set_ne false dA,hk m i' qi];omega
 ·rw[mZ];have:=(List.getElem?_eq_some_iff.1 Ms).1;omega
 ·by_cases hd:o'.dst=some t
  ·refine⟨x9.v,.inl ⟨i,x9,Jy,by rw[WV];exact hd,by simp[jL],rfl⟩,?_⟩;have lN:=(k1.FA i x9 Jy).dst t (by rw[WV];exact hd);have aZ:t<a.tmps.size:=by rw[hI.tmps];exact lN
   rw[hd,iw a t t cv aZ,if_pos rfl,WV];exact qB
  ·obtain⟨v',hv,hr⟩:=fV t;refine⟨v',?_,?_⟩
   ·rcases hv with⟨j,z,hz,sV,hl,rfl⟩|⟨nC,rfl⟩
    ·have ph:j<ops.length:=by have:=(List.getElem?_eq_some_iff.1 hz).1;omega
     have sZ:j<i:=by
      rcases Nat.lt_trichotomy j i with h1|h1|h1
      ·exact h1
      ·subst h1;rw[hJ] at hl;cases hl
      ·rw[J9 j h1 ph] at hl;cases hl
     exact .inl ⟨j,z,by rw[OV j sZ,←Ga j sZ];exact hz,sV,getD_set_true hl,rfl⟩
    ·refine .inr ⟨fun j z hz sV=>?_,rfl⟩;have ph:j<ops.length:=by have:=(List.getElem?_eq_some_iff.1 hz).1;omega
     have jt:i≠j:=by
      rintro rfl;have:=Jb i z hz;rw[IX] at this;have:=Option.some.inj this;rw[←this] at sV;exact hd sV
     rw[getD_set_ne false jt];rcases lt_or_ge j i with h1|h1
     ·exact nC j z (by rw[Ga j h1,←OV j h1];exact hz) sV
     ·exact J9 j (by omega) ph
   ·have e1:(a.put o'.dst cv).tmps.getD t undef=a.tmps.getD t undef:=by
     cases kS:o'.dst with
     |none=>rfl
     |some d=>
      have aZ:d<a.tmps.size:=by rw[hI.tmps];exact(k1.FA i x9 Jy).dst d (by rw[WV];exact kS)
      rw[iw a d t cv aZ,if_neg (fun e=>hd (by rw[kS,e]))]
    rw[e1];exact hr.keep ml.keeps
 ·simp[Act.put];cases o'.dst<;>simp[hI.tmps]
 ·cases o'.dst<;>exact hI.defers
 ·simp[jL]
theorem Io {C:Cx}{id:Nat}{ops:List Oper}{Q:Exit→St→Prop}{s:St}(K:St→Prop)(nx:Nat)(bu lo:List Nat)(na:List (List Nat))(hm:C.P.follows .mixedOrders=true)(mP:iU ops bu lo na=true)(pK:jm bu=true)(Mq:WQ ops bu nx=true)
  (h:gA ⟨C,ops.toArray,bu,lo,na,K⟩ nx ops [] [(s.H,s.T,0)] (prune C.nv s.e)):AW C (.region id ops.toArray true) (dL K Q) s:=
 fun L0 w0 a0 nE=>wp_region_any hm (D0 K nx bu lo na mP pK Mq h L0 w0 a0 nE)
theorem o8 {C:Cx}{id:Nat}{ops:List Oper}{Q:Exit→St→Prop}{s:St}(nx:Nat)(bu lo:List Nat)(na:List (List Nat))(hm:C.P.follows .mixedOrders=true)(mP:iU ops bu lo na=true)(pK:jm bu=true)(Mq:WQ ops bu nx=true)
  (h:∀K:St→Prop,(∀s,Q .normal s→K s)→gA ⟨C,ops.toArray,bu,lo,na,K⟩ nx ops [] [(s.H,s.T,0)] (prune C.nv s.e)):AW C (.region id ops.toArray true) Q s:=
 (Io (Q:=Q) (fun s=>Q .normal s) nx bu lo na hm mP pK Mq (h _ fun _ h=>h)).mono fun e s q=>by cases e<;>exact q
section
variable {D : tK} {o : Oper} {r : List Oper} {aL : List bW} {sts : List pz} {e : Env}
@[simp] theorem Pc:gA D 0 (o::r) aL sts e=(match sts.getLast? with
  |some (H,T,_)=>match o.guard with
   |none=>fF D.C o e H T (fun v H' T'=>v8 D (eE D r) o aL sts e true v H' T')
   |some _=>False
  |none=>False):=rfl
@[simp] theorem Pd {n:Nat}:gA D (n+1) (o::r) aL sts e=(match sts.getLast? with
  |some (H,T,_)=>match o.guard with
   |none=>kj D (gA D n r) o aL sts e H T
   |some (j,want)=>match jN D.all j e with
    |some b=>if b=some want then kj D (gA D n r) o aL sts e H T else v8 D (gA D n r) o aL sts e false (.df []) H T
    |none=>False
  |none=>False):=rfl
end
attribute [simp] fF
def nW (P:Program)(o:Oper)(e:Env)(H:List aA):Bool:=
 match o.op with
 |.call { callee:=.builtin .append,args,argTypes }=>
  match argTypes.toList,args.toList.map (bK e) with
  |[t,t2],[.sl 0 [] .full,x]=>match P.underlying t with
   |some (.slice el)=>match fN H (P.cellsOf el) x with
    |some (m,_)=>decide (m=0)&&(iS P t2&&(br P el).isSome)
    |none=>false
   |_=>false
  |_,_=>false
 |_=>false
theorem Cm {P:Program}{o:Oper}{e e':Env}{H:List aA}(h:∀x∈o.op.operands,bK e x=bK e' x):nW P o e H=nW P o e' H:=by
 unfold nW
 cases ho:o.op<;>try rfl
 rename_i c;rw[ho] at h;obtain⟨callee,args,zu⟩:=c
 cases callee<;>try rfl
 rename_i bi
 cases bi<;>try rfl
 have h2:args.toList.map (bK e)=args.toList.map (bK e'):=List.map_congr_left fun x hx=>h x (by simp only[Op.operands,Call.operands];exact Array.mem_append.2 (.inr (Array.mem_toList_iff.1 hx)));simp only[h2]
theorem G6 {P:Program}{o:Oper}{e:Env}{a:Act}{L:Lay}{H:List aA}{T:ar}{w:World}(h:nW P o e H=true)(hc:bT L H T w)(he:ew L H.length T w e a) :
  ∃cv,(execOp a.eval o).run P w=.ok (.value cv) w∧bc L H.length T w (.sl 0 [] .full) cv:=by
 unfold nW at h
 split at h
 ·rename_i args zu lq
  split at h
  ·rename_i t t2 x zz eu
   split at h
   ·rename_i el hu
    split at h
    ·rename_i m ys lB;rw[Bool.and_eq_true,Bool.and_eq_true,decide_eq_true_eq] at h;obtain⟨Ms,sX,pf⟩:=h;subst Ms;have pP:zu=#[t,t2]:=by rw[←Array.toList_inj];exact zz
     subst pP;have iD:args.toList.length=2:=by have:=congrArg List.length eu;simpa using this
     match Ey:args.toList,iD,eu with
     |[p,q],_,eu=>
      simp only[map_cons,map_nil,List.cons.injEq,and_true] at eu;obtain⟨e1,e2⟩:=eu;have hs:=he.bK p;have hx:=he.bK q;rw[e1] at hs;rw[e2] at hx;have mv:args=#[p,q]:=by rw[←Array.toList_inj];exact Ey
      subst mv;obtain⟨zs,pf⟩:=Option.isSome_iff_exists.1 pf;obtain⟨i',z,hi,rv,LY,zK⟩:=dO (L:=L) (N:=H.length) (T:=T) (w:=w) pf;have te:P.cellsOf el=i'.size:=by simp[Program.cellsOf,hi]
      obtain⟨new,Cw,mR,hlen,fW⟩:=dX (P:=P) hc hx lB;have vZ:bT L H T w.drew:=hc.drew rfl;have kd:cS L H.length T w L H.length T w.drew:=(Ev.drew (H:=H) (T:=T) (L:=L) (w:=w) (w':=w.drew) rfl rfl rfl rfl (le_succ _)).keeps;obtain⟨ka,_,mu,_,iq⟩:=dX (P:=P) vZ (hx.keep kd) lB;have iO:fN H (P.cellsOf el) (.sl 0 [] .full)=some (0,[]):=by simp[fN]
      obtain⟨sT,_,qA,_,mS⟩:=dX (P:=P) vZ (hs.keep kd) iO;obtain⟨ad,cap,hsv,cg,ht,_⟩:=hs.eO;rw[hsv] at mS;have h2:=eR (P:=P) (w:=w) (ty:=o.type) hu sX hi rv (a:=ad) (n:=0) (cap:=cap) (m:=0) hlen (te▸fW) (te▸iq) (te▸mS) (by simp) (by simp);have Cq:new=[]:=List.eq_nil_of_length_eq_zero (by rw[mR.1];simpa using Cw);have h3:=h2.1 (by omega);rw[Cq] at h3;refine⟨.slice ad 0 cap,?_,.wD _ _ _ ht⟩;have h4:(Builtin.append_ #[t,t2] o.type #[a.eval p,a.eval q]).run P w=.ok (.slice ad 0 cap) w:=by
       rw[hsv,h3]
       cases ad<;>rfl
      simp only[execOp,lq,resolve,Sem.run_bind,Sem.run_pure,Result.andThen_ok,invoke,builtin,List.map_toArray,map_cons,map_nil,h4]
    ·cases h
   ·cases h
  ·cases h
 ·cases h
def gV (C:Cx)(o:Oper)(e:Env)(H:List aA)(T:ar)(κ:AV→List aA→ar→Prop):Prop:=
 if nW C.P o e H=true then κ (.sl 0 [] .full) H T else
 match jD C.P C.bx o e H with
 |some _=>fF C o e H T κ
 |none=>match qv o e with
  |some _=>fF C o e H T κ
  |none=>match fJ o e with
   |some _=>False
   |none=>match EC C.P o e H T with
    |some (v,H',T')=>κ v H' T'
    |none=>False
theorem Ch {C:Cx}{o:Oper}{e e':Env}{H:List aA}{T:ar}{κ:AV→List aA→ar→Prop}(h:∀x∈o.op.operands,bK e x=bK e' x)(k:gV C o e H T κ):gV C o e' H T κ:=by
 have hm:fF C o e H T κ→fF C o e' H T κ:=sI h;unfold gV at k ⊢;rw[←Cm h,←sS h,←vF h,←pF h,←x7 H T h]
 split
 ·rename_i h1;rw[if_pos h1] at k;exact k
 ·rename_i h1;rw[if_neg h1] at k
  split
  ·rename_i h2;rw[h2] at k;exact hm k
  ·rename_i h2;rw[h2] at k
   dsimp only at k
   split
   ·rename_i h3;rw[h3] at k;exact hm k
   ·rename_i h3;rw[h3] at k;exact k
theorem LH {C:Cx}{o:Oper}{e:Env}{H:List aA}{T:ar}{κ:AV→List aA→ar→Prop}(k:gV C o e H T κ){L:Lay}{w:World}{a:Act}(hc:bT L H T w)(he:ew L H.length T w e a){K:Act→World→Prop}{Q:Exit→Act→World→Prop}
  (hk:∀v H' T' cv w' L',κ v H' T'→bT L' H' T' w'→bc L' H'.length T' w' v cv→Ev H.length T.length L H.length T w L' H'.length T' w'→K (a.put o.dst cv) w'):o.wp C.P a w K Q:=by
 unfold gV at k
 split at k
 ·rename_i hz;obtain⟨cv,cK,dI⟩:=G6 hz hc he;unfold Oper.wp;rw[cK];exact hk _ _ _ _ _ _ k hc dI (Ev.refl (le_refl _) (le_refl _))
 ·split at k
  ·exact uV k hc he hk
  ·split at k
   ·exact uV k hc he hk
   ·split at k
    ·exact k.elim
    ·rename_i ic
     split at k
     ·rename_i v H' T' lq;exact rk (v:=v) (H':=H') (T':=T') (by unfold dN;rw[ic];exact lq) hc he fun cv w' L' g1 g2 g3=>hk _ _ _ _ _ _ k g1 g2 g3
     ·exact k.elim
def zG (P:Program)(H:List aA)(T:ar):List bW→Prop
 |[]=>True
 |x::r=>dN P x.o x.e H T x.v H T∧zG P H T r
def light (C:Cx)(ch:List Nat)(H:List aA)(T:ar)(κ:List bW→Env→Prop):List Oper→Nat→List bW→Env→Prop
 |[],_,R,e=>κ R e
 |o::r,i,R,e=>if ch.contains i=true then light C ch H T κ r (i+1) R e else
  match fJ o e with
  |some _=>False
  |none=>match EC C.P o e H T with
   |some (v,H',T')=>H'=H∧T'=T∧ug C.nt o.dst v e (light C ch H T κ r (i+1) (R++[⟨o,e,true,v,i,false⟩]))
   |none=>False
def RM (C:Cx)(K:St→Prop)(R:List bW):List Oper→Env→List aA→ar→Prop
 |[],e,H,T=>K ⟨e,H,T⟩
 |o::r,e,H,T=>gV C o e H T (fun v H' T'=>zG C.P H' T' R∧ug C.nt o.dst v e (fun e'=>RM C K R r e' H' T'))
def EL (C:Cx)(K:St→Prop)(ch:List Nat)(ops:List Oper)(H:List aA)(T:ar)(e:Env):Prop:=
 light C ch H T (fun R e'=>RM C K R (ch.map fun i=>ops.getD i default) e' H T) ops 0 [] e
def M1 (ops:List Oper)(ch:List Nat):Bool:=
 iU ops ch [] (ch.map fun _=>List.range ops.length)&&jm ch&&((List.range ops.length).all fun i=>ch.contains i||ch.all fun c=>!j7 (dW ops []) c i)&&ops.all fun o=>o.guard.isNone
structure LOk (C:Cx)(ch:List Nat)(ops:List Oper)(H:List aA)(T:ar)(e0:Env)(n:Nat)(R:List bW):Prop where
 aL:∀(j:Nat)(x:bW),R[j]?=some x→ops[x.k]?=some x.o∧x.k<n∧ch.contains x.k=false∧x.e=aT e0 (R.take j)∧dN C.P x.o x.e H T x.v H T∧(∀d,x.o.dst=some d→d<C.nt)
 all:∀i,i<n→ch.contains i=false→∃x∈R,x.k=i
 ord:R.Pairwise fun x y=>x.k<y.k
theorem DR {C:Cx}{ch:List Nat}{ops:List Oper}{H:List aA}{T:ar}{e0:Env}{κ:List bW→Env→Prop}:∀(l:List Oper)(n:Nat)(R:List bW),ops.drop n=l→n≤ops.length→LOk C ch ops H T e0 n R→light C ch H T κ l n R (aT e0 R)→
  ∃R',LOk C ch ops H T e0 ops.length R'∧κ R' (aT e0 R'):=by
 intro l
 induction l with
 |nil=>
  intro n R hl hn hR h;have:n=ops.length:=by have:=congrArg List.length hl;simp at this;omega
  subst this;exact⟨R,hR,h⟩
 |cons o r ih=>
  intro n R hl hn hR h;have aZ:n<ops.length:=by
   rcases lt_or_ge n ops.length with h1|h1
   ·exact h1
   ·rw[List.drop_eq_nil_of_le h1] at hl;cases hl
  have ho:ops[n]?=some o:=by
   have:=congrArg (fun l=>l[0]?) hl;simpa using this
  have hr:ops.drop (n+1)=r:=by
   rw[←List.tail_drop,hl];rfl
  rw[light] at h
  split at h
  ·rename_i hc;exact ih (n+1) R hr (by omega) ⟨fun j x hx=>by obtain⟨a1,a2,a3⟩:=hR.aL j x hx;exact⟨a1,by omega,a3⟩,fun i hi sX=>by
    rcases lt_or_ge i n with h1|h1
    ·exact hR.all i h1 sX
    ·have:i=n:=by omega
     subst this;rw[hc] at sX;exact absurd sX (by simp),hR.ord⟩ h
  ·rename_i hc
   split at h
   ·exact h.elim
   ·rename_i ic
    split at h
    ·rename_i v H' T' lq;obtain⟨rfl,rfl,h⟩:=h;obtain⟨hd,h⟩:=jW h;have hc:ch.contains n=false:=by simpa using hc
     refine ih (n+1) (R++[⟨o,aT e0 R,true,v,n,false⟩]) hr (by omega) ⟨fun j x hx=>?_,fun i hi sX=>?_,?_⟩ (by rw[fC];exact h)
     ·rcases lt_or_ge j R.length with h1|h1
      ·rw[getElem?_append_left h1] at hx;obtain⟨a1,a2,a3,a4,a5⟩:=hR.aL j x hx;refine⟨a1,by omega,a3,?_,a5⟩;rw[take_append_of_le_length (by omega)];exact a4
      ·rw[getElem?_append_right h1] at hx;have hj:j=R.length:=by
        rcases lt_or_ge (j-R.length) 1 with h2|h2
        ·omega
        ·rw[getElem?_eq_none (by simpa using h2)] at hx;cases hx
       subst hj;simp at hx;subst hx;refine⟨ho,by show n<n+1;omega,hc,?_,?_,hd⟩
       ·rw[take_left' rfl]
       ·show dN _ _ _ _ _ _ _ _;unfold dN;dsimp only;rw[ic];exact lq
     ·rcases lt_or_ge i n with h1|h1
      ·obtain⟨x,hx,e1⟩:=hR.all i h1 sX;exact⟨x,mem_append_left _ hx,e1⟩
      ·have:i=n:=by omega
       subst this;exact⟨_,List.mem_append_right _ (List.mem_singleton.2 rfl),rfl⟩
     ·rw[List.pairwise_append];refine⟨hR.ord,List.pairwise_singleton _ _,fun x hx y hy=>?_⟩;rw[List.mem_singleton] at hy;subst hy;obtain⟨j,hj,e1⟩:=List.mem_iff_getElem.1 hx;exact(hR.aL j x (by rw[getElem?_eq_getElem hj,e1])).2.1
    ·exact h.elim
theorem Kp {P:Program}{H:List aA}{T:ar}:∀{R:List bW},zG P H T R→∀x∈R,dN P x.o x.e H T x.v H T:=by
 intro R
 induction R with
 |nil=>intro _ x hx;simp at hx
 |cons y r ih=>
  intro h x hx;rcases List.mem_cons.1 hx with rfl|hx
  ·exact h.1
  ·exact ih h.2 x hx
theorem Nq {P:Program}{H:List aA}{T:ar}:∀{R:List bW},(∀x∈R,dN P x.o x.e H T x.v H T)→zG P H T R:=by
 intro R
 induction R with
 |nil=>intro _;trivial
 |cons y r ih=>intro h;exact⟨h y (by simp),ih fun x hx=>h x (by simp[hx])⟩
theorem yX {e0:Env}{R:List bW}{t:Nat}{x:bW}(hx:x∈R)(hd:x.o.dst=some t)(hn:R.Pairwise fun x y=>x.k≠y.k)(hu:∀y∈R,y.o.dst=some t→y.k=x.k):bF (aT e0 R) t=x.v:=by
 obtain⟨j,hj,e1⟩:=List.mem_iff_getElem.1 hx;refine eg R e0 t j x (by rw[getElem?_eq_getElem hj,e1]) hd fun i y hy IS=>?_;obtain⟨hi,e2⟩:=List.getElem?_eq_some_iff.1 hy;have hk:y.k=x.k:=hu y (by rw[←e2];exact List.getElem_mem hi) IS;rcases Nat.lt_trichotomy i j with h1|h1|h1
 ·have:=List.pairwise_iff_getElem.1 hn i j hi hj h1;rw[e2,e1] at this;exact absurd hk this
 ·exact h1
 ·have:=List.pairwise_iff_getElem.1 hn j i hj hi h1;rw[e2,e1] at this;exact absurd hk.symm this
def VC (R:List bW)(ay:Array Bool)(e0:Env)(t:Nat)(v:AV):Prop:=
 (∃x∈R,x.o.dst=some t∧ay.getD x.k false=true∧v=x.v)∨((∀x∈R,x.o.dst=some t→ay.getD x.k false=false)∧v=bF e0 t)
structure Na (C:Cx)(K:St→Prop)(ch:List Nat)(ops:List Oper)(R0:List bW)(s:St)(L0:Lay)(w0:World)(ay:Array Bool)(a:Act)(w:World):Prop where
 size:ay.size=ops.length
 closed:∀i j,ay.getD i false=true→j7 (dW ops []) j i=true→ay.getD j false=true
 st:∃(k:Nat) (Rc:List bW) (H:List aA) (T:ar) (L:Lay),(∀(m i:Nat),ch[m]?=some i→(ay.getD i false=true↔m<k))∧k≤ch.length∧Rc.length=k∧
  (∀(m:Nat)(x:bW),Rc[m]?=some x→ch[m]?=some x.k∧ops[x.k]?=some x.o∧(∀d,x.o.dst=some d→d<C.nt))∧zG C.P H T R0∧
  RM C K R0 ((ch.drop k).map fun i=>ops.getD i default) (aT s.e (R0++Rc)) H T∧bT L H T w∧C.nb≤H.length∧C.tb≤T.length∧
  (∀t,∃v,VC (R0++Rc) ay s.e t v∧bc L H.length T w v (a.tmps.getD t undef))∧Ev C.nb C.tb L0 s.H.length s.T w0 L H.length T w
 tmps:a.tmps.size=C.nt
 defers:a.defers=[]
theorem D9 {C:Cx}{ops:List Oper}{Q:Exit→St→Prop}{s:St}(K:St→Prop)(ch:List Nat)(mP:M1 ops ch=true)
  (h:EL C K ch ops s.H s.T (prune C.nv s.e)):∀L0 w0 a0,eF C s L0 w0 a0→
   wpAny C.P .any ops.toArray (dh C (dL K Q) L0 s w0) ops.toArray.size (Array.replicate ops.toArray.size false) a0 { w0 with drawn:=w0.drawn+1 }:=by
 intro L0 w0 a0 nE;have hc:eF C ⟨prune C.nv s.e,s.H,s.T⟩ L0 w0 a0:=⟨nE.nb,nE.tb,nE.mQ,nE.size,nE.defers,fun t=>by
  rcases mH C.nv s.e t with e|e<;>rw[e]
  ·exact nE.env t
  ·exact .top _⟩
 generalize vU:(⟨prune C.nv s.e,s.H,s.T⟩:St)=s' at hc;have IA:prune C.nv s.e=s'.e:=by rw[←vU]
 have CB:s.H=s'.H:=by rw[←vU]
 have IW:s.T=s'.T:=by rw[←vU]
 rw[IA,CB,IW] at h;rw[show dh C (dL K Q) L0 s w0=dh C (dL K Q) L0 s' w0 by unfold dh;rw[CB,IW]];clear vU IA CB IW nE;unfold M1 at mP;simp only[Bool.and_eq_true] at mP;obtain⟨⟨⟨L7,pK⟩,W4⟩,hgd⟩:=mP;obtain⟨d1,d2,d3,_,_,d6,d7⟩:=ln L7;have J6:∀i c,i<ops.length→ch.contains i=false→c∈ch→j7 (dW ops []) c i=false:=by
  intro i c hi hn ZB;have:=List.all_eq_true.1 W4 i (List.mem_range.2 hi);rw[hn,Bool.false_or] at this;simpa using List.all_eq_true.1 this c ZB
 have yB:∀(i:Nat)(o:Oper),ops[i]?=some o→o.guard=none:=fun i o ho=>by
  have:=List.all_eq_true.1 hgd o (mem_of_getElem? ho);simpa using this
 obtain⟨R0,hR,SG⟩:=DR (C:=C) (ch:=ch) (ops:=ops) (H:=s'.H) (T:=s'.T) (e0:=s'.e) ops 0 [] rfl (zero_le _) ⟨fun j x hx=>by simp at hx,fun i hi=>by omega,List.Pairwise.nil⟩ h;have F9:∀x∈R0,∃j,R0[j]?=some x:=fun x hx=>by
  obtain⟨j,hj,e1⟩:=List.mem_iff_getElem.1 hx;exact⟨j,by rw[getElem?_eq_getElem hj,e1]⟩
 have TE:∀(m m' c:Nat),ch[m]?=some c→ch[m']?=some c→m=m':=by
  intro m m' c h1 h2;have key:∀m,ch[m]?=some c→m=(ch.filter (·<c)).length:=by
   intro m hm;have hY:=(List.getElem?_eq_some_iff.1 hm).1;have:=List.all_eq_true.1 pK m (List.mem_range.2 hY);simp only[Bool.and_eq_true,beq_iff_eq,getD_eq_getElem?_getD,hm,Option.getD_some] at this;exact this.1.symm
  rw[key m h1,key m' h2]
 have Tt:∀(Rc:List bW),(∀(m:Nat)(x:bW),Rc[m]?=some x→ch[m]?=some x.k∧ops[x.k]?=some x.o∧(∀d,x.o.dst=some d→d<C.nt))→(R0++Rc).Pairwise fun x y=>x.k≠y.k:=by
  intro Rc uc;rw[List.pairwise_append];refine⟨hR.ord.imp fun h=>by omega,?_,fun x hx y hy=>?_⟩
  ·rw[List.pairwise_iff_getElem];intro i j hi hj jt e;have h1:=(uc i _ (getElem?_eq_getElem hi)).1;have h2:=(uc j _ (getElem?_eq_getElem hj)).1;rw[e] at h1;have:=TE _ _ _ h1 h2;omega
  ·obtain⟨j,hj⟩:=F9 x hx;obtain⟨m,hm,e1⟩:=List.mem_iff_getElem.1 hy;have h1:=(hR.aL j x hj).2.2.1;have h2:=mem_of_getElem? (uc m y (by rw[getElem?_eq_getElem hm,e1])).1;intro e;rw[e] at h1;rw[←contains_iff_mem] at h2;rw[h2] at h1;cases h1
 have kR:∀(Rc:List bW),(∀(m:Nat)(x:bW),Rc[m]?=some x→ch[m]?=some x.k∧ops[x.k]?=some x.o∧(∀d,x.o.dst=some d→d<C.nt))→∀x∈R0++Rc,ops[x.k]?=some x.o∧(∀d,x.o.dst=some d→d<C.nt):=by
  intro Rc uc x hx;rcases List.mem_append.1 hx with hx|hx
  ·obtain⟨j,hj⟩:=F9 x hx;obtain⟨a1,_,_,_,_,a6⟩:=hR.aL j x hj;exact⟨a1,a6⟩
  ·obtain⟨m,hm,e1⟩:=List.mem_iff_getElem.1 hx;exact(uc m x (by rw[getElem?_eq_getElem hm,e1])).2
 have done:∀(ay:Array Bool)(a:Act)(w:World),Na C K ch ops R0 s' L0 w0 ay a w→(∀i,i<ops.length→ay.getD i false=true)→dh C (dL K Q) L0 s' w0 .normal a w:=by
  intro ay a w hI fj;obtain⟨k,Rc,H,T,L,hk,gB,MV,uc,Jw,wP,cT,fO,eS,fV,dP⟩:=hI.st;have pI:k=ch.length:=by
   rcases lt_or_ge k ch.length with aZ|jE
   ·have:=(hk k _ (getElem?_eq_getElem aZ)).1 (fj _ (d3 k _ (getElem?_eq_getElem aZ)).1);omega
   ·omega
  rw[pI,List.drop_length] at wP;refine⟨⟨aT s'.e (R0++Rc),H,T⟩,L,wP,⟨fO,eS,cT,hI.tmps,hI.defers,fun t=>?_⟩,dP⟩;obtain⟨v,hv,hr⟩:=fV t;show bc L H.length T w (bF (aT s'.e (R0++Rc)) t) _;rcases hv with⟨x,hx,hd,hl,rfl⟩|⟨nC,rfl⟩
  ·rw[yX hx hd (Tt Rc uc) (fun y hy IS=>d1 y.k x.k y.o x.o t (kR Rc uc y hy).1 (kR Rc uc x hx).1 IS hd)];exact hr
  ·rw[cp (R0++Rc) s'.e t (fun x hx hd=>by
    have h1:=nC x hx hd;have h2:=fj x.k (List.getElem?_eq_some_iff.1 (kR Rc uc x hx).1).1;rw[h1] at h2;cases h2)]
   exact hr
 have Sa:∀(ay:Array Bool)(a:Act)(w:World)(i:Nat)(KK:Act→World→Prop),Na C K ch ops R0 s' L0 w0 ay a w→i∈Region.ready .any ops.toArray ay→
   (∀a' w',Na C K ch ops R0 s' L0 w0 (ay.setIfInBounds i true) a' w'→KK a' w')→wpOp C.P ops.toArray (dh C (dL K Q) L0 s' w0) i KK a w:=by
  intro ay a w i KK hI hi Jm;obtain⟨zA,o,ho,pZ⟩:=mem_ready.1 hi;rw[getElem?_toArray] at ho;have cC:i<ops.length:=(List.getElem?_eq_some_iff.1 ho).1;have jL:i<ay.size:=by rw[hI.size];omega
  have pR:ay.getD i false=false:=by rw[←dj jL];exact zA
  have fK:=hI.closed;have gT:∀j,j7 (dW ops []) j i=true→ay.getD j false=true:=fun j hj=>mI fK ho pZ (d6 i o ho) hj;obtain⟨k,Rc,H,T,L,hk,gB,MV,uc,Jw,wP,cT,fO,eS,fV,dP⟩:=hI.st;have W9:=yB i o ho;have nS:Region.wanted o (yielded ops.toArray a.tmps)=true:=by unfold Region.wanted;rw[W9]
  have cK:∀(ex:Env),(∀t∈o.looksAt ops.toArray,∀v,VC (R0++Rc) ay s'.e t v→v=bF ex t)→
    ew L H.length T w (kq ex (o.looksAt ops.toArray)) a∧∀z∈o.op.operands,bK ex z=bK (kq ex (o.looksAt ops.toArray)) z:=by
   intro ex dH;refine⟨fun t=>?_,fun z hz=>?_⟩
   ·rw[dZ]
    split
    ·rename_i ht;obtain⟨v,hv,hr⟩:=fV t;rw[←dH t ht v hv];exact hr
    ·exact .top _
   ·cases z with
    |tmp t=>
     have:t∈o.looksAt ops.toArray:=by
      unfold Oper.looksAt;exact List.mem_append.2 (.inl (List.mem_filterMap.2 ⟨_,Array.mem_toList_iff.2 hz,rfl⟩))
     simp only[bK,dZ,if_pos this]
    |_=>rfl
  have behind:∀(x:bW)(H':List aA)(T':ar)(cv:Value)(w':World)(L':Lay)(k':Nat)(ON:List bW),x.k=i→x.o=o→(∀d,o.dst=some d→d<C.nt)→x∈R0++ON→(∀y∈R0++ON,y=x∨y∈R0++Rc)→(∀y∈R0++Rc,y∈R0++ON)→
    (∀(m j:Nat),ch[m]?=some j→((ay.setIfInBounds i true).getD j false=true↔m<k'))→k'≤ch.length→ON.length=k'→
    (∀(m:Nat)(x:bW),ON[m]?=some x→ch[m]?=some x.k∧ops[x.k]?=some x.o∧(∀d,x.o.dst=some d→d<C.nt))→zG C.P H' T' R0→
    RM C K R0 ((ch.drop k').map fun i=>ops.getD i default) (aT s'.e (R0++ON)) H' T'→
    bT L' H' T' w'→bc L' H'.length T' w' x.v cv→Ev H.length T.length L H.length T w L' H'.length T' w'→KK (a.put o.dst cv) w':=by
   intro x H' T' cv w' L' k' ON rB hxo kS Sk JB aax mi aas Uw aaQ QK QM qD qB ml;refine Jm _ _ ⟨by simp[hI.size],fun i' j' mO iP=>?_,⟨k',ON,H',T',L',mi,aas,Uw,aaQ,QK,QM,qD,le_trans fO ml.n,le_trans eS ml.t,fun t=>?_,dP.trans (ml.mono fO eS)⟩,?_,by cases o.dst<;>exact hI.defers⟩
   ·by_cases s8:i=i'
    ·subst s8;have:=gT j' iP
     by_cases jt:i=j'
     ·subst jt;rw[pR] at this;cases this
     ·rw[getD_set_ne false jt];exact this
    ·rw[getD_set_ne false s8] at mO;have:=fK i' j' mO iP;exact getD_set_true this
   ·by_cases hd:o.dst=some t
    ·refine⟨x.v,.inl ⟨x,Sk,by rw[hxo];exact hd,by rw[rB];simp[jL],rfl⟩,?_⟩;have aZ:t<a.tmps.size:=by rw[hI.tmps];exact kS t hd
     rw[hd,iw a t t cv aZ,if_pos rfl];exact qB
    ·obtain⟨v,hv,hr⟩:=fV t;refine⟨v,?_,?_⟩
     ·rcases hv with⟨z,hz,sV,hl,rfl⟩|⟨nC,rfl⟩
      ·exact .inl ⟨z,aax z hz,sV,getD_set_true hl,rfl⟩
      ·refine .inr ⟨fun z hz sV=>?_,rfl⟩;rcases JB z hz with rfl|Ep
       ·rw[hxo] at sV;exact absurd sV hd
       ·have jt:i≠z.k:=by
         intro e;have h1:=(kR Rc uc z Ep).1;rw[←e,ho] at h1
         injection h1 with h1
         rw[←h1] at sV;exact hd sV
        rw[getD_set_ne false jt];exact nC z Ep sV
     ·have e1:(a.put o.dst cv).tmps.getD t undef=a.tmps.getD t undef:=by
       cases O1:o.dst with
       |none=>rfl
       |some d=>
        have aZ:d<a.tmps.size:=by rw[hI.tmps];exact kS d O1
        rw[iw a d t cv aZ,if_neg (fun e=>hd (by rw[O1,e]))]
      rw[e1];exact hr.keep ml.keeps
   ·simp[Act.put];cases o.dst<;>simp[hI.tmps]
  unfold wpOp;rw[getElem?_toArray,ho]
  dsimp only
  rw[if_pos nS];refine .inl ?_
  cases SN:ch.contains i with
  |false=>
   obtain⟨x,Sk,rB⟩:=hR.all i cC SN;obtain⟨j,hj⟩:=F9 x Sk;obtain⟨a1,a2,a3,a4,a5,a6⟩:=hR.aL j x hj;have yg:x.o=o:=by rw[rB,ho] at a1;injection a1 with a1;exact a1.symm
   have dH:∀t∈o.looksAt ops.toArray,∀v,VC (R0++Rc) ay s'.e t v→v=bF x.e t:=by
    intro t ht v hv;rw[a4];have FG:∀z∈R0++Rc,z.o.dst=some t→i≠z.k∧((z.k<i∧j7 (dW ops []) z.k i=true)∨(i<z.k∧j7 (dW ops []) i z.k=true)):=fun z hz hd=>d2 i z.k o z.o t ho (kR Rc uc z hz).1 ht hd;rcases hv with⟨z,hz,hd,hl,rfl⟩|⟨nC,rfl⟩
    ·obtain⟨dA,h1|h1⟩:=FG z hz hd
     ·have vS:z∈R0:=by
       rcases List.mem_append.1 hz with hz|hz
       ·exact hz
       ·exfalso;obtain⟨m,hm,e1⟩:=List.mem_iff_getElem.1 hz;have h2:=mem_of_getElem? (uc m z (by rw[getElem?_eq_getElem hm,e1])).1;rw[J6 i z.k cC SN h2] at h1
        cases h1.2
      obtain⟨j',bR⟩:=F9 z vS;have aZ:j'<j:=by
       obtain⟨b1,b2⟩:=List.getElem?_eq_some_iff.1 hj;obtain⟨c1,c2⟩:=List.getElem?_eq_some_iff.1 bR;rcases Nat.lt_trichotomy j' j with h3|h3|h3
       ·exact h3
       ·subst h3;rw[hj] at bR;injection bR with bR
        rw[←bR,rB] at h1;omega
       ·have:=List.pairwise_iff_getElem.1 hR.ord j j' b1 c1 h3;rw[b2,c2,rB] at this;omega
      have Ox:z∈R0.take j:=mem_of_getElem? (i:=j') (by rw[getElem?_take,if_pos aZ];exact bR);rw[yX Ox hd ((hR.ord.imp fun h=>by omega).sublist (List.take_sublist _ _)) (fun y hy IS=>d1 y.k z.k y.o z.o t (kR Rc uc y (mem_append_left _ (List.mem_of_mem_take hy))).1 (kR Rc uc z hz).1 IS hd)]
     ·have:=fK z.k i hl h1.2;rw[pR] at this;cases this
    ·rw[cp (R0.take j) s'.e t (fun z hz hd=>by
      have vS:=List.mem_of_mem_take hz;have hf:=nC z (mem_append_left _ vS) hd;obtain⟨j',bR,e1⟩:=List.mem_iff_getElem.1 hz;simp at bR;obtain⟨dA,h1|h1⟩:=FG z (mem_append_left _ vS) hd
      ·have:=gT z.k h1.2;rw[hf] at this;cases this
      ·obtain⟨b1,b2⟩:=List.getElem?_eq_some_iff.1 hj;have:=List.pairwise_iff_getElem.1 hR.ord j' j (by omega) b1 (by omega);rw[List.getElem_take] at e1;rw[b2,e1,rB] at this;omega)]
   obtain⟨pq,yq⟩:=cK x.e dH;have hex:=Kp Jw x Sk;rw[yg] at hex;refine rk (oE yq hex) cT pq fun cv w' L' g1 g2 g3=>behind x H T cv w' L' k Rc rB yg (by rw[←yg];exact a6) (mem_append_left _ Sk) (fun y hy=>.inr hy) (fun y hy=>hy) (fun m j' hm=>?_) gB MV uc Jw wP g1 g2 g3;have jt:i≠j':=by
    rintro rfl;have:=mem_of_getElem? hm;rw[←contains_iff_mem] at this;rw[SN] at this;cases this
   rw[getD_set_ne false jt];exact hk m j' hm
  |true=>
   obtain⟨e1,_⟩:=gQ pK SN;have Py:ch[k]?=some i:=by
    have jE:k≤(ch.filter (·<i)).length:=by
     rcases lt_or_ge (ch.filter (·<i)).length k with h1|h1
     ·have:=(hk _ i e1).2 h1;rw[pR] at this;cases this
     ·exact h1
    have hle:(ch.filter (·<i)).length≤k:=by
     rcases Nat.eq_zero_or_pos (ch.filter (·<i)).length with h0|h0
     ·omega
     ·obtain⟨e',h1,h2⟩:=(d3 _ i e1).2 h0;have:=(hk _ e' h1).1 (gT e' h2);omega
    rw[show k=(ch.filter (·<i)).length by omega];exact e1
   have aar:=(List.getElem?_eq_some_iff.1 Py).1;have pB:(ch.drop k).map (fun i=>ops.getD i default)=o::(ch.drop (k+1)).map (fun i=>ops.getD i default):=by
    rw[List.drop_eq_getElem_cons aar,map_cons]
    congr 1
    rw[(List.getElem?_eq_some_iff.1 Py).2,getD_eq_getElem?_getD,ho];rfl
   rw[pB,RM] at wP;have dH:∀t∈o.looksAt ops.toArray,∀v,VC (R0++Rc) ay s'.e t v→v=bF (aT s'.e (R0++Rc)) t:=by
    intro t ht v hv;have FG:∀z∈R0++Rc,z.o.dst=some t→i≠z.k∧((z.k<i∧j7 (dW ops []) z.k i=true)∨(i<z.k∧j7 (dW ops []) i z.k=true)):=fun z hz hd=>d2 i z.k o z.o t ho (kR Rc uc z hz).1 ht hd;rcases hv with⟨z,hz,hd,hl,rfl⟩|⟨nC,rfl⟩
    ·rw[yX hz hd (Tt Rc uc) (fun y hy IS=>d1 y.k z.k y.o z.o t (kR Rc uc y hy).1 (kR Rc uc z hz).1 IS hd)]
    ·rw[cp (R0++Rc) s'.e t (fun z hz hd=>by
      have hf:=nC z hz hd;obtain⟨dA,h1|h1⟩:=FG z hz hd
      ·have:=gT z.k h1.2;rw[hf] at this;cases this
      ·rcases List.mem_append.1 hz with vS|Zd
       ·obtain⟨j,hj⟩:=F9 z vS;obtain⟨b1,_,b3,_⟩:=hR.aL j z hj;have:=J6 z.k i (List.getElem?_eq_some_iff.1 b1).1 b3 (List.contains_iff_mem.1 SN);rw[this] at h1;cases h1.2
       ·obtain⟨m,hm,e2⟩:=List.mem_iff_getElem.1 Zd;have h2:=(uc m z (by rw[getElem?_eq_getElem hm,e2])).1;have:=(hk m z.k h2).2 (by omega);rw[hf] at this;cases this)]
   obtain⟨pq,yq⟩:=cK _ dH;refine LH (Ch yq wP) cT pq fun v H' T' cv w' L' hκ g1 g2 g3=>?_;obtain⟨Ja,ia⟩:=hκ;obtain⟨kS,ia⟩:=jW ia;refine behind ⟨o,aT s'.e (R0++Rc),true,v,i,true⟩ H' T' cv w' L' (k+1) (Rc++[⟨o,aT s'.e (R0++Rc),true,v,i,true⟩]) rfl rfl kS (by simp) (fun y hy=>?_) (fun y hy=>?_) (fun m j hm=>?_) (by omega) (by simp[MV]) (fun m x hx=>?_) Ja ?_ g1 g2 g3
   ·rw[←append_assoc] at hy;rcases List.mem_append.1 hy with hy|hy
    ·exact .inr hy
    ·exact .inl (List.mem_singleton.1 hy)
   ·rw[←append_assoc];exact mem_append_left _ hy
   ·by_cases jt:i=j
    ·subst jt;have:=TE _ _ _ hm Py;simp[jL];omega
    ·rw[getD_set_ne false jt,hk m j hm]
     constructor
     ·intro h;omega
     ·intro h;rcases lt_or_ge m k with h1|h1
      ·exact h1
      ·have:m=k:=by omega
       subst this;rw[Py] at hm
       injection hm with hm
       exact absurd hm jt
   ·rcases lt_or_ge m Rc.length with h1|h1
    ·rw[getElem?_append_left h1] at hx;exact uc m x hx
    ·rw[getElem?_append_right h1] at hx;have hm:m=Rc.length:=by
      rcases lt_or_ge (m-Rc.length) 1 with h2|h2
      ·omega
      ·rw[getElem?_eq_none (by simpa using h2)] at hx;cases hx
     subst hm;simp at hx;subst hx;exact⟨by rw[MV];exact Py,ho,kS⟩
   ·rw[←append_assoc,fC];exact ia
 have kF:∀(ay:Array Bool),ay.size=ops.length→Region.ready .any ops.toArray ay=[]→∀i,i<ops.length→ay.getD i false=true:=by
  intro ay iQ hr i
  induction i using Nat.strongRecOn with
  |_ i ih=>
   intro cC
   cases Rp:ay.getD i false with
   |true=>rfl
   |false=>
    exfalso;have iR:i∈Region.ready .any ops.toArray ay:=by
     refine mem_ready.2 ⟨by rw[dj (by omega)];exact Rp,ops[i],by rw[getElem?_toArray,getElem?_eq_getElem cC],fun e he hb=>?_⟩;have aZ:=d6 i _ (getElem?_eq_getElem cC) e he hb;exact ih e.on aZ (by omega)
    rw[hr] at iR;simp at iR
 have key:∀(fuel:Nat)(ay:Array Bool)(a:Act)(w:World),Na C K ch ops R0 s' L0 w0 ay a w→(∀i,i<ops.length→ay.getD i false=true)∨(List.range ops.length).countP (fun i=>!ay.getD i false)≤fuel→
   wpAny C.P .any ops.toArray (dh C (dL K Q) L0 s' w0) fuel ay a w:=by
  intro fuel
  induction fuel with
  |zero=>
   intro ay a w hI rI;have fj:∀i,i<ops.length→ay.getD i false=true:=by
    rcases rI with h1|h1
    ·exact h1
    ·intro i hi;have h2:(List.range ops.length).countP (fun i=>!ay.getD i false)=0:=by omega
     have:=List.countP_eq_zero.1 h2 i (List.mem_range.2 hi);simpa using this
   refine⟨?_,done ay a w hI fj⟩;rw[List.eq_nil_iff_forall_not_mem];intro i hi;obtain⟨h1,o,ho,_⟩:=mem_ready.1 hi;rw[getElem?_toArray] at ho;have cC:=(List.getElem?_eq_some_iff.1 ho).1;rw[dj (by rw[hI.size];omega),fj i cC] at h1
   cases h1
  |succ fuel ih=>
   intro ay a w hI rI;refine⟨fun hr=>done ay a w hI (kF ay hI.size hr),fun i hi=>?_⟩;refine Sa ay a w i _ hI hi fun a' w' PD=>ih _ a' w' PD ?_;obtain⟨h1,o,ho,_⟩:=mem_ready.1 hi;rw[getElem?_toArray] at ho;have cC:=(List.getElem?_eq_some_iff.1 ho).1;have jL:i<ay.size:=by rw[hI.size];omega
   rw[dj jL] at h1;rcases rI with h2|h2
   ·rw[h2 i cC] at h1;cases h1
   ·right
    have:(List.range ops.length).countP (fun j=>!(ay.setIfInBounds i true).getD j false)+1≤(List.range ops.length).countP (fun j=>!ay.getD j false):=by
     have JY:(List.range ops.length).countP (fun j=>!ay.getD j false)=(List.range ops.length).countP (fun j=>!(ay.setIfInBounds i true).getD j false)+(List.range ops.length).countP (fun j=>decide (j=i)):=by
      generalize List.range ops.length=l
      induction l with
      |nil=>rfl
      |cons y r Se=>
       simp only[List.countP_cons,Se]
       by_cases hy:y=i
       ·subst hy;simp[h1,jL];omega
       ·rw[getD_set_ne false (fun e=>hy e.symm)];simp[hy];omega
     have ji:0<(List.range ops.length).countP (fun j=>decide (j=i)):=List.countP_pos_iff.2 ⟨i,List.mem_range.2 cC,by simp⟩;omega
    omega
 have iQ:ops.toArray.size=ops.length:=by simp
 rw[iQ];refine key ops.length _ a0 _ ⟨by simp,fun i j hl _=>?_,⟨0,[],s'.H,s'.T,L0,fun m i W2=>?_,zero_le _,rfl,fun m x hx=>by simp at hx,Nq fun x hx=>?_,by simpa using SG,hc.mQ.drew rfl,hc.nb,hc.tb,fun t=>?_,?_⟩,hc.size,hc.defers⟩ (.inr ?_)
 ·exfalso
  by_cases hi:i<ops.length<;>simp[hi] at hl
 ·constructor
  ·intro hl;exfalso
   by_cases hi:i<ops.length<;>simp[hi] at hl
  ·intro h;omega
 ·obtain⟨j,hj⟩:=F9 x hx;exact(hR.aL j x hj).2.2.2.2.1
 ·refine⟨bF s'.e t,.inr ⟨fun x hx hd=>?_,rfl⟩,?_⟩
  ·by_cases hj:x.k<ops.length<;>simp[hj]
  ·have kd:cS L0 s'.H.length s'.T w0 L0 s'.H.length s'.T { w0 with drawn:=w0.drawn+1 }:=(Ev.drew (H:=s'.H) (T:=s'.T) (L:=L0) (w:=w0) (w':={ w0 with drawn:=w0.drawn+1 }) rfl rfl rfl rfl (le_succ _)).keeps;exact(hc.env t).keep kd
 ·exact(Ev.drew (H:=s'.H) (T:=s'.T) (L:=L0) (w:=w0) (w':={ w0 with drawn:=w0.drawn+1 }) rfl rfl rfl rfl (le_succ _)).mono hc.nb hc.tb
 ·refine le_trans (List.countP_le_length) ?_;simp
theorem Ip {C:Cx}{id:Nat}{ops:List Oper}{Q:Exit→St→Prop}{s:St}(K:St→Prop)(ch:List Nat)(hm:C.P.follows .mixedOrders=true)(mP:M1 ops ch=true)
  (h:EL C K ch ops s.H s.T (prune C.nv s.e)):AW C (.region id ops.toArray true) (dL K Q) s:=
 fun L0 w0 a0 nE=>wp_region_any hm (D9 K ch mP h L0 w0 a0 nE)
theorem si {C:Cx}{id:Nat}{ops:List Oper}{Q:Exit→St→Prop}{s:St}(ch:List Nat)(hm:C.P.follows .mixedOrders=true)(mP:M1 ops ch=true)
  (h:∀K:St→Prop,(∀s,Q .normal s→K s)→EL C K ch ops s.H s.T (prune C.nv s.e)):AW C (.region id ops.toArray true) Q s:=
 (Ip (Q:=Q) (fun s=>Q .normal s) ch hm mP (h _ fun _ h=>h)).mono fun e s q=>by cases e<;>exact q
theorem vw {C:Cx}{o:Oper}{e:Env}{H:List aA}{T:ar}{κ κ':AV→List aA→ar→Prop}(h:∀v J U,κ v J U→κ' v J U)(k:fF C o e H T κ):fF C o e H T κ':=by
 unfold fF at k ⊢
 split at k
 ·exact fun nc kT=>h _ _ _ (k nc kT)
 ·split at k
  ·obtain⟨el,vs,xs,m,a1,a2,a3,a4,a5,a6,a7,a8,k1,k2⟩:=k;exact⟨el,vs,xs,m,a1,a2,a3,a4,a5,a6,a7,a8,fun x=>h _ _ _ (k1 x),fun nc x y=>h _ _ _ (k2 nc x y)⟩
  ·exact k.elim
theorem Ea {C:Cx}{o:Oper}{e:Env}{H:List aA}{T:ar}{κ κ':AV→List aA→ar→Prop}(h:∀v J U,κ v J U→κ' v J U)(k:gV C o e H T κ):gV C o e H T κ':=by
 unfold gV at k ⊢
 split at k
 ·rename_i h1;rw[if_pos h1];exact h _ _ _ k
 ·rename_i h1;rw[if_neg h1]
  split at k
  ·exact vw h k
  ·split at k
   ·exact vw h k
   ·split at k
    ·exact k.elim
    ·split at k
     ·exact h _ _ _ k
     ·exact k.elim
def zQ (C:Cx)(K:St→Prop)(P:List aA→ar→Prop):List Oper→Env→List aA→ar→Prop
 |[],e,H,T=>K ⟨e,H,T⟩
 |o::r,e,H,T=>gV C o e H T (fun v H' T'=>P H' T'∧ug C.nt o.dst v e (fun e'=>zQ C K P r e' H' T'))
theorem Hf {nt:Nat}{dst:Option Tmp}{v:AV}{e:Env}{k k':Env→Prop}(h:∀e,k e→k' e)(x:ug nt dst v e k):ug nt dst v e k':=by
 cases dst with
 |none=>exact h _ x
 |some d=>exact⟨x.1,h _ x.2⟩
theorem yD {C:Cx}{K:St→Prop}{R:List bW}(P:List aA→ar→Prop)(h1:∀J U,P J U→zG C.P J U R):∀{l:List Oper} {e:Env} {H:List aA} {T:ar},zQ C K P l e H T→RM C K R l e H T
 |[],_,_,_,h=>h
 |o::r,e,H,T,h=>Ea (fun v J U ⟨a,b⟩=>⟨h1 J U a,Hf (fun e' x=>yD P h1 x) b⟩) h
theorem LG {C:Cx}{K:St→Prop}{P:List aA→ar→Prop}{e:Env}{H:List aA}{T:ar}:zQ C K P [] e H T=K ⟨e,H,T⟩:=rfl
theorem j5 {C:Cx}{K:St→Prop}{P:List aA→ar→Prop}{o:Oper}{r:List Oper}{e:Env}{H:List aA}{T:ar}:zQ C K P (o::r) e H T=gV C o e H T (fun v H' T'=>P H' T'∧ug C.nt o.dst v e (fun e'=>zQ C K P r e' H' T')):=rfl
theorem jX {nt d:Nat}{v:AV}{e:Env}{k:Env→Prop}(h:d<nt)(x:k (mo e d v)):ug nt (some d) v e k:=⟨h,x⟩
theorem Oa {C:Cx}{o:Oper}{e:Env}{H:List aA}{T:ar}{κ:AV→List aA→ar→Prop}(hz:nW C.P o e H=true)(k:κ (.sl 0 [] .full) H T):gV C o e H T κ:=by
 unfold gV;rw[if_pos hz];exact k
theorem vz {C:Cx}{o:Oper}{e:Env}{H:List aA}{T:ar}{κ:AV→List aA→ar→Prop}{m z:Nat}{ys:List AV}(hz:nW C.P o e H=false)(h0:jD C.P C.bx o e H=some (m,ys,z))
  (k:∀nc,m≤nc→κ (.bJ H.length m nc) (H++[.cells (ys++List.replicate ((nc-m)*z) .top)]) T):gV C o e H T κ:=by
 unfold gV;rw[if_neg (by rw[hz];simp),h0]
 dsimp only
 unfold fF;rw[h0];exact k
theorem LI {C:Cx}{o:Oper}{e:Env}{H H':List aA}{T T':ar}{κ:AV→List aA→ar→Prop}{v:AV}(hz:nW C.P o e H=false)(h0:jD C.P C.bx o e H=none)(hc:qv o e=none)(hl:fJ o e=none)(ho:EC C.P o e H T=some (v,H',T'))(k:κ v H' T'):gV C o e H T κ:=by
 unfold gV;rw[if_neg (by rw[hz];simp),h0,hc,hl,ho];exact k
theorem xY {C:Cx}{o:Oper}{e:Env}{H:List aA}{T:ar}{κ:AV→List aA→ar→Prop}{t t2:TypeId}{i n cap:Nat}{x:AV}(el:TypeId)(A B xs:List AV)(m:Nat)
  (hz:nW C.P o e H=false) (h0:jD C.P C.bx o e H=none) (hc:qv o e=some (t,t2,i,n,cap,x)) (hu:C.P.underlying t=some (.slice el)) (hH:H[i]?=some (.cells (A++B))) (hA:A.length=n*C.P.cellsOf el) (hl:(A++B).length=cap*C.P.cellsOf el)
  (hs:fN H (C.P.cellsOf el) x=some (m,xs)) (hxs:xs.length=m*C.P.cellsOf el) (sq:(n+m)*C.P.bytesOf el≤140737488355328) (W1:n+m≤9223372036854775807) (sX:iS C.P t2=true) (pf:(br C.P el).isSome=true)
  (k:∀(i' jO:Nat)(B':List AV)(J':List aA),(J'=H.set i (.cells (A++xs++B'))∧i'=i∨J'=H++[.cells (A++xs++B')]∧i'=H.length)→(A++xs++B').length=jO*C.P.cellsOf el→n+m≤jO→κ (.bJ i' (n+m) jO) J' T):gV C o e H T κ:=by
 unfold gV;rw[if_neg (by rw[hz];simp),h0,hc]
 dsimp only
 unfold fF;rw[h0,hc]
 dsimp only
 have eN:(A++B).take (n*C.P.cellsOf el)=A:=by rw[←hA,take_left' rfl]
 refine⟨el,A++B,xs,m,hu,hH,hl,hs,sq,W1,sX,pf,fun hle=>?_,fun nc aZ kT=>?_⟩
 ·have h1:(n+m)*C.P.cellsOf el≤cap*C.P.cellsOf el:=Nat.mul_le_mul_right _ hle;rw[eN];refine k i cap _ _ (.inl ⟨rfl,rfl⟩) ?_ hle;rw[length_append,length_append,List.length_drop,hA,hxs,hl];rw[Nat.add_mul] at h1 ⊢;omega
 ·have h1:(n+m)*C.P.cellsOf el≤nc*C.P.cellsOf el:=Nat.mul_le_mul_right _ kT;rw[eN];refine k H.length nc _ _ (.inr ⟨rfl,rfl⟩) ?_ kT;rw[length_append,length_append,List.length_replicate,hA,hxs,Nat.sub_mul];rw[Nat.add_mul] at h1 ⊢;omega
attribute [simp] EL light gV nW zG
open Go.ChangeShapes Go.WideShapes
def m0 (w:World)(b:Nat):Nat:=match w.heap[b]? with
 |some (.cells c _ _)=>c.size
 |_=>0
def ui (w:World):Lay:=⟨fun _=>0,fun _=>⟨0,0,0⟩,m0 w,true⟩
theorem LJ {w:World}{b o:Nat}{v:Value}(h:w.cell? ⟨b,o,none⟩=some v):o<m0 w b:=by
 unfold World.cell? at h;unfold m0;simp only at h
 cases hb:w.heap[b]? with
 |none=>rw[hb] at h;simp at h
 |some x=>
  rw[hb] at h
  cases x with
  |cells c t fr=>
   simp only at h ⊢;rcases lt_or_ge o c.size with g|g
   ·exact g
   ·rw[Array.getElem?_eq_none g] at h;simp at h
  |_=>simp at h
theorem TP (w:World)(hg:∀x∈wQ,∃m,w.cell? ⟨x.1,x.2,none⟩=some (.int .i64 m)):bT (ui w) [] [] w:=by
 refine⟨fun i b h=>by simp at h,fun i j h=>by simp at h,fun t u z h=>by simp at h,fun t u z t' u' z' h=>by simp at h,fun t u z i h=>by simp at h,fun b hb=>?_,fun x hx=>by obtain⟨m,hm⟩:=hg x hx;exact⟨LJ hm,m,hm⟩⟩;show m0 w b=0;unfold m0;rw[Array.getElem?_eq_none hb]
theorem Ob {w:World}{b o:Nat}{v:Value}(h:w.cell? ⟨b,o,none⟩=some v):o<m0 w b:=by
 unfold World.cell? at h;unfold m0;simp only at h
 cases hb:w.heap[b]? with
 |none=>rw[hb] at h;simp at h
 |some x=>
  rw[hb] at h
  cases x with
  |cells c t fr=>
   simp only at h ⊢;rcases lt_or_ge o c.size with g|g
   ·exact g
   ·rw[Array.getElem?_eq_none g] at h;simp at h
  |_=>simp at h
abbrev RC (w:World)(vs:List AV)(c:List Value):Prop:=cz (ui w) 0 [] w vs c
theorem RC.one {w : World} {a : AV} {v : Value} (h : bc (ui w) 0 [] w a v) (h1 : v.oneCell' = true) : RC w [a] [v] :=
  ⟨rfl, fun j hj => by have : j = 0 := by simp at hj; omega
                       subst this; exact h1, fun j hj bR => by
    have : j = 0 := by simp at hj; omega
    subst this; exact h⟩
theorem RC.rep {w:World}{a:AV}{v:Value}(h:RC w [a] [v]):bc (ui w) 0 [] w a v:=h.2.2 0 (by simp) (by simp)
theorem RC.append {w:World}{a b:List AV}{c d:List Value}(h:RC w a c)(k:RC w b d):RC w (a++b) (c++d):=by
 refine⟨by simp[h.1,k.1],fun j hj=>?_,fun j hj bR=>?_⟩
 ·rw[List.getElem_append]
  split
  ·exact h.2.1 _ _
  ·exact k.2.1 _ _
 ·rw[List.getElem_append,List.getElem_append]
  by_cases aZ:j<a.length
  ·rw[dif_pos aZ,dif_pos (by rw[h.1];exact aZ)];exact h.2.2 _ _ _
  ·rw[dif_neg aZ,dif_neg (by rw[h.1];exact aZ)];have:=k.2.2 (j-a.length) (by simp at hj;omega) (by simp at bR;rw[h.1] at bR;omega);simpa[h.1] using this
section
variable {H : Type} {enc : TypeId × Value → H} {P : Program} {w : World} {base fuel : Nat} {sp : Nat → Bool} {held : Bool} {t e : TypeId} {cs : List Value} {x : DataW H × List MemPlace}
theorem rJ {k:IntKind}(ht:P.underlying t=some (.int k))(h:DataW.trod enc P w base sp held fuel t cs=some x):∃n,(Lit.int k n).wf=true∧RC w [.int k n] cs:=by
 obtain⟨n,rfl,_,hw⟩:=DataW.trod_int ht h;exact⟨n,hw,RC.one (.int k n) rfl⟩
theorem QF (ht:P.underlying t=some .string)(h:DataW.trod enc P w base sp held fuel t cs=some x):∃s:List UInt8,s.length≤maxLen∧RC w [.str s] cs:=by
 obtain⟨s,rfl,_,hs⟩:=DataW.trod_string ht h;obtain⟨⟨l⟩⟩:=s;refine⟨l,by simpa[ByteArray.size] using hs,RC.one ?_ rfl⟩;exact bc.str l
theorem Ll {α:Type}{c:Nat}(es:List (List α))(hc:∀a∈es,a.length=c)(i j:Nat)(hi:i<es.length)(hj:j<c):es.flatten[i*c+j]?=(es[i]'hi)[j]?:=by
 induction es generalizing i with
 |nil=>simp at hi
 |cons a r ih=>
  have ha:=hc a (by simp)
  cases i with
  |zero=>simp only[Nat.zero_mul,zero_add,List.flatten_cons,List.getElem_cons_zero];rw[getElem?_append_left (by omega)]
  |succ i=>
   simp only[List.flatten_cons,List.getElem_cons_succ];rw[getElem?_append_right (by rw[ha,succ_mul];omega)];have:=ih (fun b hb=>hc b (by simp[hb])) i (by simpa using hi);rw[←this]
   congr 1
   rw[ha,succ_mul];omega
theorem fZ {α:Type}{c:Nat}(es:List (List α))(hc:∀a∈es,a.length=c):es.flatten.length=es.length*c:=by
 induction es with
 |nil=>simp
 |cons a r ih=>simp[hc a (by simp),ih (fun b hb=>hc b (by simp[hb])),succ_mul];omega
theorem RC.flatten {c:Nat}:∀(es:List (List AV)) (OL:List (List Value)),es.length=OL.length→(∀i (h:i<es.length) (h':i<OL.length),RC w (es[i]'h) (OL[i]'h'))→RC w es.flatten OL.flatten:=by
 intro es
 induction es with
 |nil=>intro OL hl _;cases OL with
  |nil=>exact⟨rfl,fun _ h=>by simp at h,fun _ h=>by simp at h⟩
  |cons _ _=>simp at hl
 |cons a r ih=>
  intro OL hl h
  cases OL with
  |nil=>simp at hl
  |cons b s=>
   simp only[List.flatten_cons];refine RC.append (h 0 (by simp) (by simp)) (ih s (by simpa using hl) fun i hi gX=>?_);exact h (i+1) (by simpa using hi) (by simpa using gX)
theorem AI {G:List AV→Prop}(ht:P.underlying t=some (.slice e))(hp:0<P.cellsOf e)(he:∀n c y,DataW.trod enc P w base sp held n e c=some y→∃a,G a∧RC w a c)
  (h:DataW.trod enc P w base sp held fuel t cs=some x):∃es:List (List AV),(∀a∈es,G a)∧es.length≤maxLen∧RC w [.sl es.length es.flatten .none] cs:=by
 rcases DataW.trod_slice ht h with⟨rfl,_⟩|⟨a,len,cap,elems,rest,n,_,rfl,_,hb,W4,hm,yi,Ey,_,_⟩
 ·exact⟨[],fun a h=>by simp at h,zero_le _,RC.one (.wD _ _ _ trivial) rfl⟩
 ·have key:∀i,i<len→∃(c:List Value) (av:List AV),G av∧RC w av c∧c.length=P.cellsOf e∧∀j,j<P.cellsOf e→w.cell? ((a.add (i*P.cellsOf e)).add j)=c[j]?:=by
   intro i hi;have h1:=Ey i hi;rw[getElem?_eq_getElem (by omega)] at h1;obtain⟨c,h2,h3⟩:=Option.bind_eq_some_iff.1 h1;obtain⟨_,h4,h5⟩:=World.cells?_some h2;obtain⟨av,h6,h7⟩:=he _ _ _ h3;exact⟨c,av,h6,h7,h4,h5⟩
  rcases Nat.eq_zero_or_pos len with h0|h0
  ·subst h0;exact⟨[],fun a h=>by simp at h,zero_le _,RC.one (.wD _ _ _ trivial) rfl⟩
  have OU:a.spot=none:=by
   obtain⟨c,_,_,_,h4,h5⟩:=key 0 h0;have:=h5 0 hp;rw[getElem?_eq_getElem (by omega)] at this;have h6:=World.cell?_spot (a:=(a.add (0*P.cellsOf e)).add 0) this;simpa[Addr.add] using h6
  obtain⟨ab,ao,as⟩:=a;simp only at OU;subst OU
  let C:Nat→List Value:=fun i=>if h:i<len then Classical.choose (key i h) else []
  let A:Nat→List AV:=fun i=>if h:i<len then Classical.choose (Classical.choose_spec (key i h)) else []
  have S2:∀i,i<len→G (A i)∧RC w (A i) (C i)∧(C i).length=P.cellsOf e∧∀j,j<P.cellsOf e→w.cell? ⟨ab,ao+(i*P.cellsOf e+j),none⟩=(C i)[j]?:=by
   intro i hi;have:=Classical.choose_spec (Classical.choose_spec (key i hi));simp only[C,A,dif_pos hi];refine⟨this.1,this.2.1,this.2.2.1,fun j hj=>?_⟩;rw[←this.2.2.2 j hj];rw[Addr.add_add];unfold Addr.add
   split
   ·rename_i h0;rw[h0];rfl
   ·rfl
  refine⟨(List.range len).map A,fun av ZC=>?_,?_,?_⟩
  ·obtain⟨i,hi,rfl⟩:=List.mem_map.1 ZC;exact(S2 i (List.mem_range.1 hi)).1
  ·simp;exact le_trans W4 hm
  ·have hA:∀av∈(List.range len).map A,av.length=P.cellsOf e:=by
    intro av ZC;obtain⟨i,hi,rfl⟩:=List.mem_map.1 ZC;obtain⟨_,h1,h2,_⟩:=S2 i (List.mem_range.1 hi);rw[←h1.1];exact h2
   have hC:∀c∈(List.range len).map C,c.length=P.cellsOf e:=by
    intro c hc;obtain⟨i,hi,rfl⟩:=List.mem_map.1 hc;exact(S2 i (List.mem_range.1 hi)).2.2.1
   have Zs:=fZ _ hA;have hlC:=fZ _ hC;simp only[List.length_map,List.length_range] at Zs hlC;have ki:∀j,j<len*P.cellsOf e→w.cell? ⟨ab,ao+j,none⟩=((List.range len).map C).flatten[j]?:=by
    intro j hj;have hi:j / P.cellsOf e<len:=by rw[Nat.div_lt_iff_lt_mul hp];exact hj
    have hr:j % P.cellsOf e<P.cellsOf e:=Nat.mod_lt _ hp;have e1:j / P.cellsOf e*P.cellsOf e+j % P.cellsOf e=j:=by rw[Nat.mul_comm];exact Nat.div_add_mod _ _
    have h1:=(S2 _ hi).2.2.2 _ hr;have h2:=Ll _ hC (j / P.cellsOf e) (j % P.cellsOf e) (by simpa using hi) hr;rw[e1] at h1 h2;rw[h1,h2];simp
   refine RC.one ?_ rfl;have hlen:((List.range len).map A).length=len:=by simp
   have dI:RC w ((List.range len).map A).flatten ((List.range len).map C).flatten:=RC.flatten (c:=0) _ _ (by simp) fun i hi gX=>by
    simp only[List.getElem_map,List.getElem_range];exact(S2 i (by simpa using hi)).2.1
   rw[hlen];refine bc.kV W4 ?_ dI (fun j hj=>ki j (by rw[Zs] at hj;exact hj)) trivial;rw[Zs];have ji:0<len*P.cellsOf e:=Nat.mul_pos h0 hp;have cL:=ki (len*P.cellsOf e-1) (by omega);rw[getElem?_eq_getElem (by rw[hlC];omega)] at cL;have:=Ob cL;show ao+len*P.cellsOf e≤m0 w ab;omega
theorem zg {k:IntKind}(es:List (List AV))(h:∀a∈es,∃n,(Lit.int k n).wf=true∧a=[.int k n]):∃zs:List Int,zs.length=es.length∧es.flatten=zs.map (.int k)∧∀z∈zs,(Lit.int k z).wf=true:=by
 induction es with
 |nil=>exact⟨[],rfl,rfl,fun z h=>by simp at h⟩
 |cons a r ih=>
  obtain⟨zs,h1,h2,h3⟩:=ih (fun b hb=>h b (by simp[hb]));obtain⟨n,hn,rfl⟩:=h a (by simp);exact⟨n::zs,by simp[h1],by simp[h2],fun z hz=>(List.mem_cons.1 hz).elim (fun e=>by rw[e];exact hn) (h3 z)⟩
theorem NB {k:IntKind}(ht:P.underlying t=some (.slice e))(he:P.underlying e=some (.int k))(hp:0<P.cellsOf e)(h:DataW.trod enc P w base sp held fuel t cs=some x) :
  ∃zs:List Int,(∀z∈zs,(Lit.int k z).wf=true)∧zs.length≤maxLen∧RC w [.sl zs.length (zs.map (.int k)) .none] cs:=by
 obtain⟨es,h1,h2,h3⟩:=AI (G:=fun a=>∃n,(Lit.int k n).wf=true∧a=[.int k n]) ht hp (fun n c y hy=>by
  obtain⟨m,g1,g2⟩:=rJ he hy;exact⟨_,⟨m,g1,rfl⟩,g2⟩) h
 obtain⟨zs,g1,g2,g3⟩:=zg es h1;rw[g2,←g1] at h3;exact⟨zs,g3,by omega,h3⟩
theorem yO (ht:P.underlying t=some (.slice e))(he:P.underlying e=some (.int .i64))(hp:0<P.cellsOf e)(h:DataW.trod enc P w base sp held fuel t cs=some x) :
  ∃zs:List Int,(∀z∈zs,-9223372036854775808≤z∧z≤9223372036854775807)∧zs.length≤maxLen∧RC w [.sl zs.length (ints zs) .none] cs:=by
 obtain⟨zs,h1,h2,h3⟩:=NB ht he hp h;exact⟨zs,fun z hz=>by simpa[Lit.wf,IntKind.min,IntKind.max,IntKind.signed,IntKind.bits] using h1 z hz,h2,h3⟩
end
section
variable {H : Type} {enc : TypeId × Value → H} {P : Program} {w : World} {base fuel : Nat} {sp : Nat → Bool} {held : Bool} {t : TypeId} {cs : List Value} {x : DataW H × List MemPlace} {fs : Array Field}
theorem lV (ht:P.underlying t=some (.struct fs))(h:DataW.trod enc P w base sp held fuel t cs=some x):cs.length=P.cellsOf t∧
  ∀(i:Nat)(f:Field),fs[i]?=some f→∃n y,DataW.trod enc P w base sp held n f.type ((cs.drop f.offset).take (P.cellsOf f.type))=some y:=by
 obtain⟨xs,n,_,_,hl,hx,hf⟩:=DataW.trod_struct ht h;refine⟨hl,fun i f hi=>?_⟩;have aZ:i<xs.length:=by rw[hx];exact(Array.getElem?_eq_some_iff.1 hi).1
 exact⟨n,xs[i],by rw[hf i f hi,getElem?_eq_getElem aZ]⟩
end
theorem aq.law {P:Program}{f:FuncId}{Xn:List AV}{w:World}{args:Array Value}(h:aq P f Xn [] [] (fun r _ _=>r=.bool true))(hg:∀x∈wQ,∃m,w.cell? ⟨x.1,x.2,none⟩=some (.int .i64 m))(hs:args.size=Xn.length)
  (hr:∀(j:Nat)(h:j<Xn.length)(h':j<args.size),bc (ui w) 0 [] w (Xn[j]'h) (args[j]'h')) :
  Calls P f args w fun e w'=>e=.returned (.bool true)∧Go.RowKit.Below w.heap.size w w':=by
 refine(h.2 (ui w) w args (TP w hg) hs hr).mono ?_;rintro e w' ⟨r,H',T',L',cv,rfl,rfl,_,dI,dP⟩
 cases dI with
 |bool _=>exact⟨rfl,dP.os,dP.tape,dP.output,dP.size,fun k hk=>dP.frame k hk (fun hw=>by
   rcases hw with⟨i,hi,_⟩|⟨t,u,z,ht,_⟩
   ·exact Nat.not_lt_zero _ hi
   ·simp at ht)⟩
section
open Go.RowKit
variable {H : Type} {enc : TypeId × Value → H} {P : Program}
theorem wu {f:Func}{s:ChangeSpec}{apart fresh handsOn again:Bool}{W W':World}{args:Array Value}{v:Value}{ds gs:List (DataW H)}{before pa pv:List MemPlace}
  (hW:DataW.Whole enc P f.params.toList s.vars apart W args.toList ds gs before)
  (tt:∀(b:Nat)(sp:Nat→Bool)(hd:Bool),DataW.TrodAll enc P W' b sp hd f.resultTypes.toList (v.resultList f.resultTypes.size) (s.fn H (ds++gs)).results [])
  (eu:∀sp:Nat→Bool,(∀p∈before,sp p.block=true)→DataW.TrodAll enc P W' 0 sp true f.params.toList args.toList (s.fn H (ds++gs)).args pa)
  (OT:∀sp:Nat→Bool,(∀p∈before,sp p.block=true)→DataW.TrodVars enc P W' sp s.vars (s.fn H (ds++gs)).vars pv)
  (pt:before=pa++pv) (hb:Go.RowKit.Below W.heap.size W W')
  (iG:∀(j:Nat)(t:TypeId)(r:Value),f.resultTypes[j]?=some t→(v.resultList f.resultTypes.size)[j]?=some r→Value.okWide P W' .any 0 t r) :
  s.post enc P f apart fresh handsOn again W args v W':=by
 have aZ:∀p∈before,p.block<W.heap.size:=fun p hp=>hW.lt p hp;have hold:∀p∈before,(fun b=>decide (b<W.heap.size)) p.block=true:=fun p hp=>by simpa using aZ p hp
 refine⟨ds,gs,before,[],pa,pv,hW,tt _ _ _,eu _ hold,OT _ hold,World.keptBut_mono (fun p hp=>⟨hp,?_⟩) (hb.frame (·∈before)),fun _=>?_⟩
 ·rw[pt,List.mem_append] at hp;exact Or.inr hp
 ·obtain⟨_,_,_,_,_,hz,hn⟩:=hW;refine⟨iG,_,_,([]++pa)++pv,⟨[]++pa,pv,trodAll_append (eu _ (fun _ _=>rfl)) (tt _ _ _),OT _ (fun _ _=>rfl),rfl,?_,?_⟩,?_⟩
  ·intro b off hp;have Ew:MemPlace.cell b off∈before:=by rw[pt];simpa using hp
   rw[hb.frozen (aZ _ Ew)];exact hz b off Ew
  ·intro ha;have:=hn ha;rw[pt] at this;simpa using this
  ·intro p hp _;rw[pt];simpa using hp
theorem wm (hl:laidOutB P=true){W W':World}(hb:Go.RowKit.Below W.heap.size W W'){sp:Nat→Bool}:∀{ts:List TypeId} {vs:List Value} {ds:List (DataW H)} {ps:List MemPlace},DataW.TrodAll enc P W 0 (fun _=>true) true ts vs ds ps→
  (∀t∈ts,P.readableRec t=true∧t<P.types.size)→(∀x∈ps,x.block<W.heap.size)→(∀x∈ps,sp x.block=true)→DataW.TrodAll enc P W' 0 sp true ts vs ds ps:=by
 intro ts
 induction ts with
 |nil=>
  intro vs ds ps h _ _ _;obtain⟨rfl,rfl,rfl⟩:=trodAll_nil h;exact trodAll_mk0
 |cons t ts ih=>
  intro vs ds ps h ht aZ CA;obtain⟨v0,vs0,d0,ds0,p0,q0,rfl,rfl,rfl,h0,r0⟩:=trodAll_cons h;have h1:=ht t (by simp);exact trodAll_cons_mk (WideElems.Trod_stays hl h1.1 h1.2 h0 (fun x hx=>hb.same (aZ x (by simp[hx]))) (fun x hx=>CA x (by simp[hx])))
   (ih r0 (fun t' h'=>ht t' (by simp[h'])) (fun x hx=>aZ x (by simp[hx])) (fun x hx=>CA x (by simp[hx])))
theorem HF {f:Func}{s:ChangeSpec}{apart fresh handsOn again:Bool}{W W':World}{args:Array Value}{ds gs:List (DataW H)}{before:List MemPlace}{tb:TypeId}
  (hW:DataW.Whole enc P f.params.toList s.vars apart W args.toList ds gs before) (hv:s.vars=[]) (SK:s.fn H ds={ results:=[.lit (.bool true)],args:=ds }) (hr:f.resultTypes=#[tb]) (eS:P.underlying tb=some .bool)
  (hl:laidOutB P=true) (zz:∀t∈f.params.toList,P.readableRec t=true∧t<P.types.size) (hb:Go.RowKit.Below W.heap.size W W') :
  s.post enc P f apart fresh handsOn again W args (.bool true) W':=by
 have SO:=hW;obtain⟨p,q,hA,hV,rfl,Zz,lr⟩:=hW;rw[hv] at hV;obtain⟨rfl,rfl⟩:=trodVars_none hV;simp only[append_nil] at SO;have aZ:∀x∈p,x.block<W.heap.size:=fun x hx=>SO.lt x hx;refine wu (pa:=p) (pv:=[]) SO (fun b sp hd=>?_) (fun sp CA=>?_) (fun sp CA=>?_) (by simp) hb (ok_one hr rfl (okWide_bool_mk eS _))
 ·rw[append_nil,SK,hr];exact trodAll_cons_mk (shut_bool eS _) trodAll_mk0
 ·rw[append_nil,SK];exact wm hl hb hA zz aZ CA
 ·rw[append_nil,SK,hv];rfl
end
section
variable {H : Type} {enc : TypeId × Value → H} {P : Program} {w : World} {b0 base : Nat} {sp : Nat → Bool} {held : Bool} {t e : TypeId} {v : Value} {d : DataW H} {ps : List MemPlace} {r : Reach}
theorem Oi (ht:P.underlying t=some (.slice e))(he:P.underlying e=some (.int .i64))(hp:0<P.cellsOf e)(jh:Value.okWide P w r b0 t v)(h:DataW.Trod enc P w base sp held t v d ps) :
  ∃s:List Int,((∀z∈s,-9223372036854775808≤z∧z≤9223372036854775807)∧s.length≤maxLen)∧bc (ui w) 0 [] w (.sl s.length (ints s) .none) v:=by
 obtain⟨a,l,c,rfl⟩:=okWide_slice ht jh;obtain⟨fuel,hf⟩:=h;obtain⟨m,h1,h2,h3⟩:=yO ht he hp hf;exact⟨m,⟨h1,h2⟩,h3.rep⟩
end
section
variable {H : List aA} {T : ar} {L : Lay} {w : World}
theorem bT.Z6 {n z:Nat}{cs:List AV}(h:bT L (H++[.cells [.sl n cs .full]]) T w)(hz:0<z) :
  bT (L.bh T.length ⟨0,0,0⟩) (H++[.cells [.sl n cs (.own T.length)]]) (T++[(cs.length,z)]) w:=by
 have h1:=h.own cs.length hz;have el:(H++[aA.cells [.sl n cs .full]]).length=(H++[aA.cells [.sl n cs (.own T.length)]]).length:=by simp
 refine⟨fun i b hi=>?_,fun i j hi hj=>h1.inj i j (by rw[el];exact hi) (by rw[el];exact hj),h1.tok,h1.nH,fun t u z' i ht hu hi=>h1.jv t u z' i ht hu (by rw[el];exact hi),h1.mz,h1.gl⟩;rw[←el];rcases lt_or_ge i H.length with hl|hl
 ·rw[getElem?_append_left hl] at hi;exact h1.box i b (by rw[getElem?_append_left hl];exact hi)
 ·have gX:=(List.getElem?_eq_some_iff.1 hi).1;have:i=H.length:=by simp at gX;omega
  subst this;rw[E4] at hi;simp at hi;subst hi;obtain⟨c,t,fr,g1,g2,g3,vO,g4,g5⟩:=h.box H.length (.cells [.sl n cs .full]) (by simp);refine⟨c,t,fr,g1,g2,by simpa using g3,vO,fun j hj bR=>?_,g5⟩;have:j=0:=by simp at hj;omega
  subst this;exact(g4 0 (by simp) bR).own
theorem Ft {C:Cx}{c:Code}{Q:Exit→St→Prop}{s:St}(z:Nat)(H:List aA)(n:Nat)(cs:List AV)(hz:0<z)(hH:s.H=H++[.cells [.sl n cs .full]])
  (h:AW C c Q ⟨s.e,H++[.cells [.sl n cs (.own s.T.length)]],s.T++[(cs.length,z)]⟩):AW C c Q s:=by
 obtain⟨e,H0,T⟩:=s;simp only at hH h;subst hH;intro L w a hc;have el:(H++[aA.cells [.sl n cs .full]]).length=(H++[aA.cells [.sl n cs (.own T.length)]]).length:=by simp
 have ev:=Ev.own (H:=H++[.cells [.sl n cs .full]]) (T:=T) (L:=L) (w:=w) cs.length z;have ZU:=ev.mono hc.nb hc.tb;have ek:cS L (H++[aA.cells [.sl n cs .full]]).length T w (L.bh T.length ⟨0,0,0⟩) (H++[aA.cells [.sl n cs (.own T.length)]]).length (T++[(cs.length,z)]) w:=by
  rw[←el];exact ev.keeps
 refine wp_mono (h (L.bh T.length ⟨0,0,0⟩) w a ⟨by rw[←el];exact hc.nb,by simp;have:=hc.tb;simp at this;omega,hc.mQ.Z6 hz,hc.size,hc.defers,fun t=>(hc.env t).keep ek⟩) fun _ _ _ k=>
  dh.step (s1:=⟨e,H++[.cells [.sl n cs (.own T.length)]],T++[(cs.length,z)]⟩) (by rw[←el];exact ZU) k
end
section
variable {H : List aA} {T : ar} {L : Lay} {w : World}
theorem bT.Z5 {n z k:Nat}{cs vs:List AV}(h:bT L (H++[.cells vs]) T w)(hk:vs[k]?=some (.sl n cs .full))(hz:0<z) :
  bT (L.bh T.length ⟨0,0,0⟩) (H++[.cells (vs.set k (.sl n cs (.own T.length)))]) (T++[(cs.length,z)]) w:=by
 have h1:=h.own cs.length hz;have ev:=Ev.own (H:=H++[.cells vs]) (T:=T) (L:=L) (w:=w) cs.length z;have el:(H++[aA.cells vs]).length=(H++[aA.cells (vs.set k (.sl n cs (.own T.length)))]).length:=by simp
 refine⟨fun i b hi=>?_,fun i j hi hj=>h1.inj i j (by rw[el];exact hi) (by rw[el];exact hj),h1.tok,h1.nH,fun t u z' i ht hu hi=>h1.jv t u z' i ht hu (by rw[el];exact hi),h1.mz,h1.gl⟩;rw[←el];rcases lt_or_ge i H.length with hl|hl
 ·rw[getElem?_append_left hl] at hi;exact h1.box i b (by rw[getElem?_append_left hl];exact hi)
 ·have gX:=(List.getElem?_eq_some_iff.1 hi).1;have:i=H.length:=by simp at gX;omega
  subst this;rw[E4] at hi;simp at hi;subst hi;obtain⟨c,t,fr,g1,g2,g3,vO,g4,g5⟩:=h.box H.length (.cells vs) (by simp);refine⟨c,t,fr,g1,g2,by simpa using g3,vO,fun j hj bR=>?_,g5⟩
  by_cases e:k=j
  ·subst e;have vW:k<vs.length:=by simpa using hj
   rw[getElem?_eq_getElem vW] at hk;have:=g4 k vW bR;rw[Option.some.inj hk] at this;rw[List.getElem_set_self];exact this.own
  ·rw[List.getElem_set_ne e];exact(g4 j (by simpa using hj) bR).keep ev.keeps
theorem iu {C:Cx}{c:Code}{Q:Exit→St→Prop}{s:St}(z k:Nat)(H:List aA)(vs:List AV)(n:Nat)(cs:List AV)(hz:0<z)(hk:vs[k]?=some (.sl n cs .full))(hH:s.H=H++[.cells vs])
  (h:AW C c Q ⟨s.e,H++[.cells (vs.set k (.sl n cs (.own s.T.length)))],s.T++[(cs.length,z)]⟩):AW C c Q s:=by
 obtain⟨e,H0,T⟩:=s;simp only at hH h;subst hH;intro L w a hc;have el:(H++[aA.cells vs]).length=(H++[aA.cells (vs.set k (.sl n cs (.own T.length)))]).length:=by simp
 have ev:=Ev.own (H:=H++[.cells vs]) (T:=T) (L:=L) (w:=w) cs.length z;have ZU:=ev.mono hc.nb hc.tb;have ek:cS L (H++[aA.cells vs]).length T w (L.bh T.length ⟨0,0,0⟩) (H++[aA.cells (vs.set k (.sl n cs (.own T.length)))]).length (T++[(cs.length,z)]) w:=by
  rw[←el];exact ev.keeps
 refine wp_mono (h (L.bh T.length ⟨0,0,0⟩) w a ⟨by rw[←el];exact hc.nb,by simp;have:=hc.tb;simp at this;omega,hc.mQ.Z5 hk hz,hc.size,hc.defers,fun t=>(hc.env t).keep ek⟩) fun _ _ _ kk=>
  dh.step (s1:=⟨e,H++[.cells (vs.set k (.sl n cs (.own T.length)))],T++[(cs.length,z)]⟩) (by rw[←el];exact ZU) kk
end
end Go.Am
