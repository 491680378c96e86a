/- Calls with more than one result: what they have made is forgotten. Boxes that are finished become immutable, however deep they lie. Boxes that are finished become immutable; the one they hang on stays a box. The token of a call's result takes the first free number. A region that draws its order, where two operations with effects may come in either order: both orders are walked. A region that draws its order, in which one operation with an effect (an append to a box that is held with its capacity) can come out in several ways. Regions that draw their order, in which the operations with an effect stand in a chain, each with several outcomes, and the others have no effect and nothing of the chain ahead of them. From the readings of a law's arguments to abstract values, and from a contract of the machine to the row's post. The arguments of a row, as abstract values. A box whose cell is an empty end gets a token for it: only the abstract state takes the step. A box of several cells, one of which is an empty end, gets a token for it.
  Conditions: as the theorems say. -/
import Derived.Test.YtneohapkboaplaaGreatAmB
import Derived.WalkKit
import Derived.ProofKit
import Derived.OpenShut
import Derived.JoinedCond
import Derived.Below
import Derived.Carry
import Derived.DataElems
import Derived.ChangeSame
import Derived.ChangeMaps5
import Derived.WideShapes
set_option linter.all false
open Nat (lt_or_ge le_refl le_trans zero_add sub_self add_comm zero_le succ_mul)
open List (getElem?_eq_getElem getElem?_append_left getElem?_toArray getD_eq_getElem?_getD take_left' append_assoc getElem?_take length_append append_nil take_append_of_le_length getElem?_eq_none getElem?_append_right getElem?_map mem_of_getElem? take_length drop_drop)
namespace Go.Am
open Go
section
variable {P : Program} {f : FuncId} {args : List AV} {H : List aG} {T : ay}
theorem aZ.Qb {L:Lay}{N:Nat}{T:ay}{w:World}{vs:List AV}{c:Value}(h:aZ L N T w (.cJ vs) c):aZ L N T w (.cJ (vs.map Am.cC)) c:=by
 cases h with
 |cJ _ cv h1 hr=>
  refine .cJ _ cv (by simpa using h1) (fun j hj bK=>?_);rw[List.getElem_map];exact(hr j (by simpa using hj) bK).cC
theorem al.vX {rs:List AV}(h:al P f args H T (fun r H' T'=>(∃rH,H'=H++rH)∧(∃rT,T'=T++rT)∧∃vs,r=.cJ vs∧vs.map Am.cC=rs))(hb:∀v∈rs,Below H.length T.length v):al P f args H T (Is (.cJ rs) H T):=by
 refine⟨h.1,fun L w ca hc oM hr=>(h.2 L w ca hc oM hr).mono ?_⟩;rintro e w' ⟨r',H',T',L',cv,⟨⟨rH,e1⟩,⟨rT,e2⟩,vs,e3,e4⟩,rfl,cQ,dF,dU⟩;subst e1;subst e2;subst e3;refine⟨_,H,T,L',cv,⟨rfl,rfl,rfl⟩,rfl,bN.front P cQ hc.fC,?_,dU.front (le_refl _) (le_refl _)⟩;have oX:=dF.Qb;rw[e4] at oX;have:=oX.drop (.cJ _ hb);simpa using this
end
inductive gn (n0 t0:Nat) (H:List aG):AV→AV→Prop
 |keep {v v':AV} (h:v'=v∨v'=cC v) (hb:Below n0 t0 v'):gn n0 t0 H v v'
 |top (v:AV):gn n0 t0 H v .top
 |cO {i o n:Nat} {vs cs:List AV} (hi:n0≤i) (hH:H[i]?=some (.cells vs)) (hl:o+cs.length≤vs.length) (hc:∀(j:Nat)(h:j<cs.length),gn n0 t0 H (vs.getD (o+j) .top) (cs[j]'h)):gn n0 t0 H (.cO i o n) (.sl n cs .none)
 |dP {i n cap:Nat} {vs cs:List AV} (hi:n0≤i) (hH:H[i]?=some (.cells vs)) (hl:cs.length≤vs.length) (hc:∀(j:Nat)(h:j<cs.length),gn n0 t0 H (vs.getD j .top) (cs[j]'h)):gn n0 t0 H (.dP i n cap) (.sl n cs .none)
 |aa0 {i n:Nat} {vs cs:List AV} (hi:n0≤i) (hH:H[i]?=some (.cells vs)) (hl:cs.length≤vs.length) (hc:∀(j:Nat)(h:j<cs.length),gn n0 t0 H (vs.getD j .top) (cs[j]'h)):gn n0 t0 H (.dP i n n) (.sl n cs .full)
 |slT {n t:Nat} {cs sc:List AV} (hl:sc.length=cs.length) (ht:t<t0) (hc:∀(j:Nat)(h:j<sc.length),gn n0 t0 H (cs.getD j .top) (sc[j]'h)):gn n0 t0 H (.sl n cs (.own t)) (.sl n sc (.own t))
 |ptr {i o:Nat} {vs cs:List AV} (hi:n0≤i) (hH:H[i]?=some (.cells vs)) (hl:cs.length≤vs.length) (hc:∀(j:Nat)(h:j<cs.length),gn n0 t0 H (vs.getD j .top) (cs[j]'h)):gn n0 t0 H (.ptr i o) (.dI cs o)
 |sl {n:Nat} {cs sc:List AV} {tg:Tag} (hl:sc.length=cs.length) (hc:∀(j:Nat)(h:j<sc.length),gn n0 t0 H (cs.getD j .top) (sc[j]'h)):gn n0 t0 H (.sl n cs tg) (.sl n sc .none)
 |agg {cs sc:List AV} (hl:sc.length=cs.length) (hc:∀(j:Nat)(h:j<sc.length),gn n0 t0 H (cs.getD j .top) (sc[j]'h)):gn n0 t0 H (.agg cs) (.agg sc)
 |cJ {cs sc:List AV} (hl:sc.length=cs.length) (hc:∀(j:Nat)(h:j<sc.length),gn n0 t0 H (cs.getD j .top) (sc[j]'h)):gn n0 t0 H (.cJ cs) (.cJ sc)
open Classical in
noncomputable def Lay.r9 (L:Lay)(n0 n:Nat)(w:World):Lay:=
 { L with m:=fun b=>if ∃i,n0≤i∧i<n∧L.bL i=b then max (L.m b) (match w.heap[b]? with|some (.cells c _ _)=>c.size|_=>0) else L.m b }
section
variable {L : Lay} {H : List aG} {T : ay} {w : World} {n0 t0 : Nat}
open Classical in
theorem rv (L:Lay)(n0 n:Nat)(w:World)(b:Nat):L.m b≤(L.r9 n0 n w).m b:=by
 show L.m b≤if _ then _ else _
 split
 ·exact Nat.le_max_left _ _
 ·exact le_refl _
theorem dd.r9 {m:Nat}(N:Nat)(T:ay):dd L N T w (L.r9 n0 m w) N T w:=by
 exact⟨le_refl _,fun _ _=>rfl,fun t u z h=>⟨u,h,le_refl _,fun _=>rfl⟩,fun b=>rv L n0 m w b,fun _ _ _=>rfl,rfl⟩
open Classical in
theorem bN.r9 (h:bN L H T w)(hn:n0≤H.length)(hf:bN L (H.take n0) (T.take t0) w):bN (L.r9 n0 H.length w) (H.take n0) (T.take t0) w:=by
 have hlen:(H.take n0).length=n0:=by rw[List.length_take];omega
 have ne:∀b,(¬∃i,n0≤i∧i<H.length∧L.bL i=b)→(L.r9 n0 H.length w).m b=L.m b:=fun b hb=>if_neg hb;have Ss:∀(t:Nat)(x:Nat×Nat),(T.take t0)[t]?=some x→T[t]?=some x:=by
  intro t x hx;rw[getElem?_take] at hx
  split at hx
  ·exact hx
  ·cases hx
 have aak:∀i,i<n0→¬∃j,n0≤j∧j<H.length∧L.bL j=L.bL i:=by
  rintro i hi ⟨j,h1,h2,e⟩;have:=h.inj j i h2 (by omega) e;omega
 have aaj:∀t u z,T[t]?=some (u,z)→u<(L.dD t).c*z→¬∃j,n0≤j∧j<H.length∧L.bL j=(L.dD t).b:=by
  rintro t u z ht hs ⟨j,h1,h2,e⟩;exact h.je t u z j ht hs h2 e.symm
 refine⟨fun i x hx=>?_,hf.inj,fun t u z ht=>?_,hf.mP,hf.je,fun x hx=>?_,h.gl.keep (fun b=>rv L n0 H.length w b) (fun _ _ _=>rfl)⟩
 ·have hi:=(List.getElem?_eq_some_iff.1 hx).1;refine(hf.box i x hx).stay (dd.r9 _ _) hi rfl fun h5=>?_;rw[ne _ (aak i (by omega))];exact h5
 ·obtain⟨h1,h2⟩:=hf.tok t u z ht;refine⟨h1,fun hs=>?_⟩;obtain⟨c,e,fr,g1,g2,g3,g4⟩:=h2 hs;exact⟨c,e,fr,g1,g2,g3,by rw[show ((L.r9 n0 H.length w).dD t).b=(L.dD t).b from rfl,ne _ (aaj t u z (Ss t _ ht) hs)];exact g4⟩
 ·rw[ne _ (fun⟨j,h1,h2,e⟩=>by have:=h.ml h2;omega)];exact h.mz x hx
open Classical in
theorem gn.rep (h:bN L H T w)(hn:n0≤H.length){v v':AV}(k:gn n0 t0 H v v'):∀c,aZ L H.length T w v c→aZ (L.r9 n0 H.length w) n0 (T.take t0) w v' c:=by
 have size:∀(i:Nat)(c:Array Value)(t:TypeId)(fr:Nat×Nat),n0≤i→i<H.length→w.heap[L.bL i]?=some (.cells c t fr)→c.size≤(L.r9 n0 H.length w).m (L.bL i):=by
  intro i c t fr h1 h2 hh;show _≤if _ then _ else _
  rw[if_pos ⟨i,h1,h2,rfl⟩,hh];exact Nat.le_max_right _ _
 have row:∀(i o:Nat)(vs cs:List AV),n0≤i→H[i]?=some (.cells vs)→o+cs.length≤vs.length→(∀(j:Nat)(h:j<cs.length)(c:Value),aZ L H.length T w (vs.getD (o+j) .top) c→aZ (L.r9 n0 H.length w) n0 (T.take t0) w (cs[j]'h) c)→
   ∃cv,o+cs.length≤(L.r9 n0 H.length w).m (L.bL i)∧bW (L.r9 n0 H.length w) n0 (T.take t0) w cs cv∧∀j,j<cs.length→w.cell? ⟨L.bL i,o+j,none⟩=cv[j]?:=by
  intro i o vs cs hi hH hl ih;obtain⟨c,t,fr,g1,g2,g3,vw,g4,g5⟩:=h.box i _ hH;have hiH:=(List.getElem?_eq_some_iff.1 hH).1;have hs:=size i c t fr hi hiH g1;refine⟨(c.toList.drop o).take cs.length,by omega,⟨by simp;omega,fun j hj=>?_,fun j hj bK=>?_⟩,fun j hj=>?_⟩
  ·have r7:o+j<c.size:=by simp at hj;omega
   have:=vw (o+j) r7;rw[List.getElem_take,List.getElem_drop,Array.getElem_toList];exact this
  ·have r7:o+j<c.size:=by omega
   have:=g4 (o+j) (by omega) r7;rw[List.getElem_take,List.getElem_drop,Array.getElem_toList];refine ih j hj _ ?_;rw[getD_eq_getElem?_getD,getElem?_eq_getElem (by omega)];exact this
  ·rw[fi g1,getElem?_take,if_pos hj,List.getElem?_drop];simp
 induction k with
 |keep hv hb=>
  rename_i v v';intro c hr;have h1:aZ L H.length T w v' c:=by
   rcases hv with rfl|rfl
   ·exact hr
   ·exact hr.cC
  exact(h1.drop hb).keep (dd.r9 _ _)
 |top v=>intro c _;exact .top _
 |cO hi hH hl hc ih=>
  intro c hr;obtain⟨cap,rfl,bV,bh⟩:=hr.iF;obtain⟨cv,h1,h2,h3⟩:=row _ _ _ _ hi hH hl ih;exact aZ.jW bV h1 h2 h3 trivial
 |dP hi hH hl hc ih=>
  intro c hr;obtain⟨rfl,bV,bh⟩:=hr.iH;obtain⟨cv,h1,h2,h3⟩:=row _ 0 _ _ hi hH (by omega) (fun j hj c jz=>ih j hj c (by rwa [zero_add] at jz));exact aZ.jW bV h1 h2 h3 trivial
 |aa0 hi hH hl hc ih=>
  intro c hr;obtain⟨rfl,bV,bh⟩:=hr.iH;obtain⟨cv,h1,h2,h3⟩:=row _ 0 _ _ hi hH (by omega) (fun j hj c jz=>ih j hj c (by rwa [zero_add] at jz));exact aZ.jW bV h1 h2 h3 rfl
 |slT hl ht hc ih=>
  rename_i n t cs sc;intro c hr;obtain⟨a,cap,rfl,bV,ZE,o5⟩:=hr.eS;have Fu:jr (L.r9 n0 H.length w) (T.take t0) (.own t) n sc.length a cap:=by
   obtain⟨u0,z,g0,g1,g2⟩:=ZE;exact⟨u0,z,by rw[getElem?_take,if_pos ht];exact g0,by omega,fun e=>g2 (by omega)⟩
  rcases o5 with⟨e1,e2⟩|⟨b,base,cv,e1,h1,h2,h3⟩
  ·subst e1;subst e2;have:sc=[]:=List.eq_nil_of_length_eq_zero hl;subst this;exact .vR (.own t) a cap Fu
  ·subst e1;refine aZ.jW (cv:=cv) bV (by rw[hl];exact le_trans h1 (rv _ _ _ _ _)) ⟨by rw[hl];exact h2.1,h2.2.1,fun j hj bK=>ih j hj _ ?_⟩ (fun j hj=>h3 j (by omega)) Fu;have:=h2.2.2 j (by omega) bK;rw[getD_eq_getElem?_getD,getElem?_eq_getElem (by omega)];exact this
 |ptr hi hH hl hc ih=>
  rename_i i o vs cs;intro c hr;obtain⟨rfl,bh⟩:=hr.mo;obtain⟨cv,h1,h2,h3⟩:=row _ 0 _ _ hi hH (by omega) (fun j hj c jz=>ih j hj c (by rwa [zero_add] at jz));have:=aZ.dI (L:=L.r9 n0 H.length w) (N:=n0) (T:=T.take t0) (w:=w) cs o (L.bL i) 0 (fun j=>cv.getD j undef) h1 (fun j hj=>?_) (fun j hj=>?_) (fun j hj=>?_)
  ·rwa [zero_add] at this
  ·have bK:j<cv.length:=by rw[h2.1];exact hj
   rw[h3 j hj];simp[bK]
  ·have bK:j<cv.length:=by rw[h2.1];exact hj
   simpa[bK] using h2.2.1 j bK
  ·have bK:j<cv.length:=by rw[h2.1];exact hj
   simpa[bK] using h2.2.2 j hj bK
 |sl hl hc ih=>
  rename_i n cs sc tg;intro c hr;obtain⟨a,cap,rfl,bV,ht,o5⟩:=hr.eS;rcases o5 with⟨e1,e2⟩|⟨b,base,cv,e1,h1,h2,h3⟩
  ·subst e1;subst e2;have:sc=[]:=List.eq_nil_of_length_eq_zero hl;subst this;exact .vR .none a cap trivial
  ·subst e1;refine aZ.jW (cv:=cv) bV (by rw[hl];exact le_trans h1 (rv _ _ _ _ _)) ⟨by rw[hl];exact h2.1,h2.2.1,fun j hj bK=>ih j hj _ ?_⟩ (fun j hj=>h3 j (by omega)) trivial;have:=h2.2.2 j (by omega) bK;rw[getD_eq_getElem?_getD,getElem?_eq_getElem (by omega)];exact this
 |agg hl hc ih=>
  rename_i cs sc;intro c hr
  cases hr with
  |agg _ cv h1 h2 h3=>
   refine .agg _ _ (by omega) h2 fun j hj bK=>ih j hj _ ?_;have:=h3 j (by omega) bK;rw[getD_eq_getElem?_getD,getElem?_eq_getElem (by omega)];exact this
 |cJ hl hc ih=>
  rename_i cs sc;intro c hr
  cases hr with
  |cJ _ cv h1 h3=>
   refine .cJ _ _ (by omega) fun j hj bK=>ih j hj _ ?_;have:=h3 j (by omega) bK;rw[getD_eq_getElem?_getD,getElem?_eq_getElem (by omega)];exact this
end
section
variable {P : Program} {f : FuncId} {args : List AV} {H : List aG} {T : ay}
theorem al.aaY {r0:AV}(H1:List aG)(T1:ay)(hl:H.length≤H1.length)(ht:T.length≤T1.length)(ho:bM H T→bM H1 T1)
  (h:al P f args H T (fun r H' T'=>(∃G,H'=H1++G)∧(∃rT,T'=T1++rT)∧gn H1.length T1.length H' r r0)):al P f args H T (Is r0 H1 T1):=by
 refine⟨h.1,fun L w ca hc oM hr=>(h.2 L w ca hc oM hr).mono ?_⟩;rintro e w' ⟨r',H',T',L',cv,⟨⟨G,e1⟩,⟨rT,e2⟩,e3⟩,rfl,cQ,dF,dU⟩;subst e1;subst e2;have hf:bN L' H1 T1 w':=bN.front P cQ (ho hc.fC);have hn:H1.length≤(H1++G).length:=by rw[length_append];omega
 have lZ:=cQ.r9 (n0:=H1.length) (t0:=T1.length) hn (by rw[take_left',take_left']<;>first|exact hf|rfl);have o4:=e3.rep cQ hn _ dF;rw[take_left' rfl,take_left' rfl] at lZ;rw[take_left' rfl] at o4;have e1:=dU.front hl ht;exact⟨_,H1,T1,_,cv,⟨rfl,rfl,rfl⟩,rfl,lZ,o4,⟨e1.n,e1.bL,e1.tok,e1.t,fun b=>le_trans (e1.m b) (rv _ _ _ _ _),e1.qZ,e1.size,e1.frame,e1.wr,e1.os,e1.tape,e1.output,e1.drawn,e1.dr⟩⟩
theorem al.r9 {r0:AV}(h:al P f args H T (fun r H' T'=>(∃G,H'=H++G)∧(∃rT,T'=T++rT)∧gn H.length T.length H' r r0)):al P f args H T (Is r0 H T):=
 al.aaY H T (le_refl _) (le_refl _) id h
def IS (n0 t0:Nat)(H:List aG)(e:Env):Env→Prop
 |[]=>True
 |(s,v)::r=>gn n0 t0 H (bZ e s) v∧IS n0 t0 H e r
theorem G8 {n0 t0:Nat}{H:List aG}{e:Env}:∀{e':Env},IS n0 t0 H e e'→∀s,gn n0 t0 H (bZ e s) (bZ e' s):=by
 intro e'
 induction e' with
 |nil=>intro _ s;exact .top _
 |cons x r ih=>
  obtain⟨s0,v⟩:=x;intro h s
  by_cases hs:s0=s
  ·subst hs;simp only[bZ,if_true];exact h.1
  ·simp only[bZ,if_neg hs];exact ih h.2 s
theorem Cz {C:Cx}{c:Code}{Q:Exit→St→Prop}{e e':Env}{G:List aG}{rT:ay}(iD:C.nb≤H.length)(iq:C.tb≤T.length)(ho:bM H T)
  (he:IS H.length T.length (H++G) e e') (h:AW C c Q ⟨e',H,T⟩):AW C c Q ⟨e,H++G,T++rT⟩:=fun L w a hc=>by
 have hf:bN L H T w:=bN.front C.P hc.mN ho;have hn:H.length≤(H++G).length:=by rw[length_append];omega
 have lZ:=hc.mN.r9 (n0:=H.length) (t0:=T.length) hn (by rw[take_left',take_left']<;>first|exact hf|rfl);rw[take_left' rfl,take_left' rfl] at lZ;have e0:Ev C.nb C.tb L (H++G).length (T++rT) w L (H++G).length (T++rT) w:=Ev.refl hc.nb hc.tb;have e1:=e0.front iD iq;have e2:Ev C.nb C.tb L (H++G).length (T++rT) w (L.r9 H.length (H++G).length w) H.length T w:=⟨e1.n,e1.bL,e1.tok,e1.t,fun b=>rv _ _ _ _ _,e1.qZ,e1.size,e1.frame,e1.wr,e1.os,e1.tape,e1.output,e1.drawn,e1.dr⟩
 refine wp_mono (h (L.r9 H.length (H++G).length w) w a ⟨iD,iq,lZ,hc.size,hc.defers,fun t=>?_⟩) fun _ _ _ k=>dc.step (s1:=⟨e',H,T⟩) e2 k;have:=(G8 he t).rep hc.mN hn _ (hc.env t)
 rwa [take_left' rfl] at this
theorem lg {C:Cx}{c:Code}{Q:Exit→St→Prop}{s:St}(h:bM s.H s.T→AW C c Q s):AW C c Q s:=fun L w a hc=>h hc.mN.fC L w a hc
end
section
variable {n0 t0 : Nat} {H : List aG}
theorem gn.same {v:AV}(hb:Below n0 t0 v):gn n0 t0 H v v:=.keep (.inl rfl) hb
theorem gn.all {cs:List AV}(hb:aL n0 t0 cs)(rest:List AV):∀(j:Nat)(h:j<cs.length),gn n0 t0 H ((cs++rest).getD j .top) (cs[j]'h):=fun j h=>by
 rw[getD_eq_getElem?_getD,getElem?_append_left h,getElem?_eq_getElem h];exact .same (hb _ (List.getElem_mem h))
theorem gn.S5 {i n:Nat}{cs rest:List AV}(hi:n0≤i)(hH:H[i]?=some (.cells (cs++rest)))(hb:aL n0 t0 cs):gn n0 t0 H (.cO i 0 n) (.sl n cs .none):=
 .cO hi hH (by rw[length_append];omega) fun j h=>by rw[zero_add];exact gn.all hb rest j h
theorem gn.pair {a b a' b':AV}(h1:gn n0 t0 H a a')(h2:gn n0 t0 H b b'):gn n0 t0 H (.cJ [a,b]) (.cJ [a',b']):=
 .cJ rfl fun j h=>by
  match j,h with
  |0,_=>exact h1
  |1,_=>exact h2
end
section
variable {L : Lay} {Hb G : List aG} {T1 rT : ay} {w : World} {vs vs' : List AV}
end
section
variable {P : Program} {f : FuncId} {args : List AV} {H : List aG} {T : ay}
end
theorem al.Ty {P:Program}{f:FuncId}{args:List AV}{H:List aG}{T:ay}{n u z:Nat}{cs:List AV}(hb:aL H.length T.length cs)
  (h:al P f args H T (fun r H' T'=>H'=H∧∃TT,r=.sl n cs (.own (T++TT).length)∧T'=T++TT++[(u,z)])):al P f args H T (Is (.sl n cs (.own T.length)) H (T++[(u,z)])):=by
 refine⟨h.1,fun L w ca hc oM hr=>(h.2 L w ca hc oM hr).mono ?_⟩;rintro e w' ⟨r',H',T',L',cv,⟨e1,TT,e2,e3⟩,rfl,cQ,dF,dU⟩;subst e1;subst e2;subst e3;have p8:bN L' (H'++[]) (T++(TT++[(u,z)])) w':=by rw[append_nil,←append_assoc];exact cQ
 have c1:bN L' H' T w':=bN.front P p8 hc.fC;have oR:Ev H'.length T.length L H'.length T w L' (H'++[]).length (T++(TT++[(u,z)])) w':=by rw[append_nil,←append_assoc];exact dU
 have N8:Ev H'.length T.length L H'.length T w L' H'.length T w':=Ev.front oR (le_refl _) (le_refl _);have ht:(T++TT++[(u,z)])[(T++TT).length]?=some (u,z):=by rw[getElem?_append_right (le_refl _),sub_self];rfl
 have bh:T.length≤(T++TT).length:=by rw[length_append];omega
 have up:∀(t:Nat)(x:Nat×Nat),T[t]?=some x→(T++TT++[(u,z)])[t]?=some x:=fun t x hx=>by
  rw[append_assoc,getElem?_append_left ((List.getElem?_eq_some_iff.1 hx).1)];exact hx
 have nr:∀t,t<T.length→(L'.aU T.length (L'.dD (T++TT).length)).dD t=L'.dD t:=fun t h1=>by simp only[Lay.aU];rw[if_neg (by omega)]
 have pS:(L'.aU T.length (L'.dD (T++TT).length)).dD T.length=L'.dD (T++TT).length:=by simp[Lay.aU]
 have BH:u<(L'.dD (T++TT).length).c*z→¬Wr L' H'.length T (L'.dD (T++TT).length).b:=by
  rintro hs (⟨i,hi,e⟩|⟨t,u1,z1,WZ,Ll,e⟩)
  ·exact cQ.je _ _ _ i ht hs hi e.symm
  ·have h1:=cQ.mP _ _ _ _ _ _ ht (up t _ WZ) hs Ll e.symm;have h2:=(List.getElem?_eq_some_iff.1 WZ).1;omega
 have fC:sq (L'.aU T.length (L'.dD (T++TT).length)) w' T.length u z:=by
  have h1:=cQ.tok _ _ _ ht;unfold sq at h1 ⊢;rw[pS];exact h1
 have kp:dd L' H'.length T w' (L'.aU T.length (L'.dD (T++TT).length)) H'.length (T++[(u,z)]) w':=by
  refine⟨le_refl _,fun i hi=>rfl,fun t u' z' h1=>?_,fun _=>le_refl _,fun _ _ _=>rfl,rfl⟩;have h2:=(List.getElem?_eq_some_iff.1 h1).1;exact⟨u',by rw[getElem?_append_left h2];exact h1,le_refl _,fun _=>nr t h2⟩
 have Ss:(T++TT++[(u,z)]).take T.length=T:=by rw[append_assoc,List.take_left]
 refine⟨_,H',T++[(u,z)],L'.aU T.length (L'.dD (T++TT).length),cv,⟨rfl,rfl,rfl⟩,rfl,c1.j6 _ u z BH fC,?_,N8.j6 fun hs=>(dU.wr _ (.inr ⟨_,u,z,ht,hs,rfl⟩)).symm⟩;obtain⟨a,cap,rfl,bV,ZE,o5⟩:=dF.eS;have Fu:jr (L'.aU T.length (L'.dD (T++TT).length)) (T++[(u,z)]) (.own T.length) n cs.length a cap:=by
  obtain⟨u0,z0,g0,g1,g2⟩:=ZE;rw[ht] at g0;simp only[Option.some.injEq,Prod.mk.injEq] at g0;refine⟨u0,z0,by rw[getElem?_append_right (le_refl _),sub_self,←g0.1,←g0.2];rfl,g1,?_⟩;rw[pS];exact g2
 rcases o5 with⟨e1,e2⟩|⟨b,base,cv,e1,h1,h2,h3⟩
 ·subst e1;subst e2;exact .vR _ a cap Fu
 ·subst e1;refine aZ.jW (cv:=cv) bV h1 ⟨h2.1,h2.2.1,fun j hj bK=>?_⟩ h3 Fu;have h4:=(h2.2.2 j hj bK).drop (hb _ (List.getElem_mem hj));rw[Ss] at h4;exact h4.keep kp
def qg:Op→Bool
 |.move _|.assign _|.alloc _|.build _ _|.buildSlice _ _ _|.load _ _|.store _ _ _|.binOp _ _ _ _ _|.fieldAddr _ _ _|.indexAddr _ _ _|.index _ _ _|.convert ..|.slice ..|.extract ..|.unOp ..=>true
 |_=>false
def Cs:Result Next→Prop
 |.ok (.value _) _=>True
 |.ok .skip _=>True
 |.ok _ _=>False
 |.halt _ _=>True
theorem F5 {P:Program}{o:Oper}(h:qg o.op=true)(ρ:Operand→Value)(w:World):Cs ((execOp ρ o).run P w):=by
 obtain⟨dst,op,type,pos,after,guard⟩:=o;have hv:∀s:Sem Value,Cs ((do pure (Next.value (←s)):Sem Next).run P w):=fun s=>by
  simp only[Sem.run_bind]
  cases s.run P w with
  |ok x w'=>exact trivial
  |halt x w'=>exact trivial
 have hu:∀s:Sem Unit,Cs ((do s;pure Next.skip:Sem Next).run P w):=fun s=>by
  simp only[Sem.run_bind]
  cases s.run P w with
  |ok x w'=>exact trivial
  |halt x w'=>exact trivial
 cases op<;>first
  |exact trivial
  |exact hv _
  |exact hu _
  |(revert h;simp[qg];done)
theorem Mz {P:Program}{o:Oper}{a:Act}{w:World}{K1 K2:Act→World→Prop}{Q:Exit→Act→World→Prop}(hs:qg o.op=true)(h1:o.wp P a w K1 Q)(h2:o.wp P a w K2 Q):o.wp P a w (fun a w=>K1 a w∧K2 a w) Q:=by
 have hr:=F5 (P:=P) hs a.eval w;unfold Oper.wp at *;generalize (execOp a.eval o).run P w=r at *
 cases r with
 |ok n w'=>cases n<;>first
  |exact⟨h1,h2⟩
  |exact hr.elim
 |halt x w'=>cases x<;>exact h1
section
variable {P : Program} {Q : Exit → Act → World → Prop}
def EP (x y:List Oper):Prop:=∀i:Nat,(y[i]?).map (fun o=>(o.dst,o.op,o.type,o.guard))=(x[i]?).map (fun o=>(o.dst,o.op,o.type,o.guard))
theorem G6 {o o':Oper}(h1:o'.op=o.op)(h2:o'.type=o.type)(ρ:Operand→Value):execOp ρ o'=execOp ρ o:=by
 obtain⟨dst,op,type,pos,after,guard⟩:=o;obtain⟨acC,op',ab4,pos',abZ,abC⟩:=o';simp only at h1 h2;subst h1;subst h2;rfl
theorem wH {o o':Oper}(h0:o'.dst=o.dst)(h1:o'.op=o.op)(h2:o'.type=o.type)(a:Act)(w:World)(K:Act→World→Prop):(o'.wp P a w K Q↔o.wp P a w K Q)∧(o'.asks P a w↔o.asks P a w):=by
 have he:=G6 h1 h2 a.eval
 constructor
 ·unfold Oper.wp;rw[he];generalize (execOp a.eval o).run P w=r
  cases r with
  |ok n w'=>cases n<;>simp only[Oper.upon,h0]
  |halt x w'=>cases x<;>rfl
 ·unfold Oper.asks;rw[he]
theorem qj {x y:List Oper}(h:EP x y){i:Nat}{K:Act→World→Prop}{a:Act}{w:World}(hh:wpOp P y.toArray Q i K a w):wpOp P x.toArray Q i K a w:=by
 unfold wpOp at *;rw[getElem?_toArray] at *;have hi:=h i;have hy:∀t j,yielded y.toArray t j=yielded x.toArray t j:=fun t j=>by
  unfold yielded;rw[getElem?_toArray,getElem?_toArray];have hj:=h j;have:(y[j]?).bind (·.dst)=(x[j]?).bind (·.dst):=by
   cases hx:x[j]? with
   |none=>rw[hx] at hj;cases WV:y[j]? with
    |none=>rfl
    |some o'=>rw[WV] at hj;cases hj
   |some o=>rw[hx] at hj;cases WV:y[j]? with
    |none=>rw[WV] at hj;cases hj
    |some o'=>rw[WV] at hj;simp only[Option.map_some,Option.some.injEq,Prod.mk.injEq] at hj;exact hj.1
  rw[this]
 cases hx:x[i]? with
 |none=>
  rw[hx] at hi
  cases RM:y[i]? with
  |none=>rw[RM] at hh;exact hh
  |some o'=>rw[RM] at hi;cases hi
 |some o=>
  rw[hx] at hi
  cases RM:y[i]? with
  |none=>rw[RM] at hi;cases hi
  |some o'=>
   rw[RM] at hi hh;simp only[Option.map_some,Option.some.injEq,Prod.mk.injEq] at hi;obtain⟨e0,e1,e2,e3⟩:=hi
   dsimp only at hh ⊢
   have hw:Region.wanted o' (yielded y.toArray a.tmps)=Region.wanted o (yielded x.toArray a.tmps):=by
    unfold Region.wanted;rw[e3]
    cases o.guard with
    |none=>rfl
    |some g=>simp only[hy]
   rw[hw] at hh;obtain⟨g1,g2⟩:=wH (P:=P) (Q:=Q) e0 e1 e2 a w K
   split at hh
   ·rename_i LL;rw[if_pos LL];rw[g1,g2] at hh;exact hh
   ·rename_i LL;rw[if_neg LL];rw[e0] at hh;exact hh
def gg (ops:List Oper)(b a:Nat):List Oper:=ops.modify b fun o=>{ o with after:=o.after.push { on:=a,ground:=.data } }
theorem AM (ops:List Oper)(b a i:Nat):(gg ops b a)[i]?=if b=i then (ops[i]?).map (fun o=>{ o with after:=o.after.push { on:=a,ground:=.data } }) else ops[i]?:=by
 rw[gg,List.getElem?_modify]
 split
 ·rfl
 ·cases ops[i]?<;>rfl
theorem lR (ops:List Oper)(b a:Nat):EP ops (gg ops b a):=by
 intro i;rw[AM]
 split
 ·cases ops[i]?<;>rfl
 ·rfl
theorem fL {ops:List Oper}{a b i:Nat}{aA:Array Bool}:i∈Region.ready .any (gg ops b a).toArray aA↔i∈Region.ready .any ops.toArray aA∧(i=b→aA.getD a false=true):=by
 rw[mem_ready,mem_ready,getElem?_toArray,getElem?_toArray,AM]
 by_cases hb:b=i
 ·subst hb;rw[if_pos rfl]
  cases ops[b]? with
  |none=>simp
  |some o=>
   simp only[Option.map_some,Option.some.injEq,exists_eq_left',Array.mem_push,true_imp_iff]
   constructor
   ·rintro⟨h1,h2⟩;exact⟨⟨h1,fun e he hb=>h2 e (.inl he) hb⟩,h2 ⟨a,.data⟩ (.inr rfl) rfl⟩
   ·rintro⟨⟨h1,h2⟩,h3⟩;refine⟨h1,fun e he hb=>?_⟩;rcases he with he|rfl
    ·exact h2 e he hb
    ·exact h3
 ·rw[if_neg hb];simp[Ne.symm hb]
theorem xj {ops:List Oper}{a b:Nat}:∀(fuel:Nat)(aA:Array Bool)(s:Act)(w:World),aA.getD a false=true→wpAny P .any (gg ops b a).toArray Q fuel aA s w→wpAny P .any ops.toArray Q fuel aA s w:=by
 intro fuel;have hr:∀aA:Array Bool,aA.getD a false=true→Region.ready .any (gg ops b a).toArray aA=Region.ready .any ops.toArray aA:=fun aA hl=>by
  have:∀i,i∈Region.ready .any (gg ops b a).toArray aA↔i∈Region.ready .any ops.toArray aA:=fun i=>by rw[fL];exact⟨fun h=>h.1,fun h=>⟨h,fun _=>hl⟩⟩
  unfold Region.ready at this ⊢;have gN:(gg ops b a).toArray.size=ops.toArray.size:=by simp[gg]
  rw[gN] at this ⊢;refine List.filter_congr fun i hi=>?_;have:=this i;rw[List.mem_filter,List.mem_filter] at this;rw[Bool.eq_iff_iff];exact⟨fun h=>(this.1 ⟨hi,h⟩).2,fun h=>(this.2 ⟨hi,h⟩).2⟩
 induction fuel with
 |zero=>
  intro aA s w hl h;exact⟨by rw[←hr aA hl];exact h.1,h.2⟩
 |succ fuel ih=>
  intro aA s w hl h;refine⟨fun hn=>h.1 (by rw[hr aA hl];exact hn),fun i hi=>?_⟩;have:=h.2 i (by rw[hr aA hl];exact hi);exact wpOp_mono (fun s' w' h'=>ih _ s' w' (getD_set_true hl) h') (qj (lR ops b a) this)
theorem Hs {ops:List Oper}{a b:Nat}(jA:a≠b)(dA:∀(i:Nat)(o:Oper),ops[i]?=some o→i≠a→i≠b→qg o.op=true):∀(fuel:Nat)(aA:Array Bool)(s:Act)(w:World),aA.size=ops.length→aA.getD a false=false→aA.getD b false=false→
  wpAny P .any (gg ops b a).toArray Q fuel aA s w→wpAny P .any (gg ops a b).toArray Q fuel aA s w→wpAny P .any ops.toArray Q fuel aA s w:=by
 intro fuel
 induction fuel with
 |zero=>
  intro aA s w gN ha hb h1 h2;refine⟨?_,h1.2⟩
  cases hr:Region.ready .any ops.toArray aA with
  |nil=>rfl
  |cons i r=>
   have hi:i∈Region.ready .any ops.toArray aA:=by rw[hr];simp
   by_cases BV:i=b
   ·subst BV;have:i∈Region.ready .any (gg ops a i).toArray aA:=fL.2 ⟨hi,fun e=>absurd e.symm jA⟩;rw[h2.1] at this;cases this
   ·have:i∈Region.ready .any (gg ops b a).toArray aA:=fL.2 ⟨hi,fun e=>absurd e BV⟩;rw[h1.1] at this;cases this
 |succ fuel ih=>
  intro aA s w gN ha hb h1 h2;refine⟨fun hn=>h1.1 ?_,fun i hi=>?_⟩
  ·cases hr:Region.ready .any (gg ops b a).toArray aA with
   |nil=>rfl
   |cons i r=>
    have hi:i∈Region.ready .any (gg ops b a).toArray aA:=by rw[hr];simp
    have:=(fL.1 hi).1;rw[hn] at this;cases this
  ·have cW:i<aA.size:=by
    obtain⟨_,o,ho,_⟩:=mem_ready.1 hi;rw[getElem?_toArray] at ho;have:=(List.getElem?_eq_some_iff.1 ho).1;omega
   by_cases BV:i=b
   ·subst BV;have g:=qj (lR ops a i) (h2.2 i (fL.2 ⟨hi,fun e=>absurd e.symm jA⟩));exact wpOp_mono (fun s' w' h'=>xj _ _ s' w' (by simp[cW]) h') g
   ·by_cases lX:i=a
    ·subst lX;have g:=qj (lR ops b i) (h1.2 i (fL.2 ⟨hi,fun e=>absurd e jA⟩));exact wpOp_mono (fun s' w' h'=>xj _ _ s' w' (by simp[cW]) h') g
    ·have g1:=qj (lR ops b a) (h1.2 i (fL.2 ⟨hi,fun e=>absurd e BV⟩));have g2:=qj (lR ops a b) (h2.2 i (fL.2 ⟨hi,fun e=>absurd e lX⟩));have g:wpOp P ops.toArray Q i (fun s' w'=>wpAny P .any (gg ops b a).toArray Q fuel (aA.setIfInBounds i true) s' w'∧wpAny P .any (gg ops a b).toArray Q fuel (aA.setIfInBounds i true) s' w') s w:=by
      unfold wpOp at g1 g2 ⊢;rw[getElem?_toArray] at g1 g2 ⊢
      cases ho:ops[i]? with
      |none=>rw[ho] at g1 g2;exact⟨g1,g2⟩
      |some o=>
       rw[ho] at g1 g2
       dsimp only at g1 g2 ⊢
       split at g1
       ·rename_i hw;rw[if_pos hw] at g2;rw[if_pos hw];rcases g1 with g1|g1
        ·rcases g2 with g2|g2
         ·exact .inl (Mz (dA i o ho lX BV) g1 g2)
         ·exact .inr g2
        ·exact .inr g1
       ·rename_i hw;rw[if_neg hw] at g2;rw[if_neg hw];exact⟨g1,g2⟩
     refine wpOp_mono (fun s' w' h'=>ih _ s' w' (by simpa using gN) ?_ ?_ h'.1 h'.2) g
     ·rw[getD_set_ne false lX];exact ha
     ·rw[getD_set_ne false BV];exact hb
def sw (a b i:Nat):Nat:=if i=a then b else if i=b then a else i
theorem pY (a b i:Nat):sw a b (sw a b i)=i:=by
 unfold sw
 by_cases h1:i=a
 ·subst h1;rw[if_pos rfl]
  by_cases h2:b=i
  ·rw[if_pos h2];exact h2
  ·rw[if_neg h2,if_pos rfl]
 ·rw[if_neg h1]
  by_cases h2:i=b
  ·subst h2;rw[if_pos rfl,if_pos rfl]
  ·rw[if_neg h2,if_neg h1,if_neg h2]
theorem yV {a b i n:Nat}(ha:a<n)(hb:b<n)(hi:i<n):sw a b i<n:=by
 unfold sw
 split
 ·exact hb
 ·split
  ·exact ha
  ·exact hi
def xt (a b:Nat)(o:Oper):Oper:={ o with after:=o.after.map (fun e=>{ e with on:=sw a b e.on }),guard:=o.guard.map (fun g=>(sw a b g.1,g.2)) }
def jt (a b:Nat)(ops:List Oper):List Oper:=((ops.set a (ops.getD b default)).set b (ops.getD a default)).map (xt a b)
theorem rE {a b:Nat}{ops:List Oper}(jA:a≠b)(ha:a<ops.length)(hb:b<ops.length)(i:Nat):(jt a b ops)[i]?=(ops[sw a b i]?).map (xt a b):=by
 rw[jt,getElem?_map]
 congr 1
 rw[List.getElem?_set,List.getElem?_set,List.length_set];unfold sw
 by_cases h1:i=a
 ·subst h1;rw[if_neg (Ne.symm jA),if_pos rfl,if_pos ha,if_pos rfl,getD_eq_getElem?_getD,getElem?_eq_getElem hb];rfl
 ·by_cases h2:i=b
  ·subst h2;rw[if_pos rfl,if_pos hb,if_neg h1,if_pos rfl,getD_eq_getElem?_getD,getElem?_eq_getElem ha];rfl
  ·rw[if_neg (Ne.symm h2),if_neg (Ne.symm h1),if_neg h1,if_neg h2]
theorem ss {a b:Nat}{ops:List Oper}(jA:a≠b)(ha:a<ops.length)(hb:b<ops.length){l l2:Array Bool}(hl:l.size=ops.length)(jQ:l2.size=ops.length)(hr:∀i,i<ops.length→l2.getD i false=l.getD (sw a b i) false)(i:Nat) :
  i∈Region.ready .any ops.toArray l↔sw a b i∈Region.ready .any (jt a b ops).toArray l2:=by
 rw[mem_ready,mem_ready,getElem?_toArray,getElem?_toArray,rE jA ha hb,pY]
 cases ho:ops[i]? with
 |none=>simp
 |some o=>
  have hi:i<ops.length:=(List.getElem?_eq_some_iff.1 ho).1;have e1:l2.getD (sw a b i) true=l.getD i true:=by
   have:=yV ha hb hi;rw[er (by omega),er (by omega),hr _ this,pY]
  simp only[Option.map_some,Option.some.injEq,exists_eq_left',e1];have e2:(∀e∈o.after,Region.binds .any e=true→l.getD e.on false=true)↔∀e∈(xt a b o).after,Region.binds .any e=true→l2.getD e.on false=true:=by
   have out:∀(z:Array Bool)(n:Nat),z.size=ops.length→¬n<ops.length→z.getD n false=false:=fun z n hz hn=>by
    have:¬n<z.size:=by omega
    simp[this]
   constructor
   ·intro h e he pN;simp only[xt,Array.mem_map] at he;obtain⟨e',sM,rfl⟩:=he;have:=h e' sM pN;have bh:e'.on<ops.length:=by
     rcases lt_or_ge e'.on ops.length with h1|h1
     ·exact h1
     ·rw[out l _ hl (by omega)] at this;cases this
    show l2.getD (sw a b e'.on) false=true;rw[hr _ (yV ha hb bh),pY];exact this
   ·intro h e he pN;have:=h { e with on:=sw a b e.on } (by simp only[xt,Array.mem_map];exact⟨e,he,rfl⟩) pN;have bh:sw a b e.on<ops.length:=by
     rcases lt_or_ge (sw a b e.on) ops.length with h1|h1
     ·exact h1
     ·have h2:=out l2 (sw a b e.on) jQ (by omega);rw[show l2.getD (sw a b e.on) false=true from this] at h2;cases h2
    have h3:=hr _ bh;rw[pY] at h3;rw[←h3];exact this
  rw[e2]
theorem Jr {a b:Nat}{ops:List Oper}(jA:a≠b)(ha:a<ops.length)(hb:b<ops.length){i:Nat}{K:Act→World→Prop}{s:Act}{w:World}(hh:wpOp P (jt a b ops).toArray Q (sw a b i) K s w):wpOp P ops.toArray Q i K s w:=by
 unfold wpOp at *;rw[getElem?_toArray] at *;rw[rE jA ha hb,pY] at hh;have hy:∀t j,yielded (jt a b ops).toArray t (sw a b j)=yielded ops.toArray t j:=fun t j=>by
  unfold yielded;rw[getElem?_toArray,getElem?_toArray,rE jA ha hb,pY]
  cases ops[j]?<;>rfl
 cases ho:ops[i]? with
 |none=>rw[ho] at hh;exact hh
 |some o=>
  rw[ho] at hh;simp only[Option.map_some] at hh
  dsimp only
  have hw:Region.wanted (xt a b o) (yielded (jt a b ops).toArray s.tmps)=Region.wanted o (yielded ops.toArray s.tmps):=by
   unfold Region.wanted xt
   cases o.guard with
   |none=>rfl
   |some g=>simp only[Option.map_some,hy]
  rw[hw] at hh;obtain⟨g1,g2⟩:=wH (P:=P) (Q:=Q) (o:=o) (o':=xt a b o) rfl rfl rfl s w K
  split at hh
  ·rename_i LL;rw[if_pos LL];rw[g1,g2] at hh;exact hh
  ·rename_i LL;rw[if_neg LL];exact hh
theorem CM {a b:Nat}{ops:List Oper}(jA:a≠b)(ha:a<ops.length)(hb:b<ops.length):∀(fuel:Nat)(l l2:Array Bool)(s:Act)(w:World),l.size=ops.length→l2.size=ops.length→(∀i,i<ops.length→l2.getD i false=l.getD (sw a b i) false)→
  wpAny P .any (jt a b ops).toArray Q fuel l2 s w→wpAny P .any ops.toArray Q fuel l s w:=by
 intro fuel;have Mg:∀l l2:Array Bool,l.size=ops.length→l2.size=ops.length→(∀i,i<ops.length→l2.getD i false=l.getD (sw a b i) false)→(Region.ready .any ops.toArray l=[]↔Region.ready .any (jt a b ops).toArray l2=[]):=by
  intro l l2 hl jQ hr;have h:=ss jA ha hb hl jQ hr
  constructor
  ·intro hn
   cases hx:Region.ready .any (jt a b ops).toArray l2 with
   |nil=>rfl
   |cons j r=>
    have hj:j∈Region.ready .any (jt a b ops).toArray l2:=by rw[hx];simp
    have:=(h (sw a b j)).2 (by rw[pY];exact hj);rw[hn] at this;cases this
  ·intro hn
   cases hx:Region.ready .any ops.toArray l with
   |nil=>rfl
   |cons j r=>
    have hj:j∈Region.ready .any ops.toArray l:=by rw[hx];simp
    have:=(h j).1 hj;rw[hn] at this;cases this
 induction fuel with
 |zero=>intro l l2 s w hl jQ hr h;exact⟨(Mg l l2 hl jQ hr).2 h.1,h.2⟩
 |succ fuel ih=>
  intro l l2 s w hl jQ hr h;refine⟨fun hn=>h.1 ((Mg l l2 hl jQ hr).1 hn),fun i hi=>?_⟩;have eE:=(ss jA ha hb hl jQ hr i).1 hi;have cW:i<ops.length:=by
   obtain⟨_,o,ho,_⟩:=mem_ready.1 hi;rw[getElem?_toArray] at ho;exact(List.getElem?_eq_some_iff.1 ho).1
  have g:=Jr jA ha hb (h.2 _ eE);refine wpOp_mono (fun s' w' h'=>ih _ _ s' w' (by simpa using hl) (by simpa using jQ) (fun j hj=>?_) h') g;have DG:=yV ha hb cW;have hsj:=yV ha hb hj
  by_cases sL:j=sw a b i
  ·subst sL;rw[pY];simp[hl,jQ,cW,DG]
  ·rw[getD_set_ne false (fun e=>sL e.symm),getD_set_ne false (fun e=>sL (by rw[e,pY])),hr j hj]
end
theorem K0 {C:Cx}{id:Nat}{ops:List Oper}{Q:Exit→St→Prop}{s:St}{y:Code}(a b:Nat)(Mn Zv:List Nat)(Zp:List (List Nat))(Mm Zu:List Nat)(Zo:List (List Nat))(hm:C.P.follows .mixedOrders=true)
  (pM:(decide (a≠b)&&decide (a<ops.length)&&decide (b<ops.length)&&ops.all fun o=>qg o.op)=true) (aaR:jl (gg ops b a) Mn Zv Zp=true) (aaN:jx Mn=true) (aaQ:jl (jt a b (gg ops a b)) Mm Zu Zo=true) (aaM:jx Mm=true)
  (h:∀K:St→Prop,(∀s,AW C y Q s→K s)→eD ⟨C,(gg ops b a).toArray,Mn,Zv,Zp,K⟩ (gg ops b a) [] [(s.H,s.T,0)] (prune C.nv s.e)∧
   eD ⟨C,(jt a b (gg ops a b)).toArray,Mm,Zu,Zo,K⟩ (jt a b (gg ops a b)) [] [(s.H,s.T,0)] (prune C.nv s.e)):AW C (.seq (.region id ops.toArray true) y) Q s:=by
 simp only[Bool.and_eq_true,decide_eq_true_eq,List.all_eq_true] at pM;obtain⟨⟨⟨jA,ha⟩,hb⟩,dA⟩:=pM;refine xN fun K hK=>fun L0 w0 a0 qQ=>wp_region_any hm ?_;obtain⟨h1,h2⟩:=h K hK;have g1:=rX (Q:=Q) K Mn Zv Zp aaR aaN h1 L0 w0 a0 qQ;have g2:=rX (Q:=Q) K Mm Zu Zo aaQ aaM h2 L0 w0 a0 qQ;have l1:(gg ops b a).toArray.size=ops.toArray.size:=by simp[gg]
 have l2:(jt a b (gg ops a b)).toArray.size=ops.toArray.size:=by simp[gg,jt]
 have l3:(gg ops a b).length=ops.length:=by simp[gg]
 rw[l1] at g1;rw[l2] at g2;have g3:=CM (ops:=gg ops a b) jA (by rw[l3];exact ha) (by rw[l3];exact hb) _ (Array.replicate ops.toArray.size false) (Array.replicate ops.toArray.size false) _ _ (by simp[l3]) (by simp[l3]) (fun i hi=>by
  rw[l3] at hi;have:=yV ha hb hi;simp[hi,this]) g2
 exact Hs jA (fun i o ho _ _=>dA o (mem_of_getElem? ho)) _ _ _ _ (by simp) (by simp[ha]) (by simp[hb]) g1 g3
structure Jg (nx:Nat)(D:tu)(ops:List Oper)(sts:List oV)(aN:List dg)(i:Nat)(x:dg):Prop where
 o:ops[i]?=some x.o
 k:x.k<sts.length
 bw:x.bw=D.bw.contains i
 gate:match x.o.guard with
  |none=>x.run=true
  |some (j,want)=>∃b,jD D.all j x.e=some b∧x.run=(b==some want)
 dst:∀d,x.o.dst=some d→d<D.C.nt
 skip:x.run=false→x.v=.cJ []
 still:x.run=true→x.bw=false→∀k H T e,sts[k]?=some (H,T,e)→D.lo.getD i 0≤k→(k≤x.k∨(D.na.getD (k-1) []).contains i=true)→eI D.C.P x.o x.e H T x.v H T
 effect:x.bw=true→∃H T e H' T',sts[x.k]?=some (H,T,e)∧sts[x.k+1]?=some (H',T',i)∧(x.run=true→i≠nx→eI D.C.P x.o x.e H T x.v H' T')∧(x.run=false→H'=H∧T'=T)
structure iJ (nx:Nat)(D:tu)(ops:List Oper)(e0:Env)(aN:List dg)(sts:List oV)(e:Env):Prop where
 st:Tu D aN sts
 EU:∀(i:Nat)(x:dg),aN[i]?=some x→Jg nx D ops sts aN i x
 yP:∀(i:Nat)(x:dg),aN[i]?=some x→x.e=bt e0 (aN.take i)
 cur:e=bt e0 aN
theorem rY {nx:Nat}{D:tu}{ops:List Oper}{e0:Env}{aN:List dg}{sts:List oV}{e:Env}{next:List dg→List oV→Env→Prop}{o:Oper}{run:Bool}{v:AV}{H H':List aG}{T T':ay}{i0:Nat}(pM:jx D.bw=true)(jy:D.bw.contains nx=true)
  (hw:iJ nx D ops e0 aN sts e) (tX:ops[aN.length]?=some o) (cT:sts.getLast?=some (H,T,i0))
  (hgate:match o.guard with|none=>run=true|some (j,want)=>∃b,jD D.all j e=some b∧run=(b==some want)) (uj:run=false→v=.cJ []∧H'=H∧T'=T) (cK:run=true→aN.length≠nx→eI D.C.P o e H T v H' T')
  (Ct:D.bw.contains aN.length=false→H'=H∧T'=T) (h:vB D next o aN sts e run v H' T') :
  ∃bB dq e',iJ nx D ops e0 bB dq e'∧bB.length=aN.length+1∧next bB dq e'∧dq[0]?=sts[0]?∧dq≠[]∧(∃x,bB=aN++[x]∧(D.bw.contains aN.length=true→x=⟨o,e,run,v,sts.length-1,true⟩))∧(∃q,dq=sts++q)∧(D.bw.contains aN.length=true→dq=sts++[(H',T',aN.length)]):=by
 have dW:sts≠[]:=by intro e;rw[e] at cT;cases cT
 have kE:0<sts.length:=List.length_pos_iff.2 dW;have gR:sts[sts.length-1]?=some (H,T,i0):=by rw[←cT,List.getLast?_eq_getElem?]
 have hlen:=hw.st.len;unfold vB at h
 split at h
 ·rename_i me;obtain⟨ZM,jf⟩:=h;obtain⟨oS,um⟩:=oj jf;obtain⟨ek,es⟩:=iy pM me;refine⟨_,_,_,⟨⟨?_,fun i x hx=>?_⟩,fun i x hx=>?_,fun i x hx=>?_,?_⟩,by simp,um,by rw[getElem?_append_left kE],by simp,⟨_,rfl,fun _=>rfl⟩,⟨_,rfl⟩,fun _=>rfl⟩
  ·simp only[length_append,List.length_singleton,hlen];rw[es];omega
  ·rcases lt_or_ge i aN.length with hi|hi
   ·rw[getElem?_append_left hi] at hx;exact hw.st.k i x hx
   ·have et:i=aN.length:=by have:=(List.getElem?_eq_some_iff.1 hx).1;simp at this;omega
    subst et;simp at hx;subst hx;simp;omega
  ·rcases lt_or_ge i aN.length with hi|hi
   ·rw[getElem?_append_left hi] at hx;have hr:=hw.EU i x hx;refine⟨hr.o,by simp;have:=hr.k;omega,hr.bw,hr.gate,hr.dst,hr.skip,fun h1 h2 k H2 T2 e2 hk sK o5=>?_,fun h1=>?_⟩
    ·rcases lt_or_ge k sts.length with lW|lW
     ·rw[getElem?_append_left lW] at hk;exact hr.still h1 h2 k H2 T2 e2 hk sK o5
     ·have mL:k=sts.length:=by have:=(List.getElem?_eq_some_iff.1 hk).1;simp at this;omega
      subst mL;simp at hk;obtain⟨rfl,rfl,rfl⟩:=hk;rcases o5 with o5|o5
      ·have:=hr.k;omega
      ·exact wL ZM i o5 x hx h1 h2
    ·obtain⟨Ha,Ta,ea,Hb,Tb,g1,g2,g3,g4⟩:=hr.effect h1;have l1:=(List.getElem?_eq_some_iff.1 g1).1;have l2:=(List.getElem?_eq_some_iff.1 g2).1;exact⟨Ha,Ta,ea,Hb,Tb,by rw[getElem?_append_left l1];exact g1,by rw[getElem?_append_left l2];exact g2,g3,g4⟩
   ·have et:i=aN.length:=by have:=(List.getElem?_eq_some_iff.1 hx).1;simp at this;omega
    subst et;simp at hx;subst hx;refine⟨tX,(by rw[length_append,List.length_singleton];exact(by omega:sts.length-1<sts.length+1)),me.symm,hgate,oS,fun hr=>(uj hr).1,fun _ h2=>(by cases h2),fun _=>⟨H,T,i0,H',T',by show (sts++[_])[sts.length-1]?=_;rw[getElem?_append_left (by omega)];exact gR,?_,cK,fun hr=>(uj hr).2⟩⟩;show (sts++[_])[sts.length-1+1]?=_;rw[show sts.length-1+1=sts.length by omega];simp
  ·rcases lt_or_ge i aN.length with hi|hi
   ·rw[getElem?_append_left hi] at hx;rw[take_append_of_le_length (by omega)];exact hw.yP i x hx
   ·have et:i=aN.length:=by have:=(List.getElem?_eq_some_iff.1 hx).1;simp at this;omega
    subst et;simp at hx;subst hx;rw[take_append_of_le_length (le_refl _),take_length];exact hw.cur
  ·rw[iM,←hw.cur];rfl
 ·rename_i me;simp only[Bool.not_eq_true] at me;obtain⟨hex,jf⟩:=h;obtain⟨oS,um⟩:=oj jf;obtain⟨rfl,rfl⟩:=Ct me;refine⟨_,_,_,⟨⟨?_,fun i x hx=>?_⟩,fun i x hx=>?_,fun i x hx=>?_,?_⟩,by simp,um,rfl,dW,⟨_,rfl,fun h=>absurd h (by rw[me];decide)⟩,⟨[],by simp⟩,fun h=>absurd h (by rw[me];decide)⟩
  ·simp only[length_append,List.length_singleton,hlen];rw[mJ me]
  ·rcases lt_or_ge i aN.length with hi|hi
   ·rw[getElem?_append_left hi] at hx;exact hw.st.k i x hx
   ·have et:i=aN.length:=by have:=(List.getElem?_eq_some_iff.1 hx).1;simp at this;omega
    subst et;simp at hx;subst hx;simp;omega
  ·rcases lt_or_ge i aN.length with hi|hi
   ·rw[getElem?_append_left hi] at hx;have hr:=hw.EU i x hx;exact⟨hr.o,hr.k,hr.bw,hr.gate,hr.dst,hr.skip,hr.still,hr.effect⟩
   ·have et:i=aN.length:=by have:=(List.getElem?_eq_some_iff.1 hx).1;simp at this;omega
    subst et;simp at hx;subst hx;refine⟨tX,(by exact(by omega:sts.length-1<sts.length)),me.symm,hgate,oS,fun hr=>(uj hr).1,fun h1 _ k H2 T2 e2 hk sK o5=>?_,fun h=>(by cases h)⟩;simp only at hk sK o5 h1 ⊢;have lW:=(List.getElem?_eq_some_iff.1 hk).1;rcases lt_or_ge k (sts.length-1) with bh|ku
    ·have da:((sts.drop (D.lo.getD aN.length 0)).dropLast)[k-D.lo.getD aN.length 0]?=some (H2,T2,e2):=by
      rw[List.getElem?_dropLast,if_pos (by rw[List.length_drop];omega),List.getElem?_drop,show D.lo.getD aN.length 0+(k-D.lo.getD aN.length 0)=k by omega];exact hk
     exact wU (hex h1) _ _ da
    ·have mL:k=sts.length-1:=by omega
     subst mL;rw[gR] at hk
     cases hk
     exact cK h1 (fun e=>by rw[e,jy] at me;cases me)
  ·rcases lt_or_ge i aN.length with hi|hi
   ·rw[getElem?_append_left hi] at hx;rw[take_append_of_le_length (by omega)];exact hw.yP i x hx
   ·have et:i=aN.length:=by have:=(List.getElem?_eq_some_iff.1 hx).1;simp at this;omega
    subst et;simp at hx;subst hx;rw[take_append_of_le_length (le_refl _),take_length];exact hw.cur
  ·rw[iM,←hw.cur];rfl
theorem Bz {nx:Nat}{D:tu}{ops:List Oper}{e0:Env}(pM:jx D.bw=true)(jy:D.bw.contains nx=true):∀(l:List Oper)(aN:List dg)(sts:List oV)(e:Env),iJ nx D ops e0 aN sts e→ops.drop aN.length=l→aN.length≤ops.length→eD D l aN sts e→
  ∃bB dq H T i,iJ nx D ops e0 bB dq (bt e0 bB)∧bB.length=ops.length∧dq.getLast?=some (H,T,i)∧D.K ⟨bt e0 bB,H,T⟩∧dq[0]?=sts[0]?∧(∃q,bB=aN++q)∧∃q,dq=sts++q:=by
 intro l
 induction l with
 |nil=>
  intro aN sts e hw hl hle h;unfold eD at h
  split at h
  ·rename_i H T i cT;have hlen:aN.length=ops.length:=by
    have:=congrArg List.length hl;simp at this;omega
   have hc:=hw.cur;subst hc;exact⟨aN,sts,H,T,i,hw,hlen,cT,h,rfl,⟨[],by simp⟩,⟨[],by simp⟩⟩
  ·exact h.elim
 |cons o r ih=>
  intro aN sts e hw hl hle h;have bh:aN.length<ops.length:=by
   have:=congrArg List.length hl;simp at this;omega
  have tX:ops[aN.length]?=some o:=by
   have:=congrArg (fun l=>l[0]?) hl;simpa using this
  have sn:ops.drop (aN.length+1)=r:=by
   have:=congrArg (fun l=>l.drop 1) hl;simpa[drop_drop,add_comm] using this
  have fin:∀{H T i0 run v H' T'},sts.getLast?=some (H,T,i0)→(match o.guard with|none=>run=true|some (j,want)=>∃b,jD D.all j e=some b∧run=(b==some want))→(run=false→v=.cJ []∧H'=H∧T'=T)→(run=true→aN.length≠nx→eI D.C.P o e H T v H' T')→
    (D.bw.contains aN.length=false→H'=H∧T'=T)→vB D (eD D r) o aN sts e run v H' T'→∃bB dq H T i,iJ nx D ops e0 bB dq (bt e0 bB)∧bB.length=ops.length∧dq.getLast?=some (H,T,i)∧D.K ⟨bt e0 bB,H,T⟩∧dq[0]?=sts[0]?∧(∃q,bB=aN++q)∧∃q,dq=sts++q:=by
   intro H T i0 run v H' T' cT hg h1 h2 h3 h4;obtain⟨bB,dq,e',g1,g2,g3,g4,_,⟨x9,g9,_⟩,⟨q8,g8⟩,_⟩:=rY pM jy hw tX cT hg h1 h2 h3 h4;obtain⟨r2,s2,H2,T2,i2,k1,k2,k3,k4,k5,⟨q6,k6⟩,⟨q7,k7⟩⟩:=ih bB dq e' g1 (by rw[g2];exact sn) (by omega) g3;exact⟨r2,s2,H2,T2,i2,k1,k2,k3,k4,k5.trans g4,⟨_,by rw[k6,g9,append_assoc]⟩,⟨_,by rw[k7,g8,append_assoc]⟩⟩
  have exec:∀{H T i0},sts.getLast?=some (H,T,i0)→(match o.guard with|none=>true=true|some (j,want)=>∃b,jD D.all j e=some b∧true=(b==some want))→j5 D (eD D r) o aN sts e H T→
    ∃bB dq H T i,iJ nx D ops e0 bB dq (bt e0 bB)∧bB.length=ops.length∧dq.getLast?=some (H,T,i)∧D.K ⟨bt e0 bB,H,T⟩∧dq[0]?=sts[0]?∧(∃q,bB=aN++q)∧∃q,dq=sts++q:=by
   intro H T i0 cT hg hx;unfold j5 at hx
   split at hx
   ·rename_i g as jg;obtain⟨v,H',T',hc,hs,hd⟩:=hx;refine fin (run:=true) cT hg (fun e=>by cases e) (fun _ _=>?_) hs hd;unfold eI;rw[jg];exact hc
   ·rename_i jg
    split at hx
    ·rename_i v H' T' oL;refine fin (run:=true) cT hg (fun e=>by cases e) (fun _ _=>?_) hx.1 hx.2;unfold eI;rw[jg];exact oL
    ·exact hx.elim
  unfold eD at h
  split at h
  ·rename_i H T i0 cT
   split at h
   ·rename_i hg;exact exec cT (by rw[hg]) h
   ·rename_i j want hg
    split at h
    ·rename_i b hb
     split at h
     ·rename_i sO;exact exec cT (by rw[hg];exact⟨b,hb,by simp[sO]⟩) h
     ·rename_i sO;exact fin (run:=false) cT (by rw[hg];exact⟨b,hb,by simp[sO]⟩) (fun _=>⟨rfl,rfl,rfl⟩) (fun e=>by cases e) (fun _=>⟨rfl,rfl⟩) h
    ·exact h.elim
  ·exact h.elim
def jX (C:Cx)(o:Oper)(e:Env)(H:List aG)(T:ay)(κ:AV→List aG→ay→Prop):Prop:=
 match lB C.P C.bx o e H with
 |some (m,ys,z)=>∀nc:Nat,m≤nc→κ (.dP H.length m nc) (H++[.cells (ys++List.replicate ((nc-m)*z) .top)]) T
 |none=>match s8 o e with
  |some (t,t2,i,n,cap,x)=>∃(el:TypeId) (vs xs:List AV) (m:Nat),C.P.underlying t=some (.slice el)∧H[i]?=some (.cells vs)∧vs.length=cap*C.P.cellsOf el∧kG H (C.P.cellsOf el) x=some (m,xs)∧(n+m)*C.P.bytesOf el≤140737488355328∧n+m≤9223372036854775807∧
    ji C.P t2=true∧(aX C.P el).isSome=true∧
    (n+m≤cap→κ (.dP i (n+m) cap) (H.set i (.cells (vs.take (n*C.P.cellsOf el)++xs++vs.drop ((n+m)*C.P.cellsOf el)))) T)∧
    ∀nc,cap<n+m→n+m≤nc→κ (.dP H.length (n+m) nc) (H++[.cells (vs.take (n*C.P.cellsOf el)++xs++List.replicate ((nc-(n+m))*C.P.cellsOf el) .top)]) T
  |none=>False
theorem DD {o:Oper}{e e':Env}(h:∀x∈o.op.operands,bQ e x=bQ e' x):s8 o e=s8 o e':=by
 unfold s8
 cases ho:o.op<;>try rfl
 rename_i c;rw[ho] at h;obtain⟨callee,args,B6⟩:=c
 cases callee<;>try rfl
 rename_i bi
 cases bi<;>try rfl
 have h2:args.toList.map (bQ e)=args.toList.map (bQ e'):=List.map_congr_left fun x hx=>h x (by simp only[Op.operands,Call.operands];exact Array.mem_append.2 (.inr (Array.mem_toList_iff.1 hx)));simp only[h2]
theorem BA {P:Program}{bx:List Nat}{o:Oper}{e e':Env}{H:List aG}(h:∀x∈o.op.operands,bQ e x=bQ e' x):lB P bx o e H=lB P bx o e' H:=by
 obtain⟨dst,op,type,pos,after,guard⟩:=o;unfold lB;simp only at h ⊢
 cases op<;>try rfl
 rename_i c;obtain⟨callee,args,B6⟩:=c
 cases callee<;>try rfl
 rename_i bi
 cases bi<;>try rfl
 cases dst<;>try rfl
 have h2:args.toList.map (bQ e)=args.toList.map (bQ e'):=List.map_congr_left fun x hx=>h x (by simp only[Op.operands,Call.operands];exact Array.mem_append.2 (.inr (Array.mem_toList_iff.1 hx)));simp only[h2]
theorem Bg {C:Cx}{o:Oper}{e e':Env}{H:List aG}{T:ay}{κ:AV→List aG→ay→Prop}(h:∀x∈o.op.operands,bQ e x=bQ e' x)(k:jX C o e H T κ):jX C o e' H T κ:=by
 unfold jX at k ⊢;rw[←BA h,←DD h];exact k
theorem Kf {C:Cx}{o:Oper}{e:Env}{H:List aG}{T:ay}{κ:AV→List aG→ay→Prop}(k:jX C o e H T κ){L:Lay}{w:World}{a:Act}(hc:bN L H T w)(he:eV L H.length T w e a){K:Act→World→Prop}{Q:Exit→Act→World→Prop}
  (hk:∀v H' T' cv w' L',κ v H' T'→bN L' H' T' w'→aZ L' H'.length T' w' v cv→Ev H.length T.length L H.length T w L' H'.length T' w'→K (a.put o.dst cv) w'):o.wp C.P a w K Q:=by
 unfold jX at k
 split at k
 ·rename_i m ys z Sk;obtain⟨nc,mK,cv,w',L',cK,cQ,dF,dU⟩:=wx Sk hc he;unfold Oper.wp;rw[cK];exact hk _ _ _ _ _ _ (k nc mK) cQ dF dU
 ·split at k
  ·rename_i t t2 i n cap x Ff;obtain⟨el,vs,xs,m,hu,hH,NQ,mQ,tn,ri,BU,qW,E5,da⟩:=k;unfold s8 at Ff
   split at Ff
   ·rename_i args B6 oL
    split at Ff
    ·rename_i t' t2' i' n' FE x' BS fg
     cases Ff
     have rf:B6=#[t,t2]:=by rw[←Array.toList_inj];exact BS
     subst rf;have jQ:args.toList.length=2:=by have:=congrArg List.length fg;simpa using this
     match BZ:args.toList,jQ,fg with
     |[p,q],_,fg=>
      simp only[List.map_cons,List.map_nil,List.cons.injEq,and_true] at fg;obtain⟨e1,e2⟩:=fg;have h0:=he.bQ p;have h1:=he.bQ q;rw[e1] at h0;rw[e2] at h1;have pt:args=#[p,q]:=by rw[←Array.toList_inj];exact BZ
      subst pt;have hex:∀cv w',(Builtin.append_ #[t,t2] o.type #[a.eval p,a.eval q]).run C.P w=.ok cv w'→(execOp a.eval o).run C.P w=.ok (.value cv) w':=fun cv w' hr=>by
       simp only[execOp,oL,resolve,Sem.run_bind,Sem.run_pure,Result.andThen_ok,invoke,builtin,List.map_toArray,List.map_cons,List.map_nil,hr]
      rcases zH (ty:=o.type) hc h0 h1 hu hH NQ mQ tn ri BU qW with⟨hle,cv,w',L',cK,cQ,dF,dU⟩|⟨bh,nc,mK,cv,w',L',cK,cQ,dF,dU⟩
      ·unfold Oper.wp;rw[hex _ _ cK];exact hk _ _ _ _ _ _ (E5 hle) cQ dF dU
      ·unfold Oper.wp;rw[hex _ _ cK];exact hk _ _ _ _ _ _ (da nc bh mK) cQ dF dU
    ·cases Ff
   ·cases Ff
  ·exact k.elim
def fU (D:tu):Nat→List Oper→List dg→List oV→Env→Prop
 |_,[],_,_,_=>False
 |0,o::r,aN,sts,e=>match sts.getLast? with
  |some (H,T,_)=>match o.guard with
   |none=>jX D.C o e H T (fun v H' T'=>vB D (eD D r) o aN sts e true v H' T')
   |some _=>False
  |none=>False
 |n+1,o::r,aN,sts,e=>match sts.getLast? with
  |some (H,T,_)=>match o.guard with
   |none=>j5 D (fU D n r) o aN sts e H T
   |some (j,want)=>match jD D.all j e with
    |some b=>if b=some want then j5 D (fU D n r) o aN sts e H T else vB D (fU D n r) o aN sts e false (.cJ []) H T
    |none=>False
  |none=>False
theorem Bi {nx:Nat}{D:tu}{ops:List Oper}{e0:Env}(pM:jx D.bw=true)(jy:D.bw.contains nx=true):∀(n:Nat)(l:List Oper)(aN:List dg)(sts:List oV)(e:Env),iJ nx D ops e0 aN sts e→ops.drop aN.length=l→aN.length≤ops.length→aN.length+n=nx→fU D n l aN sts e→
  ∃bB dq H T i o r,iJ nx D ops e0 bB dq (bt e0 bB)∧bB.length=nx∧dq.getLast?=some (H,T,i)∧dq[0]?=sts[0]?∧ops.drop nx=o::r∧o.guard=none∧jX D.C o (bt e0 bB) H T (fun v H' T'=>vB D (eD D r) o bB dq (bt e0 bB) true v H' T'):=by
 intro n
 induction n with
 |zero=>
  intro l aN sts e hw hl hle hn h
  cases l with
  |nil=>exact h.elim
  |cons o r=>
   unfold fU at h
   split at h
   ·rename_i H T i cT
    split at h
    ·rename_i hg;have hc:=hw.cur;subst hc;exact⟨aN,sts,H,T,i,o,r,hw,by omega,cT,rfl,by rw[←hl];congr 1;omega,hg,h⟩
    ·exact h.elim
   ·exact h.elim
 |succ n ih=>
  intro l aN sts e hw hl hle hn h
  cases l with
  |nil=>exact h.elim
  |cons o r=>
  have bh:aN.length<ops.length:=by
   have:=congrArg List.length hl;simp at this;omega
  have tX:ops[aN.length]?=some o:=by
   have:=congrArg (fun l=>l[0]?) hl;simpa using this
  have sn:ops.drop (aN.length+1)=r:=by
   have:=congrArg (fun l=>l.drop 1) hl;simpa[drop_drop,add_comm] using this
  have fin:∀{H T i0 run v H' T'},sts.getLast?=some (H,T,i0)→(match o.guard with|none=>run=true|some (j,want)=>∃b,jD D.all j e=some b∧run=(b==some want))→(run=false→v=.cJ []∧H'=H∧T'=T)→(run=true→aN.length≠nx→eI D.C.P o e H T v H' T')→
    (D.bw.contains aN.length=false→H'=H∧T'=T)→vB D (fU D n r) o aN sts e run v H' T'→∃bB dq H T i o r,iJ nx D ops e0 bB dq (bt e0 bB)∧bB.length=nx∧dq.getLast?=some (H,T,i)∧dq[0]?=sts[0]?∧ops.drop nx=o::r∧o.guard=none∧jX D.C o (bt e0 bB) H T (fun v H' T'=>vB D (eD D r) o bB dq (bt e0 bB) true v H' T'):=by
   intro H T i0 run v H' T' cT hg h1 h2 h3 h4;obtain⟨bB,dq,e',g1,g2,g3,g4,_⟩:=rY pM jy hw tX cT hg h1 h2 h3 h4;obtain⟨r2,s2,H2,T2,i2,o2,q2,k1,k2,k3,k4,k5⟩:=ih r bB dq e' g1 (by rw[g2];exact sn) (by omega) (by omega) g3;exact⟨r2,s2,H2,T2,i2,o2,q2,k1,k2,k3,k4.trans g4,k5⟩
  have exec:∀{H T i0},sts.getLast?=some (H,T,i0)→(match o.guard with|none=>true=true|some (j,want)=>∃b,jD D.all j e=some b∧true=(b==some want))→j5 D (fU D n r) o aN sts e H T→
    ∃bB dq H T i o r,iJ nx D ops e0 bB dq (bt e0 bB)∧bB.length=nx∧dq.getLast?=some (H,T,i)∧dq[0]?=sts[0]?∧ops.drop nx=o::r∧o.guard=none∧jX D.C o (bt e0 bB) H T (fun v H' T'=>vB D (eD D r) o bB dq (bt e0 bB) true v H' T'):=by
   intro H T i0 cT hg hx;unfold j5 at hx
   split at hx
   ·rename_i g as jg;obtain⟨v,H',T',hc,hs,hd⟩:=hx;refine fin (run:=true) cT hg (fun e=>by cases e) (fun _ _=>?_) hs hd;unfold eI;rw[jg];exact hc
   ·rename_i jg
    split at hx
    ·rename_i v H' T' oL;refine fin (run:=true) cT hg (fun e=>by cases e) (fun _ _=>?_) hx.1 hx.2;unfold eI;rw[jg];exact oL
    ·exact hx.elim
  unfold fU at h
  split at h
  ·rename_i H T i0 cT
   split at h
   ·rename_i hg;exact exec cT (by rw[hg]) h
   ·rename_i j want hg
    split at h
    ·rename_i b hb
     split at h
     ·rename_i sO;exact exec cT (by rw[hg];exact⟨b,hb,by simp[sO]⟩) h
     ·rename_i sO;exact fin (run:=false) cT (by rw[hg];exact⟨b,hb,by simp[sO]⟩) (fun _=>⟨rfl,rfl,rfl⟩) (fun e=>by cases e) (fun _=>⟨rfl,rfl⟩) h
    ·exact h.elim
  ·exact h.elim
theorem xa {C:Cx}{ops:List Oper}{Q:Exit→St→Prop}{s':St}{K:St→Prop}{bw lo:List Nat}{na:List (List Nat)}(pM:jl ops bw lo na=true)(qP:jx bw=true){nx:Nat}{L0:Lay}{w0:World}{D:tu}
  (l0:D.C=C) (mM:D.bw=bw) (L4:D.lo=lo) (Rj:D.na=na) (Rl:D.all=ops.toArray) {aN:List dg} {sts:List oV} (hlen:aN.length=ops.length) (EZ:∀(i:Nat)(x:dg),aN[i]?=some x→ops[i]?=some x.o)
  (Rk:Nat→Prop) (jy:∀i,Rk i→i≠nx) (hRk:∀(i:Nat)(x:dg),aN[i]?=some x→Rk i→Jg nx D ops sts aN i x) (TX:∀(i:Nat)(x:dg),aN[i]?=some x→Rk i→x.e=bt s'.e (aN.take i))
  (hks:∀(i:Nat)(x:dg),aN[i]?=some x→Rk i→x.k=(D.bw.filter (·<i)).length) (J:Array Bool→Prop) (hJ:∀aA i,Rk i→J aA→J (aA.setIfInBounds i true))
  (mc:∀(aA:Array Bool)(a:Act)(w:World),Inv D s' aN sts L0 w0 aA a w→J aA→(∀i,i<ops.length→aA.getD i false=true)→dc C (eJ K Q) L0 s' w0 .normal a w)
  (Qv:∀(fuel:Nat)(aA:Array Bool)(a:Act)(w:World),Inv D s' aN sts L0 w0 aA a w→J aA→∀i,i∈Region.ready .any ops.toArray aA→¬Rk i→
   ((∀j,j<ops.length→(aA.setIfInBounds i true).getD j false=true)∨(List.range ops.length).countP (fun j=>!(aA.setIfInBounds i true).getD j false)≤fuel)→
   wpOp C.P ops.toArray (dc C (eJ K Q) L0 s' w0) i (wpAny C.P .any ops.toArray (dc C (eJ K Q) L0 s' w0) fuel (aA.setIfInBounds i true)) a w) :
  ∀(fuel:Nat)(aA:Array Bool)(a:Act)(w:World),Inv D s' aN sts L0 w0 aA a w→J aA→(∀i,i<ops.length→aA.getD i false=true)∨(List.range ops.length).countP (fun i=>!aA.getD i false)≤fuel→
   wpAny C.P .any ops.toArray (dc C (eJ K Q) L0 s' w0) fuel aA a w:=by
 obtain⟨d1,d2,d3,d4,d5,d6,d7⟩:=nY pM;have Cb:aN.map (·.o)=ops:=by
  apply List.ext_getElem?;intro i;rw[getElem?_map]
  by_cases hi:i<aN.length
  ·rw[getElem?_eq_getElem hi,Option.map_some,EZ i _ (getElem?_eq_getElem hi)]
  ·rw[getElem?_eq_none (by omega),getElem?_eq_none (by omega)];rfl
 have PK:∀i,i<ops.length→∃x:dg,aN[i]?=some x:=fun i hi=>⟨_,getElem?_eq_getElem (by omega)⟩
 have Zk:∀(aA:Array Bool)(a:Act)(w:World)(i:Nat)(KK:Act→World→Prop),Inv D s' aN sts L0 w0 aA a w→Rk i→i∈Region.ready .any ops.toArray aA→
   (∀a' w',Inv D s' aN sts L0 w0 (aA.setIfInBounds i true) a' w'→KK a' w')→wpOp C.P ops.toArray (dc C (eJ K Q) L0 s' w0) i KK a w:=by
  intro aA a w i KK hI LO hi P4;obtain⟨BJ,o,ho,uz⟩:=mem_ready.1 hi;rw[getElem?_toArray] at ho;have cW:i<ops.length:=(List.getElem?_eq_some_iff.1 ho).1;have nu:i<aA.size:=by rw[hI.size];omega
  have tY:aA.getD i false=false:=by rw[←er nu];exact BJ
  obtain⟨x,hx⟩:=PK i cW;have BT:x.o=o:=by have:=EZ i x hx;rw[ho] at this;injection this with this;exact this.symm
  have hR:=hRk i x hx LO;have fS:∀i j,aA.getD i false=true→l9 (eP ops []) j i=true→aA.getD j false=true:=by
   have:=hI.closed;rw[Cb] at this;exact this
  have jZ:∀j,l9 (eP ops []) j i=true→aA.getD j false=true:=fun j hj=>pG fS ho uz (d6 i o ho) hj;obtain⟨k,H,T,e,L,hk,lW,oO,cQ,iD,iq,jk,dU⟩:=hI.st;rw[mM] at hk lW;rw[l0] at iD iq dU;have fw:∀t∈o.looksAt ops.toArray,∀v,VS aN aA s'.e t v→v=bZ x.e t:=by
   intro t ht v hv;rw[TX i x hx LO];have NO:∀(j:Nat)(z:dg),aN[j]?=some z→z.o.dst=some t→i≠j∧((j<i∧l9 (eP ops []) j i=true)∨(i<j∧l9 (eP ops []) i j=true)):=fun j z hz hd=>d2 i j o z.o t ho (EZ j z hz) ht hd;rcases hv with⟨j,z,hz,hd,hl,rfl⟩|⟨r6,rfl⟩
   ·obtain⟨dW,h1|h1⟩:=NO j z hz hd
    ·rw[eY (aN.take i) s'.e t j z (by rw[getElem?_take,if_pos h1.1];exact hz) hd (fun i' y' yq Sf=>by
      rw[getElem?_take] at yq
      split at yq
      ·exact d1 i' j y'.o z.o t (EZ i' y' yq) (EZ j z hz) Sf hd
      ·cases yq)]
    ·have:=fS j i hl h1.2;rw[tY] at this;cases this
   ·rw[dO (aN.take i) s'.e t (fun z hz hd=>by
     obtain⟨j,hj,e1⟩:=List.mem_iff_getElem.1 hz;simp at hj;have LK:aN[j]?=some z:=by rw[getElem?_eq_getElem (by omega),←e1];simp
     have hf:=r6 j z LK hd;obtain⟨dW,h1|h1⟩:=NO j z LK hd
     ·have:=jZ j h1.2;rw[hf] at this;cases this
     ·omega)]
  have sU:eV L H.length T w (mn x.e (o.looksAt ops.toArray)) a:=by
   intro t;rw[e9]
   split
   ·rename_i ht;obtain⟨v,hv,hr⟩:=jk t;rw[←fw t ht v hv];exact hr
   ·exact .top _
  have It:∀z∈o.op.operands,bQ x.e z=bQ (mn x.e (o.looksAt ops.toArray)) z:=by
   intro z hz
   cases z with
   |tmp t=>
    have:t∈o.looksAt ops.toArray:=by
     unfold Oper.looksAt;exact List.mem_append.2 (.inl (List.mem_filterMap.2 ⟨_,Array.mem_toList_iff.2 hz,rfl⟩))
    simp only[bQ,e9,if_pos this]
   |_=>rfl
  have behind:∀(H':List aG)(T':ay)(cv:Value)(w':World)(L':Lay),bN L' H' T' w'→aZ L' H'.length T' w' x.v cv→Ev H.length T.length L H.length T w L' H'.length T' w'→
    ((bw.contains i=false∧H'=H∧T'=T)∨(bw.contains i=true∧bw[k]?=some i∧∃e',sts[k+1]?=some (H',T',e')))→KK (a.put o.dst cv) w':=by
   intro H' T' cv w' L' p8 oX oR o5;refine P4 _ _ ⟨by simp[hI.size],fun i' j' oM j0=>?_,?_,?_,by cases o.dst<;>exact hI.defers⟩
   ·rw[Cb] at j0
    by_cases vu:i=i'
    ·subst vu;have:=jZ j' j0
     by_cases lY:i=j'
     ·subst lY;rw[tY] at this;cases this
     ·rw[getD_set_ne false lY];exact this
    ·rw[getD_set_ne false vu] at oM;have:=fS i' j' oM j0;exact getD_set_true this
   ·have kY:∀t,∃v,VS aN (aA.setIfInBounds i true) s'.e t v∧aZ L' H'.length T' w' v ((a.put o.dst cv).tmps.getD t undef):=by
     intro t
     by_cases hd:o.dst=some t
     ·refine⟨x.v,.inl ⟨i,x,hx,by rw[BT];exact hd,by simp[nu],rfl⟩,?_⟩;have bh:t<a.tmps.size:=by rw[hI.tmps];exact hR.dst t (by rw[BT];exact hd)
      rw[hd,j9 a t t cv bh,if_pos rfl];exact oX
     ·obtain⟨v,hv,hr⟩:=jk t;refine⟨v,?_,?_⟩
      ·rcases hv with⟨j,z,hz,yC,hl,rfl⟩|⟨r6,rfl⟩
       ·exact .inl ⟨j,z,hz,yC,getD_set_true hl,rfl⟩
       ·refine .inr ⟨fun j z hz yC=>?_,rfl⟩;have lY:i≠j:=by
         rintro rfl;rw[hx] at hz
         cases hz
         rw[BT] at yC;exact hd yC
        rw[getD_set_ne false lY];exact r6 j z hz yC
      ·have e1:(a.put o.dst cv).tmps.getD t undef=a.tmps.getD t undef:=by
        cases oS:o.dst with
        |none=>rfl
        |some d=>
         have bh:d<a.tmps.size:=by rw[hI.tmps];exact hR.dst d (by rw[BT];exact oS)
         rw[j9 a d t cv bh,if_neg (fun e=>hd (by rw[oS,e]))]
       rw[e1];exact hr.keep oR.keeps
    have Io:=dU.trans (oR.mono iD iq);rcases o5 with⟨dW,rfl,rfl⟩|⟨heq,qO,e',yJ⟩
    ·refine⟨k,H',T',e,L',fun m i' pI=>?_,by rw[mM];exact lW,oO,p8,by rw[l0];exact iD,by rw[l0];exact iq,kY,by rw[l0];exact Io⟩;rw[mM] at pI;have vu:i≠i':=by
      rintro rfl;have:=mem_of_getElem? pI;rw[←List.contains_iff_mem] at this;rw[dW] at this;cases this
     rw[getD_set_ne false vu];exact hk m i' pI
    ·refine⟨k+1,H',T',e',L',fun m i' pI=>?_,by rw[mM];have:=(List.getElem?_eq_some_iff.1 qO).1;omega,yJ,p8,by rw[l0];exact le_trans iD oR.n,by rw[l0];exact le_trans iq oR.t,kY,by rw[l0];exact Io⟩;rw[mM] at pI
     by_cases vu:i=i'
     ·subst vu;have e1:=(iy qP heq).1;have LS:∀m',bw[m']?=some i→m'=(bw.filter (·<i)).length:=by
       intro m' Ik;have ik:=(List.getElem?_eq_some_iff.1 Ik).1;have:=List.all_eq_true.1 qP m' (List.mem_range.2 ik);simp only[Bool.and_eq_true,beq_iff_eq,getD_eq_getElem?_getD,Ik,Option.getD_some] at this;exact this.1.symm
      have h1:=LS m pI;have h2:=LS k qO;simp[nu];omega
     ·rw[getD_set_ne false vu,hk m i' pI]
      constructor
      ·intro h;omega
      ·intro h;rcases lt_or_ge m k with h1|h1
       ·exact h1
       ·have:m=k:=by omega
        subst this;rw[qO] at pI
        injection pI with pI
        exact absurd pI vu
   ·simp[Act.put];cases o.dst<;>simp[hI.tmps]
  have uy:bw.contains i=true→bw[k]?=some i∧x.k=k:=by
   intro heq;obtain⟨e1,_⟩:=iy qP heq;have xm:=hks i x hx LO;rw[mM] at xm;have ku:k≤(bw.filter (·<i)).length:=by
    rcases lt_or_ge (bw.filter (·<i)).length k with h1|h1
    ·have:=(hk _ i e1).2 h1;rw[tY] at this;cases this
    ·exact h1
   have hle:(bw.filter (·<i)).length≤k:=by
    rcases Nat.eq_zero_or_pos (bw.filter (·<i)).length with h0|h0
    ·omega
    ·obtain⟨e',h1,h2⟩:=(d3 _ i e1).2 h0;have:=(hk _ e' h1).1 (jZ e' h2);omega
   have:(bw.filter (·<i)).length=k:=by omega
   exact⟨by rw[←this];exact e1,by omega⟩
  have R7:∀j b,jD D.all j x.e=some b→o.guard=some (j,true)∨o.guard=some (j,false)→yielded ops.toArray a.tmps j=b:=by
   intro j b hb hg;rw[Rl] at hb;refine mD sU ?_;unfold jD at hb ⊢
   split at hb
   ·rename_i d hd;have:d∈o.looksAt ops.toArray:=by
     unfold Oper.looksAt;refine List.mem_append.2 (.inr ?_);rcases hg with hg|hg<;>rw[hg]<;>simp only[hd]<;>simp
    rw[e9,if_pos this];exact hb
   ·cases hb
  unfold wpOp;rw[getElem?_toArray,ho]
  dsimp only
  have hgate:=hR.gate;rw[BT] at hgate
  by_cases cK:x.run=true
  ·
   have pZ:Region.wanted o (yielded ops.toArray a.tmps)=true:=by
    unfold Region.wanted
    cases hg:o.guard with
    |none=>rfl
    |some jw=>
     obtain⟨j,want⟩:=jw;rw[hg] at hgate;obtain⟨b,hb,fW⟩:=hgate;have:=R7 j b hb (by cases want<;>simp[hg]);rw[cK] at fW;simp only[this];have sO:b=some want:=by simpa using fW.symm
     simp[sO]
   rw[if_pos pZ];refine .inl ?_;have RO:∃H' T',eI C.P o x.e H T x.v H' T'∧((bw.contains i=false∧H'=H∧T'=T)∨(bw.contains i=true∧bw[k]?=some i∧∃e',sts[k+1]?=some (H',T',e'))):=by
    cases heq:bw.contains i with
    |false=>
     have HS:x.bw=false:=by rw[hR.bw,mM];exact heq
     have dA:=hR.still cK HS k H T e oO ?_ ?_
     ·rw[l0,BT] at dA;exact⟨H,T,dA,.inl ⟨rfl,rfl,rfl⟩⟩
     ·rw[L4];refine le_trans (d4 i cW) ?_;unfold D1;have aap:∀e'∈bw.filter (fun e=>l9 (eP ops []) e i),∃m,m<k∧bw[m]?=some e':=by
       intro e' sM;obtain⟨h1,h2⟩:=List.mem_filter.1 sM;obtain⟨m,NR,HG⟩:=List.mem_iff_getElem.1 h1;have LU:bw[m]?=some e':=by rw[getElem?_eq_getElem NR,HG]
       exact⟨m,(hk m e' LU).1 (jZ e' h2),LU⟩
      have hle:(bw.filter (fun e=>l9 (eP ops []) e i)).length≤(bw.take k).length:=by
       have e1:bw.filter (fun e=>l9 (eP ops []) e i)=(bw.take k).filter (fun e=>l9 (eP ops []) e i)++(bw.drop k).filter (fun e=>l9 (eP ops []) e i):=by
        rw[←List.filter_append,List.take_append_drop]
       have e2:(bw.drop k).filter (fun e=>l9 (eP ops []) e i)=[]:=by
        rw[List.filter_eq_nil_iff];intro e' sM j0;obtain⟨m,NR,HG⟩:=List.mem_iff_getElem.1 sM;simp at NR;have LU:bw[k+m]?=some e':=by
         rw[getElem?_eq_getElem (by omega),←HG];simp
        have:=(hk (k+m) e' LU).1 (jZ e' j0);omega
       rw[e1,e2,append_nil];exact List.length_filter_le _ _
      refine le_trans hle ?_;simp;omega
     ·rcases lt_or_ge x.k k with bh|ku
      ·right
       rw[Rj];have E4:k-1<bw.length:=by omega
       have sM:=getElem?_eq_getElem E4;have Pa:=(hk (k-1) _ sM).2 (by omega);have Lt:i<bw[k-1]:=by
        rcases lt_or_ge i bw[k-1] with h1|h1
        ·exact h1
        ·exfalso;have dW:bw[k-1]≠i:=by
          intro e1;have:=mem_of_getElem? sM;rw[e1,←List.contains_iff_mem] at this;rw[heq] at this;cases this
         have xm:=hks i x hx LO;rw[mM] at xm;have h2:=List.all_eq_true.1 qP (k-1) (List.mem_range.2 E4);simp only[Bool.and_eq_true,beq_iff_eq,getD_eq_getElem?_getD,sM,Option.getD_some] at h2;have h3:(bw.filter (·<bw[k-1]+1)).length≤(bw.filter (·<i)).length:=by
          rw[←List.countP_eq_length_filter,←List.countP_eq_length_filter];exact List.countP_mono_left (fun z _ hz=>by simp at hz ⊢;omega)
         omega
       rcases d5 (k-1) _ sM i Lt with h1|h1|h1
       ·rw[heq] at h1;cases h1
       ·exact h1
       ·have:=fS _ i Pa h1;rw[tY] at this;cases this
      ·exact .inl ku
    |true=>
     have HS:x.bw=true:=by rw[hR.bw,mM];exact heq
     obtain⟨qO,xm⟩:=uy heq;obtain⟨Ha,Ta,ea,Hb,Tb,g1,g2,g3,_⟩:=hR.effect HS;rw[xm,oO] at g1;obtain⟨rfl,rfl⟩:H=Ha∧T=Ta:=by injection g1 with h1;injection h1 with h1 h2;injection h2 with h2 h3;exact⟨h1,h2⟩
     rw[xm] at g2;have:=g3 cK (jy i LO);rw[l0,BT] at this;exact⟨Hb,Tb,this,.inr ⟨rfl,qO,i,g2⟩⟩
   obtain⟨H',T',hex,o5⟩:=RO;exact AK (sJ It hex) cQ sU fun cv w' L' g1 g2 g3=>behind H' T' cv w' L' g1 g2 g3 o5
  ·
   have nD:x.run=false:=by simpa using cK
   have pZ:Region.wanted o (yielded ops.toArray a.tmps)=false:=by
    unfold Region.wanted
    cases hg:o.guard with
    |none=>rw[hg] at hgate;rw[hgate] at nD;cases nD
    |some jw=>
     obtain⟨j,want⟩:=jw;rw[hg] at hgate;obtain⟨b,hb,fW⟩:=hgate;have:=R7 j b hb (by cases want<;>simp[hg]);rw[nD] at fW;simp only[this];have sO:b≠some want:=by simpa using fW.symm
     simp[sO]
   rw[if_neg (by simp[pZ])];have hv:x.v=.cJ []:=hR.skip nD
   cases heq:bw.contains i with
   |false=>exact behind H T undef w L cQ (by rw[hv];exact .cJ [] #[] rfl (fun j hj=>by simp at hj)) (Ev.refl (le_refl _) (le_refl _)) (.inl ⟨heq,rfl,rfl⟩)
   |true=>
    have HS:x.bw=true:=by rw[hR.bw,mM];exact heq
    obtain⟨qO,xm⟩:=uy heq;obtain⟨Ha,Ta,ea,Hb,Tb,g1,g2,_,g4⟩:=hR.effect HS;rw[xm,oO] at g1;obtain⟨rfl,rfl⟩:H=Ha∧T=Ta:=by injection g1 with h1;injection h1 with h1 h2;injection h2 with h2 h3;exact⟨h1,h2⟩
    obtain⟨rfl,rfl⟩:=g4 nD;rw[xm] at g2;exact behind _ _ undef w L cQ (by rw[hv];exact .cJ [] #[] rfl (fun j hj=>by simp at hj)) (Ev.refl (le_refl _) (le_refl _)) (.inr ⟨heq,qO,i,g2⟩)
 have pz:∀(aA:Array Bool),aA.size=aN.length→Region.ready .any ops.toArray aA=[]→∀i,i<ops.length→aA.getD i false=true:=by
  intro aA gN hr i
  induction i using Nat.strongRecOn with
  |_ i ih=>
   intro cW
   cases ZO:aA.getD i false with
   |true=>rfl
   |false=>
    exfalso;have lv:i∈Region.ready .any ops.toArray aA:=by
     refine mem_ready.2 ⟨by rw[er (by omega)];exact ZO,ops[i],by rw[getElem?_toArray,getElem?_eq_getElem cW],fun e he hb=>?_⟩;have bh:=d6 i _ (getElem?_eq_getElem cW) e he hb;exact ih e.on bh (by omega)
    rw[hr] at lv;simp at lv
 intro fuel
 induction fuel with
 |zero=>
  intro aA a w hI SD xx;have fy:∀i,i<ops.length→aA.getD i false=true:=by
   rcases xx with h1|h1
   ·exact h1
   ·intro i hi;have h2:(List.range ops.length).countP (fun i=>!aA.getD i false)=0:=by omega
    have:=List.countP_eq_zero.1 h2 i (List.mem_range.2 hi);simpa using this
  refine⟨?_,mc aA a w hI SD fy⟩;rw[List.eq_nil_iff_forall_not_mem];intro i hi;obtain⟨h1,o,ho,_⟩:=mem_ready.1 hi;rw[getElem?_toArray] at ho;have cW:=(List.getElem?_eq_some_iff.1 ho).1;rw[er (by rw[hI.size];omega),fy i cW] at h1
  cases h1
 |succ fuel ih=>
  intro aA a w hI SD xx;refine⟨fun hr=>mc aA a w hI SD (pz aA hI.size hr),fun i hi=>?_⟩;have OC:i∈Region.ready .any ops.toArray aA→(∀j,j<ops.length→(aA.setIfInBounds i true).getD j false=true)∨(List.range ops.length).countP (fun j=>!(aA.setIfInBounds i true).getD j false)≤fuel:=fun hi=>?_
  ·by_cases LO:Rk i
   ·exact Zk aA a w i _ hI LO hi fun a' w' SF=>ih _ a' w' SF (hJ _ _ LO SD) (OC hi)
   ·exact Qv fuel aA a w hI SD i hi LO (OC hi)
  obtain⟨h1,o,ho,_⟩:=mem_ready.1 hi;rw[getElem?_toArray] at ho;have cW:=(List.getElem?_eq_some_iff.1 ho).1;have nu:i<aA.size:=by rw[hI.size];omega
  rw[er nu] at h1;rcases xx with h2|h2
  ·rw[h2 i cW] at h1;cases h1
  ·right
   have:(List.range ops.length).countP (fun j=>!(aA.setIfInBounds i true).getD j false)+1≤(List.range ops.length).countP (fun j=>!aA.getD j false):=by
    have Qt:(List.range ops.length).countP (fun j=>!aA.getD j false)=(List.range ops.length).countP (fun j=>!(aA.setIfInBounds i true).getD j false)+(List.range ops.length).countP (fun j=>decide (j=i)):=by
     generalize List.range ops.length=l
     induction l with
     |nil=>rfl
     |cons y r Zy=>
      simp only[List.countP_cons,Zy]
      by_cases hy:y=i
      ·subst hy;simp[h1,nu];omega
      ·rw[getD_set_ne false (fun e=>hy e.symm)];simp[hy];omega
    have kE:0<(List.range ops.length).countP (fun j=>decide (j=i)):=List.countP_pos_iff.2 ⟨i,List.mem_range.2 cW,by simp⟩;omega
   omega
def WN (ops:List Oper)(bw:List Nat)(nx:Nat):Bool:=
 (bw[0]?==some nx)&&(List.range ops.length).all fun i=>decide (i≤nx)||l9 (eP ops []) nx i
theorem Dn {C:Cx}{ops:List Oper}{Q:Exit→St→Prop}{s:St}(K:St→Prop)(nx:Nat)(bw lo:List Nat)(na:List (List Nat))(pM:jl ops bw lo na=true)(qP:jx bw=true)(hm:WN ops bw nx=true)
  (h:fU ⟨C,ops.toArray,bw,lo,na,K⟩ nx ops [] [(s.H,s.T,0)] (prune C.nv s.e)):∀L0 w0 a0,eR C s L0 w0 a0→
   wpAny C.P .any ops.toArray (dc C (eJ K Q) L0 s w0) ops.toArray.size (Array.replicate ops.toArray.size false) a0 { w0 with drawn:=w0.drawn+1 }:=by
 intro L0 w0 a0 qQ;have hc:eR C ⟨prune C.nv s.e,s.H,s.T⟩ L0 w0 a0:=⟨qQ.nb,qQ.tb,qQ.mN,qQ.size,qQ.defers,fun t=>by
  rcases pE C.nv s.e t with e|e<;>rw[e]
  ·exact qQ.env t
  ·exact .top _⟩
 generalize BD:(⟨prune C.nv s.e,s.H,s.T⟩:St)=s' at hc;have Ll:prune C.nv s.e=s'.e:=by rw[←BD]
 have LN:s.H=s'.H:=by rw[←BD]
 have O3:s.T=s'.T:=by rw[←BD]
 rw[Ll,LN,O3] at h;rw[show dc C (eJ K Q) L0 s w0=dc C (eJ K Q) L0 s' w0 by unfold dc;rw[LN,O3]];clear BD Ll LN O3 qQ;generalize hD:(⟨C,ops.toArray,bw,lo,na,K⟩:tu)=D at h;have l0:D.C=C:=by rw[←hD]
 have mM:D.bw=bw:=by rw[←hD]
 have L4:D.lo=lo:=by rw[←hD]
 have Rj:D.na=na:=by rw[←hD]
 have Rl:D.all=ops.toArray:=by rw[←hD]
 have hDK:D.K=K:=by rw[←hD]
 unfold WN at hm;simp only[Bool.and_eq_true,beq_iff_eq,List.all_eq_true,List.mem_range,Bool.or_eq_true,decide_eq_true_eq] at hm;obtain⟨O9,W2⟩:=hm;have aaw:bw.contains nx=true:=by rw[List.contains_iff_mem];exact mem_of_getElem? O9
 have Fw:D.bw.contains nx=true:=by rw[mM];exact aaw
 have Th:(bw.filter (·<nx)).length=0:=by
  have:=List.all_eq_true.1 qP 0 (List.mem_range.2 (List.getElem?_eq_some_iff.1 O9).1);simp only[Bool.and_eq_true,beq_iff_eq,getD_eq_getElem?_getD,O9,Option.getD_some] at this;exact this.1
 have acb:∀m i,bw[m]?=some i→nx≤i:=fun m i ZN=>by
  rcases lt_or_ge i nx with h1|h1
  ·have:i∈bw.filter (·<nx):=List.mem_filter.2 ⟨mem_of_getElem? ZN,by simpa using h1⟩;rw[List.length_eq_zero_iff.1 Th] at this;simp at this
  ·exact h1
 obtain⟨se,Pu,H1,T1,i1,o,r,yD,mY,I9,TI,sn,Ja,hmx⟩:=Bi (D:=D) (ops:=ops) (e0:=s'.e) (by rw[mM];exact qP) Fw nx ops [] [(s'.H,s'.T,0)] s'.e
  ⟨⟨by simp,fun i x hx=>by simp at hx⟩,fun i x hx=>by simp at hx,fun i x hx=>by simp at hx,rfl⟩ (by simp) (by simp) (by simp) h
 obtain⟨d1,d2,d3,d4,d5,d6,d7⟩:=nY pM;have PS:nx<ops.length:=(d3 0 nx O9).1;have hon:ops[nx]?=some o:=by
  have:=congrArg (fun l=>l[0]?) sn;simpa using this
 have aar:Pu.length=1:=by
  have:=yD.st.len;rw[mM,mY,Th] at this;exact this
 have TH:Pu=[(s'.H,s'.T,0)]:=by
  match Pu,aar,TI with
  |[x],_,h0=>simpa using h0
 subst TH;simp only[List.getLast?_singleton,Option.some.injEq,Prod.mk.injEq] at I9;obtain⟨rfl,rfl,rfl⟩:=I9;obtain⟨nB,hP⟩:∃l,l=se++(ops.drop nx).map fun o=>(⟨o,[],false,.top,0,false⟩:dg):=⟨_,rfl⟩
 have IM:nB.length=ops.length:=by rw[hP];simp[mY];omega
 have FA:∀i,i<nx→nB[i]?=se[i]?:=fun i hi=>by rw[hP,getElem?_append_left (by omega)]
 have Sw:∀(i:Nat)(x:dg),nB[i]?=some x→ops[i]?=some x.o:=fun i x hx=>by
  rcases lt_or_ge i nx with hi|hi
  ·rw[FA i hi] at hx;exact(yD.EU i x hx).o
  ·rw[hP,getElem?_append_right (by omega),mY,getElem?_map,List.getElem?_drop,show nx+(i-nx)=i by omega] at hx
   cases ho:ops[i]? with
   |none=>rw[ho] at hx;cases hx
   |some z=>rw[ho] at hx;cases hx;rfl
 have Qz:nB.take nx=se:=by rw[hP,take_append_of_le_length (by omega),←mY,take_length]
 have TU:nB.map (·.o)=ops:=by
  apply List.ext_getElem?;intro i;rw[getElem?_map]
  by_cases hi:i<nB.length
  ·rw[getElem?_eq_getElem hi,Option.map_some,Sw i _ (getElem?_eq_getElem hi)]
  ·rw[getElem?_eq_none (by omega),getElem?_eq_none (by omega)];rfl
 have gN:ops.toArray.size=ops.length:=by simp
 rw[gN];refine xa (sts:=[(s'.H,s'.T,0)]) pM qP l0 mM L4 Rj Rl IM Sw (fun i=>i<nx) (nx:=nx) (fun i hi=>by omega) (fun i x hx hi=>by have hr:=yD.EU i x (by rw[←FA i hi];exact hx);exact⟨hr.o,hr.k,hr.bw,hr.gate,hr.dst,hr.skip,hr.still,hr.effect⟩) (fun i x hx hi=>?_) (fun i x hx hi=>yD.st.k i x (by rw[←FA i hi];exact hx)) (fun l=>l.getD nx false=false)
  (fun l i hi hl=>by rw[getD_set_ne false (by omega)];exact hl) (fun aA a w hI hJ fy=>by rw[fy nx PS] at hJ;cases hJ) ?_ ops.length _ a0 _ ⟨by simp[IM],fun i j hl _=>?_,⟨0,s'.H,s'.T,0,L0,fun m i ZN=>?_,zero_le _,rfl,hc.mN.drew rfl,by rw[l0];exact hc.nb,by rw[l0];exact hc.tb,fun t=>?_,?_⟩,by rw[l0];exact hc.size,hc.defers⟩ ?_ (.inr ?_)
 ·rw[yD.yP i x (by rw[←FA i hi];exact hx)]
  congr 1
  rw[hP,take_append_of_le_length (by omega)]
 rotate_left
 ·exfalso
  by_cases hi:i<ops.length<;>simp[hi] at hl
 ·constructor
  ·intro hl;exfalso
   by_cases hi:i<ops.length<;>simp[hi] at hl
  ·intro h;omega
 ·refine⟨bZ s'.e t,.inr ⟨fun j x hx hd=>?_,rfl⟩,?_⟩
  ·by_cases hj:j<ops.length<;>simp[hj]
  ·have kd:dd L0 s'.H.length s'.T w0 L0 s'.H.length s'.T { w0 with drawn:=w0.drawn+1 }:=(Ev.drew (H:=s'.H) (T:=s'.T) (L:=L0) (w:=w0) (w':={ w0 with drawn:=w0.drawn+1 }) rfl rfl rfl rfl (Nat.le_succ _)).keeps;exact(hc.env t).keep kd
 ·rw[l0];exact(Ev.drew (H:=s'.H) (T:=s'.T) (L:=L0) (w:=w0) (w':={ w0 with drawn:=w0.drawn+1 }) rfl rfl rfl rfl (Nat.le_succ _)).mono hc.nb hc.tb
 ·simp[PS]
 ·refine le_trans (List.countP_le_length) ?_;simp
 intro fuel aA a w hI hJ i hi hnr xx;obtain⟨BJ,o',HV,uz⟩:=mem_ready.1 hi;rw[getElem?_toArray] at HV;have cW:i<ops.length:=(List.getElem?_eq_some_iff.1 HV).1;have fS:∀i j,aA.getD i false=true→l9 (eP ops []) j i=true→aA.getD j false=true:=by
  have:=hI.closed;rw[TU] at this;exact this
 have jZ:∀j,l9 (eP ops []) j i=true→aA.getD j false=true:=fun j hj=>pG fS HV uz (d6 i o' HV) hj;have aaE:i=nx:=by
  rcases W2 i cW with h1|h1
  ·omega
  ·have:=jZ nx h1;rw[hJ] at this;cases this
 subst aaE;have hoo:o'=o:=by rw[HV] at hon;exact Option.some.inj hon
 subst hoo;have I8:∀j,i<j→j<ops.length→aA.getD j false=false:=fun j hj o6=>by
  rcases W2 j o6 with h1|h1
  ·omega
  ·cases hlj:aA.getD j false with
   |false=>rfl
   |true=>have:=fS j i hlj h1;rw[hJ] at this;cases this
 obtain⟨k,H,T,e,L,hk,lW,oO,cQ,iD,iq,jk,dU⟩:=hI.st;rw[mM] at hk lW;rw[l0] at iD iq dU;have tm:k=0:=by
  have:=(hk 0 i O9)
  rw[hJ] at this;have h2:¬0<k:=fun hh=>by have:=this.2 hh;cases this
  omega
 subst tm;simp at oO;obtain⟨rfl,rfl,rfl⟩:=oO;have fw:∀t∈o'.looksAt ops.toArray,∀v,VS nB aA s'.e t v→v=bZ (bt s'.e se) t:=by
  intro t ht v hv;rw[←Qz];have NO:∀(j:Nat)(z:dg),nB[j]?=some z→z.o.dst=some t→i≠j∧((j<i∧l9 (eP ops []) j i=true)∨(i<j∧l9 (eP ops []) i j=true)):=fun j z hz hd=>d2 i j o' z.o t HV (Sw j z hz) ht hd;rcases hv with⟨j,z,hz,hd,hl,rfl⟩|⟨r6,rfl⟩
  ·obtain⟨dW,h1|h1⟩:=NO j z hz hd
   ·rw[eY (nB.take i) s'.e t j z (by rw[getElem?_take,if_pos h1.1];exact hz) hd (fun i' y' yq Sf=>by
     rw[getElem?_take] at yq
     split at yq
     ·exact d1 i' j y'.o z.o t (Sw i' y' yq) (Sw j z hz) Sf hd
     ·cases yq)]
   ·have:=fS j i hl h1.2;rw[hJ] at this;cases this
  ·rw[dO (nB.take i) s'.e t (fun z hz hd=>by
    obtain⟨j,hj,e1⟩:=List.mem_iff_getElem.1 hz;simp at hj;have LK:nB[j]?=some z:=by rw[getElem?_eq_getElem (by omega),←e1];simp
    have hf:=r6 j z LK hd;obtain⟨dW,h1|h1⟩:=NO j z LK hd
    ·have:=jZ j h1.2;rw[hf] at this;cases this
    ·omega)]
 have sU:eV L s'.H.length s'.T w (mn (bt s'.e se) (o'.looksAt ops.toArray)) a:=by
  intro t;rw[e9]
  split
  ·rename_i ht;obtain⟨v,hv,hr⟩:=jk t;rw[←fw t ht v hv];exact hr
  ·exact .top _
 have It:∀z∈o'.op.operands,bQ (bt s'.e se) z=bQ (mn (bt s'.e se) (o'.looksAt ops.toArray)) z:=by
  intro z hz
  cases z with
  |tmp t=>
   have:t∈o'.looksAt ops.toArray:=by
    unfold Oper.looksAt;exact List.mem_append.2 (.inl (List.mem_filterMap.2 ⟨_,Array.mem_toList_iff.2 hz,rfl⟩))
   simp only[bQ,e9,if_pos this]
  |_=>rfl
 have pZ:Region.wanted o' (yielded ops.toArray a.tmps)=true:=by
  unfold Region.wanted;rw[Ja]
 have nu:i<aA.size:=by rw[hI.size];omega
 unfold wpOp;rw[getElem?_toArray,HV]
 dsimp only
 rw[if_pos pZ];refine .inl ?_;rw[l0] at hmx;refine Kf (Bg It hmx) cQ sU fun v H' T' cv w' L' ZX p8 oX oR=>?_;obtain⟨bB,dq,e',g1,g2,g3,g4,_,⟨x9,g9,gx⟩,_,g8⟩:=rY (nx:=i) (ops:=ops) (e0:=s'.e) (H:=s'.H) (T:=s'.T) (i0:=0) (by rw[mM];exact qP) Fw yD (by rw[mY];exact HV) rfl (by rw[Ja]) (fun hh=>by cases hh) (fun _ dW=>absurd mY dW) (fun hh=>by rw[mY,Fw] at hh;cases hh) ZX;have WW:=gx (by rw[mY];exact Fw);have hs9:=g8 (by rw[mY];exact Fw);obtain⟨sd,Pt,HL,TL,iL,k1,k2,k3,k4,k5,⟨q6,k6⟩,⟨q7,k7⟩⟩:=Bz (nx:=i) (D:=D) (ops:=ops) (e0:=s'.e) (by rw[mM];exact qP) Fw r bB dq e' g1 (by
  rw[g2,mY];have:=congrArg (fun l=>l.drop 1) sn;simpa[drop_drop,add_comm] using this) (by rw[g2,mY];omega) g3
 have Ov:∀j,j<i→sd[j]?=se[j]?:=fun j hj=>by rw[k6,g9,append_assoc,getElem?_append_left (by omega)]
 have II:sd[i]?=some x9:=by rw[k6,g9,append_assoc,getElem?_append_right (by omega),mY,sub_self];rfl
 have Ii:∀(j:Nat)(x:dg),sd[j]?=some x→ops[j]?=some x.o:=fun j x hx=>(k1.EU j x hx).o;have TV:sd.map (·.o)=ops:=by
  apply List.ext_getElem?;intro j;rw[getElem?_map]
  by_cases hj:j<sd.length
  ·rw[getElem?_eq_getElem hj,Option.map_some,Ii j _ (getElem?_eq_getElem hj)]
  ·rw[getElem?_eq_none (by omega),getElem?_eq_none (by omega)];rfl
 have Ih:Pt[1]?=some (H',T',i):=by
  rw[k7,hs9,mY];rfl
 have PI:Pt.length=1+bw.length:=by
  have h1:=k1.st.len;rw[mM] at h1;rw[h1]
  congr 2
  apply List.filter_eq_self.2;intro e he;obtain⟨m,hm,e1⟩:=List.mem_iff_getElem.1 he;have:=(d3 m e (by rw[getElem?_eq_getElem hm,e1])).1;simp;omega
 refine xa pM qP l0 mM L4 Rj Rl k2 Ii (fun j=>j≠i) (nx:=i) (fun j hj=>hj) (fun j x hx _=>k1.EU j x hx) (fun j x hx _=>k1.yP j x hx) (fun j x hx _=>k1.st.k j x hx) (fun l=>l.getD i false=true)
  (fun l j _ hl=>getD_set_true hl) (fun aA a w SE _ fy=>?_) (fun fuel aA a w SE kT j hj dW _=>?_) fuel _ _ _ ⟨by simp[hI.size,IM,k2],fun i' j' oM j0=>?_,⟨1,H',T',i,L',fun m i' pI=>?_,?_,Ih,p8,by rw[l0];exact le_trans iD oR.n,by rw[l0];exact le_trans iq oR.t,fun t=>?_,by rw[l0];exact dU.trans (oR.mono iD iq)⟩,?_,?_⟩ ?_ xx
 ·
  obtain⟨k,H,T,e,L,hk,lW,oO,cQ,iD,iq,jk,dU⟩:=SE.st;have E4:k=bw.length:=by
   rw[mM] at hk lW;rcases lt_or_ge k bw.length with bh|ku
   ·have:=(hk k _ (getElem?_eq_getElem bh)).1 (fy _ (d3 k _ (getElem?_eq_getElem bh)).1);omega
   ·omega
  have Il:Pt[k]?=some (HL,TL,iL):=by rw[←k3,List.getLast?_eq_getElem?,PI,E4];congr 1;omega
  rw[oO] at Il;obtain⟨rfl,rfl,rfl⟩:H=HL∧T=TL∧e=iL:=by injection Il with h1;injection h1 with h1 h2;injection h2 with h2 h3;exact⟨h1,h2,h3⟩
  rw[hDK] at k4;rw[l0] at dU iD iq;refine⟨_,L,k4,⟨iD,iq,cQ,by rw[SE.tmps,l0],SE.defers,fun t=>?_⟩,dU⟩;obtain⟨v,hv,hr⟩:=jk t;show aZ L H.length T w (bZ (bt s'.e sd) t) _;rcases hv with⟨j,x,hx,hd,hl,rfl⟩|⟨r6,rfl⟩
  ·rw[eY sd s'.e t j x hx hd (fun i y hy ZA=>d1 i j y.o x.o t (Ii i y hy) (Ii j x hx) ZA hd)];exact hr
  ·rw[dO sd s'.e t (fun x hx hd=>by
    obtain⟨j,hj,e1⟩:=List.mem_iff_getElem.1 hx;have h1:=r6 j x (by rw[getElem?_eq_getElem hj,e1]) hd;have h2:=fy j (by omega);rw[h1] at h2;cases h2)]
   exact hr
 ·have:j=i:=Classical.byContradiction dW;subst this;obtain⟨h1,z,hz,_⟩:=mem_ready.1 hj;rw[er (by rw[SE.size,k2];exact PS),kT] at h1
  cases h1
 ·rw[TV] at j0
  by_cases vu:i=i'
  ·subst vu;have:=jZ j' j0
   by_cases lY:i=j'
   ·subst lY;rw[hJ] at this;cases this
   ·rw[getD_set_ne false lY];exact this
  ·rw[getD_set_ne false vu] at oM;have:=fS i' j' oM j0;exact getD_set_true this
 ·rw[mM] at pI;have tY:=(List.getElem?_eq_some_iff.1 pI).1
  by_cases aaC:m=0
  ·subst aaC;rw[O9] at pI
   cases pI
   simp[nu]
  ·have dW:i≠i':=by
    rintro rfl;have h1:=List.all_eq_true.1 qP m (List.mem_range.2 tY);simp only[Bool.and_eq_true,beq_iff_eq,getD_eq_getElem?_getD,pI,Option.getD_some] at h1;omega
   rw[getD_set_ne false dW,hk m i' pI];omega
 ·rw[mM];have:=(List.getElem?_eq_some_iff.1 O9).1;omega
 ·by_cases hd:o'.dst=some t
  ·refine⟨x9.v,.inl ⟨i,x9,II,by rw[WW];exact hd,by simp[nu],rfl⟩,?_⟩;have n9:=(k1.EU i x9 II).dst t (by rw[WW];exact hd);have bh:t<a.tmps.size:=by rw[hI.tmps];exact n9
   rw[hd,j9 a t t cv bh,if_pos rfl,WW];exact oX
  ·obtain⟨v',hv,hr⟩:=jk t;refine⟨v',?_,?_⟩
   ·rcases hv with⟨j,z,hz,yC,hl,rfl⟩|⟨r6,rfl⟩
    ·have o6:j<ops.length:=by have:=(List.getElem?_eq_some_iff.1 hz).1;omega
     have sL:j<i:=by
      rcases Nat.lt_trichotomy j i with h1|h1|h1
      ·exact h1
      ·subst h1;rw[hJ] at hl;cases hl
      ·rw[I8 j h1 o6] at hl;cases hl
     exact .inl ⟨j,z,by rw[Ov j sL,←FA j sL];exact hz,yC,getD_set_true hl,rfl⟩
    ·refine .inr ⟨fun j z hz yC=>?_,rfl⟩;have o6:j<ops.length:=by have:=(List.getElem?_eq_some_iff.1 hz).1;omega
     have lY:i≠j:=by
      rintro rfl;have:=Ii i z hz;rw[HV] at this;have:=Option.some.inj this;rw[←this] at yC;exact hd yC
     rw[getD_set_ne false lY];rcases lt_or_ge j i with h1|h1
     ·exact r6 j z (by rw[FA j h1,←Ov j h1];exact hz) yC
     ·exact I8 j (by omega) o6
   ·have e1:(a.put o'.dst cv).tmps.getD t undef=a.tmps.getD t undef:=by
     cases oS:o'.dst with
     |none=>rfl
     |some d=>
      have bh:d<a.tmps.size:=by rw[hI.tmps];exact(k1.EU i x9 II).dst d (by rw[WW];exact oS)
      rw[j9 a d t cv bh,if_neg (fun e=>hd (by rw[oS,e]))]
    rw[e1];exact hr.keep oR.keeps
 ·simp[Act.put];cases o'.dst<;>simp[hI.tmps]
 ·cases o'.dst<;>exact hI.defers
 ·simp[nu]
theorem Hv {C:Cx}{id:Nat}{ops:List Oper}{Q:Exit→St→Prop}{s:St}(K:St→Prop)(nx:Nat)(bw lo:List Nat)(na:List (List Nat))(hm:C.P.follows .mixedOrders=true)(pM:jl ops bw lo na=true)(qP:jx bw=true)(LS:WN ops bw nx=true)
  (h:fU ⟨C,ops.toArray,bw,lo,na,K⟩ nx ops [] [(s.H,s.T,0)] (prune C.nv s.e)):AW C (.region id ops.toArray true) (eJ K Q) s:=
 fun L0 w0 a0 qQ=>wp_region_any hm (Dn K nx bw lo na pM qP LS h L0 w0 a0 qQ)
theorem xg {C:Cx}{id:Nat}{ops:List Oper}{Q:Exit→St→Prop}{s:St}(nx:Nat)(bw lo:List Nat)(na:List (List Nat))(hm:C.P.follows .mixedOrders=true)(pM:jl ops bw lo na=true)(qP:jx bw=true)(LS:WN ops bw nx=true)
  (h:∀K:St→Prop,(∀s,Q .normal s→K s)→fU ⟨C,ops.toArray,bw,lo,na,K⟩ nx ops [] [(s.H,s.T,0)] (prune C.nv s.e)):AW C (.region id ops.toArray true) Q s:=
 (Hv (Q:=Q) (fun s=>Q .normal s) nx bw lo na hm pM qP LS (h _ fun _ h=>h)).mono fun e s q=>by cases e<;>exact q
section
variable {D : tu} {o : Oper} {r : List Oper} {aN : List dg} {sts : List oV} {e : Env}
@[simp] theorem OO:fU D 0 (o::r) aN sts e=(match sts.getLast? with
  |some (H,T,_)=>match o.guard with
   |none=>jX D.C o e H T (fun v H' T'=>vB D (eD D r) o aN sts e true v H' T')
   |some _=>False
  |none=>False):=rfl
@[simp] theorem OP {n:Nat}:fU D (n+1) (o::r) aN sts e=(match sts.getLast? with
  |some (H,T,_)=>match o.guard with
   |none=>j5 D (fU D n r) o aN sts e H T
   |some (j,want)=>match jD D.all j e with
    |some b=>if b=some want then j5 D (fU D n r) o aN sts e H T else vB D (fU D n r) o aN sts e false (.cJ []) H T
    |none=>False
  |none=>False):=rfl
end
attribute [simp] jX
def OM (P:Program)(o:Oper)(e:Env)(H:List aG):Bool:=
 match o.op with
 |.call { callee:=.builtin .append,args,argTypes }=>
  match argTypes.toList,args.toList.map (bQ e) with
  |[t,t2],[.sl 0 [] .full,x]=>match P.underlying t with
   |some (.slice el)=>match kG H (P.cellsOf el) x with
    |some (m,_)=>decide (m=0)&&(ji P t2&&(aX P el).isSome)
    |none=>false
   |_=>false
  |_,_=>false
 |_=>false
def OL (C:Cx)(o:Oper)(e:Env)(H:List aG)(T:ay)(κ:AV→List aG→ay→Prop):Prop:=
 if OM C.P o e H=true then κ (.sl 0 [] .full) H T else
 match lB C.P C.bx o e H with
 |some _=>jX C o e H T κ
 |none=>match s8 o e with
  |some _=>jX C o e H T κ
  |none=>match fQ o e with
   |some _=>False
   |none=>match Fm C.P o e H T with
    |some (v,H',T')=>κ v H' T'
    |none=>False
def Pv (P:Program)(H:List aG)(T:ay):List dg→Prop
 |[]=>True
 |x::r=>eI P x.o x.e H T x.v H T∧Pv P H T r
def light (C:Cx)(ch:List Nat)(H:List aG)(T:ay)(κ:List dg→Env→Prop):List Oper→Nat→List dg→Env→Prop
 |[],_,R,e=>κ R e
 |o::r,i,R,e=>if ch.contains i=true then light C ch H T κ r (i+1) R e else
  match fQ o e with
  |some _=>False
  |none=>match Fm C.P o e H T with
   |some (v,H',T')=>H'=H∧T'=T∧Fq C.nt o.dst v e (light C ch H T κ r (i+1) (R++[⟨o,e,true,v,i,false⟩]))
   |none=>False
def cgo (C:Cx)(K:St→Prop)(R:List dg):List Oper→Env→List aG→ay→Prop
 |[],e,H,T=>K ⟨e,H,T⟩
 |o::r,e,H,T=>OL C o e H T (fun v H' T'=>Pv C.P H' T' R∧Fq C.nt o.dst v e (fun e'=>cgo C K R r e' H' T'))
def Uc (C:Cx)(K:St→Prop)(ch:List Nat)(ops:List Oper)(H:List aG)(T:ay)(e:Env):Prop:=
 light C ch H T (fun R e'=>cgo C K R (ch.map fun i=>ops.getD i default) e' H T) ops 0 [] e
attribute [simp] Uc light OL OM Pv
open Go.ChangeShapes Go.WideShapes
def m0 (w:World)(b:Nat):Nat:=match w.heap[b]? with
 |some (.cells c _ _)=>c.size
 |_=>0
def tV (w:World):Lay:=⟨fun _=>0,fun _=>⟨0,0,0⟩,m0 w,true⟩
theorem KY {w:World}{b o:Nat}{v:Value}(h:w.cell? ⟨b,o,none⟩=some v):o<m0 w b:=by
 unfold World.cell? at h;unfold m0;simp only at h
 cases hb:w.heap[b]? with
 |none=>rw[hb] at h;simp at h
 |some x=>
  rw[hb] at h
  cases x with
  |cells c t fr=>
   simp only at h ⊢;rcases lt_or_ge o c.size with g|g
   ·exact g
   ·rw[Array.getElem?_eq_none g] at h;simp at h
  |_=>simp at h
theorem Ts (w:World)(hg:∀x∈vW,∃m,w.cell? ⟨x.1,x.2,none⟩=some (.int .i64 m)):bN (tV w) [] [] w:=by
 refine⟨fun i b h=>by simp at h,fun i j h=>by simp at h,fun t u z h=>by simp at h,fun t u z t' u' z' h=>by simp at h,fun t u z i h=>by simp at h,fun b hb=>?_,fun x hx=>by obtain⟨m,hm⟩:=hg x hx;exact⟨KY hm,m,hm⟩⟩;show m0 w b=0;unfold m0;rw[Array.getElem?_eq_none hb]
theorem Nx {w:World}{b o:Nat}{v:Value}(h:w.cell? ⟨b,o,none⟩=some v):o<m0 w b:=by
 unfold World.cell? at h;unfold m0;simp only at h
 cases hb:w.heap[b]? with
 |none=>rw[hb] at h;simp at h
 |some x=>
  rw[hb] at h
  cases x with
  |cells c t fr=>
   simp only at h ⊢;rcases lt_or_ge o c.size with g|g
   ·exact g
   ·rw[Array.getElem?_eq_none g] at h;simp at h
  |_=>simp at h
abbrev RC (w:World)(vs:List AV)(c:List Value):Prop:=bW (tV w) 0 [] w vs c
theorem RC.one {w : World} {a : AV} {v : Value} (h : aZ (tV w) 0 [] w a v) (h1 : v.oneCell' = true) : RC w [a] [v] :=
  ⟨rfl, fun j hj => by have : j = 0 := by simp at hj; omega
                       subst this; exact h1, fun j hj bK => by
    have : j = 0 := by simp at hj; omega
    subst this; exact h⟩
theorem RC.rep {w:World}{a:AV}{v:Value}(h:RC w [a] [v]):aZ (tV w) 0 [] w a v:=h.2.2 0 (by simp) (by simp)
theorem RC.append {w:World}{a b:List AV}{c d:List Value}(h:RC w a c)(k:RC w b d):RC w (a++b) (c++d):=by
 refine⟨by simp[h.1,k.1],fun j hj=>?_,fun j hj bK=>?_⟩
 ·rw[List.getElem_append]
  split
  ·exact h.2.1 _ _
  ·exact k.2.1 _ _
 ·rw[List.getElem_append,List.getElem_append]
  by_cases bh:j<a.length
  ·rw[dif_pos bh,dif_pos (by rw[h.1];exact bh)];exact h.2.2 _ _ _
  ·rw[dif_neg bh,dif_neg (by rw[h.1];exact bh)];have:=k.2.2 (j-a.length) (by simp at hj;omega) (by simp at bK;rw[h.1] at bK;omega);simpa[h.1] using this
section
variable {H : Type} {enc : TypeId × Value → H} {P : Program} {w : World} {base fuel : Nat} {sp : Nat → Bool} {held : Bool} {t e : TypeId} {cs : List Value} {x : DataW H × List MemPlace}
theorem rp {k:IntKind}(ht:P.underlying t=some (.int k))(h:DataW.trod enc P w base sp held fuel t cs=some x):∃n,(Lit.int k n).wf=true∧RC w [.int k n] cs:=by
 obtain⟨n,rfl,_,hw⟩:=DataW.trod_int ht h;exact⟨n,hw,RC.one (.int k n) rfl⟩
theorem Ql (ht:P.underlying t=some .string)(h:DataW.trod enc P w base sp held fuel t cs=some x):∃s:List UInt8,s.length≤maxLen∧RC w [.str s] cs:=by
 obtain⟨s,rfl,_,hs⟩:=DataW.trod_string ht h;obtain⟨⟨l⟩⟩:=s;refine⟨l,by simpa[ByteArray.size] using hs,RC.one ?_ rfl⟩;exact aZ.str l
theorem Kx {α:Type}{c:Nat}(es:List (List α))(hc:∀a∈es,a.length=c)(i j:Nat)(hi:i<es.length)(hj:j<c):es.flatten[i*c+j]?=(es[i]'hi)[j]?:=by
 induction es generalizing i with
 |nil=>simp at hi
 |cons a r ih=>
  have ha:=hc a (by simp)
  cases i with
  |zero=>simp only[Nat.zero_mul,zero_add,List.flatten_cons,List.getElem_cons_zero];rw[getElem?_append_left (by omega)]
  |succ i=>
   simp only[List.flatten_cons,List.getElem_cons_succ];rw[getElem?_append_right (by rw[ha,succ_mul];omega)];have:=ih (fun b hb=>hc b (by simp[hb])) i (by simpa using hi);rw[←this]
   congr 1
   rw[ha,succ_mul];omega
theorem qA {α:Type}{c:Nat}(es:List (List α))(hc:∀a∈es,a.length=c):es.flatten.length=es.length*c:=by
 induction es with
 |nil=>simp
 |cons a r ih=>simp[hc a (by simp),ih (fun b hb=>hc b (by simp[hb])),succ_mul];omega
theorem RC.flatten {c:Nat}:∀(es:List (List AV)) (Ob:List (List Value)),es.length=Ob.length→(∀i (h:i<es.length) (h':i<Ob.length),RC w (es[i]'h) (Ob[i]'h'))→RC w es.flatten Ob.flatten:=by
 intro es
 induction es with
 |nil=>intro Ob hl _;cases Ob with
  |nil=>exact⟨rfl,fun _ h=>by simp at h,fun _ h=>by simp at h⟩
  |cons _ _=>simp at hl
 |cons a r ih=>
  intro Ob hl h
  cases Ob with
  |nil=>simp at hl
  |cons b s=>
   simp only[List.flatten_cons];refine RC.append (h 0 (by simp) (by simp)) (ih s (by simpa using hl) fun i hi et=>?_);exact h (i+1) (by simpa using hi) (by simpa using et)
theorem zJ {G:List AV→Prop}(ht:P.underlying t=some (.slice e))(hp:0<P.cellsOf e)(he:∀n c y,DataW.trod enc P w base sp held n e c=some y→∃a,G a∧RC w a c)
  (h:DataW.trod enc P w base sp held fuel t cs=some x):∃es:List (List AV),(∀a∈es,G a)∧es.length≤maxLen∧RC w [.sl es.length es.flatten .none] cs:=by
 rcases DataW.trod_slice ht h with⟨rfl,_⟩|⟨a,len,cap,elems,rest,n,_,rfl,_,hb,hlc,hm,mZ,BZ,_,_⟩
 ·exact⟨[],fun a h=>by simp at h,zero_le _,RC.one (.vR _ _ _ trivial) rfl⟩
 ·have key:∀i,i<len→∃(c:List Value) (av:List AV),G av∧RC w av c∧c.length=P.cellsOf e∧∀j,j<P.cellsOf e→w.cell? ((a.add (i*P.cellsOf e)).add j)=c[j]?:=by
   intro i hi;have h1:=BZ i hi;rw[getElem?_eq_getElem (by omega)] at h1;obtain⟨c,h2,h3⟩:=Option.bind_eq_some_iff.1 h1;obtain⟨_,h4,h5⟩:=World.cells?_some h2;obtain⟨av,h6,h7⟩:=he _ _ _ h3;exact⟨c,av,h6,h7,h4,h5⟩
  rcases Nat.eq_zero_or_pos len with h0|h0
  ·subst h0;exact⟨[],fun a h=>by simp at h,zero_le _,RC.one (.vR _ _ _ trivial) rfl⟩
  have Ou:a.spot=none:=by
   obtain⟨c,_,_,_,h4,h5⟩:=key 0 h0;have:=h5 0 hp;rw[getElem?_eq_getElem (by omega)] at this;have h6:=World.cell?_spot (a:=(a.add (0*P.cellsOf e)).add 0) this;simpa[Addr.add] using h6
  obtain⟨ab,ao,as⟩:=a;simp only at Ou;subst Ou
  let C:Nat→List Value:=fun i=>if h:i<len then Classical.choose (key i h) else []
  let A:Nat→List AV:=fun i=>if h:i<len then Classical.choose (Classical.choose_spec (key i h)) else []
  have SI:∀i,i<len→G (A i)∧RC w (A i) (C i)∧(C i).length=P.cellsOf e∧∀j,j<P.cellsOf e→w.cell? ⟨ab,ao+(i*P.cellsOf e+j),none⟩=(C i)[j]?:=by
   intro i hi;have:=Classical.choose_spec (Classical.choose_spec (key i hi));simp only[C,A,dif_pos hi];refine⟨this.1,this.2.1,this.2.2.1,fun j hj=>?_⟩;rw[←this.2.2.2 j hj];rw[Addr.add_add];unfold Addr.add
   split
   ·rename_i h0;rw[h0];rfl
   ·rfl
  refine⟨(List.range len).map A,fun av Z3=>?_,?_,?_⟩
  ·obtain⟨i,hi,rfl⟩:=List.mem_map.1 Z3;exact(SI i (List.mem_range.1 hi)).1
  ·simp;exact le_trans hlc hm
  ·have hA:∀av∈(List.range len).map A,av.length=P.cellsOf e:=by
    intro av Z3;obtain⟨i,hi,rfl⟩:=List.mem_map.1 Z3;obtain⟨_,h1,h2,_⟩:=SI i (List.mem_range.1 hi);rw[←h1.1];exact h2
   have hC:∀c∈(List.range len).map C,c.length=P.cellsOf e:=by
    intro c hc;obtain⟨i,hi,rfl⟩:=List.mem_map.1 hc;exact(SI i (List.mem_range.1 hi)).2.2.1
   have ZP:=qA _ hA;have hlC:=qA _ hC;simp only[List.length_map,List.length_range] at ZP hlC;have jY:∀j,j<len*P.cellsOf e→w.cell? ⟨ab,ao+j,none⟩=((List.range len).map C).flatten[j]?:=by
    intro j hj;have hi:j / P.cellsOf e<len:=by rw[Nat.div_lt_iff_lt_mul hp];exact hj
    have hr:j % P.cellsOf e<P.cellsOf e:=Nat.mod_lt _ hp;have e1:j / P.cellsOf e*P.cellsOf e+j % P.cellsOf e=j:=by rw[Nat.mul_comm];exact Nat.div_add_mod _ _
    have h1:=(SI _ hi).2.2.2 _ hr;have h2:=Kx _ hC (j / P.cellsOf e) (j % P.cellsOf e) (by simpa using hi) hr;rw[e1] at h1 h2;rw[h1,h2];simp
   refine RC.one ?_ rfl;have hlen:((List.range len).map A).length=len:=by simp
   have dF:RC w ((List.range len).map A).flatten ((List.range len).map C).flatten:=RC.flatten (c:=0) _ _ (by simp) fun i hi et=>by
    simp only[List.getElem_map,List.getElem_range];exact(SI i (by simpa using hi)).2.1
   rw[hlen];refine aZ.jW hlc ?_ dF (fun j hj=>jY j (by rw[ZP] at hj;exact hj)) trivial;rw[ZP];have kE:0<len*P.cellsOf e:=Nat.mul_pos h0 hp;have cT:=jY (len*P.cellsOf e-1) (by omega);rw[getElem?_eq_getElem (by rw[hlC];omega)] at cT;have:=Nx cT;show ao+len*P.cellsOf e≤m0 w ab;omega
theorem ym {k:IntKind}(es:List (List AV))(h:∀a∈es,∃n,(Lit.int k n).wf=true∧a=[.int k n]):∃zs:List Int,zs.length=es.length∧es.flatten=zs.map (.int k)∧∀z∈zs,(Lit.int k z).wf=true:=by
 induction es with
 |nil=>exact⟨[],rfl,rfl,fun z h=>by simp at h⟩
 |cons a r ih=>
  obtain⟨zs,h1,h2,h3⟩:=ih (fun b hb=>h b (by simp[hb]));obtain⟨n,hn,rfl⟩:=h a (by simp);exact⟨n::zs,by simp[h1],by simp[h2],fun z hz=>(List.mem_cons.1 hz).elim (fun e=>by rw[e];exact hn) (h3 z)⟩
theorem Ei {k:IntKind}(ht:P.underlying t=some (.slice e))(he:P.underlying e=some (.int k))(hp:0<P.cellsOf e)(h:DataW.trod enc P w base sp held fuel t cs=some x) :
  ∃zs:List Int,(∀z∈zs,(Lit.int k z).wf=true)∧zs.length≤maxLen∧RC w [.sl zs.length (zs.map (.int k)) .none] cs:=by
 obtain⟨es,h1,h2,h3⟩:=zJ (G:=fun a=>∃n,(Lit.int k n).wf=true∧a=[.int k n]) ht hp (fun n c y hy=>by
  obtain⟨m,g1,g2⟩:=rp he hy;exact⟨_,⟨m,g1,rfl⟩,g2⟩) h
 obtain⟨zs,g1,g2,g3⟩:=ym es h1;rw[g2,←g1] at h3;exact⟨zs,g3,by omega,h3⟩
theorem Ej (ht:P.underlying t=some (.slice e))(he:P.underlying e=some (.int .i64))(hp:0<P.cellsOf e)(h:DataW.trod enc P w base sp held fuel t cs=some x) :
  ∃zs:List Int,(∀z∈zs,-9223372036854775808≤z∧z≤9223372036854775807)∧zs.length≤maxLen∧RC w [.sl zs.length (ints zs) .none] cs:=by
 obtain⟨zs,h1,h2,h3⟩:=Ei ht he hp h;exact⟨zs,fun z hz=>by simpa[Lit.wf,IntKind.min,IntKind.max,IntKind.signed,IntKind.bits] using h1 z hz,h2,h3⟩
theorem JM (ht:P.underlying t=some (.slice e))(he:P.underlying e=some (.int .u8))(hp:0<P.cellsOf e)(h:DataW.trod enc P w base sp held fuel t cs=some x) :
  ∃zs:List UInt8,zs.length≤maxLen∧RC w [.sl zs.length (bu zs) .none] cs:=by
 obtain⟨zs,h1,h2,h3⟩:=Ei ht he hp h;refine⟨zs.map fun z=>UInt8.ofNat z.toNat,by simpa using h2,?_⟩;have e1:bu (zs.map fun z=>UInt8.ofNat z.toNat)=zs.map (.int .u8):=by
  simp only[bu,List.map_map];apply List.map_congr_left;intro z hz;have:=h1 z hz;simp[Lit.wf,IntKind.min,IntKind.max,IntKind.signed,IntKind.bits] at this;simp only[Function.comp]
  congr 1
  simp[UInt8.toNat_ofNat'];omega
 rw[e1];simpa using h3
end
section
variable {H : Type} {enc : TypeId × Value → H} {P : Program} {w : World} {base fuel : Nat} {sp : Nat → Bool} {held : Bool} {t : TypeId} {cs : List Value} {x : DataW H × List MemPlace} {fs : Array Field}
theorem lN (ht:P.underlying t=some (.struct fs))(h:DataW.trod enc P w base sp held fuel t cs=some x):cs.length=P.cellsOf t∧
  ∀(i:Nat)(f:Field),fs[i]?=some f→∃n y,DataW.trod enc P w base sp held n f.type ((cs.drop f.offset).take (P.cellsOf f.type))=some y:=by
 obtain⟨xs,n,_,_,hl,hx,hf⟩:=DataW.trod_struct ht h;refine⟨hl,fun i f hi=>?_⟩;have bh:i<xs.length:=by rw[hx];exact(Array.getElem?_eq_some_iff.1 hi).1
 exact⟨n,xs[i],by rw[hf i f hi,getElem?_eq_getElem bh]⟩
end
theorem al.law {P:Program}{f:FuncId}{Xq:List AV}{w:World}{args:Array Value}(h:al P f Xq [] [] (fun r _ _=>r=.bool true))(hg:∀x∈vW,∃m,w.cell? ⟨x.1,x.2,none⟩=some (.int .i64 m))(hs:args.size=Xq.length)
  (hr:∀(j:Nat)(h:j<Xq.length)(h':j<args.size),aZ (tV w) 0 [] w (Xq[j]'h) (args[j]'h')) :
  Calls P f args w fun e w'=>e=.returned (.bool true)∧Go.RowKit.Below w.heap.size w w':=by
 refine(h.2 (tV w) w args (Ts w hg) hs hr).mono ?_;rintro e w' ⟨r,H',T',L',cv,rfl,rfl,_,dF,dU⟩
 cases dF with
 |bool _=>exact⟨rfl,dU.os,dU.tape,dU.output,dU.size,fun k hk=>dU.frame k hk (fun hw=>by
   rcases hw with⟨i,hi,_⟩|⟨t,u,z,ht,_⟩
   ·exact Nat.not_lt_zero _ hi
   ·simp at ht)⟩
section
open Go.RowKit
variable {H : Type} {enc : TypeId × Value → H} {P : Program}
theorem vO {f:Func}{s:ChangeSpec}{apart fresh handsOn again:Bool}{W W':World}{args:Array Value}{v:Value}{ds gs:List (DataW H)}{before pa pv:List MemPlace}
  (hW:DataW.Whole enc P f.params.toList s.vars apart W args.toList ds gs before)
  (gf:∀(b:Nat)(sp:Nat→Bool)(hd:Bool),DataW.TrodAll enc P W' b sp hd f.resultTypes.toList (v.resultList f.resultTypes.size) (s.fn H (ds++gs)).results [])
  (fg:∀sp:Nat→Bool,(∀p∈before,sp p.block=true)→DataW.TrodAll enc P W' 0 sp true f.params.toList args.toList (s.fn H (ds++gs)).args pa)
  (Ot:∀sp:Nat→Bool,(∀p∈before,sp p.block=true)→DataW.TrodVars enc P W' sp s.vars (s.fn H (ds++gs)).vars pv)
  (qN:before=pa++pv) (hb:Go.RowKit.Below W.heap.size W W')
  (fC:∀(j:Nat)(t:TypeId)(r:Value),f.resultTypes[j]?=some t→(v.resultList f.resultTypes.size)[j]?=some r→Value.okWide P W' .any 0 t r) :
  s.post enc P f apart fresh handsOn again W args v W':=by
 have bh:∀p∈before,p.block<W.heap.size:=fun p hp=>hW.lt p hp;have hold:∀p∈before,(fun b=>decide (b<W.heap.size)) p.block=true:=fun p hp=>by simpa using bh p hp
 refine⟨ds,gs,before,[],pa,pv,hW,gf _ _ _,fg _ hold,Ot _ hold,World.keptBut_mono (fun p hp=>⟨hp,?_⟩) (hb.frame (·∈before)),fun _=>?_⟩
 ·rw[qN,List.mem_append] at hp;exact Or.inr hp
 ·obtain⟨_,_,_,_,_,hz,hn⟩:=hW;refine⟨fC,_,_,([]++pa)++pv,⟨[]++pa,pv,trodAll_append (fg _ (fun _ _=>rfl)) (gf _ _ _),Ot _ (fun _ _=>rfl),rfl,?_,?_⟩,?_⟩
  ·intro b off hp;have Ls:MemPlace.cell b off∈before:=by rw[qN];simpa using hp
   rw[hb.frozen (bh _ Ls)];exact hz b off Ls
  ·intro ha;have:=hn ha;rw[qN] at this;simpa using this
  ·intro p hp _;rw[qN];simpa using hp
theorem vL (hl:laidOutB P=true){W W':World}(hb:Go.RowKit.Below W.heap.size W W'){sp:Nat→Bool}:∀{ts:List TypeId} {vs:List Value} {ds:List (DataW H)} {ps:List MemPlace},DataW.TrodAll enc P W 0 (fun _=>true) true ts vs ds ps→
  (∀t∈ts,P.readableRec t=true∧t<P.types.size)→(∀x∈ps,x.block<W.heap.size)→(∀x∈ps,sp x.block=true)→DataW.TrodAll enc P W' 0 sp true ts vs ds ps:=by
 intro ts
 induction ts with
 |nil=>
  intro vs ds ps h _ _ _;obtain⟨rfl,rfl,rfl⟩:=trodAll_nil h;exact trodAll_mk0
 |cons t ts ih=>
  intro vs ds ps h ht bh EY;obtain⟨v0,vs0,d0,ds0,p0,q0,rfl,rfl,rfl,h0,r0⟩:=trodAll_cons h;have h1:=ht t (by simp);exact trodAll_cons_mk (WideElems.Trod_stays hl h1.1 h1.2 h0 (fun x hx=>hb.same (bh x (by simp[hx]))) (fun x hx=>EY x (by simp[hx])))
   (ih r0 (fun t' h'=>ht t' (by simp[h'])) (fun x hx=>bh x (by simp[hx])) (fun x hx=>EY x (by simp[hx])))
theorem GW {f:Func}{s:ChangeSpec}{apart fresh handsOn again:Bool}{W W':World}{args:Array Value}{ds gs:List (DataW H)}{before:List MemPlace}{tb:TypeId}
  (hW:DataW.Whole enc P f.params.toList s.vars apart W args.toList ds gs before) (hv:s.vars=[]) (Sa:s.fn H ds={ results:=[.lit (.bool true)],args:=ds }) (hr:f.resultTypes=#[tb]) (iq:P.underlying tb=some .bool)
  (hl:laidOutB P=true) (BS:∀t∈f.params.toList,P.readableRec t=true∧t<P.types.size) (hb:Go.RowKit.Below W.heap.size W W') :
  s.post enc P f apart fresh handsOn again W args (.bool true) W':=by
 have Sr:=hW;obtain⟨p,q,hA,hV,rfl,ZY,BK⟩:=hW;rw[hv] at hV;obtain⟨rfl,rfl⟩:=trodVars_none hV;simp only[append_nil] at Sr;have bh:∀x∈p,x.block<W.heap.size:=fun x hx=>Sr.lt x hx;refine vO (pa:=p) (pv:=[]) Sr (fun b sp hd=>?_) (fun sp EY=>?_) (fun sp EY=>?_) (by simp) hb (ok_one hr rfl (okWide_bool_mk iq _))
 ·rw[append_nil,Sa,hr];exact trodAll_cons_mk (shut_bool iq _) trodAll_mk0
 ·rw[append_nil,Sa];exact vL hl hb hA BS bh EY
 ·rw[append_nil,Sa,hv];rfl
end
section
variable {H : Type} {enc : TypeId × Value → H} {P : Program} {w : World} {b0 base : Nat} {sp : Nat → Bool} {held : Bool} {t e : TypeId} {v : Value} {d : DataW H} {ps : List MemPlace} {r : Reach}
theorem La (ht:P.underlying t=some (.slice e))(he:P.underlying e=some (.int .u8))(hp:0<P.cellsOf e)(kY:Value.okWide P w r b0 t v)(h:DataW.Trod enc P w base sp held t v d ps) :
  ∃s:List UInt8,s.length≤maxLen∧aZ (tV w) 0 [] w (.sl s.length (bu s) .none) v:=by
 obtain⟨a,l,c,rfl⟩:=okWide_slice ht kY;obtain⟨fuel,hf⟩:=h;obtain⟨m,h1,h2⟩:=JM ht he hp hf;exact⟨m,h1,h2.rep⟩
end
section
variable {H : List aG} {T : ay} {L : Lay} {w : World}
theorem bN.aah {n z:Nat}{cs:List AV}(h:bN L (H++[.cells [.sl n cs .full]]) T w)(hz:0<z) :
  bN (L.aU T.length ⟨0,0,0⟩) (H++[.cells [.sl n cs (.own T.length)]]) (T++[(cs.length,z)]) w:=by
 have h1:=h.own cs.length hz;have el:(H++[aG.cells [.sl n cs .full]]).length=(H++[aG.cells [.sl n cs (.own T.length)]]).length:=by simp
 refine⟨fun i b hi=>?_,fun i j hi hj=>h1.inj i j (by rw[el];exact hi) (by rw[el];exact hj),h1.tok,h1.mP,fun t u z' i ht hu hi=>h1.je t u z' i ht hu (by rw[el];exact hi),h1.mz,h1.gl⟩;rw[←el];rcases lt_or_ge i H.length with hl|hl
 ·rw[getElem?_append_left hl] at hi;exact h1.box i b (by rw[getElem?_append_left hl];exact hi)
 ·have et:=(List.getElem?_eq_some_iff.1 hi).1;have:i=H.length:=by simp at et;omega
  subst this;rw[tG] at hi;simp at hi;subst hi;obtain⟨c,t,fr,g1,g2,g3,vw,g4,g5⟩:=h.box H.length (.cells [.sl n cs .full]) (by simp);refine⟨c,t,fr,g1,g2,by simpa using g3,vw,fun j hj bK=>?_,g5⟩;have:j=0:=by simp at hj;omega
  subst this;exact(g4 0 (by simp) bK).own
theorem EL {C:Cx}{c:Code}{Q:Exit→St→Prop}{s:St}(z:Nat)(H:List aG)(n:Nat)(cs:List AV)(hz:0<z)(hH:s.H=H++[.cells [.sl n cs .full]])
  (h:AW C c Q ⟨s.e,H++[.cells [.sl n cs (.own s.T.length)]],s.T++[(cs.length,z)]⟩):AW C c Q s:=by
 obtain⟨e,H0,T⟩:=s;simp only at hH h;subst hH;intro L w a hc;have el:(H++[aG.cells [.sl n cs .full]]).length=(H++[aG.cells [.sl n cs (.own T.length)]]).length:=by simp
 have ev:=Ev.own (H:=H++[.cells [.sl n cs .full]]) (T:=T) (L:=L) (w:=w) cs.length z;have ev':=ev.mono hc.nb hc.tb;have ek:dd L (H++[aG.cells [.sl n cs .full]]).length T w (L.aU T.length ⟨0,0,0⟩) (H++[aG.cells [.sl n cs (.own T.length)]]).length (T++[(cs.length,z)]) w:=by
  rw[←el];exact ev.keeps
 refine wp_mono (h (L.aU T.length ⟨0,0,0⟩) w a ⟨by rw[←el];exact hc.nb,by simp;have:=hc.tb;simp at this;omega,hc.mN.aah hz,hc.size,hc.defers,fun t=>(hc.env t).keep ek⟩) fun _ _ _ k=>
  dc.step (s1:=⟨e,H++[.cells [.sl n cs (.own T.length)]],T++[(cs.length,z)]⟩) (by rw[←el];exact ev') k
theorem bN.Qc {vs:List AV}(h:bN L (H++[.cells vs]) T w):bN L (H++[.cells (vs.map cC)]) T w:=by
 have el:(H++[aG.cells vs]).length=(H++[aG.cells (vs.map cC)]).length:=by simp
 refine⟨fun i b hi=>?_,fun i j hi hj=>h.inj i j (by rw[el];exact hi) (by rw[el];exact hj),h.tok,h.mP,fun t u z' i ht hu hi=>h.je t u z' i ht hu (by rw[el];exact hi),h.mz,h.gl⟩;rw[←el];rcases lt_or_ge i H.length with hl|hl
 ·rw[getElem?_append_left hl] at hi;exact h.box i b (by rw[getElem?_append_left hl];exact hi)
 ·have et:=(List.getElem?_eq_some_iff.1 hi).1;have:i=H.length:=by simp at et;omega
  subst this;rw[tG] at hi;simp at hi;subst hi;obtain⟨c,t,fr,g1,g2,g3,vw,g4,g5⟩:=h.box H.length (.cells vs) (by simp);refine⟨c,t,fr,g1,g2,by simpa using g3,vw,fun j hj bK=>?_,g5⟩;have:=(g4 j (by simpa using hj) bK).cC;simpa using this
theorem oH {C:Cx}{c:Code}{Q:Exit→St→Prop}{s:St}(H:List aG)(vs:List AV)(hH:s.H=H++[.cells vs])
  (h:AW C c Q ⟨s.e,H++[.cells (vs.map cC)],s.T⟩):AW C c Q s:=by
 obtain⟨e,H0,T⟩:=s;simp only at hH h;subst hH;intro L w a hc;have el:(H++[aG.cells vs]).length=(H++[aG.cells (vs.map cC)]).length:=by simp
 have ev:=(Ev.refl (L:=L) (N:=(H++[aG.cells vs]).length) (T:=T) (w:=w) (le_refl _) (le_refl _)).mono hc.nb hc.tb;refine wp_mono (h L w a ⟨by rw[←el];exact hc.nb,hc.tb,hc.mN.Qc,hc.size,hc.defers,fun t=>by rw[←el];exact hc.env t⟩) fun _ _ _ k=>
  dc.step (s1:=⟨e,H++[.cells (vs.map cC)],T⟩) (by rw[←el];exact ev) k
end
section
variable {H : List aG} {T : ay} {L : Lay} {w : World}
theorem bN.aag {n z k:Nat}{cs vs:List AV}(h:bN L (H++[.cells vs]) T w)(hk:vs[k]?=some (.sl n cs .full))(hz:0<z) :
  bN (L.aU T.length ⟨0,0,0⟩) (H++[.cells (vs.set k (.sl n cs (.own T.length)))]) (T++[(cs.length,z)]) w:=by
 have h1:=h.own cs.length hz;have ev:=Ev.own (H:=H++[.cells vs]) (T:=T) (L:=L) (w:=w) cs.length z;have el:(H++[aG.cells vs]).length=(H++[aG.cells (vs.set k (.sl n cs (.own T.length)))]).length:=by simp
 refine⟨fun i b hi=>?_,fun i j hi hj=>h1.inj i j (by rw[el];exact hi) (by rw[el];exact hj),h1.tok,h1.mP,fun t u z' i ht hu hi=>h1.je t u z' i ht hu (by rw[el];exact hi),h1.mz,h1.gl⟩;rw[←el];rcases lt_or_ge i H.length with hl|hl
 ·rw[getElem?_append_left hl] at hi;exact h1.box i b (by rw[getElem?_append_left hl];exact hi)
 ·have et:=(List.getElem?_eq_some_iff.1 hi).1;have:i=H.length:=by simp at et;omega
  subst this;rw[tG] at hi;simp at hi;subst hi;obtain⟨c,t,fr,g1,g2,g3,vw,g4,g5⟩:=h.box H.length (.cells vs) (by simp);refine⟨c,t,fr,g1,g2,by simpa using g3,vw,fun j hj bK=>?_,g5⟩
  by_cases e:k=j
  ·subst e;have vx:k<vs.length:=by simpa using hj
   rw[getElem?_eq_getElem vx] at hk;have:=g4 k vx bK;rw[Option.some.inj hk] at this;rw[List.getElem_set_self];exact this.own
  ·rw[List.getElem_set_ne e];exact(g4 j (by simpa using hj) bK).keep ev.keeps
theorem fP {C:Cx}{c:Code}{Q:Exit→St→Prop}{s:St}(z k:Nat)(H:List aG)(vs:List AV)(n:Nat)(cs:List AV)(hz:0<z)(hk:vs[k]?=some (.sl n cs .full))(hH:s.H=H++[.cells vs])
  (h:AW C c Q ⟨s.e,H++[.cells (vs.set k (.sl n cs (.own s.T.length)))],s.T++[(cs.length,z)]⟩):AW C c Q s:=by
 obtain⟨e,H0,T⟩:=s;simp only at hH h;subst hH;intro L w a hc;have el:(H++[aG.cells vs]).length=(H++[aG.cells (vs.set k (.sl n cs (.own T.length)))]).length:=by simp
 have ev:=Ev.own (H:=H++[.cells vs]) (T:=T) (L:=L) (w:=w) cs.length z;have ev':=ev.mono hc.nb hc.tb;have ek:dd L (H++[aG.cells vs]).length T w (L.aU T.length ⟨0,0,0⟩) (H++[aG.cells (vs.set k (.sl n cs (.own T.length)))]).length (T++[(cs.length,z)]) w:=by
  rw[←el];exact ev.keeps
 refine wp_mono (h (L.aU T.length ⟨0,0,0⟩) w a ⟨by rw[←el];exact hc.nb,by simp;have:=hc.tb;simp at this;omega,hc.mN.aag hk hz,hc.size,hc.defers,fun t=>(hc.env t).keep ek⟩) fun _ _ _ kk=>
  dc.step (s1:=⟨e,H++[.cells (vs.set k (.sl n cs (.own T.length)))],T++[(cs.length,z)]⟩) (by rw[←el];exact ev') kk
end
end Go.Am
