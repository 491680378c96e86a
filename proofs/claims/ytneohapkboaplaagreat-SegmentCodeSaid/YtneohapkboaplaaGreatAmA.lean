/- The abstract machine: abstract values, their representation in a world of the model, and the evolution of worlds. Rules for the structured code over abstract states: sequence, condition, block, loop, region, region that draws its order; contracts of calls. Steps of the world that keep what is represented: a new row, a new box, a new token, a store into a box. Steps of the world that keep what is represented, continued: a store into a box; a row that grows in place or anew. Operations that neither read nor write memory, over abstract values, and that they are what the model does. Operations that read memory or make new variables, over abstract values, and that they are what the model does. Indexing, slicing, fields, conversions and making of values, over abstract values; they are what the model does. Conversions, composite values, new slices, and append, over abstract values; they are what the model does. Composite values, make, append, iterators over strings; they are what the model does. make, append, iterators over strings; they are what the model does. Maps over abstract values: their keys, and the operations on them; they are what the model does.
  Conditions: as the theorems say. -/
import Derived.WalkKit
import Derived.Orders
import Derived.ChangeKeysEq
import Derived.Maps.RangeRun
import Derived.Maps.Keyed
set_option linter.all false
open Nat (le_refl lt_or_ge le_trans lt_of_lt_of_le le_succ add_mul lt_of_le_of_lt mod_lt add_assoc add_zero)
open List (getElem?_set_self getElem?_set_ne getElem_mem getElem?_append_left eq_nil_of_length_eq_zero getElem_map getElem_cons_zero getElem_set map_cons getElem?_take ext_getElem getElem_toArray length_set mapM_cons all_cons)
namespace Go.Am
open Go
inductive Tag where
 |none
 |full
 |own (t:Nat)
inductive KC where
 |int (k:IntKind) (n:Int)
 |str (s:List UInt8)
 |bool (b:Bool)
 deriving DecidableEq
inductive cY where
 |one (c:KC)
 |agg (cs:List KC)
 deriving DecidableEq
def KC.val:KC→Value
 |.int k n=>.int k n
 |.str s=>.string ⟨s.toArray⟩
 |.bool b=>.bool b
def cY.val:cY→Value
 |.one c=>c.val
 |.agg cs=>.agg (cs.map KC.val).toArray
inductive AV where
 |top
 |bool (b:Bool)
 |int (k:IntKind) (n:Int)
 |str (s:List UInt8)
 |eO
 |ptr (i o:Nat)
 |dI (cs:List AV) (o:Nat)
 |sl (n:Nat) (cs:List AV) (tg:Tag)
 |cO (i o n:Nat)
 |dP (i n cap:Nat)
 |aV (i:Nat)
 |fn (f:FuncId) (first eK:List AV)
 |gw
 |kV
 |xl
 |agg (cs:List AV)
 |cJ (cs:List AV)
abbrev ay:=List (Nat×Nat)
abbrev Env:=List (Nat×AV)
inductive aG where
 |cells (vs:List AV)
 |iter (s:List UInt8) (pos:Nat)
 |map (es:List (cY×AV))
 |kq (m n:Nat) (seen:List Nat)
 |FC (g:Nat) (p:Obj→Prop)
@[simp] def aG.xq:aG→List AV
 |.cells vs=>vs
 |.map es=>es.map (·.2)
 |.iter _ _=>[]
 |.kq _ _ _=>[]
 |.FC _ _=>[]
structure Tk where
 b:Nat
 o:Nat
 c:Nat
structure Lay where
 bL:Nat→Nat
 dD:Nat→Tk
 m:Nat→Nat
 dr:Bool
def jr (L:Lay)(T:ay)(tg:Tag)(n u:Nat)(a:Option Addr)(cap:Nat):Prop:=
 match tg with
 |.none=>True
 |.full=>cap=n
 |.own t=>∃u0 z,T[t]?=some (u0,z)∧u≤u0∧(u0=u→cap=n∨(a=some ⟨(L.dD t).b,(L.dD t).o,none⟩∧cap=(L.dD t).c))
inductive aZ (L:Lay) (N:Nat) (T:ay) (w:World):AV→Value→Prop
 |top (v:Value):aZ L N T w .top v
 |bool (b:Bool):aZ L N T w (.bool b) (.bool b)
 |int (k:IntKind) (n:Int):aZ L N T w (.int k n) (.int k n)
 |str (s:List UInt8):aZ L N T w (.str s) (.string ⟨s.toArray⟩)
 |eO:aZ L N T w .eO (.pointer none)
 |ptr (i o:Nat) (h:i<N):aZ L N T w (.ptr i o) (.pointer (some ⟨L.bL i,o,none⟩))
 |dI (cs:List AV) (o b base:Nat) (f:Nat→Value) (hm:base+cs.length≤L.m b)
   (hc:∀j,j<cs.length→w.cell? ⟨b,base+j,none⟩=some (f j)) (h1:∀j,j<cs.length→(f j).oneCell'=true)
   (hr:∀(j:Nat)(h:j<cs.length),aZ L N T w (cs[j]'h) (f j)) :
   aZ L N T w (.dI cs o) (.pointer (some ⟨b,base+o,none⟩))
 |vR (tg:Tag) (a:Option Addr) (cap:Nat) (ht:jr L T tg 0 0 a cap):aZ L N T w (.sl 0 [] tg) (.slice a 0 cap)
 |Lg (n:Nat) (cs:List AV) (tg:Tag) (b base cap:Nat) (f:Nat→Value) (bV:n≤cap) (hm:base+cs.length≤L.m b)
   (hc:∀j,j<cs.length→w.cell? ⟨b,base+j,none⟩=some (f j)) (h1:∀j,j<cs.length→(f j).oneCell'=true)
   (hr:∀(j:Nat)(h:j<cs.length),aZ L N T w (cs[j]'h) (f j))
   (ht:jr L T tg n cs.length (some ⟨b,base,none⟩) cap) :
   aZ L N T w (.sl n cs tg) (.slice (some ⟨b,base,none⟩) n cap)
 |cO (i o n cap:Nat) (h:i<N) (bV:n≤cap):aZ L N T w (.cO i o n) (.slice (some ⟨L.bL i,o,none⟩) n cap)
 |dP (i n cap:Nat) (h:i<N) (bV:n≤cap):aZ L N T w (.dP i n cap) (.slice (some ⟨L.bL i,0,none⟩) n cap)
 |aV (i:Nat) (h:i<N):aZ L N T w (.aV i) (.map (some (L.bL i)))
 |fn (f:FuncId) (first eK:List AV) (fv cv:Array Value) (h1:fv.size=first.length) (h2:cv.size=eK.length)
   (HU:∀(j:Nat)(h:j<first.length)(h':j<fv.size),aZ L N T w (first[j]'h) (fv[j]'h'))
   (o4:∀(j:Nat)(h:j<eK.length)(h':j<cv.size),aZ L N T w (eK[j]'h) (cv[j]'h')) :
   aZ L N T w (.fn f first eK) (.func (.func f) fv cv)
 |gw:aZ L N T w .gw .nilFunc
 |kV:aZ L N T w .kV .nilIface
 |xl (t:TypeId) (v:Value):aZ L N T w .xl (.iface t v)
 |agg (cs:List AV) (cv:Array Value) (h1:cv.size=cs.length) (h2:∀(j:Nat)(h':j<cv.size),(cv[j]'h').oneCell'=true)
   (hr:∀(j:Nat)(h:j<cs.length)(h':j<cv.size),aZ L N T w (cs[j]'h) (cv[j]'h')):aZ L N T w (.agg cs) (.agg cv)
 |cJ (cs:List AV) (cv:Array Value) (h1:cv.size=cs.length)
   (hr:∀(j:Nat)(h:j<cs.length)(h':j<cv.size),aZ L N T w (cs[j]'h) (cv[j]'h')):aZ L N T w (.cJ cs) (.tuple cv)
structure dd (L:Lay)(N:Nat)(T:ay)(w:World)(L':Lay)(N':Nat)(T':ay)(w':World):Prop where
 n:N≤N'
 bL:∀i,i<N→L'.bL i=L.bL i
 tok:∀t u z,T[t]?=some (u,z)→∃u',T'[t]?=some (u',z)∧u≤u'∧(u'=u→L'.dD t=L.dD t)
 m:∀b,L.m b≤L'.m b
 qZ:∀b o,o<L.m b→w'.cell? ⟨b,o,none⟩=w.cell? ⟨b,o,none⟩
 dr:L'.dr=L.dr
theorem dd.refl (L:Lay)(N:Nat)(T:ay)(w:World):dd L N T w L N T w:=
 ⟨le_refl _,fun _ _=>rfl,fun _ u _ h=>⟨u,h,le_refl _,fun _=>rfl⟩,fun _=>le_refl _,fun _ _ _=>rfl,rfl⟩
theorem dd.trans {L N T w L1 N1 T1 w1 L2 N2 T2 w2}(h:dd L N T w L1 N1 T1 w1)(k:dd L1 N1 T1 w1 L2 N2 T2 w2):dd L N T w L2 N2 T2 w2:=by
 refine⟨le_trans h.n k.n,fun i hi=>?_,fun t u z ht=>?_,fun b=>le_trans (h.m b) (k.m b),fun b o ho=>?_,k.dr.trans h.dr⟩
 ·rw[k.bL i (lt_of_lt_of_le hi h.n),h.bL i hi]
 ·obtain⟨u1,h1,hle,he⟩:=h.tok t u z ht;obtain⟨u2,h2,Fx,BL⟩:=k.tok t u1 z h1;refine⟨u2,h2,le_trans hle Fx,fun e=>?_⟩;rw[BL (by omega),he (by omega)]
 ·rw[k.qZ b o (lt_of_lt_of_le ho (h.m b)),h.qZ b o ho]
theorem jr.keep {L N T w L' N' T' w' tg n u a cap}(k:dd L N T w L' N' T' w')(h:jr L T tg n u a cap):jr L' T' tg n u a cap:=by
 cases tg with
 |none=>trivial
 |full=>exact h
 |own t=>
  obtain⟨u0,z,h0,hle,he⟩:=h;obtain⟨u1,h1,acs,Sd⟩:=k.tok t u0 z h0;refine⟨u1,z,h1,by omega,fun e=>?_⟩;rw[Sd (by omega)];exact he (by omega)
theorem aZ.keep {L N T w L' N' T' w' v c}(k:dd L N T w L' N' T' w')(h:aZ L N T w v c):aZ L' N' T' w' v c:=by
 induction h with
 |top v=>exact .top v
 |bool b=>exact .bool b
 |int k n=>exact .int k n
 |str s=>exact .str s
 |eO=>exact .eO
 |ptr i o h=>rw[←k.bL i h];exact .ptr i o (lt_of_lt_of_le h k.n)
 |dI cs o b base f hm hc h1 hr ih=>
  exact .dI cs o b base f (le_trans hm (k.m b)) (fun j hj=>by rw[k.qZ _ _ (by omega)];exact hc j hj) h1 ih
 |vR tg a cap ht=>exact .vR tg a cap (ht.keep k)
 |Lg n cs tg b base cap f bV hm hc h1 hr ht ih=>
  exact .Lg n cs tg b base cap f bV (le_trans hm (k.m b)) (fun j hj=>by rw[k.qZ _ _ (by omega)];exact hc j hj) h1 ih (ht.keep k)
 |cO i o n cap h bV=>rw[←k.bL i h];exact .cO i o n cap (lt_of_lt_of_le h k.n) bV
 |dP i n cap h bV=>rw[←k.bL i h];exact .dP i n cap (lt_of_lt_of_le h k.n) bV
 |aV i h=>rw[←k.bL i h];exact .aV i (lt_of_lt_of_le h k.n)
 |fn f first eK fv cv h1 h2 HU o4 OZ OY=>exact .fn f first eK fv cv h1 h2 OZ OY
 |gw=>exact .gw
 |kV=>exact .kV
 |xl t v=>exact .xl t v
 |agg cs cv h1 h2 hr ih=>exact .agg cs cv h1 h2 ih
 |cJ cs cv h1 hr ih=>exact .cJ cs cv h1 ih
def Wr (L:Lay)(N:Nat)(T:ay)(b:Nat):Prop:=
 (∃i,i<N∧L.bL i=b)∨(∃t u z,T[t]?=some (u,z)∧u<(L.dD t).c*z∧(L.dD t).b=b)
structure Ev (nb tb:Nat)(L:Lay)(N:Nat)(T:ay)(w:World)(L':Lay)(N':Nat)(T':ay)(w':World):Prop where
 n:nb≤N'
 bL:∀i,i<nb→L'.bL i=L.bL i
 tok:∀t u z,t<tb→T[t]?=some (u,z)→∃u',T'[t]?=some (u',z)∧u≤u'∧(u'=u→L'.dD t=L.dD t)
 t:tb≤T'.length
 m:∀b,L.m b≤L'.m b
 qZ:∀b o,o<L.m b→w'.cell? ⟨b,o,none⟩=w.cell? ⟨b,o,none⟩
 size:w.heap.size≤w'.heap.size
 frame:∀b,b<w.heap.size→¬Wr L N T b→w'.heap[b]?=w.heap[b]?
 wr:∀b,Wr L' N' T' b→Wr L N T b∨w.heap.size≤b
 os:w'.os=w.os
 tape:w'.tape=w.tape
 output:w'.output=w.output
 drawn:L.dr=true→w.drawn≤w'.drawn
 dr:L'.dr=L.dr
theorem Ev.refl {nb tb L N T w}(h:nb≤N)(h':tb≤T.length):Ev nb tb L N T w L N T w:=
 ⟨h,fun _ _=>rfl,fun _ u _ _ h=>⟨u,h,le_refl _,fun _=>rfl⟩,h',fun _=>le_refl _,fun _ _ _=>rfl,le_refl _,fun _ _ _=>rfl,
  fun _ h=>.inl h,rfl,rfl,rfl,fun _=>le_refl _,rfl⟩
theorem Ev.trans {nb tb L N T w L1 N1 T1 w1 L2 N2 T2 w2}(h:Ev nb tb L N T w L1 N1 T1 w1)(k:Ev nb tb L1 N1 T1 w1 L2 N2 T2 w2):Ev nb tb L N T w L2 N2 T2 w2:=by
 refine⟨k.n,fun i hi=>?_,fun t u z ht hT=>?_,k.t,fun b=>le_trans (h.m b) (k.m b),fun b o ho=>?_,le_trans h.size k.size,fun b hb hn=>?_,fun b hb=>?_,
  k.os.trans h.os,k.tape.trans h.tape,k.output.trans h.output,fun e=>le_trans (h.drawn e) (k.drawn (by rw[h.dr];exact e)),k.dr.trans h.dr⟩
 ·rw[k.bL i hi,h.bL i hi]
 ·obtain⟨u1,h1,hle,he⟩:=h.tok t u z ht hT;obtain⟨u2,h2,Fx,BL⟩:=k.tok t u1 z ht h1;refine⟨u2,h2,le_trans hle Fx,fun e=>?_⟩;rw[BL (by omega),he (by omega)]
 ·rw[k.qZ b o (lt_of_lt_of_le ho (h.m b)),h.qZ b o ho]
 ·rw[k.frame b (lt_of_lt_of_le hb h.size) (fun hw=>?_),h.frame b hb hn];rcases h.wr b hw with h'|h'
  ·exact hn h'
  ·omega
 ·rcases k.wr b hb with h'|h'
  ·exact h.wr b h'
  ·exact .inr (le_trans h.size h')
theorem Ev.mono {nb tb nb' tb' L N T w L' N' T' w'}(h:Ev nb tb L N T w L' N' T' w')(hn:nb'≤nb)(ht:tb'≤tb):Ev nb' tb' L N T w L' N' T' w':=
 ⟨le_trans hn h.n,fun i hi=>h.bL i (lt_of_lt_of_le hi hn),fun t u z bh=>h.tok t u z (lt_of_lt_of_le bh ht),le_trans ht h.t,h.m,h.qZ,h.size,h.frame,h.wr,h.os,h.tape,h.output,h.drawn,h.dr⟩
theorem Ev.keeps {L N T w L' N' T' w'}(h:Ev N T.length L N T w L' N' T' w'):dd L N T w L' N' T' w':=
 ⟨h.n,h.bL,fun t u z hT=>h.tok t u z ((List.getElem?_eq_some_iff.1 hT).1) hT,h.m,h.qZ,h.dr⟩
def kO (L:Lay)(N:Nat)(T:ay)(w:World)(i:Nat):aG→Prop
 |.cells vs=>∃c t fr,w.heap[L.bL i]?=some (.cells c t fr)∧(∀o,o<c.size→(fr.1≤o&&o<fr.2)=false)∧c.size=vs.length∧
   (∀(j:Nat)(h':j<c.size),(c[j]'h').oneCell'=true)∧
   (∀(j:Nat)(h:j<vs.length)(h':j<c.size),aZ L N T w (vs[j]'h) (c[j]'h'))∧L.m (L.bL i)=0
 |.iter s pos=>w.heap[L.bL i]?=some (.stringIter ⟨s.toArray⟩ pos)
 |.map es=>∃dB:Array MapEntry,w.heap[L.bL i]?=some (.map dB es.length)∧dB.size=es.length∧
   (∀(j:Nat)(h:j<es.length)(h':j<dB.size),(dB[j]'h').key=(es[j]'h).1.val∧(dB[j]'h').born=j∧aZ L N T w (es[j]'h).2 (dB[j]'h').val)∧(es.map (·.1)).Nodup∧L.m (L.bL i)=0
 |.kq m n seen=>w.heap[L.bL i]?=some (.mapIter (some (L.bL m)) n seen.toArray n)∧m<i∧L.m (L.bL i)=0
 |.FC g p=>L.bL i=g∧L.dr=false∧∃o,w.heap[g]?=some o∧p o
theorem kO.stay {L N T w L' N' T' w' i b}(k:dd L N T w L' N' T' w')(h:kO L N T w i b)(hi:i<N)(hh:w'.heap[L.bL i]?=w.heap[L.bL i]?)(hm:L.m (L.bL i)=0→L'.m (L.bL i)=0):kO L' N' T' w' i b:=by
 have e:=k.bL i hi
 cases b with
 |cells vs=>
  obtain⟨c,t,fr,h1,h2,h3,SL,h4,h5⟩:=h;exact⟨c,t,fr,by rw[e,hh];exact h1,h2,h3,SL,fun j a b=>(h4 j a b).keep k,by rw[e];exact hm h5⟩
 |iter s pos=>show w'.heap[_]?=_;rw[e,hh];exact h
 |map es=>
  obtain⟨dB,h1,h2,h3,hn,h4⟩:=h;exact⟨dB,by rw[e,hh];exact h1,h2,fun j a b=>⟨(h3 j a b).1,(h3 j a b).2.1,(h3 j a b).2.2.keep k⟩,hn,by rw[e];exact hm h4⟩
 |kq m n seen=>
  obtain⟨h1,h2,h4⟩:=h;exact⟨by rw[e,hh,k.bL m (by omega)];exact h1,h2,by rw[e];exact hm h4⟩
 |FC g p=>
  obtain⟨h1,h4,o,h2,h3⟩:=h;exact⟨by rw[e,h1],by rw[k.dr,h4],o,by rw[←h1,hh,h1];exact h2,h3⟩
def sq (L:Lay)(w:World)(t u z:Nat):Prop:=
 0<z∧(u<(L.dD t).c*z→∃c e fr,w.heap[(L.dD t).b]?=some (.cells c e fr)∧(L.dD t).o+(L.dD t).c*z≤c.size∧
  (∀o,(L.dD t).o+u≤o→o<(L.dD t).o+(L.dD t).c*z→(fr.1≤o&&o<fr.2)=false)∧L.m (L.dD t).b≤(L.dD t).o+u)
def vW:List (Nat×Nat):=[]
def Xu (L:Lay)(w:World):Prop:=∀x∈vW,x.2<L.m x.1∧∃m,w.cell? ⟨x.1,x.2,none⟩=some (.int .i64 m)
theorem Xu.keep {L L':Lay}{w w':World}(h:Xu L w)(hm:∀b,L.m b≤L'.m b)(hc:∀b o,o<L.m b→w'.cell? ⟨b,o,none⟩=w.cell? ⟨b,o,none⟩):Xu L' w':=fun x hx=>by
 obtain⟨h1,m,h2⟩:=h x hx;exact⟨lt_of_lt_of_le h1 (hm _),m,by rw[hc _ _ h1];exact h2⟩
structure bN (L:Lay)(H:List aG)(T:ay)(w:World):Prop where
 box:∀i b,H[i]?=some b→kO L H.length T w i b
 inj:∀i j,i<H.length→j<H.length→L.bL i=L.bL j→i=j
 tok:∀t u z,T[t]?=some (u,z)→sq L w t u z
 mP:∀t u z t' u' z',T[t]?=some (u,z)→T[t']?=some (u',z')→u<(L.dD t).c*z→u'<(L.dD t').c*z'→(L.dD t).b=(L.dD t').b→t=t'
 je:∀t u z i,T[t]?=some (u,z)→u<(L.dD t).c*z→i<H.length→(L.dD t).b≠L.bL i
 mz:∀b,w.heap.size≤b→L.m b=0
 gl:Xu L w
theorem kO.lt {L N T w i b}(h:kO L N T w i b):L.bL i<w.heap.size:=by
 rcases lt_or_ge (L.bL i) w.heap.size with h1|h1
 ·exact h1
 ·exfalso
  cases b with
  |cells vs=>obtain⟨c,t,fr,hh,_⟩:=h;rw[Array.getElem?_eq_none h1] at hh;cases hh
  |iter s pos=>unfold kO at h;rw[Array.getElem?_eq_none h1] at h;cases h
  |map es=>obtain⟨dB,hh,_⟩:=h;rw[Array.getElem?_eq_none h1] at hh;cases hh
  |kq m n seen=>obtain⟨hh,_⟩:=h;rw[Array.getElem?_eq_none h1] at hh;cases hh
  |FC g p=>obtain⟨e,_,o,hh,_⟩:=h;rw[←e,Array.getElem?_eq_none h1] at hh;cases hh
theorem bN.ml {L H T w}(h:bN L H T w){i:Nat}(hi:i<H.length):L.bL i<w.heap.size:=
 (h.box i _ (List.getElem?_eq_getElem hi)).lt
theorem bN.Cn {L H T w}(h:bN L H T w){t u z:Nat}(ht:T[t]?=some (u,z))(hs:u<(L.dD t).c*z):(L.dD t).b<w.heap.size:=by
 obtain⟨_,h2⟩:=h.tok t u z ht;obtain⟨c,e,fr,hh,_⟩:=h2 hs;rcases lt_or_ge (L.dD t).b w.heap.size with h1|h1
 ·exact h1
 ·rw[Array.getElem?_eq_none h1] at hh;cases hh
theorem bN.Tw {L H T w}(h:bN L H T w){b:Nat}(hb:Wr L H.length T b):b<w.heap.size:=by
 rcases hb with⟨i,hi,rfl⟩|⟨t,u,z,ht,hs,rfl⟩
 ·exact h.ml hi
 ·exact h.Cn ht hs
def bZ:Env→Nat→AV
 |[],_=>.top
 |(s,v)::r,t=>if s=t then v else bZ r t
def mT:Env→Nat→AV→Env
 |[],t,v=>[(t,v)]
 |(s,u)::r,t,v=>if s=t then (t,v)::r else (s,u)::mT r t v
theorem kn (e:Env)(t:Nat)(v:AV):bZ (mT e t v) t=v:=by
 induction e with
 |nil=>simp[mT,bZ]
 |cons x r ih=>
  obtain⟨s,u⟩:=x
  by_cases h:s=t
  ·simp[mT,bZ,h]
  ·simp[mT,bZ,h,ih]
theorem jq (e:Env)(t t':Nat)(v:AV)(dW:t≠t'):bZ (mT e t v) t'=bZ e t':=by
 induction e with
 |nil=>simp[mT,bZ,dW]
 |cons x r ih=>
  obtain⟨s,u⟩:=x
  by_cases h:s=t
  ·subst h;simp[mT,bZ,dW]
  ·by_cases h2:s=t'
   ·subst h2;simp[mT,bZ,h]
   ·simp[mT,bZ,h,h2,ih]
def eV (L:Lay)(N:Nat)(T:ay)(w:World)(e:Env)(a:Act):Prop:=
 ∀t,aZ L N T w (bZ e t) (a.tmps.getD t undef)
theorem eV.keep {L N T w L' N' T' w' e a}(k:dd L N T w L' N' T' w')(h:eV L N T w e a):eV L' N' T' w' e a:=fun t=>(h t).keep k
theorem j9 (a:Act)(d t:Nat)(v:Value)(hd:d<a.tmps.size):(a.put (some d) v).tmps.getD t undef=if d=t then v else a.tmps.getD t undef:=by
 simp only[Act.put,Array.getD_eq_getD_getElem?]
 by_cases h:d=t
 ·subst h;simp[hd]
 ·simp[Array.getElem?_setIfInBounds_ne h,h]
theorem eV.put {L N T w e a d v c}(h:eV L N T w e a)(hd:d<a.tmps.size)(hv:aZ L N T w v c):eV L N T w (mT e d v) (a.put (some d) c):=by
 intro t;rw[j9 a d t c hd]
 by_cases Rc:d=t
 ·subst Rc;rw[kn];simpa using hv
 ·rw[jq _ _ _ _ Rc,if_neg Rc];exact h t
structure St where
 e:Env
 H:List aG
 T:ay
structure Cx where
 P:Program
 nt:Nat
 nv:Nat
 nb:Nat
 tb:Nat
 bx:List Nat
structure eR (C:Cx)(s:St)(L:Lay)(w:World)(a:Act):Prop where
 nb:C.nb≤s.H.length
 tb:C.tb≤s.T.length
 mN:bN L s.H s.T w
 size:a.tmps.size=C.nt
 defers:a.defers=[]
 env:eV L s.H.length s.T w s.e a
def dc (C:Cx)(Q:Exit→St→Prop)(L:Lay)(s:St)(w:World)(e:Exit)(a':Act)(w':World):Prop:=
 ∃s' L',Q e s'∧eR C s' L' w' a'∧Ev C.nb C.tb L s.H.length s.T w L' s'.H.length s'.T w'
def AW (C:Cx)(c:Code)(Q:Exit→St→Prop)(s:St):Prop:=
 ∀L w a,eR C s L w a→c.wp C.P (dc C Q L s w) a w
theorem dc.step {C Q L s w L1 s1 w1 e a' w'}(h:Ev C.nb C.tb L s.H.length s.T w L1 s1.H.length s1.T w1)(k:dc C Q L1 s1 w1 e a' w'):dc C Q L s w e a' w':=by
 obtain⟨s',L',q,c,ev⟩:=k;exact⟨s',L',q,c,h.trans ev⟩
theorem AW.mono {C c Q Q' s}(h:AW C c Q s)(hq:∀e s,Q e s→Q' e s):AW C c Q' s:=fun L w a hc=>
 wp_mono (h L w a hc) fun _ _ _ ⟨s',L',q,r⟩=>⟨s',L',hq _ _ q,r⟩
def eJ (K:St→Prop)(Q:Exit→St→Prop):Exit→St→Prop
 |.normal,s=>K s
 |e,s=>Q e s
theorem ak {C Q s}(h:Q .normal s):AW C .skip Q s:=fun L w a hc=>wp_skip ⟨s,L,h,hc,Ev.refl hc.nb hc.tb⟩
theorem aD {C Q s id}(h:Q (.exit id) s):AW C (.exit id) Q s:=fun L w a hc=>wp_exit ⟨s,L,h,hc,Ev.refl hc.nb hc.tb⟩
theorem an {C Q s}(h:Q .ret s):AW C .ret Q s:=fun L w a hc=>wp_ret ⟨s,L,h,hc,Ev.refl hc.nb hc.tb⟩
theorem xN {C x y Q s}(h:∀K:St→Prop,(∀s,AW C y Q s→K s)→AW C x (eJ K Q) s):AW C (.seq x y) Q s:=fun L w a hc=>
 wp_seq (wp_mono (h _ (fun _ h=>h) L w a hc) fun e a' w' ⟨s',L',q,c,ev⟩=>by
  cases e with
  |normal=>exact wp_mono (q L' w' a' c) fun _ _ _ k=>dc.step ev k
  |_=>exact⟨s',L',q,c,ev⟩)
def CB (id:Nat)(Q:Exit→St→Prop):Exit→St→Prop
 |.exit Zz,s=>if Zz=id then Q .normal s else Q (.exit Zz) s
 |e,s=>Q e s
theorem ai {C id x Q s}(h:AW C x (CB id Q) s):AW C (.block id x) Q s:=fun L w a hc=>
 wp_block (wp_mono (h L w a hc) fun e a' w' ⟨s',L',q,c,ev⟩=>by
  cases e with
  |exit Zz=>
   simp only[CB] at q;simp only[Exit.inBlock]
   split
   ·rename_i Ra;rw[if_pos Ra] at q;exact⟨s',L',q,c,ev⟩
   ·rename_i Ra;rw[if_neg Ra] at q;exact⟨s',L',q,c,ev⟩
  |_=>exact⟨s',L',q,c,ev⟩)
inductive Below (n t:Nat):AV→Prop
 |top:Below n t .top
 |bool (b:Bool):Below n t (.bool b)
 |int (k:IntKind) (x:Int):Below n t (.int k x)
 |str (s:List UInt8):Below n t (.str s)
 |eO:Below n t .eO
 |ptr (i o:Nat) (h:i<n):Below n t (.ptr i o)
 |dI (cs:List AV) (o:Nat) (h:∀c∈cs,Below n t c):Below n t (.dI cs o)
 |sl (m:Nat) (cs:List AV) (tg:Tag) (h:∀c∈cs,Below n t c) (ht:∀x,tg=.own x→x<t):Below n t (.sl m cs tg)
 |cO (i o m:Nat) (h:i<n):Below n t (.cO i o m)
 |dP (i m cap:Nat) (h:i<n):Below n t (.dP i m cap)
 |aV (i:Nat) (h:i<n):Below n t (.aV i)
 |fn (f:FuncId) (first eK:List AV) (h1:∀c∈first,Below n t c) (h2:∀c∈eK,Below n t c):Below n t (.fn f first eK)
 |gw:Below n t .gw
 |kV:Below n t .kV
 |xl:Below n t .xl
 |agg (cs:List AV) (h:∀c∈cs,Below n t c):Below n t (.agg cs)
 |cJ (cs:List AV) (h:∀c∈cs,Below n t c):Below n t (.cJ cs)
theorem aZ.drop {L:Lay}{N n t:Nat}{T:ay}{w:World}{v:AV}{c:Value}(h:aZ L N T w v c)(hb:Below n t v):aZ L n (T.take t) w v c:=by
 have tag:∀(tg:Tag)(m u:Nat)(a:Option Addr)(cap:Nat),(∀x,tg=.own x→x<t)→jr L T tg m u a cap→jr L (T.take t) tg m u a cap:=by
  intro tg m u a cap hx ht
  cases tg with
  |none=>trivial
  |full=>exact ht
  |own x=>
   obtain⟨u0,z,h0,r⟩:=ht;exact⟨u0,z,by rw[getElem?_take,if_pos (hx x rfl)];exact h0,r⟩
 induction h with
 |top v=>exact .top v
 |bool b=>exact .bool b
 |int k x=>exact .int k x
 |str s=>exact .str s
 |eO=>exact .eO
 |ptr i o h=>cases hb with|ptr _ _ h'=>exact .ptr i o h'
 |dI cs o b base f hm hc h1 hr ih=>cases hb with|dI _ _ hx=>exact .dI cs o b base f hm hc h1 (fun j hj=>ih j hj (hx _ (getElem_mem hj)))
 |vR tg a cap ht=>cases hb with|sl _ _ _ hx hy=>exact .vR tg a cap (tag _ _ _ _ _ hy ht)
 |Lg m cs tg b base cap f bV hm hc h1 hr ht ih=>
  cases hb with|sl _ _ _ hx hy=>exact .Lg m cs tg b base cap f bV hm hc h1 (fun j hj=>ih j hj (hx _ (getElem_mem hj))) (tag _ _ _ _ _ hy ht)
 |cO i o m cap h bV=>cases hb with|cO _ _ _ h'=>exact .cO i o m cap h' bV
 |dP i m cap h bV=>cases hb with|dP _ _ _ h'=>exact .dP i m cap h' bV
 |aV i h=>cases hb with|aV _ h'=>exact .aV i h'
 |fn f first eK fv cv h1 h2 HU o4 OZ OY=>
  cases hb with|fn _ _ _ hx hy=>exact .fn f first eK fv cv h1 h2 (fun j hj bK=>OZ j hj bK (hx _ (getElem_mem hj))) (fun j hj bK=>OY j hj bK (hy _ (getElem_mem hj)))
 |gw=>exact .gw
 |kV=>exact .kV
 |xl t v=>exact .xl t v
 |agg cs cv h1 h2 hr ih=>cases hb with|agg _ hx=>exact .agg cs cv h1 h2 (fun j hj bK=>ih j hj bK (hx _ (getElem_mem hj)))
 |cJ cs cv h1 hr ih=>cases hb with|cJ _ hx=>exact .cJ cs cv h1 (fun j hj bK=>ih j hj bK (hx _ (getElem_mem hj)))
def cC:AV→AV
 |.sl n cs _=>.sl n cs .none
 |.dP i n _=>.cO i 0 n
 |v=>v
theorem aZ.cC {L:Lay}{N:Nat}{T:ay}{w:World}{v:AV}{c:Value}(h:aZ L N T w v c):aZ L N T w (cC v) c:=by
 cases h with
 |vR tg a cap ht=>exact .vR .none a cap trivial
 |Lg n cs tg b base cap f bV hm hc h1 hr ht=>exact .Lg n cs .none b base cap f bV hm hc h1 hr trivial
 |top _=>exact .top _
 |bool b=>exact .bool b
 |int k x=>exact .int k x
 |str s=>exact .str s
 |eO=>exact .eO
 |ptr i o h=>exact .ptr i o h
 |dI cs o b base f hm hc h1 hr=>exact .dI cs o b base f hm hc h1 hr
 |cO i o m cap h bV=>exact .cO i o m cap h bV
 |dP i m cap h bV=>exact .cO i 0 m cap h bV
 |aV i h=>exact .aV i h
 |fn f first eK fv cv h1 h2 HU o4=>exact .fn f first eK fv cv h1 h2 HU o4
 |gw=>exact .gw
 |kV=>exact .kV
 |xl t v=>exact .xl t v
 |agg cs cv h1 h2 hr=>exact .agg cs cv h1 h2 hr
 |cJ cs cv h1 hr=>exact .cJ cs cv h1 hr
theorem Below.cC {n t:Nat}{v:AV}(h:Below n t v):Below n t (cC v):=by
 cases h with
 |sl m cs tg h ht=>exact .sl m cs .none h (fun x hx=>by cases hx)
 |top=>exact .top
 |bool b=>exact .bool b
 |int k x=>exact .int k x
 |str s=>exact .str s
 |eO=>exact .eO
 |ptr i o h=>exact .ptr i o h
 |dI cs o h=>exact .dI cs o h
 |cO i o m h=>exact .cO i o m h
 |dP i m cap h=>exact .cO i 0 m h
 |aV i h=>exact .aV i h
 |fn f a b h1 h2=>exact .fn f a b h1 h2
 |gw=>exact .gw
 |kV=>exact .kV
 |xl=>exact .xl
 |agg cs h=>exact .agg cs h
 |cJ cs h=>exact .cJ cs h
structure vK (C:Cx)(s s':St):Prop where
 nb:C.nb≤s'.H.length
 tb:C.tb≤s'.T.length
 H:∃r,s.H=s'.H++r
 T:∃r,s.T=s'.T++r
 cells:∀(i:Nat)(b:aG),s'.H[i]?=some b→∀v∈b.xq,Below s'.H.length s'.T.length v
 env:∀t,bZ s'.e t=.top∨((bZ s'.e t=bZ s.e t∨bZ s'.e t=cC (bZ s.e t))∧Below s'.H.length s'.T.length (bZ s'.e t))
theorem vK.mN {C s s' L w a}(h:vK C s s')(c:eR C s L w a):eR C s' L w a:=by
 obtain⟨iD,iq,⟨rH,hH⟩,⟨rT,hT⟩,uA,sU⟩:=h;have Ss:s.T.take s'.T.length=s'.T:=by rw[hT];simp
 have hlen:s'.H.length≤s.H.length:=by rw[hH];simp
 have gR:∀(i:Nat)(b:aG),s'.H[i]?=some b→s.H[i]?=some b:=by
  intro i b hb;have hi:=(List.getElem?_eq_some_iff.1 hb).1;rw[hH,getElem?_append_left hi];exact hb
 have Fv:∀(t:Nat)(x:Nat×Nat),s'.T[t]?=some x→s.T[t]?=some x:=by
  intro t x hx;have hi:=(List.getElem?_eq_some_iff.1 hx).1;rw[hT,getElem?_append_left hi];exact hx
 have rep:∀v c',aZ L s.H.length s.T w v c'→Below s'.H.length s'.T.length v→aZ L s'.H.length s'.T w v c':=by
  intro v c' hr hb;have:=hr.drop hb
  rwa [Ss] at this
 refine⟨iD,iq,⟨fun i b hb=>?_,fun i j hi hj=>c.mN.inj i j (by omega) (by omega),fun t u z ht=>c.mN.tok t u z (Fv _ _ ht),fun t u z t' u' z' h1 h2=>c.mN.mP t u z t' u' z' (Fv _ _ h1) (Fv _ _ h2),
  fun t u z i h1 h2 hi=>c.mN.je t u z i (Fv _ _ h1) h2 (by omega),c.mN.mz,c.mN.gl⟩,c.size,c.defers,fun t=>?_⟩
 ·have Pf:=c.mN.box i b (gR i b hb)
  cases b with
  |cells vs=>
   obtain⟨cc,t,fr,h1,h2,h3,SL,h4,h5⟩:=Pf;exact⟨cc,t,fr,h1,h2,h3,SL,fun j hj bK=>rep _ _ (h4 j hj bK) (uA i _ hb _ (getElem_mem hj)),h5⟩
  |iter s0 pos=>exact Pf
  |map es=>
   obtain⟨dB,h1,h2,h3,h4⟩:=Pf;exact⟨dB,h1,h2,fun j hj bK=>⟨(h3 j hj bK).1,(h3 j hj bK).2.1,rep _ _ (h3 j hj bK).2.2 (uA i _ hb _ (List.mem_map.2 ⟨_,getElem_mem hj,rfl⟩))⟩,h4⟩
  |kq m n seen=>exact Pf
  |FC g p=>exact Pf
 ·rcases sU t with h0|⟨h1,h2⟩
  ·rw[h0];exact .top _
  ·rcases h1 with h1|h1
   ·rw[h1] at h2 ⊢;exact rep _ _ (c.env t) h2
   ·rw[h1] at h2 ⊢;exact rep _ _ (c.env t).cC h2
theorem vK.ev {C s s' L w}(h:vK C s s'):Ev C.nb C.tb L s.H.length s.T w L s'.H.length s'.T w:=by
 obtain⟨iD,iq,⟨rH,hH⟩,⟨rT,hT⟩,_,_⟩:=h;have Fv:∀(t:Nat)(x:Nat×Nat),s'.T[t]?=some x→s.T[t]?=some x:=by
  intro t x hx;have hi:=(List.getElem?_eq_some_iff.1 hx).1;rw[hT,getElem?_append_left hi];exact hx
 refine⟨iD,fun _ _=>rfl,fun t u z ht hx=>⟨u,?_,le_refl _,fun _=>rfl⟩,iq,fun _=>le_refl _,fun _ _ _=>rfl,le_refl _,fun _ _ _=>rfl,fun b hb=>.inl ?_,rfl,rfl,rfl,fun _=>le_refl _,rfl⟩
 ·rw[hT,getElem?_append_left (by omega)] at hx;exact hx
 ·rcases hb with⟨i,hi,e⟩|⟨t,u,z,h1,h2,e⟩
  ·exact .inl ⟨i,by rw[hH];simp;omega,e⟩
  ·exact .inr ⟨t,u,z,Fv _ _ h1,h2,e⟩
theorem aQ {C c Q s}(s':St)(hw:vK C s s')(h:AW C c Q s'):AW C c Q s:=fun L w a hc=>
 wp_mono (h L w a (hw.mN hc)) fun _ _ _ k=>dc.step hw.ev k
theorem aK {C c Q s}{X:Type}(st:X→St)(I:X→Prop)(μ:X→Nat)(x0:X)(h0:I x0)(hw:vK C s (st x0))
  (round:∀x,I x→AW C c (eJ (fun s'=>∃x',I x'∧μ x'<μ x∧vK C s' (st x')) Q) (st x)):AW C (.loop c) Q s:=by
 refine aQ (st x0) hw ?_;intro L w a hc;refine wp_loop (fun a' w'=>∃x L',I x∧eR C (st x) L' w' a'∧Ev C.nb C.tb L (st x0).H.length (st x0).T w L' (st x).H.length (st x).T w')
  (fun a' w'=>Classical.epsilon fun n=>(∃x L',I x∧eR C (st x) L' w' a'∧Ev C.nb C.tb L (st x0).H.length (st x0).T w L' (st x).H.length (st x).T w'∧μ x=n)∧
   ∀x L',I x→eR C (st x) L' w' a'→Ev C.nb C.tb L (st x0).H.length (st x0).T w L' (st x).H.length (st x).T w'→n≤μ x) ⟨x0,L,h0,hc,Ev.refl hc.nb hc.tb⟩ ?_
 have least:∀a' w',(∃x L',I x∧eR C (st x) L' w' a'∧Ev C.nb C.tb L (st x0).H.length (st x0).T w L' (st x).H.length (st x).T w')→
   ∃n,(∃x L',I x∧eR C (st x) L' w' a'∧Ev C.nb C.tb L (st x0).H.length (st x0).T w L' (st x).H.length (st x).T w'∧μ x=n)∧
    ∀x L',I x→eR C (st x) L' w' a'→Ev C.nb C.tb L (st x0).H.length (st x0).T w L' (st x).H.length (st x).T w'→n≤μ x:=by
  intro a' w' ⟨x,L',hI,sN,dU⟩;have key:∀n,∀x L',I x→eR C (st x) L' w' a'→Ev C.nb C.tb L (st x0).H.length (st x0).T w L' (st x).H.length (st x).T w'→μ x=n→
    ∃n,(∃x L',I x∧eR C (st x) L' w' a'∧Ev C.nb C.tb L (st x0).H.length (st x0).T w L' (st x).H.length (st x).T w'∧μ x=n)∧
    ∀x L',I x→eR C (st x) L' w' a'→Ev C.nb C.tb L (st x0).H.length (st x0).T w L' (st x).H.length (st x).T w'→n≤μ x:=by
   intro n
   induction n using Nat.strongRecOn with
   |_ n ih=>
    intro x L' h1 h2 h3 h4
    by_cases hs:∃y Rs,I y∧eR C (st y) Rs w' a'∧Ev C.nb C.tb L (st x0).H.length (st x0).T w Rs (st y).H.length (st y).T w'∧μ y<n
    ·obtain⟨y,Rs,g1,g2,g3,g4⟩:=hs;exact ih (μ y) g4 y Rs g1 g2 g3 rfl
    ·refine⟨n,⟨x,L',h1,h2,h3,h4⟩,fun y Rs g1 g2 g3=>?_⟩;rcases lt_or_ge (μ y) n with g|g
     ·exact absurd ⟨y,Rs,g1,g2,g3,g⟩ hs
     ·exact g
  exact key _ x L' hI sN dU rfl
 intro a1 w1 hI1;obtain⟨⟨x,L1,hI,sN,dU,hμ⟩,acn⟩:=Classical.epsilon_spec (least a1 w1 hI1);refine wp_mono (round x hI L1 w1 a1 sN) fun e a' w' ⟨s',L',q,c',ev⟩=>?_
 cases e with
 |normal=>
  obtain⟨x',SF,bh,hwk⟩:=q;have hP:I x'∧eR C (st x') L' w' a'∧Ev C.nb C.tb L (st x0).H.length (st x0).T w L' (st x').H.length (st x').T w':=
   ⟨SF,hwk.mN c',(dU.trans ev).trans hwk.ev⟩
  refine⟨⟨x',L',hP⟩,?_⟩;obtain⟨_,TS⟩:=Classical.epsilon_spec (least a' w' ⟨x',L',hP⟩);have h1:=TS x' L' hP.1 hP.2.1 hP.2.2;rw[←hμ];exact lt_of_le_of_lt h1 bh
 |_=>exact⟨s',L',q,c',dU.trans ev⟩
theorem iK (w:World)(o:Obj)(b:Nat)(h:b<w.heap.size):(w.alloc o).heap[b]?=w.heap[b]?:=by
 show (w.heap.push o)[b]?=_;rw[Array.getElem?_push,if_neg (by omega)]
theorem eG (w:World)(o:Obj):(w.alloc o).heap[w.heap.size]?=some o:=by
 show (w.heap.push o)[w.heap.size]?=_;rw[Array.getElem?_push,if_pos rfl]
theorem gJ {w w':World}{b:Nat}(h:w'.heap[b]?=w.heap[b]?)(o:Nat):w'.cell? ⟨b,o,none⟩=w.cell? ⟨b,o,none⟩:=by
 unfold World.cell?;simp only[h]
theorem fi {w:World}{b:Nat}{c:Array Value}{e:TypeId}{fr:Nat×Nat}(h:w.heap[b]?=some (.cells c e fr))(o:Nat):w.cell? ⟨b,o,none⟩=c[o]?:=by
 unfold World.cell?;simp only[h];simp
theorem bN.drew {L:Lay}{H:List aG}{T:ay}{w w':World}(h:bN L H T w)(hh:w'.heap=w.heap):bN L H T w':=by
 have kp:dd L H.length T w L H.length T w':=⟨le_refl _,fun _ _=>rfl,fun t u z h=>⟨u,h,le_refl _,fun _=>rfl⟩,fun _=>le_refl _,fun b o _=>gJ (by rw[hh]) o,rfl⟩
 refine⟨fun i b hb=>?_,h.inj,fun t u z ht=>?_,h.mP,h.je,fun b hb=>h.mz b (by rw[←hh];exact hb),h.gl.keep kp.m kp.qZ⟩
 ·exact(h.box i b hb).stay kp (List.getElem?_eq_some_iff.1 hb).1 (by rw[hh]) id
 ·obtain⟨h1,h2⟩:=h.tok t u z ht;exact⟨h1,fun hs=>by rw[hh];exact h2 hs⟩
theorem Ev.drew {L:Lay}{H:List aG}{T:ay}{w w':World}(hh:w'.heap=w.heap)(ho:w'.os=w.os)(ht:w'.tape=w.tape)(o9:w'.output=w.output)(vv:w.drawn≤w'.drawn) :
  Ev H.length T.length L H.length T w L H.length T w':=
 ⟨le_refl _,fun _ _=>rfl,fun t u z _ h=>⟨u,h,le_refl _,fun _=>rfl⟩,le_refl _,fun _=>le_refl _,fun b o _=>gJ (by rw[hh]) o,by rw[hh];exact le_refl _,
  fun b _ _=>by rw[hh],fun b hb=>.inl hb,ho,ht,o9,fun _=>vv,rfl⟩
def Lay.bJ (L:Lay)(b k:Nat):Lay:={ L with m:=fun x=>if x=b then k else L.m x }
def Lay.dh (L:Lay)(i b:Nat):Lay:={ L with bL:=fun x=>if x=i then b else L.bL x }
def Lay.aU (L:Lay)(t:Nat)(k:Tk):Lay:={ L with dD:=fun x=>if x=t then k else L.dD x }
theorem Ev.alloc {L:Lay}{H:List aG}{T:ay}{w:World}(h:bN L H T w)(o:Obj)(k:Nat) :
  Ev H.length T.length L H.length T w (L.bJ w.heap.size k) H.length T (w.alloc o):=by
 refine⟨le_refl _,fun _ _=>rfl,fun t u z _ h=>⟨u,h,le_refl _,fun _=>rfl⟩,le_refl _,fun b=>?_,fun b o' ho=>?_,by simp,fun b hb _=>iK w o b hb,
  fun b hb=>.inl hb,rfl,rfl,rfl,fun _=>le_refl _,rfl⟩
 ·show L.m b≤if b=w.heap.size then k else L.m b
  split
  ·rename_i e;rw[h.mz b (by omega)];exact Nat.zero_le _
  ·exact le_refl _
 ·have hb:b<w.heap.size:=by
   rcases lt_or_ge b w.heap.size with h1|h1
   ·exact h1
   ·rw[h.mz b h1] at ho;omega
  exact gJ (iK w o b hb) o'
theorem bN.alloc {L:Lay}{H:List aG}{T:ay}{w:World}(h:bN L H T w)(o:Obj)(k:Nat):bN (L.bJ w.heap.size k) H T (w.alloc o):=by
 have kp:=(Ev.alloc h o k).keeps;refine⟨fun i b hb=>?_,h.inj,fun t u z ht=>?_,h.mP,h.je,fun b hb=>?_,h.gl.keep kp.m kp.qZ⟩
 ·have bh:=(h.box i b hb).lt;refine(h.box i b hb).stay kp (List.getElem?_eq_some_iff.1 hb).1 (iK w o _ bh) fun h5=>?_;show (if L.bL i=w.heap.size then k else L.m (L.bL i))=0;rw[if_neg (by omega)];exact h5
 ·obtain⟨h1,h2⟩:=h.tok t u z ht;refine⟨h1,fun hs=>?_⟩;have bh:=h.Cn ht hs;obtain⟨c,e,fr,g1,g2,g3,g4⟩:=h2 hs;refine⟨c,e,fr,by show (w.alloc o).heap[(L.dD t).b]?=_;rw[iK w o _ bh];exact g1,g2,g3,?_⟩;show (if (L.dD t).b=w.heap.size then k else L.m (L.dD t).b)≤_;rw[if_neg (by omega)];exact g4
 ·have:w.heap.size+1≤b:=by simpa using hb
  show (if b=w.heap.size then k else L.m b)=0;rw[if_neg (by omega)];exact h.mz b (by omega)
theorem bN.uu {L:Lay}{H:List aG}{T:ay}{w:World}(h:bN L H T w){b:Nat}(hb:w.heap.size≤b):¬Wr L H.length T b:=fun hw=>by
 have:=h.Tw hw;omega
theorem bN.pw {L:Lay}{H:List aG}{T:ay}{w:World}(h:bN L H T w)(b:Nat)(hb:¬Wr L H.length T b)(mO:aG)(hz:w.heap.size≤b→False)
  (pf:kO (L.dh H.length b) (H.length+1) T w H.length mO):bN (L.dh H.length b) (H++[mO]) T w:=by
 have pR:∀i,i<H.length→(L.dh H.length b).bL i=L.bL i:=fun i hi=>by simp only[Lay.dh];rw[if_neg (by omega)]
 have pS:(L.dh H.length b).bL H.length=b:=by simp[Lay.dh]
 have kp:dd L H.length T w (L.dh H.length b) (H++[mO]).length T w:=
  ⟨by simp,fun i hi=>pR i hi,fun t u z h=>⟨u,h,le_refl _,fun _=>rfl⟩,fun _=>le_refl _,fun _ _ _=>rfl,rfl⟩
 have iD:∀i,i<H.length→L.bL i≠b:=fun i hi e=>hb (.inl ⟨i,hi,e⟩);refine⟨fun i x hx=>?_,fun i j hi hj e=>?_,fun t u z ht=>h.tok t u z ht,h.mP,fun t u z i ht hs hi=>?_,h.mz,h.gl.keep kp.m kp.qZ⟩
 ·rcases lt_or_ge i H.length with hi|hi
  ·rw[getElem?_append_left hi] at hx;have:=(h.box i x hx).stay kp hi rfl id;exact this
  ·have et:i=H.length:=by
    have:=(List.getElem?_eq_some_iff.1 hx).1;simp at this;omega
   subst et;simp at hx;subst hx;simpa using pf
 ·simp at hi hj;rcases lt_or_ge i H.length with et|et<;>rcases lt_or_ge j H.length with bK|bK
  ·rw[pR i et,pR j bK] at e;exact h.inj i j et bK e
  ·have:j=H.length:=by omega
   subst this;rw[pR i et,pS] at e;exact absurd e (iD i et)
  ·have:i=H.length:=by omega
   subst this;rw[pR j bK,pS] at e;exact absurd e.symm (iD j bK)
  ·omega
 ·simp at hi;rcases lt_or_ge i H.length with et|et
  ·rw[pR i et];exact h.je t u z i ht hs et
  ·have:i=H.length:=by omega
   subst this;rw[pS];intro e;exact hb (.inr ⟨t,u,z,ht,hs,e⟩)
theorem Ev.pw {L L1:Lay}{H:List aG}{T:ay}{w w1:World}{b:Nat}(mO:aG)(h:Ev H.length T.length L H.length T w L1 H.length T w1)(hb:w.heap.size≤b) :
  Ev H.length T.length L H.length T w (L1.dh H.length b) (H++[mO]).length T w1:=by
 refine⟨by simp,fun i hi=>?_,h.tok,h.t,h.m,h.qZ,h.size,h.frame,fun x hx=>?_,h.os,h.tape,h.output,h.drawn,h.dr⟩
 ·simp only[Lay.dh];rw[if_neg (by omega)];exact h.bL i hi
 ·rcases hx with⟨i,hi,e⟩|⟨t,u,z,ht,hs,e⟩
  ·simp at hi;rcases lt_or_ge i H.length with et|et
   ·exact h.wr x (.inl ⟨i,et,by simp only[Lay.dh] at e;rwa [if_neg (by omega)] at e⟩)
   ·have:i=H.length:=by omega
    subst this;simp[Lay.dh] at e;exact .inr (by omega)
  ·exact h.wr x (.inr ⟨t,u,z,ht,hs,e⟩)
theorem bN.j6 {L:Lay}{H:List aG}{T:ay}{w:World}(h:bN L H T w)(k:Tk)(u z:Nat)(hb:u<k.c*z→¬Wr L H.length T k.b)
  (fC:sq (L.aU T.length k) w T.length u z):bN (L.aU T.length k) H (T++[(u,z)]) w:=by
 have nr:∀t,t<T.length→(L.aU T.length k).dD t=L.dD t:=fun t ht=>by simp only[Lay.aU];rw[if_neg (by omega)]
 have pS:(L.aU T.length k).dD T.length=k:=by simp[Lay.aU]
 have kp:dd L H.length T w (L.aU T.length k) H.length (T++[(u,z)]) w:=by
  refine⟨le_refl _,fun i hi=>rfl,fun t u' z' ht=>?_,fun _=>le_refl _,fun _ _ _=>rfl,rfl⟩;have bh:=(List.getElem?_eq_some_iff.1 ht).1;exact⟨u',by rw[getElem?_append_left bh];exact ht,le_refl _,fun _=>nr t bh⟩
 have part:∀t u' z',(T++[(u,z)])[t]?=some (u',z')→(t<T.length∧T[t]?=some (u',z'))∨(t=T.length∧u'=u∧z'=z):=by
  intro t u' z' ht;rcases lt_or_ge t T.length with bh|ku
  ·rw[getElem?_append_left bh] at ht;exact .inl ⟨bh,ht⟩
  ·have h1:=(List.getElem?_eq_some_iff.1 ht).1;simp at h1;have:t=T.length:=by omega
   subst this;simp at ht;exact .inr ⟨rfl,ht.1.symm,ht.2.symm⟩
 refine⟨fun i b hb=>?_,h.inj,fun t u' z' ht=>?_,fun t u1 z1 t' u2 z2 h1 h2 s1 s2 e=>?_,fun t u1 z1 i h1 s1 hi=>?_,h.mz,h.gl.keep kp.m kp.qZ⟩
 ·exact(h.box i b hb).stay kp (List.getElem?_eq_some_iff.1 hb).1 rfl id
 ·rcases part t u' z' ht with⟨bh,ht⟩|⟨rfl,rfl,rfl⟩
  ·have:=h.tok t u' z' ht;unfold sq at this ⊢;rw[nr t bh];exact this
  ·exact fC
 ·rcases part t u1 z1 h1 with⟨bh,g1⟩|⟨rfl,e1,e2⟩<;>rcases part t' u2 z2 h2 with⟨oP,g2⟩|⟨rfl,e3,e4⟩
  ·rw[nr _ bh] at s1 e;rw[nr _ oP] at s2 e;exact h.mP t u1 z1 t' u2 z2 g1 g2 s1 s2 e
  ·rw[nr _ bh] at s1 e;rw[pS] at s2 e;rw[e3,e4] at s2;exact absurd (.inr ⟨t,u1,z1,g1,s1,e⟩) (hb s2)
  ·rw[nr _ oP] at s2 e;rw[pS] at s1 e;rw[e1,e2] at s1;exact absurd (.inr ⟨t',u2,z2,g2,s2,e.symm⟩) (hb s1)
  ·rfl
 ·rcases part t u1 z1 h1 with⟨bh,h1⟩|⟨rfl,rfl,rfl⟩
  ·rw[nr _ bh] at s1 ⊢;exact h.je t u1 z1 i h1 s1 hi
  ·rw[pS] at s1 ⊢;exact fun e=>hb s1 (.inl ⟨i,hi,e.symm⟩)
theorem Ev.j6 {L L1:Lay}{H:List aG}{T:ay}{w w1:World}{k:Tk}{u z:Nat}(h:Ev H.length T.length L H.length T w L1 H.length T w1)(hb:u<k.c*z→w.heap.size≤k.b∨Wr L H.length T k.b) :
  Ev H.length T.length L H.length T w (L1.aU T.length k) H.length (T++[(u,z)]) w1:=by
 refine⟨h.n,h.bL,fun t u' z' ht hT=>?_,by simp,h.m,h.qZ,h.size,h.frame,fun x hx=>?_,h.os,h.tape,h.output,h.drawn,h.dr⟩
 ·obtain⟨u1,h1,h2,h3⟩:=h.tok t u' z' ht hT;refine⟨u1,by rw[getElem?_append_left ht];exact h1,h2,fun e=>?_⟩;simp only[Lay.aU];rw[if_neg (by omega)];exact h3 e
 ·rcases hx with⟨i,hi,e⟩|⟨t,u1,z1,ht,hs,e⟩
  ·exact h.wr x (.inl ⟨i,hi,e⟩)
  ·rcases lt_or_ge t T.length with bh|ku
   ·rw[getElem?_append_left bh] at ht;simp only[Lay.aU] at hs e;rw[if_neg (by omega)] at hs e;exact h.wr x (.inr ⟨t,u1,z1,ht,hs,e⟩)
   ·have h1:=(List.getElem?_eq_some_iff.1 ht).1;simp at h1;have:t=T.length:=by omega
    subst this;simp at ht;simp[Lay.aU] at hs e;obtain⟨rfl,rfl⟩:=ht;subst e;rcases hb hs with g|g
    ·exact .inr g
    ·exact .inl g
theorem mI (w:World)(b o:Nat)(v:Value){c:Array Value}{e:TypeId}{fr:Nat×Nat}(h:w.heap[b]?=some (.cells c e fr)) :
  (w.setCell ⟨b,o,none⟩ v).heap[b]?=some (.cells (c.setIfInBounds o v) e fr):=by
 show (w.heap.modify b _)[b]?=_;rw[Array.getElem?_modify,if_pos rfl,h];rfl
theorem fk (w:World)(b o:Nat)(v:Value)(x:Nat)(hx:x≠b):(w.setCell ⟨b,o,none⟩ v).heap[x]?=w.heap[x]?:=by
 simp only[World.setCell,Array.getElem?_modify];rw[if_neg (fun e=>hx e.symm)]
theorem bN.setCell {L:Lay}{H:List aG}{T:ay}{w:World}(h:bN L H T w){i o:Nat}{vs:List AV}(hi:H[i]?=some (.cells vs))(ho:o<vs.length){v:AV}{cv:Value}
  (hv:aZ L H.length T w v cv) (h1:cv.oneCell'=true) :
  bN L (H.set i (.cells (vs.set o v))) T (w.setCell ⟨L.bL i,o,none⟩ cv)∧
   Ev H.length T.length L H.length T w L (H.set i (.cells (vs.set o v))).length T (w.setCell ⟨L.bL i,o,none⟩ cv):=by
 have cW:=(List.getElem?_eq_some_iff.1 hi).1;obtain⟨c,t,fr,g1,g2,g3,vw,g4,g5⟩:=h.box i _ hi;have pT:∀b o',o'<L.m b→(w.setCell ⟨L.bL i,o,none⟩ cv).cell? ⟨b,o',none⟩=w.cell? ⟨b,o',none⟩:=by
  intro b o' bh;refine gJ (fk w _ _ _ _ ?_) o';rintro rfl;omega
 have kp:dd L H.length T w L H.length T (w.setCell ⟨L.bL i,o,none⟩ cv):=
  ⟨le_refl _,fun _ _=>rfl,fun t u z h=>⟨u,h,le_refl _,fun _=>rfl⟩,fun _=>le_refl _,pT,rfl⟩
 refine⟨⟨fun j b hb=>?_,fun a b ha hb=>h.inj a b (by simpa using ha) (by simpa using hb),fun t u z ht=>?_,h.mP,fun t u z j ht hs hj=>h.je t u z j ht hs (by simpa using hj),fun b hb=>h.mz b (by simpa using hb),h.gl.keep kp.m kp.qZ⟩,
  by simp,fun _ _=>rfl,fun t u z _ h=>⟨u,h,le_refl _,fun _=>rfl⟩,le_refl _,fun _=>le_refl _,pT,by simp,fun b hb hn=>?_,fun b hb=>.inl (by simpa using hb),rfl,rfl,rfl,fun _=>le_refl _,rfl⟩
 ·rw[length_set]
  by_cases sL:i=j
  ·subst sL;rw[getElem?_set_self cW] at hb
   cases hb
   refine⟨_,t,fr,mI w _ _ _ g1,fun o' HV=>g2 o' (by simpa using HV),by simpa using g3,fun j hj=>?_,fun j hj bK=>?_,g5⟩
   ·by_cases Q7:o=j
    ·subst Q7;simpa using h1
    ·rw[Array.getElem_setIfInBounds_ne (by simpa using hj) Q7];exact vw j _
   ·by_cases Q7:o=j
    ·subst Q7;simpa using hv.keep kp
    ·rw[Array.getElem_setIfInBounds_ne (by simpa using bK) Q7,List.getElem_set_ne Q7];exact(g4 j (by simpa using hj) (by simpa using bK)).keep kp
  ·rw[getElem?_set_ne sL] at hb;have hx:=h.box j b hb;have o6:=(List.getElem?_eq_some_iff.1 hb).1;have dW:L.bL j≠L.bL i:=fun e=>sL (h.inj j i o6 cW e).symm;exact hx.stay kp o6 (fk w _ _ _ _ dW) id
 ·obtain⟨k1,k2⟩:=h.tok t u z ht;refine⟨k1,fun hs=>?_⟩;rw[fk _ _ _ _ _ (h.je t u z i ht hs cW)];exact k2 hs
 ·exact fk w _ _ _ _ (fun e=>hn (.inl ⟨i,cW,e.symm⟩))
theorem bN.setIter {L:Lay}{H:List aG}{T:ay}{w:World}(h:bN L H T w){i pos pos':Nat}{s:List UInt8}(hi:H[i]?=some (.iter s pos)) :
  bN L (H.set i (.iter s pos')) T { w with heap:=w.heap.setIfInBounds (L.bL i) (.stringIter ⟨s.toArray⟩ pos') }∧
   Ev H.length T.length L H.length T w L (H.set i (.iter s pos')).length T { w with heap:=w.heap.setIfInBounds (L.bL i) (.stringIter ⟨s.toArray⟩ pos') }:=by
 have cW:=(List.getElem?_eq_some_iff.1 hi).1;have hx:w.heap[L.bL i]?=some (.stringIter ⟨s.toArray⟩ pos):=h.box i _ hi;have dW:∀x,x≠L.bL i→(w.heap.setIfInBounds (L.bL i) (.stringIter ⟨s.toArray⟩ pos'))[x]?=w.heap[x]?:=fun x hx=>Array.getElem?_setIfInBounds_ne (fun e=>hx e.symm);have pT:∀b o',o'<L.m b→World.cell? { w with heap:=w.heap.setIfInBounds (L.bL i) (.stringIter ⟨s.toArray⟩ pos') } ⟨b,o',none⟩=w.cell? ⟨b,o',none⟩:=by
  intro b o' bh
  by_cases hb:b=L.bL i
  ·subst hb;have oP:=h.ml cW;have h1:(w.heap.setIfInBounds (L.bL i) (.stringIter ⟨s.toArray⟩ pos'))[L.bL i]?=some (.stringIter ⟨s.toArray⟩ pos'):=by simp[oP]
   unfold World.cell?;simp only[hx,h1]
  ·exact gJ (dW b hb) o'
 have kp:dd L H.length T w L H.length T { w with heap:=w.heap.setIfInBounds (L.bL i) (.stringIter ⟨s.toArray⟩ pos') }:=
  ⟨le_refl _,fun _ _=>rfl,fun t u z h=>⟨u,h,le_refl _,fun _=>rfl⟩,fun _=>le_refl _,pT,rfl⟩
 refine⟨⟨fun j b hb=>?_,fun a b ha hb=>h.inj a b (by simpa using ha) (by simpa using hb),fun t u z ht=>?_,h.mP,fun t u z j ht hs hj=>h.je t u z j ht hs (by simpa using hj),fun b hb=>h.mz b (by simpa using hb),h.gl.keep kp.m kp.qZ⟩,
  by simp,fun _ _=>rfl,fun t u z _ h=>⟨u,h,le_refl _,fun _=>rfl⟩,le_refl _,fun _=>le_refl _,pT,by simp,fun b hb hn=>?_,fun b hb=>.inl (by simpa using hb),rfl,rfl,rfl,fun _=>le_refl _,rfl⟩
 ·rw[length_set]
  by_cases sL:i=j
  ·subst sL;rw[getElem?_set_self cW] at hb
   cases hb
   have:=h.ml cW;simp[kO,this]
  ·rw[getElem?_set_ne sL] at hb;have hx:=h.box j b hb;have o6:=(List.getElem?_eq_some_iff.1 hb).1;have hnj:L.bL j≠L.bL i:=fun e=>sL (h.inj j i o6 cW e).symm;exact hx.stay kp o6 (dW _ hnj) id
 ·obtain⟨k1,k2⟩:=h.tok t u z ht;refine⟨k1,fun hs=>?_⟩;have:=dW _ (h.je t u z i ht hs cW);simp only[this];exact k2 hs
 ·exact dW _ (fun e=>hn (.inl ⟨i,cW,e.symm⟩))
theorem bN.grow {L:Lay}{H:List aG}{T:ay}{w w':World}(h:bN L H T w){t u z k:Nat}(ht:T[t]?=some (u,z))(hk:0<k)(hs:u+k≤(L.dD t).c*z)
  {c c':Array Value} {e:TypeId} {fr:Nat×Nat} (hb:w.heap[(L.dD t).b]?=some (.cells c e fr)) (r8:w'.heap[(L.dD t).b]?=some (.cells c' e fr)) (gN:c'.size=c.size)
  (hold:∀j,j<(L.dD t).o+u→c'[j]?=c[j]?) (dW:∀x,x≠(L.dD t).b→w'.heap[x]?=w.heap[x]?) (hz:w'.heap.size=w.heap.size) (ho:w'.os=w.os) (RU:w'.tape=w.tape) (o9:w'.output=w.output) (vv:w.drawn≤w'.drawn) :
  bN (L.bJ (L.dD t).b ((L.dD t).o+u+k)) H (T.set t (u+k,z)) w'∧
   Ev H.length T.length L H.length T w (L.bJ (L.dD t).b ((L.dD t).o+u+k)) H.length (T.set t (u+k,z)) w':=by
 have lV:=(List.getElem?_eq_some_iff.1 ht).1;obtain⟨HE,tW⟩:=h.tok t u z ht;have EY:u<(L.dD t).c*z:=by omega
 obtain⟨c0,e0,fr0,g1,g2,g3,g4⟩:=tW EY;rw[hb] at g1
 cases g1
 have Mi:=h.Cn ht EY;have pT:∀b o',o'<L.m b→w'.cell? ⟨b,o',none⟩=w.cell? ⟨b,o',none⟩:=by
  intro b o' bh
  by_cases HJ:b=(L.dD t).b
  ·subst HJ;rw[fi hb,fi r8];exact hold o' (by omega)
  ·exact gJ (dW b HJ) o'
 have Ox:∀b,L.m b≤(L.bJ (L.dD t).b ((L.dD t).o+u+k)).m b:=by
  intro b;show L.m b≤if b=(L.dD t).b then _ else L.m b
  split
  ·rename_i e;rw[e];omega
  ·exact le_refl _
 have Ie:∀(t' u' z':Nat),T[t']?=some (u',z')→∃u1:Nat,(T.set t (u+k,z))[t']?=some (u1,z')∧u'≤u1∧(u1=u'→(L.bJ (L.dD t).b ((L.dD t).o+u+k)).dD t'=L.dD t'):=by
  intro t' u' z' n4
  by_cases qM:t=t'
  ·subst qM;rw[ht] at n4
   cases n4
   exact⟨u+k,by rw[getElem?_set_self lV],by omega,fun _=>rfl⟩
  ·exact⟨u',by rw[getElem?_set_ne qM];exact n4,le_refl _,fun _=>rfl⟩
 have kp:dd L H.length T w (L.bJ (L.dD t).b ((L.dD t).o+u+k)) H.length (T.set t (u+k,z)) w':=
  ⟨le_refl _,fun _ _=>rfl,Ie,Ox,pT,rfl⟩
 have pf:∀i,i<H.length→L.bL i≠(L.dD t).b:=fun i hi=>(h.je t u z i ht EY hi).symm;have back:∀(t' u' z':Nat),(T.set t (u+k,z))[t']?=some (u',z')→∃u0:Nat,T[t']?=some (u0,z')∧u0≤u':=by
  intro t' u' z' n4
  by_cases qM:t=t'
  ·subst qM;rw[getElem?_set_self lV] at n4
   cases n4
   exact⟨u,ht,by omega⟩
  ·rw[getElem?_set_ne qM] at n4;exact⟨u',n4,le_refl _⟩
 refine⟨⟨fun i b Pg=>?_,h.inj,fun t' u' z' n4=>?_,fun t1 u1 z1 t2 u2 z2 h1 h2 s1 s2 e=>?_,fun t1 u1 z1 i h1 s1 hi=>?_,fun b hbz=>?_,h.gl.keep kp.m kp.qZ⟩,
  le_refl _,fun _ _=>rfl,fun t' u' z' _ n4=>Ie t' u' z' n4,by simp,Ox,pT,by omega,fun b o7 hn=>?_,fun b sO=>?_,ho,RU,o9,fun _=>vv,rfl⟩
 ·have hx:=h.box i b Pg;have cW:=(List.getElem?_eq_some_iff.1 Pg).1;have hn:=pf i cW;refine hx.stay kp cW (dW _ hn) fun k5=>?_;show (if L.bL i=(L.dD t).b then _ else L.m (L.bL i))=0;rw[if_neg hn];exact k5
 ·by_cases qM:t=t'
  ·subst qM;rw[getElem?_set_self lV] at n4
   cases n4
   refine⟨HE,fun PJ=>⟨c',e,fr,r8,by rw[gN];exact g2,fun o' h1 h2=>g3 o' (by simp only[Lay.bJ] at h1;omega) h2,?_⟩⟩;show (if (L.dD t).b=(L.dD t).b then _ else _)≤_;rw[if_pos rfl];simp only[Lay.bJ];omega
  ·rw[getElem?_set_ne qM] at n4;obtain⟨k1,k2⟩:=h.tok t' u' z' n4;refine⟨k1,fun PJ=>?_⟩;have E9:(L.dD t').b≠(L.dD t).b:=fun e=>qM (h.mP t' u' z' t u z n4 ht PJ EY e).symm;obtain⟨c1,e1,fr1,m1,m2,m3,m4⟩:=k2 PJ;refine⟨c1,e1,fr1,(dW _ E9).trans m1,m2,m3,?_⟩;show (if (L.dD t').b=(L.dD t).b then _ else L.m (L.dD t').b)≤_;rw[if_neg E9];exact m4
 ·obtain⟨OV,g1,l1⟩:=back t1 u1 z1 h1;obtain⟨u2',g2,l2⟩:=back t2 u2 z2 h2;have Zl:OV<(L.dD t1).c*z1:=lt_of_le_of_lt l1 s1;have s2':u2'<(L.dD t2).c*z2:=lt_of_le_of_lt l2 s2;exact h.mP t1 OV z1 t2 u2' z2 g1 g2 Zl s2' e
 ·obtain⟨OV,g1,l1⟩:=back t1 u1 z1 h1;have Zl:OV<(L.dD t1).c*z1:=lt_of_le_of_lt l1 s1;exact h.je t1 OV z1 i g1 Zl hi
 ·show (if b=(L.dD t).b then _ else L.m b)=0;rw[if_neg (by omega)];exact h.mz b (by omega)
 ·exact dW b (fun e=>hn (.inr ⟨t,u,z,ht,EY,e.symm⟩))
 ·rcases sO with⟨i,hi,e⟩|⟨t',u',z',n4,BD,e⟩
  ·exact .inl (.inl ⟨i,hi,e⟩)
  ·obtain⟨OV,g1,l1⟩:=back t' u' z' n4;exact .inl (.inr ⟨t',OV,z',g1,lt_of_le_of_lt l1 BD,e⟩)
theorem bN.Cp {L:Lay}{H:List aG}{T:ay}{w:World}(h:bN L H T w){t u z u':Nat}(ht:T[t]?=some (u,z))(hu:u<u')(k:Tk)
  (hb:u'<k.c*z→¬Wr L H.length T k.b) (fC:sq (L.aU t k) w t u' z):bN (L.aU t k) H (T.set t (u',z)) w:=by
 have lV:=(List.getElem?_eq_some_iff.1 ht).1;have nr:∀t',t'≠t→(L.aU t k).dD t'=L.dD t':=fun t' hn=>by simp only[Lay.aU];rw[if_neg hn]
 have pS:(L.aU t k).dD t=k:=by simp[Lay.aU]
 have kp:dd L H.length T w (L.aU t k) H.length (T.set t (u',z)) w:=by
  refine⟨le_refl _,fun i hi=>rfl,fun t' u1 z1 n4=>?_,fun _=>le_refl _,fun _ _ _=>rfl,rfl⟩
  by_cases qM:t'=t
  ·subst qM;rw[ht] at n4
   cases n4
   exact⟨u',by rw[getElem?_set_self lV],by omega,fun e=>by omega⟩
  ·exact⟨u1,by rw[getElem?_set_ne (fun e=>qM e.symm)];exact n4,le_refl _,fun _=>nr t' qM⟩
 have part:∀(t' u1 z1:Nat),(T.set t (u',z))[t']?=some (u1,z1)→(t'≠t∧T[t']?=some (u1,z1))∨(t'=t∧u1=u'∧z1=z):=by
  intro t' u1 z1 h1
  by_cases qM:t'=t
  ·subst qM;rw[getElem?_set_self lV] at h1
   cases h1
   exact .inr ⟨rfl,rfl,rfl⟩
  ·rw[getElem?_set_ne (fun e=>qM e.symm)] at h1;exact .inl ⟨qM,h1⟩
 refine⟨fun i b Pg=>?_,h.inj,fun t' u1 z1 h1=>?_,fun t1 u1 z1 t2 u2 z2 h1 h2 s1 s2 e=>?_,fun t1 u1 z1 i h1 s1 hi=>?_,h.mz,h.gl.keep kp.m kp.qZ⟩
 ·exact(h.box i b Pg).stay kp (List.getElem?_eq_some_iff.1 Pg).1 rfl id
 ·rcases part t' u1 z1 h1 with⟨hn,g1⟩|⟨rfl,e1,e2⟩
  ·have:=h.tok t' u1 z1 g1;unfold sq at this ⊢;rw[nr t' hn];exact this
  ·rw[e1,e2];exact fC
 ·rcases part t1 u1 z1 h1 with⟨O8,g1⟩|⟨r1,e1,e2⟩<;>rcases part t2 u2 z2 h2 with⟨Q2,g2⟩|⟨r2,e3,e4⟩
  ·rw[nr _ O8] at s1 e;rw[nr _ Q2] at s2 e;exact h.mP t1 u1 z1 t2 u2 z2 g1 g2 s1 s2 e
  ·rw[nr _ O8] at s1 e;rw[r2,pS] at s2 e;rw[e3,e4] at s2;exact absurd (.inr ⟨t1,u1,z1,g1,s1,e⟩) (hb s2)
  ·rw[nr _ Q2] at s2 e;rw[r1,pS] at s1 e;rw[e1,e2] at s1;exact absurd (.inr ⟨t2,u2,z2,g2,s2,e.symm⟩) (hb s1)
  ·rw[r1,r2]
 ·rcases part t1 u1 z1 h1 with⟨O8,g1⟩|⟨r1,e1,e2⟩
  ·rw[nr _ O8] at s1 ⊢;exact h.je t1 u1 z1 i g1 s1 hi
  ·rw[r1,pS] at s1 ⊢;rw[e1,e2] at s1;exact fun e=>hb s1 (.inl ⟨i,hi,e.symm⟩)
theorem Ev.Cp {L L1:Lay}{H:List aG}{T:ay}{w w1:World}{k:Tk}{t u z u':Nat}(h:Ev H.length T.length L H.length T w L1 H.length T w1)(ht:T[t]?=some (u,z))(hu:u<u')
  (hb:u'<k.c*z→w.heap.size≤k.b):Ev H.length T.length L H.length T w (L1.aU t k) H.length (T.set t (u',z)) w1:=by
 have lV:=(List.getElem?_eq_some_iff.1 ht).1;refine⟨h.n,h.bL,fun t' u1 z1 bh hT=>?_,by simp,h.m,h.qZ,h.size,h.frame,fun x hx=>?_,h.os,h.tape,h.output,h.drawn,h.dr⟩
 ·obtain⟨u2,h1,h2,h3⟩:=h.tok t' u1 z1 bh hT;rw[hT] at h1
  by_cases qM:t'=t
  ·subst qM;rw[ht] at hT
   cases hT
   exact⟨u',by rw[getElem?_set_self lV],by omega,fun e=>by omega⟩
  ·refine⟨u1,by rw[getElem?_set_ne (fun e=>qM e.symm)];exact hT,le_refl _,fun e=>?_⟩;simp only[Lay.aU];rw[if_neg qM]
   cases h1
   exact h3 rfl
 ·rcases hx with⟨i,hi,e⟩|⟨t',u1,z1,h1,hs,e⟩
  ·exact h.wr x (.inl ⟨i,hi,e⟩)
  ·by_cases qM:t'=t
   ·subst qM;rw[getElem?_set_self lV] at h1
    cases h1
    simp[Lay.aU] at hs e;subst e;exact .inr (hb hs)
   ·rw[getElem?_set_ne (fun e=>qM e.symm)] at h1;simp only[Lay.aU] at hs e;rw[if_neg qM] at hs e;exact h.wr x (.inr ⟨t',u1,z1,h1,hs,e⟩)
def vC:Value→AV
 |.bool b=>.bool b
 |.int k n=>.int k n
 |.string s=>.str s.data.toList
 |.pointer none=>.eO
 |.slice _ 0 0=>.sl 0 [] .full
 |.nilFunc=>.gw
 |.nilIface=>.kV
 |_=>.top
def LI:Value→AV
 |.agg cs=>if cs.all (·.oneCell') then .agg (cs.toList.map vC) else .top
 |v=>vC v
def bQ (e:Env):Operand→AV
 |.tmp t=>bZ e t
 |.const v=>LI v
 |.func f=>.fn f [] []
 |.global _=>.top
def xM:AV→Bool
 |.top|.agg _|.cJ _=>false
 |_=>true
section
variable {L : Lay} {N : Nat} {T : ay} {w : World}
theorem aZ.vC (v:Value):aZ L N T w (vC v) v:=by
 unfold Am.vC
 split
 ·exact .bool _
 ·exact .int _ _
 ·rename_i s;exact .str s.data.toList
 ·exact .eO
 ·exact .vR .full _ 0 rfl
 ·exact .gw
 ·exact .kV
 ·exact .top _
theorem aZ.LI (v:Value):aZ L N T w (LI v) v:=by
 unfold Am.LI
 split
 ·rename_i cs
  split
  ·rename_i h;rw[Array.all_eq_true] at h;refine .agg _ cs (by simp) (fun j hj=>h j hj) (fun j hj bK=>?_);simp only[getElem_map,Array.getElem_toList];exact .vC _
  ·exact .top _
 ·exact .vC _
theorem eV.bQ {e:Env}{a:Act}(h:eV L N T w e a)(x:Operand):aZ L N T w (bQ e x) (a.eval x):=by
 cases x with
 |tmp t=>exact h t
 |const v=>exact .LI v
 |func f=>exact .fn f [] [] #[] #[] rfl rfl (fun j hj=>by simp at hj) (fun j hj=>by simp at hj)
 |global g=>exact .top _
theorem aZ.dE {k:IntKind}{n:Int}{c:Value}(h:aZ L N T w (.int k n) c):c=.int k n:=by cases h;rfl
theorem aZ.ig {b:Bool}{c:Value}(h:aZ L N T w (.bool b) c):c=.bool b:=by cases h;rfl
theorem aZ.gp {s:List UInt8}{c:Value}(h:aZ L N T w (.str s) c):c=.string ⟨s.toArray⟩:=by cases h;rfl
theorem aZ.zW {c:Value}(h:aZ L N T w .kV c):c=.nilIface:=by cases h;rfl
theorem aZ.Ex {c:Value}(h:aZ L N T w .xl c):∃t v,c=.iface t v:=by cases h;exact⟨_,_,rfl⟩
theorem aZ.mo {i o:Nat}{c:Value}(h:aZ L N T w (.ptr i o) c):c=.pointer (some ⟨L.bL i,o,none⟩)∧i<N:=by cases h;exact⟨rfl,‹_›⟩
theorem aZ.cell {v:AV}{c:Value}(h:aZ L N T w v c)(hc:xM v=true):c.oneCell'=true:=by
 cases h<;>simp[xM] at hc<;>rfl
end
def Good (P:Program)(x:Sem Next)(H:List aG)(T:ay)(L:Lay)(w:World)(r:AV)(H':List aG)(T':ay):Prop:=
 ∃n cv w' L',x.run P w=.ok n w'∧(n=.value cv∨(n=.skip∧cv=undef))∧bN L' H' T' w'∧aZ L' H'.length T' w' r cv∧Ev H.length T.length L H.length T w L' H'.length T' w'
theorem Good.now {P:Program}{x:Sem Next}{H:List aG}{T:ay}{L:Lay}{w:World}{r:AV}{cv:Value}(hc:bN L H T w)(hx:x.run P w=.ok (.value cv) w)(hr:aZ L H.length T w r cv):Good P x H T L w r H T:=
 ⟨_,cv,w,L,hx,.inl rfl,hc,hr,Ev.refl (le_refl _) (le_refl _)⟩
def Ms (op : BinOp) (k : IntKind) (a b : Int) : Option AV :=
  match op with
  | .add => some (.int k (k.wrap (a + b)))
  | .sub => some (.int k (k.wrap (a - b)))
  | .mul => some (.int k (k.wrap (a * b)))
  | .quo => if b = 0 then none else some (.int k (k.wrap (a.tdiv b)))
  | .rem => if b = 0 then none else some (.int k (a.tmod b))
  | .and => some (.int k (bits .and k a b))
  | .or => some (.int k (bits .or k a b))
  | .xor => some (.int k (bits .xor k a b))
  | .andNot => some (.int k (bits .andNot k a b))
  | .eql => some (.bool (a == b))
  | .neq => some (.bool (a != b))
  | .lss => some (.bool (decide (a < b)))
  | .leq => some (.bool (decide (a ≤ b)))
  | .gtr => some (.bool (decide (a > b)))
  | .geq => some (.bool (decide (a ≥ b)))
  | _ => none
def Mp (op:BinOp)(a b:List UInt8):Option AV:=
 match op with
 |.add=>if a.length+b.length≤9223372036854775807 then some (.str (a++b)) else none
 |.eql=>some (.bool (a==b))
 |.neq=>some (.bool (!(a==b)))
 |.lss=>some (.bool (Op.bytesLess a b))
 |.leq=>some (.bool (Op.bytesLess a b||a==b))
 |.gtr=>some (.bool (!(Op.bytesLess a b||a==b)))
 |.geq=>some (.bool (!Op.bytesLess a b))
 |_=>none
def Mt (op:BinOp)(x y:AV):Option AV:=
 match x,y with
 |.int k a,.int k' b=>
  match op with
  |.shl=>if 0≤b then some (.int k (k.wrap (a*2 ^ min b.toNat k.bits))) else none
  |.shr=>if 0≤b then some (.int k (a.fdiv (2 ^ min b.toNat k.bits))) else none
  |op=>if k=k' then Ms op k a b else none
 |.str a,.str b=>Mp op a b
 |.bool a,.bool b=>match op with
  |.eql=>some (.bool (a==b))
  |.neq=>some (.bool (!(a==b)))
  |_=>none
 |.eO,.eO=>match op with|.eql=>some (.bool true)|.neq=>some (.bool false)|_=>none
 |.ptr _ _,.eO|.dI _ _,.eO|.eO,.ptr _ _|.eO,.dI _ _=>match op with|.eql=>some (.bool false)|.neq=>some (.bool true)|_=>none
 |_,_=>none
def Xr (op:UnOp)(x:AV):Option AV:=
 match op,x with
 |.neg,.int k n=>some (.int k (k.wrap (0-n)))
 |.xor,.int k n=>some (.int k (bits .xor k (if k.signed then -1 else k.max) n))
 |.not,.bool b=>some (.bool (!b))
 |_,_=>none
section
variable {P : Program} {w : World}
theorem JG {op : BinOp} {k : IntKind} {a b : Int} {r : AV} (h : Ms op k a b = some r) (t : TypeId) (h1 : op ≠ .shl) (h2 : op ≠ .shr) :
    ∃ cv, (binOp op t (.int k a) (.int k b)).run P w = .ok cv w ∧ ∀ (L : Lay) (N : Nat) (T : ay) (w' : World), aZ L N T w' r cv := by
  cases op <;> simp only [Ms, Option.some.injEq, reduceCtorEq] at h
  case quo =>
    split at h
    · cases h
    · rename_i hb
      cases h
      exact ⟨_, by simp [binOp, Op.intDiv, hb], fun _ _ _ _ => .int _ _⟩
  case rem =>
    split at h
    · cases h
    · rename_i hb
      cases h
      exact ⟨_, by simp [binOp, Op.intDiv, hb], fun _ _ _ _ => .int _ _⟩
  all_goals
    subst h
    first
      | exact ⟨_, by simp [binOp, Op.intArith]; rfl, fun _ _ _ _ => .int _ _⟩
      | exact ⟨_, by simp [binOp, Op.intCmp], fun _ _ _ _ => .bool _⟩
      | exact ⟨_, by simp [binOp, Op.intBits]; rfl, fun _ _ _ _ => .int _ _⟩
theorem toList_mk (s:List UInt8):(⟨s.toArray⟩:ByteArray).toList=s:=by
 rw[show (⟨s.toArray⟩:ByteArray).toList=(⟨s.toArray⟩:ByteArray).data.toList from ByteArray.toList_eq _]
theorem GM (a b:List UInt8):(⟨a.toArray⟩:ByteArray)++⟨b.toArray⟩=⟨(a++b).toArray⟩:=by
 apply ByteArray.ext;simp
theorem JC {op:BinOp}{a b:List UInt8}{r:AV}(h:Mp op a b=some r)(t:TypeId) :
  ∃cv,(binOp op t (.string ⟨a.toArray⟩) (.string ⟨b.toArray⟩)).run P w=.ok cv w∧∀(L:Lay)(N:Nat)(T:ay)(w':World),aZ L N T w' r cv:=by
 have hi:IntKind.i64.max=9223372036854775807:=by decide
 cases op<;>simp only[Mp,Option.some.injEq,reduceCtorEq] at h
 case add=>
  split at h
  ·rename_i hb
   cases h
   refine⟨.string ⟨(a++b).toArray⟩,?_,fun _ _ _ _=>.str _⟩;have:¬((a.length+b.length:Nat):Int)>IntKind.i64.max:=by rw[hi];omega
   simp only[binOp,Op.stringOp];rw[if_neg (by simpa[ByteArray.size] using this),GM];rfl
  ·cases h
 all_goals
  subst h;exact⟨_,by simp only[binOp,Op.stringOp,toList_mk];rfl,fun _ _ _ _=>.bool _⟩
theorem mH (op:BinOp)(t:TypeId)(x y:Operand)(a b:Value)(h:(∀cs,a≠.agg cs)∧a≠.nilIface):(eqGuard op t x y a b).run P w=.ok () w:=by
 unfold eqGuard
 cases a<;>first|exact absurd rfl h.2|exact absurd rfl (h.1 _)|(cases op<;>simp)
theorem MQ {op:UnOp}{x r:AV}{c:Value}{L:Lay}{N:Nat}{T:ay}(h:Xr op x=some r)(hx:aZ L N T w x c) :
  ∃cv,(Op.unary op c).run P w=.ok cv w∧∀(L:Lay)(N:Nat)(T:ay)(w':World),aZ L N T w' r cv:=by
 unfold Xr at h
 split at h
 ·cases h;rw[hx.dE];exact⟨_,rfl,fun _ _ _ _=>.int _ _⟩
 ·cases h;rw[hx.dE];exact⟨_,rfl,fun _ _ _ _=>.int _ _⟩
 ·cases h;rw[hx.ig];exact⟨_,rfl,fun _ _ _ _=>.bool _⟩
 ·cases h
def ry (P:Program)(t:TypeId)(x:AV):Bool:=
 match P.underlying t,x with
 |some .bool,.bool _=>true
 |some (.pointer _),.eO|some (.pointer _),.ptr _ _|some (.pointer _),.dI _ _=>true
 |some _,.int _ _|some _,.str _=>true
 |_,_=>false
theorem jE (t:TypeId)(x y:Value)(b:Bool)(op:BinOp)(ho:op=.eql∨op=.neq)(hb:binOp .eql t x y=(do pure (.bool (←Op.equal t x y))))(r8:binOp .neq t x y=(do pure (.bool (!(←Op.equal t x y)))))
  (h:∀d:Nat,(Op.equalIn (d+1) t x y).run P w=.ok b w):(binOp op t x y).run P w=.ok (.bool (if op=.eql then b else !b)) w:=by
 have h1:(Op.equal t x y).run P w=.ok b w:=h 9999;rcases ho with rfl|rfl
 ·rw[hb];simp only[Sem.run_bind,h1,Result.andThen_ok];rfl
 ·rw[r8];simp only[Sem.run_bind,h1,Result.andThen_ok];rfl
theorem JI {op : BinOp} {x y r : AV} {cx cy : Value} {L : Lay} {N : Nat} {T : ay} (t : TypeId) (h : Mt op x y = some r) (ht : ry P t x = true) (hx : aZ L N T w x cx) (hy : aZ L N T w y cy) (ox oy : Operand) :
    ∃ cv, (eqGuard op t ox oy cx cy >>= fun _ => binOp op t cx cy).run P w = .ok cv w ∧ ∀ (L : Lay) (N : Nat) (T : ay) (w' : World), aZ L N T w' r cv := by
  have hg : (∀ cs, cx ≠ .agg cs) ∧ cx ≠ .nilIface := by
    cases hx <;> first | (exfalso; simp [ry] at ht; done) | exact ⟨fun _ e => (by cases e), fun e => (by cases e)⟩
  simp only [Sem.run_bind, mH op t ox oy cx cy hg, Result.andThen_ok];unfold Mt at h
  split at h
  · rw [hx.dE, hy.dE]
    split at h
    · split at h
      · rename_i hb
        cases h
        refine ⟨_, ?_, fun _ _ _ _ => .int _ _⟩;simp only [binOp, Op.shift];rw [if_neg (by omega)];rfl
      · cases h
    · split at h
      · rename_i hb
        cases h
        refine ⟨_, ?_, fun _ _ _ _ => .int _ _⟩;simp only [binOp, Op.shift];rw [if_neg (by omega)];rfl
      · cases h
    · split at h
      · rename_i hk;subst hk;exact JG h t ‹_› ‹_›
      · cases h
  · rw [hx.gp, hy.gp];exact JC h t
  · rename_i a b;rw [hx.ig, hy.ig];have hu : P.underlying t = some .bool := by
      unfold ry at ht; split at ht <;> simp_all
    have he : ∀ d : Nat, (Op.equalIn (d + 1) t (.bool a) (.bool b)).run P w = .ok (a == b) w := fun d => by simp [Op.equalIn, run_underlying hu]
    split at h <;> cases h
    · exact ⟨_, jE t _ _ _ .eql (.inl rfl) rfl rfl he, fun _ _ _ _ => .bool _⟩
    · exact ⟨_, jE t _ _ _ .neq (.inr rfl) rfl rfl he, fun _ _ _ _ => .bool _⟩
  all_goals first
    | (have hu : ∃ e, P.underlying t = some (.pointer e) := by
        unfold ry at ht; split at ht <;> simp_all
       obtain ⟨e, hu⟩ := hu
       cases hx
       cases hy
       split at h <;> cases h
       · exact ⟨_, jE t _ _ _ .eql (.inl rfl) rfl rfl (fun d => by simp only [Op.equalIn, Sem.run_bind, run_underlying hu, Result.andThen_ok]; rfl), fun _ _ _ _ => .bool _⟩
       · exact ⟨_, jE t _ _ _ .neq (.inr rfl) rfl rfl (fun d => by simp only [Op.equalIn, Sem.run_bind, run_underlying hu, Result.andThen_ok]; rfl), fun _ _ _ _ => .bool _⟩)
    | cases h
end
theorem eh (b o j:Nat):(⟨b,o,none⟩:Addr).add j=⟨b,o+j,none⟩:=by
 unfold Addr.add
 split
 ·rename_i h;subst h;rfl
 ·rfl
def bW (L:Lay)(N:Nat)(T:ay)(w:World)(vs:List AV)(c:List Value):Prop:=
 c.length=vs.length∧(∀(j:Nat)(h':j<c.length),(c[j]'h').oneCell'=true)∧∀(j:Nat)(h:j<vs.length)(h':j<c.length),aZ L N T w (vs[j]'h) (c[j]'h')
section
variable {L : Lay} {N : Nat} {T : ay} {w : World}
theorem bW.nil:bW L N T w [] []:=⟨rfl,fun _ h=>by simp at h,fun _ h=>by simp at h⟩
theorem bW.one {v:AV}{c:Value}(h:aZ L N T w v c)(h1:c.oneCell'=true):bW L N T w [v] [c]:=
 ⟨rfl,fun j hj=>by simp at hj;subst hj;exact h1,fun j hj _=>by simp at hj;subst hj;exact h⟩
theorem bW.append {a b:List AV}{c d:List Value}(h:bW L N T w a c)(k:bW L N T w b d):bW L N T w (a++b) (c++d):=by
 refine⟨by simp[h.1,k.1],fun j hj=>?_,fun j hj bK=>?_⟩
 ·rw[List.getElem_append]
  split
  ·exact h.2.1 _ _
  ·exact k.2.1 _ _
 ·rw[List.getElem_append,List.getElem_append]
  by_cases bh:j<a.length
  ·rw[dif_pos bh,dif_pos (by rw[h.1];exact bh)];exact h.2.2 _ _ _
  ·rw[dif_neg bh,dif_neg (by rw[h.1];exact bh)];have:=k.2.2 (j-a.length) (by simp at hj;omega) (by simp at bK;rw[h.1] at bK;omega);simpa[h.1] using this
theorem bW.drop {a:List AV}{c:List Value}(h:bW L N T w a c)(k:Nat):bW L N T w (a.drop k) (c.drop k):=by
 refine⟨by simp[h.1],fun j hj=>?_,fun j hj bK=>?_⟩
 ·rw[List.getElem_drop];exact h.2.1 _ _
 ·rw[List.getElem_drop,List.getElem_drop];exact h.2.2 _ _ _
theorem bW.take {a:List AV}{c:List Value}(h:bW L N T w a c)(k:Nat):bW L N T w (a.take k) (c.take k):=by
 refine⟨by simp[h.1],fun j hj=>?_,fun j hj bK=>?_⟩
 ·rw[List.getElem_take];exact h.2.1 _ _
 ·rw[List.getElem_take,List.getElem_take];exact h.2.2 _ _ _
theorem bW.keep {L':Lay}{N':Nat}{T':ay}{w':World}{a:List AV}{c:List Value}(k:dd L N T w L' N' T' w')(h:bW L N T w a c):bW L' N' T' w' a c:=
 ⟨h.1,h.2.1,fun j hj bK=>(h.2.2 j hj bK).keep k⟩
theorem bW.set {a:List AV}{c:List Value}(h:bW L N T w a c)(i:Nat){v:AV}{x:Value}(hv:aZ L N T w v x)(h1:x.oneCell'=true):bW L N T w (a.set i v) (c.set i x):=by
 refine⟨by simp[h.1],fun j hj=>?_,fun j hj bK=>?_⟩
 ·rw[getElem_set]
  split
  ·exact h1
  ·exact h.2.1 _ _
 ·rw[getElem_set,getElem_set]
  split
  ·exact hv
  ·exact h.2.2 _ _ _
theorem bW.agg {a:List AV}{c:List Value}(h:bW L N T w a c):aZ L N T w (.agg a) (.agg c.toArray):=
 .agg a c.toArray (by simpa using h.1) (fun j hj=>by simpa using h.2.1 j (by simpa using hj)) (fun j hj bK=>by simpa using h.2.2 j hj (by simpa using bK))
theorem bW.xG {a:List AV}{c:Array Value}(h:aZ L N T w (.agg a) (.agg c)):bW L N T w a c.toList:=by
 cases h with
 |agg _ _ h1 h2 hr=>exact⟨by simpa using h1,fun j hj=>by simpa using h2 j (by simpa using hj),fun j hj bK=>by simpa using hr j hj (by simpa using bK)⟩
end
def Po (v:AV):Option (List AV):=
 match v with
 |.agg cs=>some cs
 |v=>if xM v then some [v] else none
theorem yd {L:Lay}{N:Nat}{T:ay}{w:World}{v:AV}{c:Value}{xs:List AV}(h:Po v=some xs)(hv:aZ L N T w v c):bW L N T w xs c.cells.toList:=by
 unfold Po at h
 split at h
 ·cases h
  cases hv with
  |agg _ _ h1 h2 hr=>exact bW.xG (.agg _ _ h1 h2 hr)
 ·rename_i hn
  split at h
  ·rename_i hc
   cases h
   have h1:=hv.cell hc;have:c.cells=#[c]:=by cases c<;>first|rfl|(simp[Value.oneCell'] at h1)
   rw[this];exact bW.one hv h1
  ·cases h
def iv (P:Program)(t:TypeId):Option Bool:=
 match P.underlying t with
 |some (.struct _)|some (.array _ _)=>some true
 |some _=>some false
 |none=>none
theorem jN {P:Program}{t:TypeId}{b:Bool}(h:iv P t=some b)(w:World):(isAgg t).run P w=.ok b w:=by
 unfold iv at h
 split at h<;>cases h
 ·rename_i hu;simp[isAgg,run_underlying hu]
 ·rename_i hu;simp[isAgg,run_underlying hu]
 ·rename_i d O8 Q2 hu;simp only[isAgg,Sem.run_bind,run_underlying hu,Result.andThen_ok]
  cases d<;>first|rfl|exact absurd rfl (O8 _)|exact absurd rfl (Q2 _ _)
theorem Nj {P:Program}{t:TypeId}{d:TypeDesc}(h:P.underlying t=some d):∃i,P.info? t=some i:=info_of_underlying h
theorem cz {P:Program}{t:TypeId}{d:TypeDesc}(h:P.underlying t=some d)(w:World):(sizeOf t).run P w=.ok (P.cellsOf t) w:=by
 obtain⟨i,hi⟩:=Nj h;exact run_sizeOf w hi
def Iy (H:List aG)(p:AV):Option (List AV×Nat):=
 match p with
 |.ptr i o=>match H[i]? with
  |some (.cells vs)=>some (vs,o)
  |_=>none
 |.dI cs o=>some (cs,o)
 |_=>none
theorem kO.at {L:Lay}{N:Nat}{T:ay}{w:World}{i:Nat}{vs:List AV}(h:kO L N T w i (.cells vs)) :
  ∃c:Array Value,bW L N T w vs c.toList∧∀j,w.cell? ⟨L.bL i,j,none⟩=c[j]?:=by
 obtain⟨c,t,fr,h1,h2,h3,SL,h4,h5⟩:=h;exact⟨c,⟨by simpa using h3,fun j hj=>by simpa using SL j (by simpa using hj),fun j hj bK=>by simpa using h4 j hj (by simpa using bK)⟩,fun j=>fi h1 j⟩
theorem vg {L:Lay}{H:List aG}{T:ay}{w:World}{p:AV}{c:Value}{vs:List AV}{o:Nat}(hc:bN L H T w)(hp:aZ L H.length T w p c)(h:Iy H p=some (vs,o)) :
  ∃(b base:Nat) (cv:List Value),c=.pointer (some ⟨b,base+o,none⟩)∧bW L H.length T w vs cv∧∀j,j<vs.length→w.cell? ⟨b,base+j,none⟩=cv[j]?:=by
 unfold Iy at h
 split at h
 ·rename_i i o'
  split at h
  ·rename_i vs' hi
   cases h
   cases hp with
   |ptr _ _ bh=>
    obtain⟨c,h1,h2⟩:=(hc.box i _ hi).at;exact⟨L.bL i,0,c.toList,by simp,h1,fun j _=>by simpa using h2 j⟩
  ·cases h
 ·cases h
  cases hp with
  |dI _ _ b base f hm jY h1 hr=>
   refine⟨b,base,(List.range vs.length).map f,rfl,⟨by simp,fun j hj=>by simpa using h1 j (by simpa using hj),fun j hj bK=>by simpa using hr j hj⟩,fun j hj=>?_⟩;rw[jY j hj];simp[hj]
 ·cases h
def oZ (P:Program)(t:TypeId)(vs:List AV)(o:Nat):Option AV:=
 match iv P t with
 |some true=>if o+P.cellsOf t≤vs.length then some (.agg ((vs.drop o).take (P.cellsOf t))) else none
 |some false=>if o<vs.length then some (vs.getD o .top) else none
 |none=>none
theorem sv {P:Program}{t:TypeId}{L:Lay}{N:Nat}{T:ay}{w:World}{vs:List AV}{o b base:Nat}{cv:List Value}{r:AV}(hr:bW L N T w vs cv)
  (hc:∀j,j<vs.length→w.cell? ⟨b,base+j,none⟩=cv[j]?) (h:oZ P t vs o=some r):∃c,(loadVar t ⟨b,base+o,none⟩).run P w=.ok c w∧aZ L N T w r c:=by
 unfold oZ at h
 split at h
 ·rename_i yE
  split at h
  ·rename_i hle
   cases h
   have hu:∃d,P.underlying t=some d:=by
    unfold iv at yE
    cases hx:P.underlying t with
    |none=>simp[hx] at yE
    |some d=>exact⟨d,rfl⟩
   obtain⟨d,hu⟩:=hu;have Lu:cv.length=vs.length:=hr.1;refine⟨.agg ((cv.drop o).take (P.cellsOf t)).toArray,?_,((hr.drop o).take _).agg⟩;have hl:=run_loadCells (P:=P) w ⟨b,base+o,none⟩ (P.cellsOf t) (fun j=>(cv[o+j]?).getD undef) (fun j hj=>by
    rw[eh,show base+o+j=base+(o+j) by omega,hc _ (by omega)];have:o+j<cv.length:=by omega
    simp[this])
   simp only[loadVar,Sem.run_bind,jN yE,Result.andThen_ok,if_true,cz hu,hl];show Result.ok _ _=Result.ok _ _
   congr 3
   apply ext_getElem
   ·simp;omega
   ·intro j h1 h2;simp at h1;have:o+j<cv.length:=by omega
    simp[this]
  ·cases h
 ·rename_i yE
  split at h
  ·rename_i bh;have Lu:o<cv.length:=by rw[hr.1];exact bh
   refine⟨cv[o],?_,?_⟩
   ·have jY:=hc o bh;rw[List.getElem?_eq_getElem Lu] at jY;simp only[loadVar,Sem.run_bind,jN yE,Result.andThen_ok,Bool.false_eq_true,if_false,run_load,jY]
   ·have:=hr.2.2 o bh Lu
    cases h
    simpa[bh] using this
  ·cases h
 ·cases h
def setMany:List AV→Nat→List AV→List AV
 |vs,_,[]=>vs
 |vs,o,x::r=>setMany (vs.set o x) (o+1) r
theorem ln {P:Program}{L:Lay}{T:ay}(i:Nat)(o:Nat):∀(xs:List AV)(cs:List Value)(k:Nat)(H:List aG)(w:World)(vs:List AV),bN L H T w→bW L H.length T w xs cs→
  H[i]?=some (.cells vs)→o+k+xs.length≤vs.length→
  ∃w',(storeCells ⟨L.bL i,o,none⟩ cs k).run P w=.ok () w'∧bN L (H.set i (.cells (setMany vs (o+k) xs))) T w'∧
   Ev H.length T.length L H.length T w L (H.set i (.cells (setMany vs (o+k) xs))).length T w':=by
 intro xs
 induction xs with
 |nil=>
  intro cs k H w vs hc hr hi hle;have BW:cs=[]:=eq_nil_of_length_eq_zero (by simpa using hr.1);subst BW;have hH:H.set i (.cells (setMany vs (o+k) []))=H:=by
   have bh:=(List.getElem?_eq_some_iff.1 hi)
   simp only[setMany];apply List.ext_getElem?;intro j
   by_cases hj:i=j
   ·subst hj;rw[getElem?_set_self bh.1,hi]
   ·rw[getElem?_set_ne hj]
  refine⟨w,rfl,by rw[hH];exact hc,by rw[hH];exact Ev.refl (le_refl _) (le_refl _)⟩
 |cons x r ih=>
  intro cs k H w vs hc hr hi hle
  match cs,hr with
  |c::cr,hr=>
   have cW:=(List.getElem?_eq_some_iff.1 hi).1;have h0:aZ L H.length T w x c:=hr.2.2 0 (by simp) (by simp);have h1:c.oneCell'=true:=hr.2.1 0 (by simp);have O4:bW L H.length T w r cr:=by simpa using hr.drop 1
   obtain⟨cc,t,fr,g1,g2,g3,vw,g4,g5⟩:=hc.box i _ hi;have bh:o+k<vs.length:=by simp at hle;omega
   obtain⟨qY,Sd⟩:=hc.setCell hi bh h0 h1;have dA:(store ((⟨L.bL i,o,none⟩:Addr).add k) c).run P w=.ok () (w.setCell ⟨L.bL i,o+k,none⟩ c):=by
    rw[eh,run_store P w _ c _ h1,fi g1];have hk:o+k<cc.size:=by omega
    have ZY:w.frozen? ⟨L.bL i,o+k,none⟩=false:=by
     unfold World.frozen?;simp only[g1];exact g2 _ hk
    simp[hk,ZY]
   have hlen:(H.set i (.cells (vs.set (o+k) x))).length=H.length:=by simp
   obtain⟨w',cK,lZ,BL⟩:=ih cr (k+1) (H.set i (.cells (vs.set (o+k) x))) (w.setCell ⟨L.bL i,o+k,none⟩ c) (vs.set (o+k) x) qY (by rw[hlen];exact O4.keep (by simpa[hlen] using Sd.keeps))
    (getElem?_set_self cW) (by simp at hle ⊢;omega)
   rw[List.set_set] at lZ BL;refine⟨w',?_,?_,?_⟩
   ·simp only[storeCells,Sem.run_bind,dA,Result.andThen_ok,cK]
   ·simpa[setMany,add_assoc] using lZ
   ·rw[hlen] at BL;have:=Sd.trans (by rw[hlen];exact BL);simpa[setMany,add_assoc] using this
  |[],hr=>simp[bW] at hr
theorem bN.pr {L:Lay}{H:List aG}{T:ay}{w:World}(h:bN L H T w)(c:Array Value)(ty:TypeId){vs:List AV}(hr:bW L H.length T w vs c.toList) :
  ∃L',bN L' (H++[aG.cells vs]) T (w.alloc (.cells c ty))∧Ev H.length T.length L H.length T w L' (H++[aG.cells vs]).length T (w.alloc (.cells c ty))∧L'.bL H.length=w.heap.size:=by
 have h1:=h.alloc (.cells c ty) 0;have e1:=Ev.alloc h (.cells c ty) 0;have BH:¬Wr (L.bJ w.heap.size 0) H.length T w.heap.size:=h.uu (le_refl _);have e2:=Ev.pw (b:=w.heap.size) (aG.cells vs) e1 (le_refl _);refine⟨(L.bJ w.heap.size 0).dh H.length w.heap.size,h1.pw w.heap.size BH (aG.cells vs) (fun hle=>by simp at hle;omega) ?_,e2,by simp[Lay.dh]⟩;have pR:((L.bJ w.heap.size 0).dh H.length w.heap.size).bL H.length=w.heap.size:=by simp[Lay.dh]
 have RY:=hr.keep e2.keeps;have hl:(H++[aG.cells vs]).length=H.length+1:=by simp
 rw[hl] at RY;refine⟨c,ty,(0,0),by rw[pR];exact eG w _,fun o ho=>by simp,by simpa using hr.1,fun j hj=>?_,fun j hj bK=>?_,?_⟩
 ·have:=hr.2.1 j (by simpa using hj);rwa [Array.getElem_toList] at this
 ·have:=RY.2.2 j hj (by simpa using bK);rwa [Array.getElem_toList] at this
 ·rw[pR];simp[Lay.dh,Lay.bJ]
theorem bN.newRow {L:Lay}{H:List aG}{T:ay}{w:World}(h:bN L H T w)(c:Array Value)(ty:TypeId)(fr:Nat×Nat){vs:List AV}(k:Nat)(hk:vs.length≤k)(hr:bW L H.length T w vs (c.toList.take vs.length))(n cap:Nat)(hn:n≤cap)(tg:Tag)(ht:tg=.none∨(tg=.full∧cap=n)) :
  bN (L.bJ w.heap.size k) H T (w.alloc (.cells c ty fr))∧Ev H.length T.length L H.length T w (L.bJ w.heap.size k) H.length T (w.alloc (.cells c ty fr))∧
   aZ (L.bJ w.heap.size k) H.length T (w.alloc (.cells c ty fr)) (.sl n vs tg) (.slice (some ⟨w.heap.size,0,none⟩) n cap):=by
 have e1:=Ev.alloc h (.cells c ty fr) k;refine⟨h.alloc (.cells c ty fr) k,e1,?_⟩;have RY:=hr.keep e1.keeps;have hlen:(c.toList.take vs.length).length=vs.length:=hr.1;have gN:vs.length≤c.size:=by simp at hlen;omega
 refine .Lg n vs tg w.heap.size 0 cap (fun j=>c.getD j undef) hn (by simp[Lay.bJ];omega) (fun j hj=>?_) (fun j hj=>?_) (fun j hj=>?_) ?_
 ·rw[fi (eG w _)];have:j<c.size:=by omega
  simp[this]
 ·have:=RY.2.1 j (by rw[hlen];exact hj);have r7:j<c.size:=by omega
  simpa[r7] using this
 ·have:=RY.2.2 j hj (by rw[hlen];exact hj);have r7:j<c.size:=by omega
  simpa[r7] using this
 ·rcases ht with rfl|⟨rfl,rfl⟩
  ·trivial
  ·rfl
section
variable {P : Program} {L : Lay} {N : Nat} {T : ay} {w : World}
theorem aZ.eS {n:Nat}{cs:List AV}{tg:Tag}{c:Value}(h:aZ L N T w (.sl n cs tg) c) :
  ∃a cap,c=.slice a n cap∧n≤cap∧jr L T tg n cs.length a cap∧((cs=[]∧n=0)∨∃(b base:Nat) (cv:List Value),a=some ⟨b,base,none⟩∧base+cs.length≤L.m b∧bW L N T w cs cv∧
   ∀j,j<cs.length→w.cell? ⟨b,base+j,none⟩=cv[j]?):=by
 cases h with
 |vR _ a cap ht=>exact⟨a,cap,rfl,Nat.zero_le _,ht,.inl ⟨rfl,rfl⟩⟩
 |Lg _ _ _ b base cap f bV hm hc h1 hr ht=>
  refine⟨_,cap,rfl,bV,ht,.inr ⟨b,base,(List.range cs.length).map f,rfl,hm,⟨by simp,fun j hj=>by simpa using h1 j (by simpa using hj),fun j hj bK=>by simpa using hr j hj⟩,fun j hj=>?_⟩⟩;rw[hc j hj];simp[hj]
theorem aZ.MA {cs:List AV}{b base:Nat}{cv:List Value}(o:Nat)(hm:base+cs.length≤L.m b)(hr:bW L N T w cs cv)(hc:∀j,j<cs.length→w.cell? ⟨b,base+j,none⟩=cv[j]?) :
  aZ L N T w (.dI cs o) (.pointer (some ⟨b,base+o,none⟩)):=by
 refine .dI cs o b base (fun j=>cv.getD j undef) hm (fun j hj=>?_) (fun j hj=>?_) (fun j hj=>?_)
 ·have:j<cv.length:=by rw[hr.1];exact hj
  rw[hc j hj];simp[this]
 ·have:j<cv.length:=by rw[hr.1];exact hj
  simpa[this] using hr.2.1 j this
 ·have:j<cv.length:=by rw[hr.1];exact hj
  simpa[this] using hr.2.2 j hj this
theorem aZ.jW {n cap:Nat}{cs:List AV}{tg:Tag}{b base:Nat}{cv:List Value}(bV:n≤cap)(hm:base+cs.length≤L.m b)(hr:bW L N T w cs cv)(hc:∀j,j<cs.length→w.cell? ⟨b,base+j,none⟩=cv[j]?)
  (ht:jr L T tg n cs.length (some ⟨b,base,none⟩) cap):aZ L N T w (.sl n cs tg) (.slice (some ⟨b,base,none⟩) n cap):=by
 refine .Lg n cs tg b base cap (fun j=>cv.getD j undef) bV hm (fun j hj=>?_) (fun j hj=>?_) (fun j hj=>?_) ht
 ·have:j<cv.length:=by rw[hr.1];exact hj
  rw[hc j hj];simp[this]
 ·have:j<cv.length:=by rw[hr.1];exact hj
  simpa[this] using hr.2.1 j this
 ·have:j<cv.length:=by rw[hr.1];exact hj
  simpa[this] using hr.2.2 j hj this
theorem aZ.iH {i n cap:Nat}{c:Value}(h:aZ L N T w (.dP i n cap) c):c=.slice (some ⟨L.bL i,0,none⟩) n cap∧n≤cap∧i<N:=by
 cases h with|dP _ _ _ hi bV=>exact⟨rfl,bV,hi⟩
theorem aZ.iF {i o n:Nat}{c:Value}(h:aZ L N T w (.cO i o n) c):∃cap,c=.slice (some ⟨L.bL i,o,none⟩) n cap∧n≤cap∧i<N:=by
 cases h with|cO _ _ _ cap hi bV=>exact⟨cap,rfl,bV,hi⟩
def so (p:AV)(d:Nat):Option AV:=
 match p with
 |.ptr i o=>some (.ptr i (o+d))
 |.dI cs o=>some (.dI cs (o+d))
 |_=>none
theorem aZ.so {p q:AV}{c:Value}{d:Nat}(h:aZ L N T w p c)(hq:Am.so p d=some q):∃a:Addr,c=.pointer (some a)∧aZ L N T w q (.pointer (some (a.add d))):=by
 unfold Am.so at hq
 split at hq
 ·cases hq;cases h with|ptr _ _ hi=>exact⟨_,rfl,by rw[eh];exact .ptr _ _ hi⟩
 ·cases hq;cases h with|dI _ _ b base f hm hc h1 hr=>exact⟨_,rfl,by rw[eh,add_assoc];exact .dI _ _ b base f hm hc h1 hr⟩
 ·cases hq
def mC (P:Program)(s:TypeId)(p:AV)(f:Nat):Option AV:=
 match P.underlying s with
 |some (.struct fs)=>match fs[f]? with
  |some fd=>if (P.underlying fd.type).isSome&&0<P.cellsOf fd.type then so p fd.offset else none
  |none=>none
 |_=>none
theorem A7 {s:TypeId}{p q:AV}{f:Nat}{c:Value}(h:mC P s p f=some q)(hp:aZ L N T w p c):∃cv,(Instr.fieldAt s c f).run P w=.ok cv w∧aZ L N T w q cv:=by
 unfold mC at h
 split at h
 ·rename_i fs hu
  split at h
  ·rename_i fd hf
   split at h
   ·rename_i hz;simp only[Bool.and_eq_true,decide_eq_true_eq] at hz;obtain⟨d,hd⟩:=Option.isSome_iff_exists.1 hz.1;obtain⟨a,rfl,hr⟩:=hp.so h;refine⟨_,?_,hr⟩;have:¬P.cellsOf fd.type=0:=by omega
    simp[Instr.fieldAt,run_underlying hu,hf,Instr.sureAddr,fieldPlace,cz hd,this]
   ·cases h
  ·cases h
 ·cases h
def mB (P:Program)(t:TypeId)(x ix:AV):Option AV:=
 match P.underlying t,x,ix with
 |some (.slice e),.sl n cs _,.int _ i=>if 0≤i∧i<n then (if (P.underlying e).isSome then some (.dI cs (i.toNat*P.cellsOf e)) else none) else none
 |some (.slice e),.cO b o n,.int _ i=>if 0≤i∧i<n then (if (P.underlying e).isSome then some (.ptr b (o+i.toNat*P.cellsOf e)) else none) else none
 |some (.slice e),.dP b n _,.int _ i=>if 0≤i∧i<n then (if (P.underlying e).isSome then some (.ptr b (0+i.toNat*P.cellsOf e)) else none) else none
 |some (.array len e),p,.int _ i=>if 0≤i∧i<len then (if (P.underlying e).isSome then so p (i.toNat*P.cellsOf e) else none) else none
 |_,_,_=>none
theorem A6 {t:TypeId}{x ix q:AV}{cx ci:Value}(h:mB P t x ix=some q)(hx:aZ L N T w x cx)(hi:aZ L N T w ix ci):∃cv,(Instr.indexAt t cx ci).run P w=.ok cv w∧aZ L N T w q cv:=by
 unfold mB at h
 split at h
 ·rename_i e n cs tg k i hu
  split at h
  ·rename_i hb
   split at h
   ·rename_i he;obtain⟨d,hd⟩:=Option.isSome_iff_exists.1 he
    cases h
    rw[hi.dE];obtain⟨a,cap,rfl,bV,_,h0|⟨b,base,cv,rfl,hm,hr,hc⟩⟩:=hx.eS
    ·omega
    ·refine⟨_,?_,aZ.MA (i.toNat*P.cellsOf e) hm hr hc⟩;simp[Instr.indexAt,run_underlying hu,asIntOf,hb,cz hd,eh]
   ·cases h
  ·cases h
 ·rename_i e b o n k i hu
  split at h
  ·rename_i hb
   split at h
   ·rename_i he;obtain⟨d,hd⟩:=Option.isSome_iff_exists.1 he
    cases h
    rw[hi.dE];obtain⟨cap,rfl,bV,bh⟩:=hx.iF;refine⟨_,?_,aZ.ptr b (o+i.toNat*P.cellsOf e) bh⟩;simp[Instr.indexAt,run_underlying hu,asIntOf,hb,cz hd,eh]
   ·cases h
  ·cases h
 ·rename_i e b n cap k i hu
  split at h
  ·rename_i hb
   split at h
   ·rename_i he;obtain⟨d,hd⟩:=Option.isSome_iff_exists.1 he
    cases h
    rw[hi.dE];obtain⟨rfl,bV,bh⟩:=hx.iH;refine⟨_,?_,aZ.ptr b (0+i.toNat*P.cellsOf e) bh⟩;simp[Instr.indexAt,run_underlying hu,asIntOf,hb,cz hd,eh]
   ·cases h
  ·cases h
 ·rename_i len e p k i hu
  split at h
  ·rename_i hb
   split at h
   ·rename_i he;obtain⟨d,hd⟩:=Option.isSome_iff_exists.1 he;rw[hi.dE];obtain⟨a,rfl,hr⟩:=hx.so h;refine⟨_,?_,hr⟩;simp[Instr.indexAt,run_underlying hu,asIntOf,hb,cz hd,Instr.sureAddr]
   ·cases h
  ·cases h
 ·cases h
def xP (P:Program)(t:TypeId)(x ix:AV):Option AV:=
 match P.underlying t,x,ix with
 |some .string,.str s,.int _ i=>if 0≤i∧i<s.length then some (.int .u8 ((s.getD i.toNat 0).toNat:Int)) else none
 |some (.array len e),.agg cs,.int _ i=>if 0≤i∧i<len then oZ P e cs (i.toNat*P.cellsOf e) else none
 |_,_,_=>none
theorem zF {t:TypeId}{cs:List AV}{o:Nat}{r:AV}{c:Array Value}(hr:aZ L N T w (.agg cs) (.agg c))(h:oZ P t cs o=some r):∃cv,(part t c o).run P w=.ok cv w∧aZ L N T w r cv:=by
 have O5:=bW.xG hr;unfold oZ at h
 split at h
 ·rename_i yE
  split at h
  ·rename_i hle
   cases h
   have hu:∃d,P.underlying t=some d:=by
    unfold iv at yE
    cases hx:P.underlying t with
    |none=>simp[hx] at yE
    |some d=>exact⟨d,rfl⟩
   obtain⟨d,hu⟩:=hu;refine⟨_,by simp only[part,Sem.run_bind,jN yE,Result.andThen_ok,if_true,cz hu];rfl,?_⟩;have:=((O5.drop o).take (P.cellsOf t)).agg;have e:(c.extract o (o+P.cellsOf t))=((c.toList.drop o).take (P.cellsOf t)).toArray:=by
    apply Array.ext';simp
   rw[e];exact this
  ·cases h
 ·rename_i yE
  split at h
  ·rename_i bh
   cases h
   have Lu:o<c.toList.length:=by rw[O5.1];exact bh
   have jz:o<c.size:=by simpa using Lu
   have h3:=O5.2.2 o bh Lu;refine⟨c[o],?_,by simpa[bh] using h3⟩;simp only[part,Sem.run_bind,jN yE,Result.andThen_ok,Bool.false_eq_true,if_false,Array.getElem?_eq_getElem jz];rfl
  ·cases h
 ·cases h
theorem Gk {t:TypeId}{x ix r:AV}{cx ci:Value}(h:xP P t x ix=some r)(hx:aZ L N T w x cx)(hi:aZ L N T w ix ci):∃cv,(Instr.index t cx ci).run P w=.ok cv w∧aZ L N T w r cv:=by
 unfold xP at h
 split at h
 ·rename_i s k i hu
  split at h
  ·rename_i hb
   cases h
   rw[hi.dE,hx.gp];have bh:i.toNat<s.length:=by omega
   have e:(⟨s.toArray⟩:ByteArray)[i.toNat]?=some (s.getD i.toNat 0):=by
    rw[ByteArray.getElem?_lt' _ _ (by simpa[ByteArray.size] using bh)];simp[bh];rfl
   refine⟨_,?_,.int _ _⟩;simp[Instr.index,run_underlying hu,asIntOf,hb.1,e]
  ·cases h
 ·rename_i len e cs k i hu
  split at h
  ·rename_i hb;rw[hi.dE];have hd:∃d,P.underlying e=some d:=by
    unfold oZ iv at h
    cases hx:P.underlying e with
    |none=>simp[hx] at h
    |some d=>exact⟨d,rfl⟩
   obtain⟨d,hd⟩:=hd
   cases hx with
   |agg _ c h1 h2 hr=>
    obtain⟨cv,h3,h4⟩:=zF (.agg cs c h1 h2 hr) h;refine⟨cv,?_,h4⟩;simp[Instr.index,run_underlying hu,asIntOf,hb,cz hd,h3]
  ·cases h
 ·cases h
def xR (P:Program)(t:TypeId)(x:AV)(f:Nat):Option AV:=
 match P.underlying t,x with
 |some (.struct fs),.agg cs=>match fs[f]? with
  |some fd=>oZ P fd.type cs fd.offset
  |none=>none
 |_,_=>none
theorem Gl {t:TypeId}{x r:AV}{f:Nat}{cx:Value}(h:xR P t x f=some r)(hx:aZ L N T w x cx):∃cv,(Instr.field t cx f).run P w=.ok cv w∧aZ L N T w r cv:=by
 unfold xR at h
 split at h
 ·rename_i fs cs hu
  split at h
  ·rename_i fd hf
   cases hx with
   |agg _ c h1 h2 hr=>
    obtain⟨cv,h3,h4⟩:=zF (.agg cs c h1 h2 hr) h;refine⟨cv,?_,h4⟩;simp[Instr.field,run_underlying hu,hf,asAgg,h3]
  ·cases h
 ·cases h
def eT (x:Option AV)(aaZ:Nat):Option Nat:=
 match x with
 |none=>some aaZ
 |some (.int _ i)=>if 0≤i then some i.toNat else none
 |_=>none
def xO (P:Program)(t:TypeId)(x:AV)(lo hi mx:Option AV):Option AV:=
 match P.underlying t,x,mx with
 |some .string,.str s,none=>
  match eT lo 0,eT hi s.length with
  |some l,some h=>if l≤h∧h≤s.length then some (.str ((s.drop l).take (h-l))) else none
  |_,_=>none
 |some (.slice e),.sl n cs _,none=>
  match eT lo 0,eT hi n with
  |some l,some h=>if l≤h∧h≤n∧l*P.cellsOf e≤cs.length then (if (P.underlying e).isSome then some (.sl (h-l) ((cs.drop (l*P.cellsOf e)).take ((h-l)*P.cellsOf e)) .none) else none) else none
  |_,_=>none
 |some (.slice e),.sl n cs _,some m=>
  match eT lo 0,eT hi n,eT (some m) 0 with
  |some l,some h,some m=>if l≤h∧h≤m∧m≤n∧hi.isSome∧l*P.cellsOf e≤cs.length then (if (P.underlying e).isSome then some (.sl (h-l) ((cs.drop (l*P.cellsOf e)).take ((h-l)*P.cellsOf e)) (if h=m then .full else .none)) else none) else none
  |_,_,_=>none
 |some (.slice e),.cO i o n,none=>
  match eT lo 0,eT hi n with
  |some l,some h=>if l≤h∧h≤n∧(l<n∨l=0) then (if (P.underlying e).isSome then some (.cO i (o+l*P.cellsOf e) (h-l)) else none) else if l=n∧h=n∧(P.underlying e).isSome then some (.sl 0 [] .none) else none
  |_,_=>none
 |some (.array n e),.ptr i o,none=>
  match eT lo 0,eT hi n with
  |some l,some h=>if l≤h∧h≤n∧(l<n∨l=0) then (if (P.underlying e).isSome then some (.cO i (o+l*P.cellsOf e) (h-l)) else none) else none
  |_,_=>none
 |_,_,_=>none
theorem kj {x:Option AV}{d n:Nat}{c:Option Value}(h:eT x d=some n)(hc:∀v cv,x=some v→c=some cv→aZ L N T w v cv)(hs:x.isSome=c.isSome) :
  (x=none∧c=none∧n=d)∨(∃k,c=some (.int k (n:Int))∧x.isSome=true):=by
 cases x with
 |none=>
  cases c with
  |none=>simp[eT] at h;exact .inl ⟨rfl,rfl,h.symm⟩
  |some c=>simp at hs
 |some v=>
  cases c with
  |none=>simp at hs
  |some cv=>
   have hr:=hc v cv rfl rfl
   cases v<;>simp only[eT,reduceCtorEq] at h
   rename_i k i
   split at h
   ·rename_i hi
    cases h
    right
    rw[hr.dE];exact⟨k,by rw[Int.toNat_of_nonneg hi],rfl⟩
   ·cases h
theorem fR {k:IntKind}{n y:Nat}(h:n≤y)(code:BoundsCode):(Instr.sliceBound (.int k (n:Int)) y code).run P w=.ok n w:=by
 have:(0:Int)≤(n:Int)∧(n:Int)≤(y:Int):=by omega
 simp[Instr.sliceBound,asIntOf];intro hh;omega
theorem kg {isS:Bool}{len cap l h:Nat}{lo hi:Option AV}{cl ch:Option Value}(hl:eT lo 0=some l)(hh:eT hi len=some h)(h1:l≤h)(h2:h≤len)(h3:len≤cap)
  (rl:∀v cv,lo=some v→cl=some cv→aZ L N T w v cv) (rh:∀v cv,hi=some v→ch=some cv→aZ L N T w v cv) (sl:lo.isSome=cl.isSome) (sh:hi.isSome=ch.isSome) :
  (Instr.sliceBounds isS len cap cl ch none).run P w=.ok (l,h,cap) w:=by
 rcases kj hl rl sl with⟨_,e1,e2⟩|⟨k,e1,_⟩<;>rcases kj hh rh sh with⟨_,e3,e4⟩|⟨k',e3,_⟩<;>subst e1<;>subst e3
 ·subst e2;subst e4;simp[Instr.sliceBounds]
 ·subst e2;simp[Instr.sliceBounds,fR (w:=w) (P:=P) (k:=k') (n:=h) (y:=cap) (by omega)]
 ·subst e4;simp[Instr.sliceBounds,fR (w:=w) (P:=P) (k:=k) (n:=l) (y:=h) h1]
 ·simp[Instr.sliceBounds,fR (w:=w) (P:=P) (k:=k') (n:=h) (y:=cap) (by omega),fR (w:=w) (P:=P) (k:=k) (n:=l) (y:=h) h1]
theorem A8 {len cap l h m:Nat}{lo hi:Option AV}{x:AV}{cl ch:Option Value}{cm:Value}(hl:eT lo 0=some l)(hh:eT hi len=some h)(hm:eT (some x) 0=some m)(h1:l≤h)(h2:h≤m)(h4:m≤cap)(his:hi.isSome=true)
  (rl:∀v cv,lo=some v→cl=some cv→aZ L N T w v cv) (rh:∀v cv,hi=some v→ch=some cv→aZ L N T w v cv) (rm:aZ L N T w x cm) (sl:lo.isSome=cl.isSome) (sh:hi.isSome=ch.isSome) :
  (Instr.sliceBounds true len cap cl ch (some cm)).run P w=.ok (l,h,m) w:=by
 have em:∃k,cm=.int k (m:Int):=by
  rcases kj (c:=some cm) hm (fun v cv e1 e2=>by cases e1;cases e2;exact rm) rfl with⟨e,_⟩|⟨k,e,_⟩
  ·cases e
  ·exact⟨k,by cases e;rfl⟩
 obtain⟨km,rfl⟩:=em;rcases kj hh rh sh with⟨e,_⟩|⟨k',e3,_⟩
 ·subst e;simp at his
 subst e3;rcases kj hl rl sl with⟨_,e1,e2⟩|⟨k,e1,_⟩<;>subst e1
 ·subst e2;simp[Instr.sliceBounds,fR (w:=w) (P:=P) (k:=km) (n:=m) (y:=cap) h4,fR (w:=w) (P:=P) (k:=k') (n:=h) (y:=m) h2]
 ·simp[Instr.sliceBounds,fR (w:=w) (P:=P) (k:=km) (n:=m) (y:=cap) h4,fR (w:=w) (P:=P) (k:=k') (n:=h) (y:=m) h2,fR (w:=w) (P:=P) (k:=k) (n:=l) (y:=h) h1]
theorem aZ.sub {n:Nat}{cs:List AV}{tg:Tag}{a:Option Addr}{cap:Nat}(hx:aZ L N T w (.sl n cs tg) (.slice a n cap))(l h m z:Nat)(h1:l≤h)(h2:h≤n)(h3:h≤m)(hlen:l*z≤cs.length)(LH:Tag)(ht:LH=.none∨(LH=.full∧h=m)) :
  aZ L N T w (.sl (h-l) ((cs.drop (l*z)).take ((h-l)*z)) LH) (.slice (if m=l then a else a.map (·.add (l*z))) (h-l) (m-l)):=by
 obtain⟨a',FE,e,bV,_,h0⟩:=hx.eS
 cases e
 have tok:∀a'',jr L T LH (h-l) ((cs.drop (l*z)).take ((h-l)*z)).length a'' (m-l):=by
  intro a'';rcases ht with rfl|⟨rfl,rfl⟩
  ·trivial
  ·rfl
 rcases h0 with⟨rfl,rfl⟩|⟨b,base,cv,rfl,hm,hr,hc⟩
 ·have:h-l=0:=by omega
  have e2:=tok (if m=l then a else a.map (·.add (l*z)));rw[this] at e2 ⊢;simp at e2 ⊢;exact .vR _ _ _ e2
 ·by_cases ik:m=l
  ·have:h-l=0:=by omega
   have e2:=tok (if m=l then some ⟨b,base,none⟩ else (some (⟨b,base,none⟩:Addr)).map (·.add (l*z)));rw[this] at e2 ⊢;simp at e2 ⊢;exact .vR _ _ _ e2
  ·rw[if_neg ik];simp only[Option.map_some,eh];have O4:=(hr.drop (l*z)).take ((h-l)*z);have e2:=tok (some ⟨b,base+l*z,none⟩);refine aZ.jW (by omega) ?_ O4 (fun j hj=>?_) e2
   ·simp;omega
   ·have vx:j<(h-l)*z∧j<cs.length-l*z:=by simpa[Nat.lt_min] using hj
    rw[add_assoc,hc _ (by omega)];simp[vx.1]
theorem Gi {t:TypeId}{x r:AV}{lo hi mx:Option AV}{cx:Value}{cl ch cm:Option Value}(h:xO P t x lo hi mx=some r)(hx:aZ L N T w x cx)
  (rl:∀v cv,lo=some v→cl=some cv→aZ L N T w v cv) (rh:∀v cv,hi=some v→ch=some cv→aZ L N T w v cv) (rm:∀v cv,mx=some v→cm=some cv→aZ L N T w v cv)
  (sl:lo.isSome=cl.isSome) (sh:hi.isSome=ch.isSome) (sm:mx.isSome=cm.isSome):∃cv,(Instr.sliceAt t cx cl ch cm).run P w=.ok cv w∧aZ L N T w r cv:=by
 unfold xO at h
 split at h
 ·rename_i s hu
  cases cm with|some _=>simp at sm|none=>
  split at h
  ·rename_i l hh e1 e2
   split at h
   ·rename_i hb
    cases h
    have pN:=kg (P:=P) (isS:=false) (cap:=s.length) e1 e2 hb.1 hb.2 (le_refl _) rl rh sl sh;rw[hx.gp];refine⟨_,?_,.str _⟩;simp only[Instr.sliceAt,Sem.run_bind,run_underlying hu,Result.andThen_ok,Instr.slice];have gN:(⟨s.toArray⟩:ByteArray).size=s.length:=by simp[ByteArray.size]
    simp only[gN,pN,Sem.run_bind,Result.andThen_ok,Option.isSome_none,Bool.false_eq_true,if_false,ByteArray.extract_mk];rfl
   ·cases h
  ·cases h
 ·rename_i e n cs tg hu
  cases cm with|some _=>simp at sm|none=>
  split at h
  ·rename_i l hh e1 e2
   split at h
   ·rename_i hb
    split at h
    ·rename_i he;obtain⟨d,hd⟩:=Option.isSome_iff_exists.1 he
     cases h
     obtain⟨a,cap,rfl,bV,_,_⟩:=hx.eS;have pN:=kg (P:=P) (isS:=true) (cap:=cap) e1 e2 hb.1 hb.2.1 bV rl rh sl sh;refine⟨_,?_,hx.sub l hh cap (P.cellsOf e) hb.1 hb.2.1 (by omega) hb.2.2 .none (.inl rfl)⟩;simp only[Instr.sliceAt,Sem.run_bind,run_underlying hu,Result.andThen_ok,Instr.slice,pN,cz hd];rfl
    ·cases h
   ·cases h
  ·cases h
 ·rename_i e n cs tg m hu
  cases cm with|none=>simp at sm|some cm=>
  split at h
  ·rename_i l hh mm e1 e2 e3
   split at h
   ·rename_i hb
    split at h
    ·rename_i he;obtain⟨d,hd⟩:=Option.isSome_iff_exists.1 he
     cases h
     obtain⟨a,cap,rfl,bV,_,_⟩:=hx.eS;have pN:=A8 (P:=P) (cap:=cap) e1 e2 e3 hb.1 hb.2.1 (by omega) hb.2.2.2.1 rl rh (rm _ _ rfl rfl) sl sh;refine⟨_,?_,hx.sub l hh mm (P.cellsOf e) hb.1 (by omega) hb.2.1 hb.2.2.2.2 (if hh=mm then .full else .none) ?_⟩
     ·simp only[Instr.sliceAt,Sem.run_bind,run_underlying hu,Result.andThen_ok,Instr.slice,pN,cz hd];rfl
     ·split
      ·exact .inr ⟨rfl,‹_›⟩
      ·exact .inl rfl
    ·cases h
   ·cases h
  ·cases h
 ·rename_i e i o n hu
  cases cm with|some _=>simp at sm|none=>
  split at h
  ·rename_i l hh e1 e2
   split at h
   ·rename_i hb
    split at h
    ·rename_i he;obtain⟨d,hd⟩:=Option.isSome_iff_exists.1 he
     cases h
     obtain⟨cap,rfl,bV,bh⟩:=hx.iF;have pN:=kg (P:=P) (isS:=true) (cap:=cap) e1 e2 hb.1 hb.2.1 bV rl rh sl sh;refine⟨.slice (some ⟨L.bL i,o+l*P.cellsOf e,none⟩) (hh-l) (cap-l),?_,.cO _ _ _ _ bh (by omega)⟩;simp only[Instr.sliceAt,Sem.run_bind,run_underlying hu,Result.andThen_ok,Instr.slice,pN,cz hd]
     by_cases fS:cap=l
     ·have NS:l=0:=by omega
      subst NS;subst fS;simp
     ·rw[if_neg fS];simp[eh]
    ·cases h
   ·split at h
    ·rename_i hb;obtain⟨q1,q2,he⟩:=hb;subst q2;subst q1;obtain⟨d,hd⟩:=Option.isSome_iff_exists.1 he
     cases h
     obtain⟨cap,rfl,bV,bh⟩:=hx.iF;have pN:=kg (P:=P) (isS:=true) (cap:=cap) e1 e2 (le_refl _) (le_refl _) bV rl rh sl sh;refine⟨.slice (if cap=l then some ⟨L.bL i,o,none⟩ else some ⟨L.bL i,o+l*P.cellsOf e,none⟩) 0 (cap-l),?_,.vR _ _ _ trivial⟩;simp only[Instr.sliceAt,Sem.run_bind,run_underlying hu,Result.andThen_ok,Instr.slice,pN,cz hd]
     by_cases fS:cap=l
     ·rw[if_pos fS,if_pos fS];simp
     ·rw[if_neg fS,if_neg fS];simp[eh]
    ·cases h
  ·cases h
 ·rename_i n e i o hu
  cases cm with|some _=>simp at sm|none=>
  split at h
  ·rename_i l hh e1 e2
   split at h
   ·rename_i hb
    split at h
    ·rename_i he;obtain⟨d,hd⟩:=Option.isSome_iff_exists.1 he
     cases h
     obtain⟨rfl,bh⟩:=hx.mo;have pN:=kg (P:=P) (isS:=false) (cap:=n) e1 e2 hb.1 hb.2.1 (le_refl _) rl rh sl sh;refine⟨.slice (some ⟨L.bL i,o+l*P.cellsOf e,none⟩) (hh-l) (n-l),?_,.cO _ _ _ _ bh (by omega)⟩;simp only[Instr.sliceAt,Sem.run_bind,run_underlying hu,Result.andThen_ok,Instr.sureAddr,pN,cz hd,Sem.run_pure]
     by_cases fS:n=l
     ·have NS:l=0:=by omega
      subst NS;subst fS;simp
     ·rw[if_neg fS];simp[eh]
    ·cases h
   ·cases h
  ·cases h
 ·cases h
end
def bu (s:List UInt8):List AV:=s.map fun b=>.int .u8 (b.toNat:Int)
def H9:AV→Option UInt8
 |.int .u8 n=>some (UInt8.ofNat n.toNat)
 |_=>none
def bytesOf (cs:List AV):Option (List UInt8):=cs.mapM H9
theorem yp (s:List UInt8):bytesOf (bu s)=some s:=by
 induction s with
 |nil=>rfl
 |cons b r ih=>
  unfold bytesOf bu at ih ⊢;simp only[map_cons,mapM_cons,ih];simp[H9]
def kG (H:List aG)(z:Nat)(x:AV):Option (Nat×List AV):=
 match x with
 |.sl m cs _=>if cs.length=m*z then some (m,cs) else none
 |.cO i o m=>match H[i]? with
  |some (.cells vs)=>if o+m*z≤vs.length then some (m,(vs.drop o).take (m*z)) else none
  |_=>none
 |.str s=>if z=1 then some (s.length,bu s) else none
 |_=>none
section
variable {P : Program} {L : Lay} {H : List aG} {T : ay} {w : World}
theorem Aj (s:List UInt8):bW L H.length T w (bu s) (s.map fun b=>Value.int .u8 (b.toNat:Int)):=by
 refine⟨by simp[bu],fun j hj=>by simp[Value.oneCell'],fun j hj bK=>?_⟩;simp only[bu,getElem_map];exact .int _ _
theorem eM {z:Nat}{x:AV}{c:Value}{m:Nat}{ys:List AV}(hc:bN L H T w)(hx:aZ L H.length T w x c)(h:kG H z x=some (m,ys)) :
  ∃cv:List Value,ys.length=m*z∧bW L H.length T w ys cv∧(Builtin.lenOf c).run P w=.ok m w∧(Builtin.firstCells z m c).run P w=.ok cv.toArray w:=by
 unfold kG at h
 split at h
 ·rename_i m' cs tg
  split at h
  ·rename_i hl
   cases h
   obtain⟨a,cap,rfl,bV,_,⟨rfl,rfl⟩|⟨b,base,cv,rfl,hm,hr,jY⟩⟩:=hx.eS
   ·refine⟨[],hl,bW.nil,rfl,?_⟩
    cases a with
    |none=>rfl
    |some a=>simp[Builtin.firstCells,loadCells,loadCellsFrom]
   ·have Lu:=hr.1;refine⟨cv,hl,hr,rfl,?_⟩;have:=run_loadCells_list (P:=P) w ⟨b,base,none⟩ cv (fun j v hj=>by
     have bh:=(List.getElem?_eq_some_iff.1 hj).1;rw[eh,jY j (by omega)];exact hj)
    simp only[Builtin.firstCells];rw[←hl,←Lu];exact this
  ·cases h
 ·rename_i i o m'
  split at h
  ·rename_i vs hi
   split at h
   ·rename_i hl
    cases h
    obtain⟨cap,rfl,bV,bh⟩:=hx.iF;obtain⟨c,hr,jY⟩:=(hc.box i _ hi).at;refine⟨(c.toList.drop o).take (m*z),?_,(hr.drop o).take _,rfl,?_⟩
    ·simp;omega
    ·have hlen:((c.toList.drop o).take (m*z)).length=m*z:=by have:=hr.1;simp at this ⊢;omega
     have:=run_loadCells_list (P:=P) w ⟨L.bL i,o,none⟩ ((c.toList.drop o).take (m*z)) (fun j v hj=>by
      have bh:=(List.getElem?_eq_some_iff.1 hj).1;have oP:j<m*z:=by omega
      rw[getElem?_take,if_pos oP,List.getElem?_drop] at hj;rw[eh,jY];simpa using hj)
     simp only[Builtin.firstCells];rw[hlen] at this;exact this
   ·cases h
  ·cases h
 ·rename_i s
  split at h
  ·rename_i hz
   cases h
   rw[hx.gp];refine⟨s.map fun b=>Value.int .u8 (b.toNat:Int),by simp[bu,hz],Aj s,by simp[Builtin.lenOf,ByteArray.size],?_⟩;have e:(⟨s.toArray⟩:ByteArray).extract 0 s.length=⟨s.toArray⟩:=by rw[ByteArray.extract_mk];simp
   simp[Builtin.firstCells,e]
  ·cases h
 ·cases h
theorem Bw {N:Nat}:∀{cs:List AV} {cv:List Value} {s:List UInt8},bW L N T w cs cv→bytesOf cs=some s→∃ns:List Int,cv=ns.map (Value.int .u8)∧s=ns.map fun n=>UInt8.ofNat n.toNat:=by
 intro cs
 induction cs with
 |nil=>intro cv s hr h;cases h;exact⟨[],eq_nil_of_length_eq_zero hr.1,rfl⟩
 |cons x r ih=>
  intro cv s hr h
  match cv,hr with
  |c::cr,hr=>
   have h0:aZ L N T w x c:=hr.2.2 0 (by simp) (by simp);have O4:bW L N T w r cr:=by simpa using hr.drop 1
   unfold bytesOf at h;rw[mapM_cons] at h
   cases hx:H9 x with
   |none=>rw[hx] at h;cases h
   |some b=>
    cases hy:r.mapM H9 with
    |none=>rw[hx,hy] at h;cases h
    |some bs=>
     rw[hx,hy] at h
     cases h
     obtain⟨ns,e1,e2⟩:=ih O4 hy;unfold H9 at hx
     split at hx
     ·rename_i nn hh
      cases hx
      rw[h0.dE];exact⟨nn::ns,by simp[e1],by simp[e2]⟩
     ·cases hx
  |[],hr=>simp[bW] at hr
def PG:AV→Bool
 |.sl _ _ _|.cO _ _ _=>true
 |_=>false
def D5 (P:Program)(H:List aG)(src dst:TypeId)(x:AV):Option AV:=
 match P.underlying src,P.underlying dst,x with
 |some _,some (.int k),.int _ n=>some (.int k (k.wrap n))
 |some _,some .string,.int _ n=>some (.str (Utf8.encode n).data.toList)
 |some _,some .string,.str s=>some (.str s)
 |some (.slice e),some .string,x=>
  match P.underlying e with
  |some (.int .u8)=>if PG x then (match kG H 1 x with
   |some (_,cs)=>(bytesOf cs).map .str
   |none=>none) else none
  |_=>none
 |_,_,_=>none
theorem JB {src dst:TypeId}{x r:AV}{c:Value}(hc:bN L H T w)(h:D5 P H src dst x=some r)(hx:aZ L H.length T w x c):∃cv,(convert src dst c).run P w=.ok cv w∧aZ L H.length T w r cv:=by
 unfold D5 at h
 split at h
 ·rename_i d k k' n h1 h2
  cases h
  rw[hx.dE];exact⟨_,by simp only[convert,Sem.run_bind,run_underlying h1,run_underlying h2,Result.andThen_ok];cases d<;>rfl,.int _ _⟩
 ·rename_i d k' n h1 h2
  cases h
  rw[hx.dE];exact⟨.string ⟨(Utf8.encode n).data.toList.toArray⟩,by simp only[convert,Sem.run_bind,run_underlying h1,run_underlying h2,Result.andThen_ok];cases d<;>rfl,.str _⟩
 ·rename_i d s h1 h2
  cases h
  rw[hx.gp];exact⟨_,by simp only[convert,Sem.run_bind,run_underlying h1,run_underlying h2,Result.andThen_ok];cases d<;>rfl,.str _⟩
 ·rename_i e _ _ h1 h2 _ _
  split at h
  ·rename_i he
   split at h
   ·rename_i aas
    split at h
    ·rename_i m cs hs
     cases hb:bytesOf cs with
     |none=>rw[hb] at h;cases h
     |some s=>
      rw[hb] at h
      cases h
      obtain⟨cv,hl,hr,hlen,gC⟩:=eM (P:=P) hc hx hs;obtain⟨ns,e1,e2⟩:=Bw hr hb;have DG:∃a n cap,c=.slice a n cap:=by
       cases hx<;>first|exact⟨_,_,_,rfl⟩|(simp[PG] at aas;done)
      obtain⟨a,n,cap,rfl⟩:=DG;have hn:n=m:=by
       simp[Builtin.lenOf] at hlen;exact hlen
      subst hn;refine⟨.string ⟨s.toArray⟩,?_,.str s⟩;rw[run_convert_bytes_string w src dst _ a n cap h1 he h2]
      cases a with
      |none=>
       simp[Builtin.firstCells] at gC;subst gC
       cases ns with
       |nil=>subst e2;rfl
       |cons _ _=>cases e1
      |some a=>
       simp only[Builtin.firstCells,Nat.mul_one] at gC;rw[e1] at gC;rw[run_bytesToString w a n cap ns gC,foldl_push_bytes];subst e2;simp
    ·cases h
   ·cases h
  ·cases h
 ·cases h
theorem Gn {src dst e:TypeId}{s:List UInt8}{c:Value}(hc:bN L H T w)(h1:P.underlying src=some .string)(h2:P.underlying dst=some (.slice e))(h3:P.underlying e=some (.int .u8))(hx:aZ L H.length T w (.str s) c) :
  ∃cv w' L',(convert src dst c).run P w=.ok cv w'∧bN L' H T w'∧aZ L' H.length T w' (.sl s.length (bu s) .none) cv∧Ev H.length T.length L H.length T w L' H.length T w':=by
 rw[hx.gp];have gN:(⟨s.toArray⟩:ByteArray).size=s.length:=by simp[ByteArray.size]
 obtain⟨cap,bV,hle⟩:∃cap,(Question.appendCap s.length 0 e).cut (w.tape w.drawn (.appendCap s.length 0 e))=cap∧s.length≤cap:=⟨_,rfl,by simp[Question.cut]⟩
 let cells:Array Value:=(s.map fun b=>Value.int .u8 (b.toNat:Int)).toArray++Array.replicate (cap-s.length) (.int .u8 0)
 have BW:cells.size=cap:=by simp[cells];omega
 have hd:bN L H T w.drew:=hc.drew rfl;have ed:Ev H.length T.length L H.length T w L H.length T w.drew:=Ev.drew rfl rfl rfl rfl (le_succ _);obtain⟨k1,k2,k3⟩:=hd.newRow cells e (cap,cap+1) (vs:=bu s) (bu s).length (le_refl _) (by
  have:(cells.toList.take (bu s).length)=s.map fun b=>Value.int .u8 (b.toNat:Int):=by
   simp[cells,bu]
  rw[this];exact Aj s) s.length cap hle .none (.inl rfl)
 refine⟨_,_,_,?_,k1,k3,ed.trans k2⟩;simp only[convert,Sem.run_bind,run_underlying h1,run_underlying h2,run_underlying h3,Result.andThen_ok,Conv.stringToBytes,gN,run_choose,Question.forced,Bool.false_eq_true,if_false,bV];have Cb:(⟨s.toArray⟩:ByteArray).data.map (fun b=>Value.int .u8 (b.toNat:Int))=(s.map fun b=>Value.int .u8 (b.toNat:Int)).toArray:=by simp
 simp only[Cb,newRow,Sem.run_bind,run_newObj,Result.andThen_ok,Sem.run_pure,markStringish,run_shape,run_freeze];have W1:World.shape? { w.drew with heap:=w.heap.push (.cells cells e) } w.heap.size=some (e,cap):=by
  simp[World.shape?,BW]
 show (Result.andThen _ _)=_;simp only[World.drew] at W1 ⊢;rw[W1];simp only[run_freeze,Result.andThen_ok,Sem.run_pure]
 congr 1
 simp only[World.freeze,World.alloc,Nat.one_ne_zero,if_false]
 congr 1
 apply Array.ext_getElem?;intro i;rw[Array.getElem?_modify,Array.getElem?_push,Array.getElem?_push]
 by_cases hi:w.heap.size=i
 ·subst hi;simp[cells]
 ·rw[if_neg hi,if_neg (fun e=>hi e.symm),if_neg (fun e=>hi e.symm)]
end
section
variable {P : Program} {L : Lay} {H : List aG} {T : ay} {w : World}
theorem bW.setMany {N:Nat}:∀{xs:List AV} {xc:List Value} {vs:List AV} {c:Array Value} (o:Nat),bW L N T w vs c.toList→bW L N T w xs xc→o+xs.length≤vs.length→
  bW L N T w (setMany vs o xs) ((xc.zipIdx.foldl (fun cs (x:Value×Nat)=>cs.setIfInBounds (o+x.2) x.1) c)).toList:=by
 intro xs;have key:∀(xs:List AV)(xc:List Value)(vs:List AV)(c:Array Value)(o k:Nat),bW L N T w vs c.toList→bW L N T w xs xc→o+k+xs.length≤vs.length→
   bW L N T w (Am.setMany vs (o+k) xs) (((xc.zipIdx k).foldl (fun cs (x:Value×Nat)=>cs.setIfInBounds (o+x.2) x.1) c)).toList:=by
  intro xs
  induction xs with
  |nil=>
   intro xc vs c o k h1 h2 h3;have:xc=[]:=eq_nil_of_length_eq_zero h2.1;subst this;exact h1
  |cons x r ih=>
   intro xc vs c o k h1 h2 h3
   match xc,h2 with
   |y::yr,h2=>
    have h0:aZ L N T w x y:=h2.2.2 0 (by simp) (by simp);have N4:y.oneCell'=true:=h2.2.1 0 (by simp);have O4:bW L N T w r yr:=by simpa using h2.drop 1
    simp only[List.zipIdx_cons,List.foldl_cons,Am.setMany];have:=ih yr (vs.set (o+k) x) (c.setIfInBounds (o+k) y) o (k+1) (by rw[Array.toList_setIfInBounds];exact h1.set _ h0 N4) O4 (by simp at h3 ⊢;omega);rw[show o+k+1=o+(k+1) by omega];exact this
   |[],h2=>simp[bW] at h2
 intro xc vs c o h1 h2 h3;exact key xs xc vs c o 0 h1 h2 h3
def nE (place:Nat→Option (Nat×Nat))(cells:List AV):List (Nat×AV)→Option (List AV)
 |[]=>some cells
 |(i,v)::rest=>
  match place i,Po (cC v) with
  |some (off,size),some xs=>if xs.length=size∧off+size≤cells.length then nE place (setMany cells off xs) rest else none
  |_,_=>none
theorem qu {N:Nat}(place:Nat→Option (Nat×Nat)):∀(parts:List (Nat×AV)) (pc:List (Nat×Value)) (cells:List AV) (c:Array Value) (r:List AV),bW L N T w cells c.toList→pc.length=parts.length→
  (∀(j:Nat)(h:j<parts.length)(h':j<pc.length),(parts[j]'h).1=(pc[j]'h').1∧aZ L N T w (parts[j]'h).2 (pc[j]'h').2)→nE place cells parts=some r→
  ∃c',Instr.fill place c pc=some c'∧bW L N T w r c'.toList:=by
 intro parts
 induction parts with
 |nil=>
  intro pc cells c r hr hl hp h;have:pc=[]:=eq_nil_of_length_eq_zero hl;subst this
  cases h
  exact⟨c,rfl,hr⟩
 |cons x rest ih=>
  intro pc cells c r hr hl hp h
  match pc,hl,hp with
  |y::yr,hl,hp=>
   obtain⟨i,v⟩:=x;obtain⟨i',u⟩:=y;obtain⟨e,hv⟩:=hp 0 (by simp) (by simp);simp only[getElem_cons_zero] at e hv;subst e;simp only[nE] at h
   split at h
   ·rename_i off size xs e1 e2
    split at h
    ·rename_i hb;have hx:=yd e2 hv.cC;have hlen:u.cells.size=size:=by have:=hx.1;simp at this;omega
     obtain⟨c',h1,h2⟩:=ih yr (Am.setMany cells off xs) (u.cells.toList.zipIdx.foldl (fun cs (x:Value×Nat)=>cs.setIfInBounds (off+x.2) x.1) c) r (hr.setMany off hx (by omega)) (by simpa using hl)
      (fun j hj bK=>by have:=hp (j+1) (by simpa using hj) (by simpa using bK);simpa using this) h
     refine⟨c',?_,h2⟩;simp only[Instr.fill,e1];have gN:c.size=cells.length:=by have:=hr.1;simpa using this
     rw[if_neg (by simp;omega)];rw[←h1]
     congr 1
     rw[←Array.foldl_toList];simp
    ·cases h
   ·cases h
  |[],hl,hp=>simp at hl
def aX (P:Program)(t:TypeId):Option (List AV):=
 match P.info? t with
 |some i=>match i.zero with
  |some z=>if z.cells.all (·.oneCell')&&z.cells.size==i.size then some (z.cells.toList.map vC) else none
  |none=>none
 |none=>none
theorem dZ {N:Nat}{t:TypeId}{zs:List AV}(h:aX P t=some zs):∃i z,P.info? t=some i∧i.zero=some z∧bW L N T w zs z.cells.toList∧z.cells.size=P.cellsOf t:=by
 unfold aX at h
 split at h
 ·rename_i i hi
  split at h
  ·rename_i z hz
   split at h
   ·rename_i ha
    cases h
    simp only[Bool.and_eq_true,beq_iff_eq] at ha;have Z4:=ha.1;rw[Array.all_eq_true] at Z4;refine⟨i,z,hi,hz,⟨by simp,fun j hj=>by simpa using Z4 j (by simpa using hj),fun j hj bK=>?_⟩,by rw[ha.2];simp[Program.cellsOf,hi]⟩;simp only[getElem_map];exact .vC _
   ·cases h
  ·cases h
 ·cases h
theorem iQ {t:TypeId}{i:TypeInfo}{z:Value}(hi:P.info? t=some i)(hz:i.zero=some z)(w:World):(zeroValue t).run P w=.ok z w:=by
 simp[zeroValue,run_typeInfo w hi,hz]
def xS (P:Program)(t:TypeId)(parts:List (Nat×AV)):Option AV:=
 match aX P t,P.underlying t with
 |some zs,some (.struct fs)=>if fs.toList.all (fun f=>(P.underlying f.type).isSome) then (nE (fun i=>(fs[i]?).map fun f=>(f.offset,P.cellsOf f.type)) zs parts).map .agg else none
 |some zs,some (.array _ e)=>if (P.underlying e).isSome then (nE (fun i=>some (i*P.cellsOf e,P.cellsOf e)) zs parts).map .agg else none
 |_,_=>none
theorem run_places (fs:Array Field)(hf:∀f∈fs,(P.underlying f.type).isSome=true)(w:World) :
  (fs.mapM fun f=>do pure (f.offset,←sizeOf f.type):Sem (Array (Nat×Nat))).run P w=.ok (fs.map fun f=>(f.offset,P.cellsOf f.type)) w:=by
 rw[Array.mapM_eq_mapM_toList];have key:∀l:List Field,(∀f∈l,(P.underlying f.type).isSome=true)→(l.mapM fun f=>do pure (f.offset,←sizeOf f.type):Sem (List (Nat×Nat))).run P w=.ok (l.map fun f=>(f.offset,P.cellsOf f.type)) w:=by
  intro l
  induction l with
  |nil=>intro _;simp
  |cons f r ih=>
   intro h;obtain⟨d,hd⟩:=Option.isSome_iff_exists.1 (h f (by simp));have:=ih (fun g hg=>h g (by simp[hg]));simp only[mapM_cons,Sem.run_bind,cz hd,Result.andThen_ok,Sem.run_pure,this,map_cons]
 have:=key fs.toList (fun f hfm=>hf f (by simpa using hfm));simp only[Sem.run_map,this,Result.andThen_ok]
 congr 1
 apply Array.ext';simp
theorem run_build {t:TypeId}{parts:List (Nat×AV)}{pc:Array (Nat×Value)}{r:AV}(h:xS P t parts=some r)(hl:pc.size=parts.length)
  (hp:∀(j:Nat)(h:j<parts.length)(h':j<pc.toList.length),(parts[j]'h).1=(pc.toList[j]'h').1∧aZ L H.length T w (parts[j]'h).2 (pc.toList[j]'h').2) :
  ∃cv,(Instr.build t pc).run P w=.ok cv w∧aZ L H.length T w r cv:=by
 unfold xS at h
 split at h
 ·rename_i zs fs hz hu
  split at h
  ·rename_i hf;obtain⟨i,z,hi,tj,hr,_⟩:=dZ (L:=L) (N:=H.length) (T:=T) (w:=w) hz
   cases pK:nE (fun i=>(fs[i]?).map fun f=>(f.offset,P.cellsOf f.type)) zs parts with
   |none=>rw[pK] at h;cases h
   |some cs=>
    rw[pK] at h
    cases h
    obtain⟨c',h1,h2⟩:=qu _ parts pc.toList zs z.cells cs hr (by simpa using hl) hp pK;have O6:=run_places (P:=P) fs (fun f hm=>List.all_eq_true.1 hf f (Array.mem_def.1 hm)) w;refine⟨.agg c',?_,by simpa using h2.agg⟩;have e:(fun(x:Nat)=>(fs.map fun(f:Field)=>(f.offset,P.cellsOf f.type))[x]?)=fun(i:Nat)=>(fs[i]?).map fun(f:Field)=>(f.offset,P.cellsOf f.type):=by
     funext x;simp
    simp only[Instr.build,Sem.run_bind,iQ hi tj,Result.andThen_ok,run_underlying hu,O6,e,h1];rfl
  ·cases h
 ·rename_i zs n e hz hu
  split at h
  ·rename_i he;obtain⟨d,hd⟩:=Option.isSome_iff_exists.1 he;obtain⟨i,z,hi,tj,hr,_⟩:=dZ (L:=L) (N:=H.length) (T:=T) (w:=w) hz
   cases pK:nE (fun i=>some (i*P.cellsOf e,P.cellsOf e)) zs parts with
   |none=>rw[pK] at h;cases h
   |some cs=>
    rw[pK] at h
    cases h
    obtain⟨c',h1,h2⟩:=qu _ parts pc.toList zs z.cells cs hr (by simpa using hl) hp pK;refine⟨.agg c',?_,by simpa using h2.agg⟩;simp only[Instr.build,Sem.run_bind,iQ hi tj,Result.andThen_ok,run_underlying hu,cz hd,h1];rfl
  ·cases h
 ·cases h
def gj (zs:List AV)(n:Nat):List AV:=(List.range n).map fun i=>zs.getD (i % zs.length) .top
theorem oI {N n:Nat}{zs:List AV}{z:Array Value}(hr:bW L N T w zs z.toList)(h0:0<zs.length∨n=0):bW L N T w (gj zs n) (madeCells z n).toList:=by
 have hz:z.size=zs.length:=by have:=hr.1;simpa using this
 refine⟨by simp[gj,madeCells],fun j hj=>?_,fun j hj bK=>?_⟩
 ·have vx:j<n:=by simpa[madeCells] using hj
  have bh:j % zs.length<z.size:=by rw[hz];exact mod_lt _ (by omega)
  have:=hr.2.1 (j % zs.length) (by simpa using bh);simp only[madeCells,Array.toList_map,Array.toList_range,getElem_map,List.getElem_range];rw[getElem!_pos z _ (show j % z.size<z.size from mod_lt _ (by omega))];have e':j % z.size=j % zs.length:=by rw[hz]
  simp only[e'];simpa using this
 ·have vx:j<n:=by simpa[madeCells] using bK
  have bh:j % zs.length<z.size:=by rw[hz];exact mod_lt _ (by omega)
  have Cc:j % zs.length<zs.length:=by rw[hz] at bh;exact bh
  have:=hr.2.2 (j % zs.length) Cc (by simpa using bh);simp only[madeCells,gj,Array.toList_map,Array.toList_range,getElem_map,List.getElem_range];rw[getElem!_pos z _ (show j % z.size<z.size from mod_lt _ (by omega))];have e':j % z.size=j % zs.length:=by rw[hz]
  simp only[e'];have e:zs.getD (j % zs.length) .top=zs[j % zs.length]'Cc:=by
   rw[List.getD_eq_getElem?_getD,List.getElem?_eq_getElem Cc];rfl
  rw[e];simpa using this
theorem Hz (v:AV)(n:Nat):gj [v] n=List.replicate n v:=by
 unfold gj;apply ext_getElem
 ·simp
 ·intro i h1 h2;simp[Nat.mod_one]
def kR (P:Program)(t:TypeId)(len:Nat)(parts:List (Nat×AV)):Option AV:=
 match P.underlying t with
 |some (.slice e)=>match aX P e with
  |some zs=>if len*P.cellsOf e≤16777216∧0<P.cellsOf e∧zs.length=P.cellsOf e then (nE (fun i=>some (i*P.cellsOf e,P.cellsOf e)) (gj zs (len*P.cellsOf e)) parts).map fun cs=>.sl len cs .full else none
  |none=>none
 |_=>none
theorem vp {t:TypeId}{len:Nat}{parts:List (Nat×AV)}{pc:Array (Nat×Value)}{r:AV}(hc:bN L H T w)(h:kR P t len parts=some r)(hl:pc.size=parts.length)
  (hp:∀(j:Nat)(h:j<parts.length)(h':j<pc.toList.length),(parts[j]'h).1=(pc.toList[j]'h').1∧aZ L H.length T w (parts[j]'h).2 (pc.toList[j]'h').2) :
  ∃cv w' L',(Instr.buildSlice t len pc).run P w=.ok cv w'∧bN L' H T w'∧aZ L' H.length T w' r cv∧Ev H.length T.length L H.length T w L' H.length T w':=by
 unfold kR at h
 split at h
 ·rename_i e hu
  split at h
  ·rename_i zs hz
   split at h
   ·rename_i hb;obtain⟨i,z,hi,tj,hr,qW⟩:=dZ (L:=L) (N:=H.length) (T:=T) (w:=w) hz
    cases pK:nE (fun i=>some (i*P.cellsOf e,P.cellsOf e)) (gj zs (len*P.cellsOf e)) parts with
    |none=>rw[pK] at h;cases h
    |some cs=>
     rw[pK] at h
     cases h
     obtain⟨c',h1,h2⟩:=qu _ parts pc.toList _ (madeCells z.cells (len*P.cellsOf e)) cs (oI hr (.inl (by omega))) (by simpa using hl) hp pK;have hlen:c'.toList.length=cs.length:=h2.1;obtain⟨k1,k2,k3⟩:=hc.newRow c' e (0,0) (vs:=cs) cs.length (le_refl _) (by rw[List.take_of_length_le (by omega)];exact h2) len len (le_refl _) .full (.inr ⟨rfl,rfl⟩);refine⟨_,_,_,?_,k1,k3,k2⟩;have gN:=run_sizeOf w hi;have n1:¬len*P.cellsOf e>2 ^ 24:=by omega
     by_cases h0:len*P.cellsOf e=0
     ·have hm:madeCells z.cells (len*P.cellsOf e)=(Array.range 0).map ((#[]:Array Value)[· % (#[]:Array Value).size]!):=by rw[h0];simp[madeCells]
      rw[hm] at h1;have n2:¬0>2 ^ 24:=by omega
      simp only[Instr.buildSlice,Sem.run_bind,run_underlying hu,Result.andThen_ok,gN,h0,n2,if_false,if_true,pure_bind,h1,Sem.run_pure];rfl
     ·simp only[Instr.buildSlice,Sem.run_bind,run_underlying hu,Result.andThen_ok,gN,h0,n1,if_false,pure_bind,bind_pure_comp,Sem.run_map,iQ hi tj];have N4:=h1;unfold madeCells at N4;simp only[N4];rfl
   ·cases h
  ·cases h
 ·cases h
def lS (P:Program)(t:TypeId)(len:Nat)(parts:List (Nat×AV)):Option (List AV):=
 match P.underlying t with
 |some (.slice e)=>match aX P e with
  |some zs=>if len*P.cellsOf e≤16777216∧0<P.cellsOf e∧zs.length=P.cellsOf e then nE (fun i=>some (i*P.cellsOf e,P.cellsOf e)) (gj zs (len*P.cellsOf e)) parts else none
  |none=>none
 |_=>none
theorem yj {t:TypeId}{len:Nat}{parts:List (Nat×AV)}{pc:Array (Nat×Value)}{cs:List AV}(hc:bN L H T w)(h:lS P t len parts=some cs)(hl:pc.size=parts.length)
  (hp:∀(j:Nat)(h:j<parts.length)(h':j<pc.toList.length),(parts[j]'h).1=(pc.toList[j]'h').1∧aZ L H.length T w (parts[j]'h).2 (pc.toList[j]'h').2) :
  ∃cv w' L',(Instr.buildSlice t len pc).run P w=.ok cv w'∧bN L' (H++[.cells cs]) T w'∧aZ L' (H++[aG.cells cs]).length T w' (.cO H.length 0 len) cv∧Ev H.length T.length L H.length T w L' (H++[aG.cells cs]).length T w':=by
 unfold lS at h
 split at h
 ·rename_i e hu
  split at h
  ·rename_i zs hz
   split at h
   ·rename_i hb;obtain⟨i,z,hi,tj,hr,qW⟩:=dZ (L:=L) (N:=H.length) (T:=T) (w:=w) hz;obtain⟨c',h1,h2⟩:=qu _ parts pc.toList _ (madeCells z.cells (len*P.cellsOf e)) cs (oI hr (.inl (by omega))) (by simpa using hl) hp h;obtain⟨L',k1,k2,k3⟩:=hc.pr c' e h2;refine⟨.slice (some ⟨w.heap.size,0,none⟩) len len,_,L',?_,k1,?_,k2⟩
    ·have gN:=run_sizeOf w hi;have n1:¬len*P.cellsOf e>2 ^ 24:=by omega
     by_cases h0:len*P.cellsOf e=0
     ·have hm:madeCells z.cells (len*P.cellsOf e)=(Array.range 0).map ((#[]:Array Value)[· % (#[]:Array Value).size]!):=by rw[h0];simp[madeCells]
      rw[hm] at h1;have n2:¬0>2 ^ 24:=by omega
      simp only[Instr.buildSlice,Sem.run_bind,run_underlying hu,Result.andThen_ok,gN,h0,n2,if_false,if_true,pure_bind,h1,Sem.run_pure];rfl
     ·simp only[Instr.buildSlice,Sem.run_bind,run_underlying hu,Result.andThen_ok,gN,h0,n1,if_false,pure_bind,bind_pure_comp,Sem.run_map,iQ hi tj];have N4:=h1;unfold madeCells at N4;simp only[N4];rfl
    ·rw[←k3];exact .cO _ _ _ _ (by simp) (le_refl _)
   ·cases h
  ·cases h
 ·cases h
end
section
variable {P : Program} {L : Lay} {H : List aG} {T : ay} {w : World}
theorem A5 {t e:TypeId}{zs:List AV}(hc:bN L H T w)(hu:P.underlying t=some (.slice e))(hz:aX P e=some zs)(O1:0<zs.length)(kl kc:IntKind)(n:Nat)(hb:n*P.bytesOf e≤281474976710656)(hn:n≤9223372036854775807) :
  ∃cv w' L',(Instr.makeSlice t (.int kl (n:Int)) (.int kc (n:Int))).run P w=.ok cv w'∧bN L' (H++[.cells (gj zs (n*P.cellsOf e))]) T w'∧aZ L' (H++[aG.cells (gj zs (n*P.cellsOf e))]).length T w' (.dP H.length n n) cv∧
   Ev H.length T.length L H.length T w L' (H++[aG.cells (gj zs (n*P.cellsOf e))]).length T w':=by
 obtain⟨i,z,hi,tj,hr,qW⟩:=dZ (L:=L) (N:=H.length) (T:=T) (w:=w) hz;have tn:P.bytesOf e=i.bytes:=by simp[Program.bytesOf,hi]
 have gN:P.cellsOf e=i.size:=by simp[Program.cellsOf,hi]
 have r8:(i.bytes:Int)*(n:Int)≤281474976710656:=by
  rw[tn] at hb;have:((n*i.bytes:Nat):Int)≤281474976710656:=by omega
  rw[Int.natCast_mul,Int.mul_comm] at this;exact this
 have hm:=run_make (P:=P) w t e i z hu hi tj kl kc n n (by omega) (Int.le_refl _) r8 (by omega);obtain⟨L',h1,h2,h3⟩:=hc.pr (madeCells z.cells (n*P.cellsOf e)) e (oI (n:=n*P.cellsOf e) hr (.inl O1));refine⟨_,_,L',by rw[hm];simp only[Int.toNat_natCast,←gN];rfl,h1,?_,h2⟩;rw[←h3];exact .dP H.length n n (by simp) (le_refl _)
theorem A4 {t e:TypeId}{zs:List AV}(hc:bN L H T w)(hu:P.underlying t=some (.slice e))(hz:aX P e=some zs)(O1:0<P.cellsOf e)(kl kc:IntKind)(n:Nat)(hb:n*P.bytesOf e≤281474976710656)(hn:n≤9223372036854775807) :
  ∃cv w' L',(Instr.makeSlice t (.int kl 0) (.int kc (n:Int))).run P w=.ok cv w'∧bN L' H (T++[(0,P.cellsOf e)]) w'∧aZ L' H.length (T++[(0,P.cellsOf e)]) w' (.sl 0 [] (.own T.length)) cv∧
   Ev H.length T.length L H.length T w L' H.length (T++[(0,P.cellsOf e)]) w':=by
 obtain⟨i,z,hi,tj,hr,qW⟩:=dZ (L:=L) (N:=H.length) (T:=T) (w:=w) hz;have tn:P.bytesOf e=i.bytes:=by simp[Program.bytesOf,hi]
 have gN:P.cellsOf e=i.size:=by simp[Program.cellsOf,hi]
 have r8:(i.bytes:Int)*(n:Int)≤281474976710656:=by
  rw[tn] at hb;have:((n*i.bytes:Nat):Int)≤281474976710656:=by omega
  rw[Int.natCast_mul,Int.mul_comm] at this;exact this
 have hm:=run_make (P:=P) w t e i z hu hi tj kl kc 0 n (Int.le_refl _) (by omega) r8 (by omega);have c1:=hc.alloc (.cells (madeCells z.cells (n*P.cellsOf e)) e) 0;have e1:=Ev.alloc hc (.cells (madeCells z.cells (n*P.cellsOf e)) e) 0;have BH:¬Wr (L.bJ w.heap.size 0) H.length T w.heap.size:=hc.uu (le_refl _)
 let k:Tk:=⟨w.heap.size,0,n⟩
 have hk:((L.bJ w.heap.size 0).aU T.length k).dD T.length=k:=by simp[Lay.aU]
 refine⟨_,_,(L.bJ w.heap.size 0).aU T.length k,by rw[hm];simp only[Int.toNat_natCast,←gN];rfl,c1.j6 k 0 (P.cellsOf e) (fun _=>BH) ?_,?_,e1.j6 (fun _=>.inl (le_refl _))⟩
 ·refine⟨O1,fun _=>?_⟩;rw[hk];refine⟨_,e,(0,0),eG w _,by simp[k,size_madeCells],fun o _ _=>by simp,?_⟩;simp[k,Lay.aU,Lay.bJ]
 ·refine .vR (.own T.length) _ _ ⟨0,P.cellsOf e,by simp,le_refl _,fun _=>.inr ?_⟩;rw[hk];simp[k]
def nG:Array Value→Nat→List Value→Array Value
 |c,_,[]=>c
 |c,o,v::r=>nG (c.setIfInBounds o v) (o+1) r
theorem A3:∀(vs:List Value)(c:Array Value)(o:Nat),(nG c o vs).size=c.size:=by
 intro vs
 induction vs with
 |nil=>intro c o;rfl
 |cons v r ih=>intro c o;simp[nG,ih]
theorem wu:∀(vs:List Value)(c:Array Value)(o j:Nat),j<o→(nG c o vs)[j]?=c[j]?:=by
 intro vs
 induction vs with
 |nil=>intro c o j _;rfl
 |cons v r ih=>
  intro c o j hj;rw[nG,ih _ _ _ (by omega),Array.getElem?_setIfInBounds_ne (by omega)]
theorem Gh:∀(vs:List Value)(c:Array Value)(o j:Nat),o+vs.length≤c.size→j<vs.length→(nG c o vs)[o+j]?=vs[j]?:=by
 intro vs
 induction vs with
 |nil=>intro c o j _ h;simp at h
 |cons v r ih=>
  intro c o j hle hj;rw[nG]
  cases j with
  |zero=>
   rw[wu _ _ _ _ (by omega)];simp at hle;have:o<c.size:=by omega
   simp[this]
  |succ j=>
   have:=ih (c.setIfInBounds o v) (o+1) j (by simp at hle ⊢;omega) (by simpa using hj);rw[show o+(j+1)=o+1+j by omega,this];simp
theorem vM:∀(vs:List Value)(w:World)(b o:Nat)(c:Array Value)(e:TypeId)(fr:Nat×Nat),w.heap[b]?=some (.cells c e fr)→
  (w.setCells b o vs).heap[b]?=some (.cells (nG c o vs) e fr)∧(∀x,x≠b→(w.setCells b o vs).heap[x]?=w.heap[x]?)∧(w.setCells b o vs).heap.size=w.heap.size∧
   (w.setCells b o vs).os=w.os∧(w.setCells b o vs).tape=w.tape∧(w.setCells b o vs).output=w.output∧(w.setCells b o vs).drawn=w.drawn:=by
 intro vs
 induction vs with
 |nil=>intro w b o c e fr h;exact⟨h,fun _ _=>rfl,rfl,rfl,rfl,rfl,rfl⟩
 |cons v r ih=>
  intro w b o c e fr h;have h1:=mI w b o v h;obtain⟨g1,g2,g3,g4,g5,g6,g7⟩:=ih (w.setCell ⟨b,o,none⟩ v) b (o+1) _ e fr h1;exact⟨g1,fun x hx=>(g2 x hx).trans (fk w b o v x hx),by rw[World.setCells,g3];simp,g4,g5,g6,g7⟩
def ji (P:Program)(t:TypeId):Bool:=
 match P.underlying t with
 |some (.int _)=>false
 |some _=>true
 |none=>false
theorem CU {t:TypeId}(h:ji P t=true):∃d,P.underlying t=some d∧(∀k,d≠.int k):=by
 unfold ji at h
 split at h
 ·cases h
 ·rename_i d hn hu;exact⟨d,hu,fun k e=>by subst e;exact hn k rfl⟩
 ·cases h
theorem fM {t t2 ty e:TypeId}{i:TypeInfo}{zv:Value}(hu:P.underlying t=some (.slice e))(h2:ji P t2=true)(hi:P.info? e=some i)(hz:i.zero=some zv)
  {a:Option Addr} {n cap m:Nat} {x:Value} {S3 new S4:List Value} (hlen:(Builtin.lenOf x).run P w=.ok m w) (TQ:(Builtin.firstCells i.size m x).run P w=.ok new.toArray w)
  (TP:(Builtin.firstCells i.size m x).run P w.drew=.ok S4.toArray w.drew) (TO:(Builtin.firstCells i.size n (.slice a n cap)).run P w.drew=.ok S3.toArray w.drew) (hb:(n+m)*i.bytes≤140737488355328) (hm:n+m≤9223372036854775807) :
  (n+m≤cap→(Builtin.append_ #[t,t2] ty #[.slice a n cap,x]).run P w=((match a with|some a=>storeCells (a.add (n*i.size)) new|none=>pure ()).run P w).andThen fun _ w'=>.ok (.slice a (n+m) cap) w')∧
  (cap<n+m→∃nc,n+m≤nc∧(Builtin.append_ #[t,t2] ty #[.slice a n cap,x]).run P w =
   .ok (.slice (some ⟨w.heap.size,0,none⟩) (n+m) nc) (w.drew.alloc (.cells (S3.toArray++S4.toArray++Builtin.zeroCells zv.cells (nc-(n+m))) e))):=by
 obtain⟨d2,jc,Q2⟩:=CU h2;have abB:(d2 matches .int _)=false:=by
  cases d2<;>first|rfl|exact absurd rfl (Q2 _)
 have gN:=run_sizeOf w hi;have BW:P.cellsOf e=i.size:=by simp[Program.cellsOf,hi]
 constructor
 ·intro hle;simp only[Builtin.append_,List.getElem?_toArray,List.getElem?_cons_zero,List.getElem?_cons_succ,Sem.run_bind,run_underlying hu,run_underlying jc,Result.andThen_ok,gN,Sem.run_pure,BW];simp only[Bool.false_eq_true,if_false,hlen,Result.andThen_ok,Sem.run_bind,hle,if_true,Bool.not_false,TQ]
  cases a with
  |none=>rfl
  |some a=>simp only[Sem.run_bind];rfl
 ·intro bh;obtain⟨nc,mK,hle⟩:∃nc,(Question.appendCap (n+m) cap e).cut (w.tape w.drawn (.appendCap (n+m) cap e))=nc∧n+m≤nc:=⟨_,rfl,by simp[Question.cut]⟩
  refine⟨nc,hle,?_⟩;have g1:¬n+m≤cap:=by omega
  have g2:¬(((n+m:Nat):Int)>IntKind.i64.max∧(False∨i.bytes=0)):=by
   have:IntKind.i64.max=9223372036854775807:=by decide
   rw[this];omega
  have g3:¬Builtin.nextslicecap (n+m) cap*i.bytes>2 ^ 48:=by
   have:=growslice_fits bh hb;omega
  simp only[Builtin.append_,List.getElem?_toArray,List.getElem?_cons_zero,List.getElem?_cons_succ,Sem.run_bind,run_underlying hu,run_underlying jc,Result.andThen_ok,gN,Sem.run_pure,BW];simp only[Bool.false_eq_true,if_false,hlen,Result.andThen_ok,Sem.run_bind,g1,run_typeInfo w hi,g2,g3,Bool.not_false,if_true];simp only[run_choose,Question.forced,Bool.false_eq_true,if_false,mK,Result.andThen_ok,run_askRoom,World.drew_eq,run_typeInfo w.drew hi,TO,TP,iQ hi hz,newRow,Sem.run_bind,run_newObj,Sem.run_pure];rfl
def qp (P:Program)(H:List aG)(T:ay)(t t2:TypeId)(s x:AV):Option (AV×ay):=
 match P.underlying t,s with
 |some (.slice e),.sl n cs tg=>
  match kG H (P.cellsOf e) x with
  |some (m,ys)=>
   if cs.length=n*P.cellsOf e∧0<P.cellsOf e∧(n+m)*P.bytesOf e≤140737488355328∧n+m≤9223372036854775807∧ji P t2=true∧(aX P e).isSome=true then
    match tg with
    |.full=>some (.sl (n+m) (cs++ys) (.own T.length),T++[((n+m)*P.cellsOf e,P.cellsOf e)])
    |.own k=>if T[k]?=some (cs.length,P.cellsOf e) then some (.sl (n+m) (cs++ys) (.own k),T.set k ((n+m)*P.cellsOf e,P.cellsOf e)) else none
    |.none=>none
   else none
  |none=>none
 |_,_=>none
theorem C1 {t t2 ty:TypeId}{s x r:AV}{cs cx:Value}{T':ay}(hc:bN L H T w)(h:qp P H T t t2 s x=some (r,T'))(hs:aZ L H.length T w s cs)(hx:aZ L H.length T w x cx) :
  ∃cv w' L',(Builtin.append_ #[t,t2] ty #[cs,cx]).run P w=.ok cv w'∧bN L' H T' w'∧aZ L' H.length T' w' r cv∧Ev H.length T.length L H.length T w L' H.length T' w':=by
 unfold qp at h
 split at h
 ·rename_i e n cl tg hu
  split at h
  ·rename_i m ys mQ
   split at h
   ·rename_i hb;obtain⟨fS,HE,tn,ri,BU,qW⟩:=hb;obtain⟨zs,qW⟩:=Option.isSome_iff_exists.1 qW;obtain⟨i,z,hi,tj,O0,B7⟩:=dZ (L:=L) (N:=H.length) (T:=T) (w:=w) qW;have vA:P.cellsOf e=i.size:=by simp[Program.cellsOf,hi]
    have HJ:P.bytesOf e=i.bytes:=by simp[Program.bytesOf,hi]
    rw[HJ] at tn;obtain⟨new,EW,oW,hlen,gC⟩:=eM (P:=P) hc hx mQ;have yy:bN L H T w.drew:=hc.drew rfl;have kd:dd L H.length T w L H.length T w.drew:=(Ev.drew (H:=H) (T:=T) (L:=L) (w:=w) (w':=w.drew) rfl rfl rfl rfl (le_succ _)).keeps;obtain⟨kD,_,nI,_,jG⟩:=eM (P:=P) yy (hx.keep kd) mQ;obtain⟨a,cap,rfl,bV,B9,uA⟩:=hs.eS;have LM:=hs.keep kd;have jv:kG H (P.cellsOf e) (.sl n cl tg)=some (n,cl):=by simp[kG,fS]
    obtain⟨th,_,sg,_,p7⟩:=eM (P:=P) yy LM jv;have h2:=fM (P:=P) (w:=w) (ty:=ty) hu BU hi tj (a:=a) (n:=n) (cap:=cap) (m:=m) hlen (vA▸gC) (vA▸jG) (vA▸p7) tn ri;rw[←vA] at h2;have grow:cap<n+m→∀(k:Nat)(Tn:ay),((k=T.length∧Tn=T++[((n+m)*P.cellsOf e,P.cellsOf e)])∨(∃u,T[k]?=some (u,P.cellsOf e)∧u<(n+m)*P.cellsOf e∧Tn=T.set k ((n+m)*P.cellsOf e,P.cellsOf e)))→
      ∃cv w' L',(Builtin.append_ #[t,t2] ty #[.slice a n cap,cx]).run P w=.ok cv w'∧bN L' H Tn w'∧aZ L' H.length Tn w' (.sl (n+m) (cl++ys) (.own k)) cv∧Ev H.length T.length L H.length T w L' H.length Tn w':=by
     intro bh k Tn hk;obtain⟨nc,mK,cK⟩:=h2.2 bh;have Ir:=sg.append nI;have OD:(th++kD).length=(cl++ys).length:=Ir.1;have Cf:(cl++ys).length=(n+m)*P.cellsOf e:=by rw[List.length_append,fS,EW,add_mul]
     have TG:((th.toArray++kD.toArray++Builtin.zeroCells z.cells (nc-(n+m))).toList.take (cl++ys).length)=th++kD:=by
      have e1:(th.toArray++kD.toArray++Builtin.zeroCells z.cells (nc-(n+m))).toList=(th++kD)++(Builtin.zeroCells z.cells (nc-(n+m))).toList:=by simp
      rw[e1,←OD,List.take_left' rfl]
     obtain⟨k1,k2,k3⟩:=yy.newRow (th.toArray++kD.toArray++Builtin.zeroCells z.cells (nc-(n+m))) e (0,0) (vs:=cl++ys) (cl++ys).length (le_refl _) (by rw[TG];exact Ir) (n+m) nc mK .none (.inl rfl);have ed:Ev H.length T.length L H.length T w L H.length T w.drew:=Ev.drew rfl rfl rfl rfl (le_succ _);have BH:¬Wr (L.bJ w.heap.size (cl++ys).length) H.length T w.heap.size:=hc.uu (le_refl _)
     let tk:Tk:=⟨w.heap.size,0,nc⟩
     have TM:(th.toArray++kD.toArray++Builtin.zeroCells z.cells (nc-(n+m))).size=nc*P.cellsOf e:=by
      have h1:(th++kD).length=(n+m)*P.cellsOf e:=by rw[OD,Cf]
      have h3:nc*P.cellsOf e=(n+m)*P.cellsOf e+(nc-(n+m))*P.cellsOf e:=by rw[←add_mul];congr 1;omega
      simp only[Array.size_append,List.size_toArray,size_zeroCells,B7,h3];rw[←h1];simp
     have Ie:∀k',sq ((L.bJ w.heap.size (cl++ys).length).aU k' tk) (w.drew.alloc (.cells (th.toArray++kD.toArray++Builtin.zeroCells z.cells (nc-(n+m))) e)) k' ((n+m)*P.cellsOf e) (P.cellsOf e):=by
      intro k';have mL:((L.bJ w.heap.size (cl++ys).length).aU k' tk).dD k'=tk:=by simp[Lay.aU]
      refine⟨HE,fun _=>?_⟩;rw[mL];refine⟨_,e,(0,0),eG w.drew _,by rw[TM];simp[tk],fun o _ _=>by simp,?_⟩;show (if tk.b=w.heap.size then (cl++ys).length else L.m tk.b)≤_;rw[if_pos rfl,Cf];exact Nat.le_add_left _ _
     have dF:∀SR,(∀t' u z',T[t']?=some (u,z')→∃u',SR[t']?=some (u',z')∧u≤u'∧(u'=u→t'≠k))→SR[k]?=some ((n+m)*P.cellsOf e,P.cellsOf e)→
       aZ ((L.bJ w.heap.size (cl++ys).length).aU k tk) H.length SR (w.drew.alloc (.cells (th.toArray++kD.toArray++Builtin.zeroCells z.cells (nc-(n+m))) e)) (.sl (n+m) (cl++ys) (.own k)) (.slice (some ⟨w.heap.size,0,none⟩) (n+m) nc):=by
      intro SR hT Fg;have kp:dd (L.bJ w.heap.size (cl++ys).length) H.length T (w.drew.alloc (.cells (th.toArray++kD.toArray++Builtin.zeroCells z.cells (nc-(n+m))) e)) ((L.bJ w.heap.size (cl++ys).length).aU k tk) H.length SR (w.drew.alloc (.cells (th.toArray++kD.toArray++Builtin.zeroCells z.cells (nc-(n+m))) e)):=by
       refine⟨le_refl _,fun _ _=>rfl,fun t' u z' n4=>?_,fun _=>le_refl _,fun _ _ _=>rfl,rfl⟩;obtain⟨u',h1,h3,h4⟩:=hT t' u z' n4;refine⟨u',h1,h3,fun e=>?_⟩;simp only[Lay.aU];rw[if_neg (h4 e)]
      have:=k3.keep kp;obtain⟨a',FE,e1,jz,_,EX⟩:=this.eS
      cases e1
      have kE:0<(cl++ys).length:=by
       rw[Cf];exact Nat.mul_pos (by omega) HE
      rcases EX with⟨e2,_⟩|⟨b,base,cv,e2,g1,g2,g3⟩
      ·rw[e2] at kE;simp at kE
      ·cases e2
       refine aZ.jW jz g1 g2 g3 ⟨_,_,Fg,by rw[Cf];exact le_refl _,fun _=>.inr ?_⟩;simp[Lay.aU,tk]
     rcases hk with⟨rfl,rfl⟩|⟨u,Fg,oP,rfl⟩
     ·refine⟨_,_,_,cK,k1.j6 tk _ _ (fun _=>BH) (Ie _),dF _ (fun t' u z' n4=>?_) (by simp),(ed.trans k2).j6 (fun _=>.inl (le_refl _))⟩;have Cc:=(List.getElem?_eq_some_iff.1 n4).1;exact⟨u,by rw[getElem?_append_left Cc];exact n4,le_refl _,fun _=>by omega⟩
     ·have lW:=(List.getElem?_eq_some_iff.1 Fg).1;refine⟨_,_,_,cK,k1.Cp Fg oP tk (fun _=>BH) (Ie _),dF _ (fun t' u' z' n4=>?_) (by rw[getElem?_set_self lW]),(ed.trans k2).Cp Fg oP (fun _=>le_refl _)⟩
      by_cases kS:t'=k
      ·subst kS;rw[Fg] at n4
       cases n4
       exact⟨_,by rw[getElem?_set_self lW],by omega,fun e=>by omega⟩
      ·exact⟨u',by rw[getElem?_set_ne (fun e=>kS e.symm)];exact n4,le_refl _,fun _=>kS⟩
    have zero:m=0→(Builtin.append_ #[t,t2] ty #[.slice a n cap,cx]).run P w=.ok (.slice a n cap) w∧ys=[]:=by
     intro hm;subst hm;have DK:new=[]:=eq_nil_of_length_eq_zero (by rw[oW.1];simpa using EW);have hy0:ys=[]:=eq_nil_of_length_eq_zero (by simpa using EW);have:=h2.1 (by omega);rw[DK] at this;refine⟨?_,hy0⟩;rw[this]
     cases a<;>rfl
    split at h
    ·cases h
     rcases Nat.eq_zero_or_pos m with hm|hm
     ·obtain⟨g1,g2⟩:=zero hm;subst hm;subst g2;refine⟨_,w,L.aU T.length ⟨0,0,0⟩,g1,hc.j6 ⟨0,0,0⟩ _ _ (fun h=>by simp at h) ⟨HE,fun h=>by simp[Lay.aU] at h⟩,?_,
       (Ev.refl (le_refl _) (le_refl _)).j6 (fun h=>by simp at h)⟩
      have kp:dd L H.length T w (L.aU T.length ⟨0,0,0⟩) H.length (T++[((n+0)*P.cellsOf e,P.cellsOf e)]) w:=by
       refine⟨le_refl _,fun _ _=>rfl,fun t' u z' n4=>?_,fun _=>le_refl _,fun _ _ _=>rfl,rfl⟩;have Cc:=(List.getElem?_eq_some_iff.1 n4).1;exact⟨u,by rw[getElem?_append_left Cc];exact n4,le_refl _,fun _=>by simp only[Lay.aU];rw[if_neg (by omega)]⟩
      have BD:=(hs.cC).keep kp;simp only[Am.cC] at BD;have tok:∀a',jr (L.aU T.length ⟨0,0,0⟩) (T++[((n+0)*P.cellsOf e,P.cellsOf e)]) (.own T.length) n cl.length a' cap:=fun a'=>⟨(n+0)*P.cellsOf e,P.cellsOf e,by simp,by rw[fS];simp,fun _=>.inl B9⟩
      obtain⟨a',FE,e1,jz,_,EX⟩:=BD.eS
      cases e1
      rcases EX with⟨e2,e3⟩|⟨b,base,cv,e2,q1,q2,q3⟩
      ·subst e2;subst e3;simp only[List.append_nil,add_zero];exact .vR _ _ _ (tok _)
      ·subst e2;simp only[List.append_nil,add_zero];exact aZ.jW jz q1 q2 q3 (tok _)
     ·have sN:cap=n:=B9;exact grow (by omega) T.length _ (.inl ⟨rfl,rfl⟩)
    ·rename_i k
     split at h
     ·rename_i Fg
      cases h
      have lW:=(List.getElem?_eq_some_iff.1 Fg).1;rcases Nat.eq_zero_or_pos m with hm|hm
      ·obtain⟨g1,g2⟩:=zero hm;subst hm;subst g2;have hT:T.set k ((n+0)*P.cellsOf e,P.cellsOf e)=T:=by
        apply List.ext_getElem?;intro j
        by_cases hj:k=j
        ·subst hj;rw[getElem?_set_self lW,Fg,fS];simp
        ·rw[getElem?_set_ne hj]
       rw[hT];refine⟨_,w,L,g1,hc,by simpa using hs,Ev.refl (le_refl _) (le_refl _)⟩
      ·rcases lt_or_ge cap (n+m) with bh|ku
       ·exact grow bh k _ (.inr ⟨cl.length,Fg,by rw[fS];exact Nat.mul_lt_mul_of_pos_right (by omega) HE,rfl⟩)
       ·
        obtain⟨u0,z0,Xe,acu,himp⟩:=B9;rw[Fg] at Xe
        cases Xe
        rcases himp rfl with h0|⟨ha,IK⟩
        ·omega
        ·have cK:=h2.1 ku;have EY:cl.length<(L.dD k).c*P.cellsOf e:=by
          rw[←IK,fS];exact Nat.mul_lt_mul_of_pos_right (by omega) HE
         obtain⟨_,tW⟩:=hc.tok k _ _ Fg;obtain⟨cc,ee,fr,g1,g2,g3,g4⟩:=tW EY;have hmz:cl.length+m*P.cellsOf e≤(L.dD k).c*P.cellsOf e:=by
          rw[←IK,fS,←add_mul];exact Nat.mul_le_mul_right _ ku
         have ab8:new.length=m*P.cellsOf e:=by rw[oW.1,EW]
         have dA:=run_storeCells_cells (P:=P) (L.dD k).b ((L.dD k).o+cl.length) new 0 w
          (fun j hj=>by
           rw[fi g1];rw[Array.getElem?_eq_getElem (show (L.dD k).o+cl.length+0+j<cc.size by omega)];rfl)
          (fun j hj=>by
           unfold World.frozen?;simp only[g1];exact g3 _ (by omega) (by omega))
          (fun v hv=>by
           obtain⟨j,hj,e1⟩:=List.mem_iff_getElem.1 hv;rw[←e1];exact oW.2.1 j hj)
         obtain⟨s1,s2,s3,s4,s5,s6,s7⟩:=vM new w (L.dD k).b ((L.dD k).o+cl.length) cc ee fr g1;have Cf:cl.length+m*P.cellsOf e=(n+m)*P.cellsOf e:=by rw[fS,add_mul]
         obtain⟨c1,e1⟩:=hc.grow Fg (k:=m*P.cellsOf e) (Nat.mul_pos hm HE) hmz g1 s1 (A3 _ _ _) (fun j hj=>wu _ _ _ _ hj) s2 s3 s4 s5 s6 (Nat.le_of_eq s7.symm);rw[Cf] at c1 e1;refine⟨.slice a (n+m) cap,_,_,?_,c1,?_,e1⟩
         ·rw[cK,ha];simp only[eh,←fS];rw[dA];rfl
         ·have W0:=hs.keep e1.keeps;obtain⟨a',FE,e3,jz,Fu,EX⟩:=W0.eS
          cases e3
          have Ir:bW ((L.bJ (L.dD k).b ((L.dD k).o+cl.length+m*P.cellsOf e))) H.length (T.set k ((n+m)*P.cellsOf e,P.cellsOf e)) (w.setCells (L.dD k).b ((L.dD k).o+cl.length) new) ys new:=oW.keep e1.keeps;have tok:jr (L.bJ (L.dD k).b ((L.dD k).o+cl.length+m*P.cellsOf e)) (T.set k ((n+m)*P.cellsOf e,P.cellsOf e)) (.own k) (n+m) (cl++ys).length (some ⟨(L.dD k).b,(L.dD k).o,none⟩) cap:=
           ⟨_,_,by rw[getElem?_set_self lW],by rw[List.length_append,EW,Cf];exact le_refl _,fun _=>.inr ⟨rfl,IK⟩⟩
          have OB:(L.dD k).o+(cl++ys).length≤(L.bJ (L.dD k).b ((L.dD k).o+cl.length+m*P.cellsOf e)).m (L.dD k).b:=by
           simp only[Lay.bJ,if_true,List.length_append,EW];omega
          subst ha;have Ow:∀j,j<ys.length→(w.setCells (L.dD k).b ((L.dD k).o+cl.length) new).cell? ⟨(L.dD k).b,(L.dD k).o+cl.length+j,none⟩=new[j]?:=by
           intro j hj;rw[fi s1,Gh _ _ _ _ (by omega) (by omega)]
          rcases EX with⟨e2,e3⟩|⟨b,base,cv,e2,q1,q2,q3⟩
          ·subst e2;subst e3;refine aZ.jW (cv:=new) ku OB (by simpa using Ir) (fun j hj=>?_) tok;have:=Ow j (by simpa using hj);simpa using this
          ·cases e2
           refine aZ.jW (cv:=cv++new) ku OB (q2.append Ir) (fun j hj=>?_) tok;have Lu:cv.length=cl.length:=q2.1;rcases lt_or_ge j cl.length with Q9|Q9
           ·rw[q3 j Q9,getElem?_append_left (by omega)]
           ·have:=Ow (j-cl.length) (by simp at hj;omega);rw[List.getElem?_append_right (by omega),Lu,←this]
            congr 2
            omega
     ·cases h
    ·cases h
   ·cases h
  ·cases h
 ·cases h
def mu (P:Program)(H:List aG)(t t2:TypeId)(s x:AV):Option (Nat×List AV):=
 match P.underlying t,s with
 |some (.slice e),.sl 0 [] .full=>
  match kG H (P.cellsOf e) x with
  |some (m,ys)=>if 0<m∧0<P.cellsOf e∧m*P.bytesOf e≤140737488355328∧m≤9223372036854775807∧ji P t2=true∧(aX P e).isSome=true then some (m,ys) else none
  |none=>none
 |_,_=>none
theorem ll {z:Array Value}{n:Nat}{v:Value}(h:v∈(Builtin.zeroCells z n).toList):v∈z.toList:=by
 unfold Builtin.zeroCells at h;simp only[Array.toList_map,Array.toList_range,List.mem_map,List.mem_range] at h;obtain⟨i,hi,rfl⟩:=h;have hz:0<z.size:=by
  rcases Nat.eq_zero_or_pos z.size with h0|h0
  ·rw[h0] at hi;simp at hi
  ·exact h0
 have bh:i % z.size<z.size:=mod_lt _ hz;rw[getElem!_pos z _ bh];simp
theorem bW.Pr {N:Nat}{T:ay}(l:List Value)(h:∀v∈l,v.oneCell'=true):bW L N T w (List.replicate l.length .top) l:=by
 refine⟨by simp,fun j hj=>h _ (getElem_mem hj),fun j hj bK=>?_⟩;rw[List.getElem_replicate];exact .top _
theorem C3 {t t2 ty:TypeId}{s x:AV}{cs cx:Value}{m:Nat}{ys:List AV}(hc:bN L H T w)(h:mu P H t t2 s x=some (m,ys))(hs:aZ L H.length T w s cs)(hx:aZ L H.length T w x cx) :
  ∃k cv w' L',(Builtin.append_ #[t,t2] ty #[cs,cx]).run P w=.ok cv w'∧bN L' (H++[.cells (ys++List.replicate k .top)]) T w'∧aZ L' (H++[aG.cells (ys++List.replicate k .top)]).length T w' (.cO H.length 0 m) cv∧
   Ev H.length T.length L H.length T w L' (H++[aG.cells (ys++List.replicate k .top)]).length T w':=by
 unfold mu at h
 split at h
 ·rename_i e hu
  split at h
  ·rename_i m' ys' mQ
   split at h
   ·rename_i hb
    cases h
    obtain⟨hm,HE,tn,ri,BU,qW⟩:=hb;obtain⟨zs,qW⟩:=Option.isSome_iff_exists.1 qW;obtain⟨i,z,hi,tj,O0,B7⟩:=dZ (L:=L) (N:=H.length) (T:=T) (w:=w) qW;have vA:P.cellsOf e=i.size:=by simp[Program.cellsOf,hi]
    have HJ:P.bytesOf e=i.bytes:=by simp[Program.bytesOf,hi]
    rw[HJ] at tn;obtain⟨new,EW,oW,hlen,gC⟩:=eM (P:=P) hc hx mQ;have yy:bN L H T w.drew:=hc.drew rfl;have kd:dd L H.length T w L H.length T w.drew:=(Ev.drew (H:=H) (T:=T) (L:=L) (w:=w) (w':=w.drew) rfl rfl rfl rfl (le_succ _)).keeps;obtain⟨kD,_,nI,_,jG⟩:=eM (P:=P) yy (hx.keep kd) mQ;obtain⟨a,cap,rfl,bV,B9,uA⟩:=hs.eS;have LM:=hs.keep kd;have jv:kG H (P.cellsOf e) (.sl 0 [] .full)=some (0,[]):=by simp[kG]
    obtain⟨th,_,sg,_,p7⟩:=eM (P:=P) yy LM jv;have hold:th=[]:=eq_nil_of_length_eq_zero (by rw[sg.1];rfl);subst hold;have h2:=fM (P:=P) (w:=w) (ty:=ty) hu BU hi tj (a:=a) (n:=0) (cap:=cap) (m:=m) hlen (vA▸gC) (vA▸jG) (vA▸p7) (by simpa using tn) (by simpa using ri);have T3:cap=0:=B9;obtain⟨nc,mK,cK⟩:=h2.2 (by omega);have yY:∀v∈(Builtin.zeroCells z.cells (nc-(0+m))).toList,v.oneCell'=true:=by
     intro v hv;obtain⟨j,hj,e1⟩:=List.mem_iff_getElem.1 (ll hv);rw[←e1];exact O0.2.1 j hj
    have pf:bW L H.length T w.drew (ys++List.replicate (Builtin.zeroCells z.cells (nc-(0+m))).toList.length .top) (([]:List Value).toArray++kD.toArray++Builtin.zeroCells z.cells (nc-(0+m))).toList:=by
     have:=nI.append (bW.Pr (L:=L) (N:=H.length) (T:=T) (w:=w.drew) _ yY);simpa using this
    obtain⟨L',g1,g2,g3⟩:=yy.pr _ e pf;have ed:Ev H.length T.length L H.length T w L H.length T w.drew:=Ev.drew rfl rfl rfl rfl (le_succ _);refine⟨_,_,_,L',cK,g1,?_,ed.trans g2⟩;have:=aZ.cO (L:=L') (T:=T) (w:=w.drew.alloc (.cells (([]:List Value).toArray++kD.toArray++Builtin.zeroCells z.cells (nc-(0+m))) e)) H.length 0 m nc
     (show H.length<(H++[aG.cells (ys++List.replicate (Builtin.zeroCells z.cells (nc-(0+m))).toList.length .top)]).length by simp) (by omega)
    rw[g3] at this;simpa using this
   ·cases h
  ·cases h
 ·cases h
def D7 (P:Program)(H:List aG)(t t2:TypeId)(s x:AV):Option AV:=
 match s with
 |.cO i o n=>match P.underlying t with
  |some (.slice e)=>match kG H (P.cellsOf e) (.cO i o n),kG H (P.cellsOf e) x with
   |some _,some (0,_)=>if n*P.bytesOf e≤140737488355328∧n≤9223372036854775807∧ji P t2=true∧(aX P e).isSome=true then some (.cO i o n) else none
   |_,_=>none
  |_=>none
 |_=>none
theorem JD {t t2 ty:TypeId}{s x r:AV}{cs cx:Value}(hc:bN L H T w)(h:D7 P H t t2 s x=some r)(hs:aZ L H.length T w s cs)(hx:aZ L H.length T w x cx) :
  ∃cv,(Builtin.append_ #[t,t2] ty #[cs,cx]).run P w=.ok cv w∧aZ L H.length T w r cv:=by
 unfold D7 at h
 split at h
 ·rename_i i o n
  split at h
  ·rename_i e hu
   split at h
   ·rename_i p ys jv mQ
    split at h
    ·rename_i hb
     cases h
     obtain⟨tn,ri,BU,qW⟩:=hb;obtain⟨zs,qW⟩:=Option.isSome_iff_exists.1 qW;obtain⟨i',z,hi,tj,O0,B7⟩:=dZ (L:=L) (N:=H.length) (T:=T) (w:=w) qW;have vA:P.cellsOf e=i'.size:=by simp[Program.cellsOf,hi]
     have HJ:P.bytesOf e=i'.bytes:=by simp[Program.bytesOf,hi]
     rw[HJ] at tn;obtain⟨new,EW,oW,hlen,gC⟩:=eM (P:=P) hc hx mQ;have yy:bN L H T w.drew:=hc.drew rfl;have kd:dd L H.length T w L H.length T w.drew:=(Ev.drew (H:=H) (T:=T) (L:=L) (w:=w) (w':=w.drew) rfl rfl rfl rfl (le_succ _)).keeps;obtain⟨kD,_,nI,_,jG⟩:=eM (P:=P) yy (hx.keep kd) mQ;obtain⟨cap,rfl,bV,cW⟩:=hs.iF;have LM:=hs.keep kd;have hpn:p.1=n:=by
      unfold kG at jv;simp only at jv
      split at jv
      ·split at jv
       ·cases jv;rfl
       ·cases jv
      ·cases jv
     obtain⟨pm,pys⟩:=p;simp only at hpn;subst hpn;obtain⟨th,_,sg,_,p7⟩:=eM (P:=P) yy LM jv;have h2:=fM (P:=P) (w:=w) (ty:=ty) hu BU hi tj (a:=some ⟨L.bL i,o,none⟩) (n:=pm) (cap:=cap) (m:=0) hlen (vA▸gC) (vA▸jG) (vA▸p7) (by simpa using tn) (by simpa using ri);have DK:new=[]:=eq_nil_of_length_eq_zero (by rw[oW.1];simpa using EW);have:=h2.1 (by omega);rw[DK] at this;refine⟨_,?_,hs⟩;rw[this];rfl
    ·cases h
   ·cases h
  ·cases h
 ·cases h
theorem CT (xs:List AV):∀(vs:List AV)(o:Nat),o+xs.length≤vs.length→setMany vs o xs=vs.take o++xs++vs.drop (o+xs.length):=by
 induction xs with
 |nil=>intro vs o h;simp[setMany]
 |cons x r ih=>
  intro vs o h;rw[List.length_cons] at h;rw[setMany,ih _ _ (by simp;omega)];have h1:(vs.set o x).take (o+1)=vs.take o++[x]:=by
   rw[List.take_succ_eq_append_getElem (by simp;omega),List.getElem_set_self]
   congr 1
   apply List.ext_getElem?;intro j;rw[getElem?_take,getElem?_take]
   split
   ·rw[getElem?_set_ne (by omega)]
   ·rfl
  have h2:(vs.set o x).drop (o+1+r.length)=vs.drop (o+(r.length+1)):=by
   rw[List.drop_set_of_lt (by omega)]
   congr 1
   omega
  rw[h1,h2];simp
theorem zH {t t2 ty e:TypeId}{i n cap m:Nat}{vs xs:List AV}{x:AV}{cs cx:Value}(hc:bN L H T w)(hs:aZ L H.length T w (.dP i n cap) cs)(hx:aZ L H.length T w x cx)
  (hu:P.underlying t=some (.slice e)) (hH:H[i]?=some (.cells vs)) (NQ:vs.length=cap*P.cellsOf e) (mQ:kG H (P.cellsOf e) x=some (m,xs)) (tn:(n+m)*P.bytesOf e≤140737488355328) (ri:n+m≤9223372036854775807)
  (BU:ji P t2=true) (qW:(aX P e).isSome=true) :
  (n+m≤cap∧∃cv w' L',(Builtin.append_ #[t,t2] ty #[cs,cx]).run P w=.ok cv w'∧bN L' (H.set i (.cells (vs.take (n*P.cellsOf e)++xs++vs.drop ((n+m)*P.cellsOf e)))) T w'∧
   aZ L' (H.set i (.cells (vs.take (n*P.cellsOf e)++xs++vs.drop ((n+m)*P.cellsOf e)))).length T w' (.dP i (n+m) cap) cv∧
   Ev H.length T.length L H.length T w L' (H.set i (.cells (vs.take (n*P.cellsOf e)++xs++vs.drop ((n+m)*P.cellsOf e)))).length T w')∨
  (cap<n+m∧∃nc,n+m≤nc∧∃cv w' L',(Builtin.append_ #[t,t2] ty #[cs,cx]).run P w=.ok cv w'∧bN L' (H++[.cells (vs.take (n*P.cellsOf e)++xs++List.replicate ((nc-(n+m))*P.cellsOf e) .top)]) T w'∧
   aZ L' (H++[aG.cells (vs.take (n*P.cellsOf e)++xs++List.replicate ((nc-(n+m))*P.cellsOf e) .top)]).length T w' (.dP H.length (n+m) nc) cv∧
   Ev H.length T.length L H.length T w L' (H++[aG.cells (vs.take (n*P.cellsOf e)++xs++List.replicate ((nc-(n+m))*P.cellsOf e) .top)]).length T w'):=by
 obtain⟨zs,qW⟩:=Option.isSome_iff_exists.1 qW;obtain⟨ti,z,hi,tj,O0,B7⟩:=dZ (L:=L) (N:=H.length) (T:=T) (w:=w) qW;have vA:P.cellsOf e=ti.size:=by simp[Program.cellsOf,hi]
 have HJ:P.bytesOf e=ti.bytes:=by simp[Program.bytesOf,hi]
 rw[HJ] at tn;obtain⟨new,EW,oW,hlen,gC⟩:=eM (P:=P) hc hx mQ;have yy:bN L H T w.drew:=hc.drew rfl;have ed:Ev H.length T.length L H.length T w L H.length T w.drew:=Ev.drew rfl rfl rfl rfl (le_succ _);have kd:dd L H.length T w L H.length T w.drew:=ed.keeps;obtain⟨kD,_,nI,_,jG⟩:=eM (P:=P) yy (hx.keep kd) mQ;obtain⟨rfl,bV,cW⟩:=hs.iH;have hnz:n*P.cellsOf e≤vs.length:=by rw[NQ];exact Nat.mul_le_mul_right _ bV
 have LM:aZ L H.length T w.drew (.cO i 0 n) (.slice (some ⟨L.bL i,0,none⟩) n cap):=.cO i 0 n cap cW bV;have jv:kG H (P.cellsOf e) (.cO i 0 n)=some (n,vs.take (n*P.cellsOf e)):=by simp[kG,hH,hnz]
 obtain⟨th,_,sg,_,p7⟩:=eM (P:=P) yy LM jv;have h2:=fM (P:=P) (w:=w) (ty:=ty) hu BU hi tj (a:=some ⟨L.bL i,0,none⟩) (n:=n) (cap:=cap) (m:=m) hlen (vA▸gC) (vA▸jG) (vA▸p7) tn ri;rw[←vA] at h2;rcases lt_or_ge cap (n+m) with bh|hle
 ·refine .inr ⟨bh,?_⟩;obtain⟨nc,mK,cK⟩:=h2.2 bh;have yY:∀v∈(Builtin.zeroCells z.cells (nc-(n+m))).toList,v.oneCell'=true:=by
   intro v hv;obtain⟨j,hj,e1⟩:=List.mem_iff_getElem.1 (ll hv);rw[←e1];exact O0.2.1 j hj
  have O1:(Builtin.zeroCells z.cells (nc-(n+m))).toList.length=(nc-(n+m))*P.cellsOf e:=by
   rw[Array.length_toList,size_zeroCells,B7]
  have y3:=bW.Pr (L:=L) (N:=H.length) (T:=T) (w:=w.drew) _ yY;rw[O1] at y3;have pf:bW L H.length T w.drew (vs.take (n*P.cellsOf e)++xs++List.replicate ((nc-(n+m))*P.cellsOf e) .top) (th.toArray++kD.toArray++Builtin.zeroCells z.cells (nc-(n+m))).toList:=by
   have:=(sg.append nI).append y3;simpa using this
  obtain⟨L',g1,g2,g3⟩:=yy.pr _ e pf;refine⟨nc,mK,_,_,L',cK,g1,?_,ed.trans g2⟩;have:=aZ.dP (L:=L') (T:=T) (w:=w.drew.alloc (.cells (th.toArray++kD.toArray++Builtin.zeroCells z.cells (nc-(n+m))) e)) H.length (n+m) nc
   (show H.length<(H++[aG.cells (vs.take (n*P.cellsOf e)++xs++List.replicate ((nc-(n+m))*P.cellsOf e) .top)]).length by simp) mK
  rw[g3] at this;exact this
 ·refine .inl ⟨hle,?_⟩;have cK:=h2.1 hle;have Fx:n*P.cellsOf e+0+xs.length≤vs.length:=by
   rw[NQ,EW,add_zero,←add_mul];exact Nat.mul_le_mul_right _ hle
  obtain⟨w',dA,lZ,dU⟩:=ln (P:=P) i (n*P.cellsOf e) xs new 0 H w vs hc oW hH Fx;have HT:setMany vs (n*P.cellsOf e+0) xs=vs.take (n*P.cellsOf e)++xs++vs.drop ((n+m)*P.cellsOf e):=by
   rw[CT _ _ _ (by simpa using Fx),EW,add_zero,←add_mul]
  rw[HT] at lZ dU;refine⟨.slice (some ⟨L.bL i,0,none⟩) (n+m) cap,w',L,?_,lZ,?_,dU⟩
  ·rw[cK];simp only[eh,Nat.zero_add,dA,Result.andThen_ok]
  ·exact .dP i (n+m) cap (by simpa using cW) hle
theorem A9 {t t2 ty e:TypeId}{s x:AV}{cs cx:Value}{m:Nat}{ys:List AV}(hc:bN L H T w)(h:mu P H t t2 s x=some (m,ys))(hu:P.underlying t=some (.slice e))(hs:aZ L H.length T w s cs)(hx:aZ L H.length T w x cx) :
  ∃nc,m≤nc∧∃cv w' L',(Builtin.append_ #[t,t2] ty #[cs,cx]).run P w=.ok cv w'∧bN L' (H++[.cells (ys++List.replicate ((nc-m)*P.cellsOf e) .top)]) T w'∧aZ L' (H++[aG.cells (ys++List.replicate ((nc-m)*P.cellsOf e) .top)]).length T w' (.dP H.length m nc) cv∧
   Ev H.length T.length L H.length T w L' (H++[aG.cells (ys++List.replicate ((nc-m)*P.cellsOf e) .top)]).length T w':=by
 unfold mu at h
 split at h
 ·rename_i e' WX;rw[hu] at WX
  cases WX
  split at h
  ·rename_i m' ys' mQ
   split at h
   ·rename_i hb
    cases h
    obtain⟨hm,HE,tn,ri,BU,qW⟩:=hb;obtain⟨zs,qW⟩:=Option.isSome_iff_exists.1 qW;obtain⟨i,z,hi,tj,O0,B7⟩:=dZ (L:=L) (N:=H.length) (T:=T) (w:=w) qW;have vA:P.cellsOf e=i.size:=by simp[Program.cellsOf,hi]
    have HJ:P.bytesOf e=i.bytes:=by simp[Program.bytesOf,hi]
    rw[HJ] at tn;obtain⟨new,EW,oW,hlen,gC⟩:=eM (P:=P) hc hx mQ;have yy:bN L H T w.drew:=hc.drew rfl;have kd:dd L H.length T w L H.length T w.drew:=(Ev.drew (H:=H) (T:=T) (L:=L) (w:=w) (w':=w.drew) rfl rfl rfl rfl (le_succ _)).keeps;obtain⟨kD,_,nI,_,jG⟩:=eM (P:=P) yy (hx.keep kd) mQ;obtain⟨a,cap,rfl,bV,B9,uA⟩:=hs.eS;have LM:=hs.keep kd;have jv:kG H (P.cellsOf e) (.sl 0 [] .full)=some (0,[]):=by simp[kG]
    obtain⟨th,_,sg,_,p7⟩:=eM (P:=P) yy LM jv;have hold:th=[]:=eq_nil_of_length_eq_zero (by rw[sg.1];rfl);subst hold;have h2:=fM (P:=P) (w:=w) (ty:=ty) hu BU hi tj (a:=a) (n:=0) (cap:=cap) (m:=m) hlen (vA▸gC) (vA▸jG) (vA▸p7) (by simpa using tn) (by simpa using ri);have T3:cap=0:=B9;obtain⟨nc,mK,cK⟩:=h2.2 (by omega);rw[Nat.zero_add] at mK cK;have yY:∀v∈(Builtin.zeroCells z.cells (nc-m)).toList,v.oneCell'=true:=by
     intro v hv;obtain⟨j,hj,e1⟩:=List.mem_iff_getElem.1 (ll hv);rw[←e1];exact O0.2.1 j hj
    have O1:(Builtin.zeroCells z.cells (nc-m)).toList.length=(nc-m)*P.cellsOf e:=by
     rw[Array.length_toList,size_zeroCells,B7]
    have y3:=bW.Pr (L:=L) (N:=H.length) (T:=T) (w:=w.drew) _ yY;rw[O1] at y3;have pf:bW L H.length T w.drew (ys++List.replicate ((nc-m)*P.cellsOf e) .top) (([]:List Value).toArray++kD.toArray++Builtin.zeroCells z.cells (nc-m)).toList:=by
     have:=nI.append y3;simpa using this
    obtain⟨L',g1,g2,g3⟩:=yy.pr _ e pf;have ed:Ev H.length T.length L H.length T w L H.length T w.drew:=Ev.drew rfl rfl rfl rfl (le_succ _);refine⟨nc,mK,_,_,L',cK,g1,?_,ed.trans g2⟩;have:=aZ.dP (L:=L') (T:=T) (w:=w.drew.alloc (.cells (([]:List Value).toArray++kD.toArray++Builtin.zeroCells z.cells (nc-m)) e)) H.length m nc
     (show H.length<(H++[aG.cells (ys++List.replicate ((nc-m)*P.cellsOf e) .top)]).length by simp) mK
    rw[g3] at this;exact this
   ·cases h
  ·cases h
 ·cases h
end
@[simp] def KC.av:KC→AV
 |.int k n=>.int k n
 |.str s=>.str s
 |.bool b=>.bool b
@[simp] def cY.av:cY→AV
 |.one c=>c.av
 |.agg cs=>.agg (cs.map KC.av)
@[simp] def Me:AV→Option KC
 |.int k n=>some (.int k n)
 |.str s=>some (.str s)
 |.bool b=>some (.bool b)
 |_=>none
@[simp] def yX:List AV→Option (List KC)
 |[]=>some []
 |v::r=>match Me v,yX r with
  |some c,some cs=>some (c::cs)
  |_,_=>none
@[simp] def DX:AV→Option cY
 |.agg cs=>(yX cs).map .agg
 |v=>(Me v).map .one
@[simp] def sQ:List (cY×AV)→cY→Option AV
 |[],_=>none
 |(k',v)::r,k=>if k'=k then some v else sQ r k
@[simp] def jU:List (cY×AV)→cY→AV→List (cY×AV)
 |[],k,v=>[(k,v)]
 |(k',u)::r,k,v=>if k'=k then (k,v)::r else (k',u)::jU r k v
def ir (es:List (cY×AV))(k:cY)(z:AV)(ok:Bool):AV:=
 if ok then .cJ [(sQ es k).getD z,.bool (sQ es k).isSome] else (sQ es k).getD z
def PE (P:Program)(k:TypeId):Bool:=
 match P.underlying k with
 |some .bool|some (.int _)|some .string=>true
 |some (.array _ _)|some (.struct _)=>P.keyTypeAt 3 k&&P.tiled 3 k
 |_=>false
def sR (P:Program)(t:TypeId):Option (TypeId×TypeId):=
 match P.underlying t with
 |some (.map k e)=>if PE P k then some (k,e) else none
 |_=>none
def kM (P:Program)(kt:TypeId)(k:cY):Bool:=(keyOf P kt k.val).isSome
def dw (P:Program)(kt:TypeId)(es:List (cY×AV)):Bool:=es.all fun e=>kM P kt e.1
def nL (P:Program)(t:TypeId):Option AV:=(P.info? t).bind fun i=>i.zero.map LI
theorem nW {P:Program}{kt:TypeId}{es:List (cY×AV)}{k:cY}{v:AV}(h:dw P kt es=true)(hk:kM P kt k=true):dw P kt (jU es k v)=true:=by
 induction es with
 |nil=>simp[dw,hk]
 |cons x r ih=>
  obtain⟨k',u⟩:=x;simp only[dw,all_cons,Bool.and_eq_true] at h ih ⊢;simp only[jU]
  split
  ·simp only[all_cons,Bool.and_eq_true];exact⟨hk,h.2⟩
  ·simp only[all_cons,Bool.and_eq_true];exact⟨h.1,ih h.2⟩
theorem oA {es:List (cY×AV)}{k:cY}(h:∀e∈es,e.1≠k):sQ es k=none:=by
 induction es with
 |nil=>rfl
 |cons x r ih=>simp only[sQ,if_neg (h x (by simp))];exact ih fun e he=>h e (by simp[he])
theorem oz {es:List (cY×AV)}{k:cY}{v:AV}(h:∀e∈es,e.1≠k):jU es k v=es++[(k,v)]:=by
 induction es with
 |nil=>rfl
 |cons x r ih=>
  simp only[jU,if_neg (h x (by simp)),List.cons_append];rw[ih fun e he=>h e (by simp[he])]
theorem xZ {es:List (cY×AV)}{k:cY}(hn:(es.map (·.1)).Nodup):∀{j:Nat} (hj:j<es.length),(es[j]).1=k→sQ es k=some (es[j]).2:=by
 induction es with
 |nil=>intro j hj;simp at hj
 |cons x r ih=>
  intro j hj he;simp only[map_cons,List.nodup_cons] at hn
  cases j with
  |zero=>simp only[getElem_cons_zero] at he ⊢;simp[sQ,he]
  |succ j=>
   simp only[List.getElem_cons_succ] at he ⊢;have:x.1≠k:=fun e=>hn.1 (by rw[e,←he];exact List.mem_map.2 ⟨_,getElem_mem _,rfl⟩);simp only[sQ,if_neg this];exact ih hn.2 _ he
theorem xY {es:List (cY×AV)}{k:cY}{v:AV}(hn:(es.map (·.1)).Nodup):∀{j:Nat} (hj:j<es.length),(es[j]).1=k→jU es k v=es.set j (k,v):=by
 induction es with
 |nil=>intro j hj;simp at hj
 |cons x r ih=>
  intro j hj he;simp only[map_cons,List.nodup_cons] at hn
  cases j with
  |zero=>simp only[getElem_cons_zero] at he;simp[jU,he]
  |succ j=>
   simp only[List.getElem_cons_succ] at he;have:x.1≠k:=fun e=>hn.1 (by rw[e,←he];exact List.mem_map.2 ⟨_,getElem_mem _,rfl⟩);simp only[jU,if_neg this,List.set_cons_succ];rw[ih hn.2 _ he]
theorem KC.val_inj {a b:KC}(h:a.val=b.val):a=b:=by
 cases a<;>cases b<;>simp[KC.val] at h<;>simp_all
theorem Et:∀{a b:List KC},a.map KC.val=b.map KC.val→a=b
 |[],[],_=>rfl
 |[],_::_,h=>by simp at h
 |_::_,[],h=>by simp at h
 |x::r,y::s,h=>by
  simp only[map_cons,List.cons.injEq] at h;rw[KC.val_inj h.1,Et h.2]
theorem cY.val_inj {a b:cY}(h:a.val=b.val):a=b:=by
 cases a with
 |one a=>cases b with
  |one b=>rw[KC.val_inj (a:=a) (b:=b) (by simpa[cY.val] using h)]
  |agg b=>cases a<;>simp[cY.val,KC.val] at h
 |agg a=>cases b with
  |one b=>cases b<;>simp[cY.val,KC.val] at h
  |agg b=>simp only[cY.val,Value.agg.injEq] at h;rw[Et (a:=a) (b:=b) (by simpa using congrArg Array.toList h)]
section
variable {P : Program} {L : Lay} {H : List aG} {T : ay} {w : World}
theorem KC.rep {N:Nat}(k:KC):aZ L N T w k.av k.val:=by
 cases k with
 |int k n=>exact .int _ _
 |str s=>exact .str _
 |bool b=>exact .bool _
theorem cY.rep {N:Nat}(k:cY):aZ L N T w k.av k.val:=by
 cases k with
 |one c=>exact c.rep
 |agg cs=>
  refine .agg _ _ (by simp) (fun j hj=>?_) (fun j hj bK=>?_)
  ·simp only[getElem_toArray,getElem_map];generalize cs[j]'_=c
   cases c<;>rfl
  ·simp only[getElem_toArray,getElem_map];exact KC.rep _
theorem zY {N:Nat}{v:AV}{c:Value}{k:KC}(h:Me v=some k)(hr:aZ L N T w v c):c=k.val:=by
 cases v<;>simp only[Me,reduceCtorEq,Option.some.injEq] at h<;>subst h
 ·rw[hr.ig];rfl
 ·rw[hr.dE];rfl
 ·rw[hr.gp];rfl
theorem wN {N:Nat}:∀{vs:List AV} {cs:List Value} {ks:List KC},yX vs=some ks→cs.length=vs.length→(∀(j:Nat)(h:j<vs.length)(h':j<cs.length),aZ L N T w (vs[j]'h) (cs[j]'h'))→cs=ks.map KC.val
 |[],cs,ks,h,hl,_=>by
  have:cs=[]:=eq_nil_of_length_eq_zero (by simpa using hl);simp only[yX,Option.some.injEq] at h;subst h;rw[this];rfl
 |v::vs,c::cs,ks,h,hl,hr=>by
  simp only[yX] at h
  split at h
  ·rename_i k ks' h1 h2
   cases h
   have h0:=hr 0 (by simp) (by simp);simp only[getElem_cons_zero] at h0;have:=wN (cs:=cs) h2 (by simpa using hl) (fun j hj bK=>by have:=hr (j+1) (by simpa using hj) (by simpa using bK);simpa using this);rw[this,zY h1 h0];rfl
  ·cases h
theorem wM {N:Nat}{v:AV}{c:Value}{k:cY}(h:DX v=some k)(hr:aZ L N T w v c):c=k.val:=by
 unfold DX at h
 split at h
 ·rename_i cs;obtain⟨ks,h1,rfl⟩:=Option.map_eq_some_iff.1 h
  cases hr with
  |agg _ cv h2 h3 h4=>
   have:=wN (cs:=cv.toList) h1 (by simpa using h2) (fun j hj bK=>by simpa using h4 j hj (by simpa using bK));show Value.agg cv=.agg (ks.map KC.val).toArray;rw[←this]
 ·obtain⟨c',h1,rfl⟩:=Option.map_eq_some_iff.1 h;exact zY h1 hr
theorem Dg {k:TypeId}(h:PE P k=true):Maps.Keyed P k:=by
 unfold PE at h
 split at h
 ·rename_i hu;exact Maps.bool_keyed hu
 ·rename_i hu;exact Maps.int_keyed hu
 ·rename_i hu;exact Maps.string_keyed hu
 ·rename_i hu;simp only[Bool.and_eq_true] at h;exact Maps.Keyed.of_law (deep_law (m:=3) (by omega) h.1 h.2 (by simp[hu]))
 ·rename_i hu;simp only[Bool.and_eq_true] at h;exact Maps.Keyed.of_law (deep_law (m:=3) (by omega) h.1 h.2 (by simp[hu]))
 ·cases h
theorem uP {t kt el:TypeId}(h:sR P t=some (kt,el)):P.underlying t=some (.map kt el)∧Maps.Keyed P kt:=by
 unfold sR at h
 split at h
 ·rename_i k e hu
  split at h
  ·rename_i hk
   cases h
   exact⟨hu,Dg hk⟩
  ·cases h
 ·cases h
theorem Dy {t:TypeId}{z:AV}{N:Nat}(h:nL P t=some z):∃c,(zeroValue t).run P w=.ok c w∧aZ L N T w z c:=by
 unfold nL at h;obtain⟨i,hi,h2⟩:=Option.bind_eq_some_iff.1 h;obtain⟨c,hc,rfl⟩:=Option.map_eq_some_iff.1 h2;exact⟨c,iQ hi hc w,.LI c⟩
theorem aZ.uN {N:Nat}{i:Nat}{c:Value}(h:aZ L N T w (.aV i) c):c=.map (some (L.bL i))∧i<N:=by cases h;exact⟨rfl,‹_›⟩
theorem bN.I3 {w':World}(h:bN L H T w){i:Nat}{b b':aG}(hi:H[i]?=some b)(hm:L.m (L.bL i)=0)(dW:∀x,x≠L.bL i→w'.heap[x]?=w.heap[x]?)(hz:w'.heap.size=w.heap.size)
  (ho:w'.os=w.os) (RU:w'.tape=w.tape) (o9:w'.output=w.output) (vv:w.drawn≤w'.drawn) (r8:dd L H.length T w L H.length T w'→kO L H.length T w' i b') :
  bN L (H.set i b') T w'∧Ev H.length T.length L H.length T w L (H.set i b').length T w':=by
 have cW:=(List.getElem?_eq_some_iff.1 hi).1;have pT:∀b o',o'<L.m b→w'.cell? ⟨b,o',none⟩=w.cell? ⟨b,o',none⟩:=by
  intro b o' bh;refine gJ (dW _ ?_) o';rintro rfl;omega
 have kp:dd L H.length T w L H.length T w':=
  ⟨le_refl _,fun _ _=>rfl,fun t u z h=>⟨u,h,le_refl _,fun _=>rfl⟩,fun _=>le_refl _,pT,rfl⟩
 refine⟨⟨fun j b hb=>?_,fun a b ha hb=>h.inj a b (by simpa using ha) (by simpa using hb),fun t u z ht=>?_,h.mP,fun t u z j ht hs hj=>h.je t u z j ht hs (by simpa using hj),fun b hb=>h.mz b (by omega),h.gl.keep kp.m kp.qZ⟩,
  by simp,fun _ _=>rfl,fun t u z _ h=>⟨u,h,le_refl _,fun _=>rfl⟩,le_refl _,fun _=>le_refl _,pT,by omega,fun b hb hn=>?_,fun b hb=>.inl (by simpa using hb),ho,RU,o9,fun _=>vv,rfl⟩
 ·rw[length_set]
  by_cases sL:i=j
  ·subst sL;rw[getElem?_set_self cW] at hb
   cases hb
   exact r8 kp
  ·rw[getElem?_set_ne sL] at hb;have o6:=(List.getElem?_eq_some_iff.1 hb).1;exact(h.box j b hb).stay kp o6 (dW _ fun e=>sL (h.inj j i o6 cW e).symm) id
 ·obtain⟨k1,k2⟩:=h.tok t u z ht;refine⟨k1,fun hs=>?_⟩;rw[dW _ (h.je t u z i ht hs cW)];exact k2 hs
 ·exact dW _ (fun e=>hn (.inl ⟨i,cW,e.symm⟩))
theorem bN.I5 (h:bN L H T w)(o:Obj)(b:aG)(hb:∀L',dd L H.length T w L' (H.length+1) T (w.alloc o)→L'.bL H.length=w.heap.size→L'.m w.heap.size=0→kO L' (H.length+1) T (w.alloc o) H.length b) :
  ∃L',bN L' (H++[b]) T (w.alloc o)∧Ev H.length T.length L H.length T w L' (H++[b]).length T (w.alloc o)∧L'.bL H.length=w.heap.size:=by
 have h1:=h.alloc o 0;have e1:=Ev.alloc h o 0;have BH:¬Wr (L.bJ w.heap.size 0) H.length T w.heap.size:=h.uu (le_refl _);have e2:=Ev.pw (b:=w.heap.size) b e1 (le_refl _);have pR:((L.bJ w.heap.size 0).dh H.length w.heap.size).bL H.length=w.heap.size:=by simp[Lay.dh]
 have kp:=e2.keeps;have hl:(H++[b]).length=H.length+1:=by simp
 rw[hl] at kp;exact⟨(L.bJ w.heap.size 0).dh H.length w.heap.size,h1.pw w.heap.size BH b (fun hle=>by simp at hle;omega) (hb _ kp pR (by simp[Lay.dh,Lay.bJ])),e2,pR⟩
theorem run_makeMap (hc:bN L H T w)(t:TypeId):∃cv w' L',(Instr.makeMap t none).run P w=.ok cv w'∧bN L' (H++[.map []]) T w'∧aZ L' (H++[aG.map []]).length T w' (.aV H.length) cv∧Ev H.length T.length L H.length T w L' (H++[aG.map []]).length T w':=by
 obtain⟨L',h1,h2,h3⟩:=hc.I5 (.map #[] 0) (.map []) (fun L' kp hp hm=>⟨#[],by rw[hp];exact eG w _,rfl,fun j hj=>by simp at hj,by simp,by rw[hp];exact hm⟩);refine⟨.map (some w.heap.size),_,L',rfl,h1,?_,h2⟩;rw[←h3];exact .aV _ (by simp)
theorem zG (kt:TypeId)(K:Maps.Keyed P kt){N:Nat}{es:List (cY×AV)}{dB:Array MapEntry}{k:cY}(gN:dB.size=es.length)
  (hr:∀(j:Nat)(h:j<es.length)(h':j<dB.size),(dB[j]'h').key=(es[j]'h).1.val∧(dB[j]'h').born=j∧aZ L N T w (es[j]'h).2 (dB[j]'h').val) (hk:kM P kt k=true) (HX:dw P kt es=true) :
  ((Instr.findKey kt k.val dB.toList).run P w=.ok none w∧∀e∈es,e.1≠k)∨∃(j:Nat) (h:j<es.length) (h':j<dB.size),(Instr.findKey kt k.val dB.toList).run P w=.ok (some (j,(dB[j]'h').val)) w∧(es[j]'h).1=k:=by
 obtain⟨l,hl⟩:=Option.isSome_iff_exists.1 hk;have fy:∀e∈dB.toList,∃l,keyOf P kt e.key=some l:=by
  intro e he;obtain⟨j,hj,rfl⟩:=List.mem_iff_getElem.1 he;have bK:j<dB.size:=by simpa using hj
  have vx:j<es.length:=by omega
  have:=(hr j vx bK).1;rw[Array.getElem_toList,this];have h2:=List.all_eq_true.1 HX _ (getElem_mem vx);exact Option.isSome_iff_exists.1 h2
 rcases K.find w hl dB.toList fy with⟨h1,h2⟩|⟨j,e,h1,h2,h3⟩
 ·refine .inl ⟨h1,fun e he qO=>?_⟩;obtain⟨j,hj,rfl⟩:=List.mem_iff_getElem.1 he;have bK:j<dB.size:=by omega
  refine h2 dB[j] (by simp) ?_;rw[(hr j hj bK).1,qO]
 ·obtain⟨hj,rfl⟩:=List.getElem?_eq_some_iff.1 h2;have bK:j<dB.size:=by simpa using hj
  have vx:j<es.length:=by omega
  rw[Array.getElem_toList] at h1 h3;exact .inr ⟨j,vx,bK,h1,cY.val_inj (by rw[←(hr j vx bK).1];exact h3)⟩
theorem CY (hc:bN L H T w){t kt el:TypeId}{m:Nat}{es:List (cY×AV)}{k:cY}{z:AV}(ok:Bool)(hT:sR P t=some (kt,el))(hi:H[m]?=some (.map es))(hz:nL P el=some z)
  (hk:kM P kt k=true) (HX:dw P kt es=true):∃cv,(Instr.lookup t (.map (some (L.bL m))) k.val ok).run P w=.ok cv w∧aZ L H.length T w (ir es k z ok) cv:=by
 obtain⟨hu,K⟩:=uP hT;obtain⟨dB,g1,g2,g3,g4,_⟩:=hc.box m _ hi;obtain⟨l,hl⟩:=Option.isSome_iff_exists.1 hk;have fin:∀(v:AV)(c:Value)(b:Bool),aZ L H.length T w v c→aZ L H.length T w (if ok then .cJ [v,.bool b] else v) (if ok then .tuple #[c,.bool b] else c):=by
  intro v c b hv
  cases ok
  ·exact hv
  ·refine .cJ _ _ rfl (fun j hj bK=>?_)
   match j,hj with
   |0,_=>exact hv
   |1,_=>exact .bool _
 rcases zG kt K g2 g3 hk HX with⟨h1,h2⟩|⟨j,hj,bK,h1,h2⟩
 ·obtain⟨c,c1,c2⟩:=Dy (P:=P) (L:=L) (N:=H.length) (T:=T) (w:=w) hz;refine⟨if ok then .tuple #[c,.bool false] else c,?_,?_⟩
  ·simp only[Instr.lookup,Sem.run_bind,run_underlying hu,Result.andThen_ok,MapKept.run_getObj_map g1,K.check w _ hl,h1,c1,Sem.run_pure]
  ·have:=fin z c false c2;simpa only[ir,oA h2,Option.getD_none,Option.isSome_none] using this
 ·refine⟨if ok then .tuple #[dB[j].val,.bool true] else dB[j].val,?_,?_⟩
  ·simp only[Instr.lookup,Sem.run_bind,run_underlying hu,Result.andThen_ok,MapKept.run_getObj_map g1,K.check w _ hl,h1,Sem.run_pure]
  ·have:=fin _ _ true (g3 j hj bK).2.2;simpa only[ir,xZ g4 hj h2,Option.getD_some,Option.isSome_some] using this
theorem vN (hc:bN L H T w){t kt el:TypeId}{m:Nat}{es:List (cY×AV)}{k:cY}{v:AV}{c:Value}(hT:sR P t=some (kt,el))(hi:H[m]?=some (.map es))(hv:aZ L H.length T w v c)
  (hk:kM P kt k=true) (HX:dw P kt es=true):∃w',(Instr.mapUpdate t (.map (some (L.bL m))) k.val c).run P w=.ok () w'∧bN L (H.set m (.map (jU es k v))) T w'∧Ev H.length T.length L H.length T w L (H.set m (.map (jU es k v))).length T w':=by
 obtain⟨hu,K⟩:=uP hT;obtain⟨dB,g1,g2,g3,g4,g5⟩:=hc.box m _ hi;obtain⟨l,hl⟩:=Option.isSome_iff_exists.1 hk;have ik:=(List.getElem?_eq_some_iff.1 hi).1;have bh:=hc.ml ik;have put:∀(o:Obj),(dd L H.length T w L H.length T { w with heap:=w.heap.setIfInBounds (L.bL m) o }→kO L H.length T { w with heap:=w.heap.setIfInBounds (L.bL m) o } m (.map (jU es k v)))→
   bN L (H.set m (.map (jU es k v))) T { w with heap:=w.heap.setIfInBounds (L.bL m) o }∧Ev H.length T.length L H.length T w L (H.set m (.map (jU es k v))).length T { w with heap:=w.heap.setIfInBounds (L.bL m) o }:=fun o hb=>
  hc.I3 hi g5 (fun x hx=>Array.getElem?_setIfInBounds_ne (fun e=>hx e.symm)) (by simp) rfl rfl rfl (le_refl _) hb
 have new:∀o:Obj,(w.heap.setIfInBounds (L.bL m) o)[L.bL m]?=some o:=fun o=>by simp[bh]
 rcases zG kt K g2 g3 hk HX with⟨h1,h2⟩|⟨j,hj,bK,h1,h2⟩
 ·refine⟨_,?_,put (.map (dB.push { key:=k.val,val:=c,born:=es.length }) (es.length+1)) fun kp=>?_⟩
  ·simp only[Instr.mapUpdate,Sem.run_bind,run_underlying hu,Result.andThen_ok,MapKept.run_getObj_map g1,K.check w _ hl,h1,MapKept.run_setObj_map _ g1]
  ·have e:=oz (v:=v) h2;refine⟨dB.push { key:=k.val,val:=c,born:=es.length },by rw[new,e];simp,by rw[e];simp[g2],fun j hj bK=>?_,?_,g5⟩
   ·rcases lt_or_ge j es.length with o6|o6
    ·have DM:j<dB.size:=by omega
     have:=g3 j o6 DM;simp only[e,List.getElem_append_left o6,Array.getElem_push_lt DM];exact⟨this.1,this.2.1,this.2.2.keep kp⟩
    ·have:j=es.length:=by simp[e] at hj;omega
     subst this;have e2:(dB.push { key:=k.val,val:=c,born:=es.length })[es.length]'bK={ key:=k.val,val:=c,born:=es.length }:=by simp[←g2]
     simp only[e,e2,List.getElem_append_right (le_refl _),Nat.sub_self,getElem_cons_zero];exact⟨trivial,trivial,hv.keep kp⟩
   ·rw[e,List.map_append,List.nodup_append];refine⟨g4,by simp,fun a ha b hb=>?_⟩;obtain⟨x,hx,rfl⟩:=List.mem_map.1 ha;simp at hb;rw[hb];exact h2 x hx
 ·have mS:=(g3 j hj bK).1;rw[h2] at mS;have dA:(Instr.keyThatStays k.val k.val).run P w=.ok k.val w:=K.stays w hl;refine⟨_,?_,put (.map (dB.modify j fun e=>{ e with key:=k.val,val:=c }) es.length) fun kp=>?_⟩
  ·have e0:((dB[j]?.map (·.key)).getD k.val)=k.val:=by rw[Array.getElem?_eq_getElem bK];exact mS
   simp only[Instr.mapUpdate,Sem.run_bind,run_underlying hu,Result.andThen_ok,MapKept.run_getObj_map g1,K.check w _ hl,h1,e0,dA,MapKept.run_setObj_map _ g1]
  ·have e:=xY (v:=v) g4 hj h2;refine⟨dB.modify j fun e=>{ e with key:=k.val,val:=c },by rw[new,e];simp,by rw[e];simp[g2],fun i et eE=>?_,?_,g5⟩
   ·have cW:i<es.length:=by simpa[e] using et
    have yx:i<dB.size:=by omega
    have:=g3 i cW yx;simp only[e,Array.getElem_modify,getElem_set]
    by_cases lY:j=i
    ·subst lY;simp only[if_true];exact⟨trivial,this.2.1,hv.keep kp⟩
    ·simp only[if_neg lY];exact⟨this.1,this.2.1,this.2.2.keep kp⟩
   ·rw[e,List.map_set];have:(es.map (·.1)).set j k=es.map (·.1):=by
     apply ext_getElem (by simp);intro i h3 h4;rw[getElem_set]
     split
     ·rename_i lY;subst lY;simp[h2]
     ·rfl
    rw[this];exact g4
theorem CW (hc:bN L H T w){t kt el:TypeId}{m:Nat}{es:List (cY×AV)}(hT:sR P t=some (kt,el))(hi:H[m]?=some (.map es)) :
  ∃cv w' L',(Instr.range t (.map (some (L.bL m)))).run P w=.ok cv w'∧bN L' (H++[.kq m es.length []]) T w'∧aZ L' (H++[aG.kq m es.length []]).length T w' (.ptr H.length 0) cv∧Ev H.length T.length L H.length T w L' (H++[aG.kq m es.length []]).length T w':=by
 obtain⟨hu,K⟩:=uP hT;obtain⟨dB,g1,g2,g3,g4,g5⟩:=hc.box m _ hi;have ik:=(List.getElem?_eq_some_iff.1 hi).1;obtain⟨L',h1,h2,h3⟩:=hc.I5 (.mapIter (some (L.bL m)) es.length #[] es.length) (.kq m es.length [])
  (fun L' kp hp hm=>⟨by rw[hp,kp.bL m ik];exact eG w _,ik,by rw[hp];exact hm⟩)
 refine⟨.pointer (some ⟨w.heap.size,0,none⟩),_,L',run_range_map w t kt el _ dB es.length hu g1,h1,?_,h2⟩;rw[←h3];exact .ptr _ _ (by simp)
theorem Gj (hc:bN L H T w)(ty:TypeId){i m:Nat}{es:List (cY×AV)}{seen:List Nat}(hi:H[i]?=some (.kq m es.length seen))(hm:H[m]?=some (.map es)) :
  ((∀j,j<es.length→j∈seen)∧(Instr.next (.pointer (some ⟨L.bL i,0,none⟩)) false ty).run P w=.ok (.tuple #[.bool false]) w)∨
  ∃(j:Nat) (hj:j<es.length) (cv:Value) (w':World),j∉seen∧(Instr.next (.pointer (some ⟨L.bL i,0,none⟩)) false ty).run P w=.ok cv w'∧bN L (H.set i (.kq m es.length (seen++[j]))) T w'∧
   aZ L (H.set i (.kq m es.length (seen++[j]))).length T w' (.cJ [.bool true,(es[j]).1.av,(es[j]).2]) cv∧Ev H.length T.length L H.length T w L (H.set i (.kq m es.length (seen++[j]))).length T w':=by
 obtain⟨dB,g1,g2,g3,g4,g5⟩:=hc.box m _ hm;obtain⟨k1,k2,k3⟩:=hc.box i _ hi;have cW:=(List.getElem?_eq_some_iff.1 hi).1;have bh:=hc.ml cW;have born:∀x∈dB.toList,x.born<es.length:=by
  intro x hx;obtain⟨j,hj,rfl⟩:=List.mem_iff_getElem.1 hx;have bK:j<dB.size:=by simpa using hj
  rw[Array.getElem_toList,(g3 j (by omega) bK).2.1];omega
 rcases run_next_at (P:=P) w ty (L.bL i) (L.bL m) es.length es.length seen.toArray dB es.length k1 g1 born (le_refl _) with⟨h1,h2⟩|⟨e,he,w1,hw,h2⟩
 ·refine .inl ⟨fun j hj=>?_,h2⟩;have bK:j<dB.size:=by omega
  have h0:leftOf dB seen.toArray=#[]:=Array.eq_empty_of_size_eq_zero h1;unfold leftOf at h0;rw[Array.filter_eq_empty_iff] at h0;have:=h0 dB[j] (by simp);rw[(g3 j hj bK).2.1] at this;simpa using this
 ·unfold leftOf at he;simp only[Array.toList_filter,List.mem_filter] at he;obtain⟨hem,HX⟩:=he;obtain⟨j,hj,rfl⟩:=List.mem_iff_getElem.1 hem;have bK:j<dB.size:=by simpa using hj
  have o6:j<es.length:=by omega
  obtain⟨b1,b2,b3⟩:=g3 j o6 bK;simp only[Array.getElem_toList] at h2 HX;rw[b2] at h2 HX;have Q1:j∉seen:=by simpa using HX
  have hh:w1.heap=w.heap:=by rcases hw with rfl|rfl<;>rfl
  have ho:w1.os=w.os∧w1.tape=w.tape∧w1.output=w.output∧w.drawn≤w1.drawn:=by rcases hw with rfl|rfl<;>exact⟨rfl,rfl,rfl,by first|exact le_refl _|exact le_succ _⟩
  have hb:∀o:Obj,(ChangeMaps.setBlock w1 (L.bL i) o).heap=w.heap.setIfInBounds (L.bL i) o:=fun o=>by simp[ChangeMaps.setBlock,hh]
  obtain⟨c1,c2⟩:=hc.I3 (w':=ChangeMaps.setBlock w1 (L.bL i) (.mapIter (some (L.bL m)) es.length (seen.toArray.push j) es.length)) (b':=.kq m es.length (seen++[j])) hi k3
   (fun x hx=>by rw[hb];exact Array.getElem?_setIfInBounds_ne (fun e=>hx e.symm)) (by rw[hb];simp) ho.1 ho.2.1 ho.2.2.1 ho.2.2.2 (fun kp=>⟨by rw[hb];simp[bh],k2,k3⟩)
  refine .inr ⟨j,o6,_,_,Q1,h2,c1,?_,c2⟩;refine .cJ _ _ rfl (fun j' Q9 vx=>?_)
  match j',Q9 with
  |0,_=>exact .bool _
  |1,_=>simp only[getElem_toArray,List.getElem_cons_succ,getElem_cons_zero,b1];exact cY.rep _
  |2,_=>
   have:=b3.keep (by simpa using c2.keeps);simpa using this
theorem CX (hc:bN L H T w){i m j:Nat}{es:List (cY×AV)}{seen:List Nat}(hi:H[i]?=some (.kq m es.length (seen++[j])))(hm:H[m]?=some (.map es))(hj:j<es.length) :
  ∃cv,(Instr.entry (.pointer (some ⟨L.bL i,0,none⟩))).run P w=.ok cv w∧aZ L H.length T w (.cJ [(es[j]).1.av,(es[j]).2]) cv:=by
 obtain⟨dB,g1,g2,g3,g4,g5⟩:=hc.box m _ hm;obtain⟨k1,k2,k3⟩:=hc.box i _ hi;have bK:j<dB.size:=by omega
 obtain⟨b1,b2,b3⟩:=g3 j hj bK;have hn:(dB.toList.map (·.born)).Nodup:=by
  have:dB.toList.map (·.born)=List.range dB.size:=by
   apply ext_getElem (by simp);intro x h1 h2;simp only[getElem_map,Array.getElem_toList,List.getElem_range];exact(g3 x (by simp at h1;omega) (by simpa using h1)).2.1
  rw[this];exact List.nodup_range
 refine⟨_,run_entry_at (P:=P) w (L.bL i) (L.bL m) es.length seen.toArray dB es.length dB[j] (by rw[b2,k1];simp) g1 (by simp) hn,?_⟩;refine .cJ _ _ rfl (fun j' Q9 vx=>?_)
 match j',Q9 with
 |0,_=>simp only[getElem_toArray,getElem_cons_zero,b1];exact cY.rep _
 |1,_=>exact b3
end
end Go.Am
