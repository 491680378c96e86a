/- The abstract machine: abstract values, their representation in a world of the model, and the evolution of worlds. Rules for the structured code over abstract states: sequence, condition, block, loop, region, region that draws its order; contracts of calls. Steps of the world that keep what is represented: a new row, a new box, a new token, a store into a box. Steps of the world that keep what is represented, continued: a store into a box; a row that grows in place or anew. Operations that neither read nor write memory, over abstract values, and that they are what the model does. Operations that read memory or make new variables, over abstract values, and that they are what the model does. Indexing, slicing, fields, conversions and making of values, over abstract values; they are what the model does. Conversions, composite values, new slices, and append, over abstract values; they are what the model does. Composite values, make, append, iterators over strings; they are what the model does. make, append, iterators over strings; they are what the model does. Maps over abstract values: their keys, and the operations on them; they are what the model does.
  Conditions: none; it speaks of every program. -/
import Derived.WalkKit
import Derived.Orders
import Derived.ChangeKeysEq
import Derived.Maps.RangeRun
import Derived.Maps.Keyed
set_option linter.all false
open Nat (le_refl lt_or_ge le_trans lt_of_lt_of_le le_succ add_mul lt_of_le_of_lt mod_lt add_assoc add_zero)
open List (getElem?_set_self getElem?_set_ne getElem_mem getElem?_append_left eq_nil_of_length_eq_zero getElem_map getElem_cons_zero getElem_set map_cons getElem?_take ext_getElem getElem_toArray length_set mapM_cons all_cons)
namespace Go.Am
open Go
inductive Tag where
 |none
 |full
 |own (t:Nat)
inductive KC where
 |int (k:IntKind) (n:Int)
 |str (s:List UInt8)
 |bool (b:Bool)
 deriving DecidableEq
inductive cN where
 |one (c:KC)
 |agg (cs:List KC)
 deriving DecidableEq
def KC.val:KC→Value
 |.int k n=>.int k n
 |.str s=>.string ⟨s.toArray⟩
 |.bool b=>.bool b
def cN.val:cN→Value
 |.one c=>c.val
 |.agg cs=>.agg (cs.map KC.val).toArray
inductive AV where
 |top
 |bool (b:Bool)
 |int (k:IntKind) (n:Int)
 |str (s:List UInt8)
 |fc
 |ptr (i o:Nat)
 |dK (cs:List AV) (o:Nat)
 |sl (n:Nat) (cs:List AV) (tg:Tag)
 |bV (i o n:Nat)
 |bJ (i n cap:Nat)
 |aO (i:Nat)
 |fn (f:FuncId) (first db:List AV)
 |hZ
 |ly
 |yc
 |agg (cs:List AV)
 |df (cs:List AV)
abbrev ar:=List (Nat×Nat)
abbrev Env:=List (Nat×AV)
inductive aA where
 |cells (vs:List AV)
 |iter (s:List UInt8) (pos:Nat)
 |map (es:List (cN×AV))
 |kK (m n:Nat) (seen:List Nat)
 |Gc (g:Nat) (p:Obj→Prop)
@[simp] def aA.yl:aA→List AV
 |.cells vs=>vs
 |.map es=>es.map (·.2)
 |.iter _ _=>[]
 |.kK _ _ _=>[]
 |.Gc _ _=>[]
structure Tk where
 b:Nat
 o:Nat
 c:Nat
structure Lay where
 bN:Nat→Nat
 dM:Nat→Tk
 m:Nat→Nat
 dr:Bool
def kg (L:Lay)(T:ar)(tg:Tag)(n u:Nat)(a:Option Addr)(cap:Nat):Prop:=
 match tg with
 |.none=>True
 |.full=>cap=n
 |.own t=>∃u0 z,T[t]?=some (u0,z)∧u≤u0∧(u0=u→cap=n∨(a=some ⟨(L.dM t).b,(L.dM t).o,none⟩∧cap=(L.dM t).c))
inductive bc (L:Lay) (N:Nat) (T:ar) (w:World):AV→Value→Prop
 |top (v:Value):bc L N T w .top v
 |bool (b:Bool):bc L N T w (.bool b) (.bool b)
 |int (k:IntKind) (n:Int):bc L N T w (.int k n) (.int k n)
 |str (s:List UInt8):bc L N T w (.str s) (.string ⟨s.toArray⟩)
 |fc:bc L N T w .fc (.pointer none)
 |ptr (i o:Nat) (h:i<N):bc L N T w (.ptr i o) (.pointer (some ⟨L.bN i,o,none⟩))
 |dK (cs:List AV) (o b base:Nat) (f:Nat→Value) (hm:base+cs.length≤L.m b)
   (hc:∀j,j<cs.length→w.cell? ⟨b,base+j,none⟩=some (f j)) (h1:∀j,j<cs.length→(f j).oneCell'=true)
   (hr:∀(j:Nat)(h:j<cs.length),bc L N T w (cs[j]'h) (f j)) :
   bc L N T w (.dK cs o) (.pointer (some ⟨b,base+o,none⟩))
 |wD (tg:Tag) (a:Option Addr) (cap:Nat) (ht:kg L T tg 0 0 a cap):bc L N T w (.sl 0 [] tg) (.slice a 0 cap)
 |LU (n:Nat) (cs:List AV) (tg:Tag) (b base cap:Nat) (f:Nat→Value) (cg:n≤cap) (hm:base+cs.length≤L.m b)
   (hc:∀j,j<cs.length→w.cell? ⟨b,base+j,none⟩=some (f j)) (h1:∀j,j<cs.length→(f j).oneCell'=true)
   (hr:∀(j:Nat)(h:j<cs.length),bc L N T w (cs[j]'h) (f j))
   (ht:kg L T tg n cs.length (some ⟨b,base,none⟩) cap) :
   bc L N T w (.sl n cs tg) (.slice (some ⟨b,base,none⟩) n cap)
 |bV (i o n cap:Nat) (h:i<N) (cg:n≤cap):bc L N T w (.bV i o n) (.slice (some ⟨L.bN i,o,none⟩) n cap)
 |bJ (i n cap:Nat) (h:i<N) (cg:n≤cap):bc L N T w (.bJ i n cap) (.slice (some ⟨L.bN i,0,none⟩) n cap)
 |aO (i:Nat) (h:i<N):bc L N T w (.aO i) (.map (some (L.bN i)))
 |fn (f:FuncId) (first db:List AV) (fv cv:Array Value) (h1:fv.size=first.length) (h2:cv.size=db.length)
   (vV:∀(j:Nat)(h:j<first.length)(h':j<fv.size),bc L N T w (first[j]'h) (fv[j]'h'))
   (mN:∀(j:Nat)(h:j<db.length)(h':j<cv.size),bc L N T w (db[j]'h) (cv[j]'h')) :
   bc L N T w (.fn f first db) (.func (.func f) fv cv)
 |hZ:bc L N T w .hZ .nilFunc
 |ly:bc L N T w .ly .nilIface
 |yc (t:TypeId) (v:Value):bc L N T w .yc (.iface t v)
 |agg (cs:List AV) (cv:Array Value) (h1:cv.size=cs.length) (h2:∀(j:Nat)(h':j<cv.size),(cv[j]'h').oneCell'=true)
   (hr:∀(j:Nat)(h:j<cs.length)(h':j<cv.size),bc L N T w (cs[j]'h) (cv[j]'h')):bc L N T w (.agg cs) (.agg cv)
 |df (cs:List AV) (cv:Array Value) (h1:cv.size=cs.length)
   (hr:∀(j:Nat)(h:j<cs.length)(h':j<cv.size),bc L N T w (cs[j]'h) (cv[j]'h')):bc L N T w (.df cs) (.tuple cv)
structure cS (L:Lay)(N:Nat)(T:ar)(w:World)(L':Lay)(N':Nat)(T':ar)(w':World):Prop where
 n:N≤N'
 bN:∀i,i<N→L'.bN i=L.bN i
 tok:∀t u z,T[t]?=some (u,z)→∃u',T'[t]?=some (u',z)∧u≤u'∧(u'=u→L'.dM t=L.dM t)
 m:∀b,L.m b≤L'.m b
 rz:∀b o,o<L.m b→w'.cell? ⟨b,o,none⟩=w.cell? ⟨b,o,none⟩
 dr:L'.dr=L.dr
theorem cS.refl (L:Lay)(N:Nat)(T:ar)(w:World):cS L N T w L N T w:=
 ⟨le_refl _,fun _ _=>rfl,fun _ u _ h=>⟨u,h,le_refl _,fun _=>rfl⟩,fun _=>le_refl _,fun _ _ _=>rfl,rfl⟩
theorem cS.trans {L N T w L1 N1 T1 w1 L2 N2 T2 w2}(h:cS L N T w L1 N1 T1 w1)(k:cS L1 N1 T1 w1 L2 N2 T2 w2):cS L N T w L2 N2 T2 w2:=by
 refine⟨le_trans h.n k.n,fun i hi=>?_,fun t u z ht=>?_,fun b=>le_trans (h.m b) (k.m b),fun b o ho=>?_,k.dr.trans h.dr⟩
 ·rw[k.bN i (lt_of_lt_of_le hi h.n),h.bN i hi]
 ·obtain⟨u1,h1,hle,he⟩:=h.tok t u z ht;obtain⟨u2,h2,F5,vM⟩:=k.tok t u1 z h1;refine⟨u2,h2,le_trans hle F5,fun e=>?_⟩;rw[vM (by omega),he (by omega)]
 ·rw[k.rz b o (lt_of_lt_of_le ho (h.m b)),h.rz b o ho]
theorem kg.keep {L N T w L' N' T' w' tg n u a cap}(k:cS L N T w L' N' T' w')(h:kg L T tg n u a cap):kg L' T' tg n u a cap:=by
 cases tg with
 |none=>trivial
 |full=>exact h
 |own t=>
  obtain⟨u0,z,h0,hle,he⟩:=h;obtain⟨u1,h1,acj,Xc⟩:=k.tok t u0 z h0;refine⟨u1,z,h1,by omega,fun e=>?_⟩;rw[Xc (by omega)];exact he (by omega)
theorem bc.keep {L N T w L' N' T' w' v c}(k:cS L N T w L' N' T' w')(h:bc L N T w v c):bc L' N' T' w' v c:=by
 induction h with
 |top v=>exact .top v
 |bool b=>exact .bool b
 |int k n=>exact .int k n
 |str s=>exact .str s
 |fc=>exact .fc
 |ptr i o h=>rw[←k.bN i h];exact .ptr i o (lt_of_lt_of_le h k.n)
 |dK cs o b base f hm hc h1 hr ih=>
  exact .dK cs o b base f (le_trans hm (k.m b)) (fun j hj=>by rw[k.rz _ _ (by omega)];exact hc j hj) h1 ih
 |wD tg a cap ht=>exact .wD tg a cap (ht.keep k)
 |LU n cs tg b base cap f cg hm hc h1 hr ht ih=>
  exact .LU n cs tg b base cap f cg (le_trans hm (k.m b)) (fun j hj=>by rw[k.rz _ _ (by omega)];exact hc j hj) h1 ih (ht.keep k)
 |bV i o n cap h cg=>rw[←k.bN i h];exact .bV i o n cap (lt_of_lt_of_le h k.n) cg
 |bJ i n cap h cg=>rw[←k.bN i h];exact .bJ i n cap (lt_of_lt_of_le h k.n) cg
 |aO i h=>rw[←k.bN i h];exact .aO i (lt_of_lt_of_le h k.n)
 |fn f first db fv cv h1 h2 vV mN Po Pn=>exact .fn f first db fv cv h1 h2 Po Pn
 |hZ=>exact .hZ
 |ly=>exact .ly
 |yc t v=>exact .yc t v
 |agg cs cv h1 h2 hr ih=>exact .agg cs cv h1 h2 ih
 |df cs cv h1 hr ih=>exact .df cs cv h1 ih
def Wr (L:Lay)(N:Nat)(T:ar)(b:Nat):Prop:=
 (∃i,i<N∧L.bN i=b)∨(∃t u z,T[t]?=some (u,z)∧u<(L.dM t).c*z∧(L.dM t).b=b)
structure Ev (nb tb:Nat)(L:Lay)(N:Nat)(T:ar)(w:World)(L':Lay)(N':Nat)(T':ar)(w':World):Prop where
 n:nb≤N'
 bN:∀i,i<nb→L'.bN i=L.bN i
 tok:∀t u z,t<tb→T[t]?=some (u,z)→∃u',T'[t]?=some (u',z)∧u≤u'∧(u'=u→L'.dM t=L.dM t)
 t:tb≤T'.length
 m:∀b,L.m b≤L'.m b
 rz:∀b o,o<L.m b→w'.cell? ⟨b,o,none⟩=w.cell? ⟨b,o,none⟩
 size:w.heap.size≤w'.heap.size
 frame:∀b,b<w.heap.size→¬Wr L N T b→w'.heap[b]?=w.heap[b]?
 wr:∀b,Wr L' N' T' b→Wr L N T b∨w.heap.size≤b
 os:w'.os=w.os
 tape:w'.tape=w.tape
 output:w'.output=w.output
 drawn:L.dr=true→w.drawn≤w'.drawn
 dr:L'.dr=L.dr
theorem Ev.refl {nb tb L N T w}(h:nb≤N)(h':tb≤T.length):Ev nb tb L N T w L N T w:=
 ⟨h,fun _ _=>rfl,fun _ u _ _ h=>⟨u,h,le_refl _,fun _=>rfl⟩,h',fun _=>le_refl _,fun _ _ _=>rfl,le_refl _,fun _ _ _=>rfl,
  fun _ h=>.inl h,rfl,rfl,rfl,fun _=>le_refl _,rfl⟩
theorem Ev.trans {nb tb L N T w L1 N1 T1 w1 L2 N2 T2 w2}(h:Ev nb tb L N T w L1 N1 T1 w1)(k:Ev nb tb L1 N1 T1 w1 L2 N2 T2 w2):Ev nb tb L N T w L2 N2 T2 w2:=by
 refine⟨k.n,fun i hi=>?_,fun t u z ht hT=>?_,k.t,fun b=>le_trans (h.m b) (k.m b),fun b o ho=>?_,le_trans h.size k.size,fun b hb hn=>?_,fun b hb=>?_,
  k.os.trans h.os,k.tape.trans h.tape,k.output.trans h.output,fun e=>le_trans (h.drawn e) (k.drawn (by rw[h.dr];exact e)),k.dr.trans h.dr⟩
 ·rw[k.bN i hi,h.bN i hi]
 ·obtain⟨u1,h1,hle,he⟩:=h.tok t u z ht hT;obtain⟨u2,h2,F5,vM⟩:=k.tok t u1 z ht h1;refine⟨u2,h2,le_trans hle F5,fun e=>?_⟩;rw[vM (by omega),he (by omega)]
 ·rw[k.rz b o (lt_of_lt_of_le ho (h.m b)),h.rz b o ho]
 ·rw[k.frame b (lt_of_lt_of_le hb h.size) (fun hw=>?_),h.frame b hb hn];rcases h.wr b hw with h'|h'
  ·exact hn h'
  ·omega
 ·rcases k.wr b hb with h'|h'
  ·exact h.wr b h'
  ·exact .inr (le_trans h.size h')
theorem Ev.mono {nb tb nb' tb' L N T w L' N' T' w'}(h:Ev nb tb L N T w L' N' T' w')(hn:nb'≤nb)(ht:tb'≤tb):Ev nb' tb' L N T w L' N' T' w':=
 ⟨le_trans hn h.n,fun i hi=>h.bN i (lt_of_lt_of_le hi hn),fun t u z aZ=>h.tok t u z (lt_of_lt_of_le aZ ht),le_trans ht h.t,h.m,h.rz,h.size,h.frame,h.wr,h.os,h.tape,h.output,h.drawn,h.dr⟩
theorem Ev.keeps {L N T w L' N' T' w'}(h:Ev N T.length L N T w L' N' T' w'):cS L N T w L' N' T' w':=
 ⟨h.n,h.bN,fun t u z hT=>h.tok t u z ((List.getElem?_eq_some_iff.1 hT).1) hT,h.m,h.rz,h.dr⟩
def lg (L:Lay)(N:Nat)(T:ar)(w:World)(i:Nat):aA→Prop
 |.cells vs=>∃c t fr,w.heap[L.bN i]?=some (.cells c t fr)∧(∀o,o<c.size→(fr.1≤o&&o<fr.2)=false)∧c.size=vs.length∧
   (∀(j:Nat)(h':j<c.size),(c[j]'h').oneCell'=true)∧
   (∀(j:Nat)(h:j<vs.length)(h':j<c.size),bc L N T w (vs[j]'h) (c[j]'h'))∧L.m (L.bN i)=0
 |.iter s pos=>w.heap[L.bN i]?=some (.stringIter ⟨s.toArray⟩ pos)
 |.map es=>∃dz:Array MapEntry,w.heap[L.bN i]?=some (.map dz es.length)∧dz.size=es.length∧
   (∀(j:Nat)(h:j<es.length)(h':j<dz.size),(dz[j]'h').key=(es[j]'h).1.val∧(dz[j]'h').born=j∧bc L N T w (es[j]'h).2 (dz[j]'h').val)∧(es.map (·.1)).Nodup∧L.m (L.bN i)=0
 |.kK m n seen=>w.heap[L.bN i]?=some (.mapIter (some (L.bN m)) n seen.toArray n)∧m<i∧L.m (L.bN i)=0
 |.Gc g p=>L.bN i=g∧L.dr=false∧∃o,w.heap[g]?=some o∧p o
theorem lg.stay {L N T w L' N' T' w' i b}(k:cS L N T w L' N' T' w')(h:lg L N T w i b)(hi:i<N)(hh:w'.heap[L.bN i]?=w.heap[L.bN i]?)(hm:L.m (L.bN i)=0→L'.m (L.bN i)=0):lg L' N' T' w' i b:=by
 have e:=k.bN i hi
 cases b with
 |cells vs=>
  obtain⟨c,t,fr,h1,h2,h3,PF,h4,h5⟩:=h;exact⟨c,t,fr,by rw[e,hh];exact h1,h2,h3,PF,fun j a b=>(h4 j a b).keep k,by rw[e];exact hm h5⟩
 |iter s pos=>show w'.heap[_]?=_;rw[e,hh];exact h
 |map es=>
  obtain⟨dz,h1,h2,h3,hn,h4⟩:=h;exact⟨dz,by rw[e,hh];exact h1,h2,fun j a b=>⟨(h3 j a b).1,(h3 j a b).2.1,(h3 j a b).2.2.keep k⟩,hn,by rw[e];exact hm h4⟩
 |kK m n seen=>
  obtain⟨h1,h2,h4⟩:=h;exact⟨by rw[e,hh,k.bN m (by omega)];exact h1,h2,by rw[e];exact hm h4⟩
 |Gc g p=>
  obtain⟨h1,h4,o,h2,h3⟩:=h;exact⟨by rw[e,h1],by rw[k.dr,h4],o,by rw[←h1,hh,h1];exact h2,h3⟩
def wS (L:Lay)(w:World)(t u z:Nat):Prop:=
 0<z∧(u<(L.dM t).c*z→∃c e fr,w.heap[(L.dM t).b]?=some (.cells c e fr)∧(L.dM t).o+(L.dM t).c*z≤c.size∧
  (∀o,(L.dM t).o+u≤o→o<(L.dM t).o+(L.dM t).c*z→(fr.1≤o&&o<fr.2)=false)∧L.m (L.dM t).b≤(L.dM t).o+u)
def wQ:List (Nat×Nat):=[]
def Xq (L:Lay)(w:World):Prop:=∀x∈wQ,x.2<L.m x.1∧∃m,w.cell? ⟨x.1,x.2,none⟩=some (.int .i64 m)
theorem Xq.keep {L L':Lay}{w w':World}(h:Xq L w)(hm:∀b,L.m b≤L'.m b)(hc:∀b o,o<L.m b→w'.cell? ⟨b,o,none⟩=w.cell? ⟨b,o,none⟩):Xq L' w':=fun x hx=>by
 obtain⟨h1,m,h2⟩:=h x hx;exact⟨lt_of_lt_of_le h1 (hm _),m,by rw[hc _ _ h1];exact h2⟩
structure bT (L:Lay)(H:List aA)(T:ar)(w:World):Prop where
 box:∀i b,H[i]?=some b→lg L H.length T w i b
 inj:∀i j,i<H.length→j<H.length→L.bN i=L.bN j→i=j
 tok:∀t u z,T[t]?=some (u,z)→wS L w t u z
 nH:∀t u z t' u' z',T[t]?=some (u,z)→T[t']?=some (u',z')→u<(L.dM t).c*z→u'<(L.dM t').c*z'→(L.dM t).b=(L.dM t').b→t=t'
 jv:∀t u z i,T[t]?=some (u,z)→u<(L.dM t).c*z→i<H.length→(L.dM t).b≠L.bN i
 mz:∀b,w.heap.size≤b→L.m b=0
 gl:Xq L w
theorem lg.lt {L N T w i b}(h:lg L N T w i b):L.bN i<w.heap.size:=by
 rcases lt_or_ge (L.bN i) w.heap.size with h1|h1
 ·exact h1
 ·exfalso
  cases b with
  |cells vs=>obtain⟨c,t,fr,hh,_⟩:=h;rw[Array.getElem?_eq_none h1] at hh;cases hh
  |iter s pos=>unfold lg at h;rw[Array.getElem?_eq_none h1] at h;cases h
  |map es=>obtain⟨dz,hh,_⟩:=h;rw[Array.getElem?_eq_none h1] at hh;cases hh
  |kK m n seen=>obtain⟨hh,_⟩:=h;rw[Array.getElem?_eq_none h1] at hh;cases hh
  |Gc g p=>obtain⟨e,_,o,hh,_⟩:=h;rw[←e,Array.getElem?_eq_none h1] at hh;cases hh
theorem bT.lE {L H T w}(h:bT L H T w){i:Nat}(hi:i<H.length):L.bN i<w.heap.size:=
 (h.box i _ (List.getElem?_eq_getElem hi)).lt
theorem bT.CW {L H T w}(h:bT L H T w){t u z:Nat}(ht:T[t]?=some (u,z))(hs:u<(L.dM t).c*z):(L.dM t).b<w.heap.size:=by
 obtain⟨_,h2⟩:=h.tok t u z ht;obtain⟨c,e,fr,hh,_⟩:=h2 hs;rcases lt_or_ge (L.dM t).b w.heap.size with h1|h1
 ·exact h1
 ·rw[Array.getElem?_eq_none h1] at hh;cases hh
theorem bT.TY {L H T w}(h:bT L H T w){b:Nat}(hb:Wr L H.length T b):b<w.heap.size:=by
 rcases hb with⟨i,hi,rfl⟩|⟨t,u,z,ht,hs,rfl⟩
 ·exact h.lE hi
 ·exact h.CW ht hs
def bF:Env→Nat→AV
 |[],_=>.top
 |(s,v)::r,t=>if s=t then v else bF r t
def mo:Env→Nat→AV→Env
 |[],t,v=>[(t,v)]
 |(s,u)::r,t,v=>if s=t then (t,v)::r else (s,u)::mo r t v
theorem cF (e:Env)(t:Nat)(v:AV):bF (mo e t v) t=v:=by
 induction e with
 |nil=>simp[mo,bF]
 |cons x r ih=>
  obtain⟨s,u⟩:=x
  by_cases h:s=t
  ·simp[mo,bF,h]
  ·simp[mo,bF,h,ih]
theorem bB (e:Env)(t t':Nat)(v:AV)(dA:t≠t'):bF (mo e t v) t'=bF e t':=by
 induction e with
 |nil=>simp[mo,bF,dA]
 |cons x r ih=>
  obtain⟨s,u⟩:=x
  by_cases h:s=t
  ·subst h;simp[mo,bF,dA]
  ·by_cases h2:s=t'
   ·subst h2;simp[mo,bF,h]
   ·simp[mo,bF,h,h2,ih]
def ew (L:Lay)(N:Nat)(T:ar)(w:World)(e:Env)(a:Act):Prop:=
 ∀t,bc L N T w (bF e t) (a.tmps.getD t undef)
theorem ew.keep {L N T w L' N' T' w' e a}(k:cS L N T w L' N' T' w')(h:ew L N T w e a):ew L' N' T' w' e a:=fun t=>(h t).keep k
theorem iw (a:Act)(d t:Nat)(v:Value)(hd:d<a.tmps.size):(a.put (some d) v).tmps.getD t undef=if d=t then v else a.tmps.getD t undef:=by
 simp only[Act.put,Array.getD_eq_getD_getElem?]
 by_cases h:d=t
 ·subst h;simp[hd]
 ·simp[Array.getElem?_setIfInBounds_ne h,h]
theorem ew.put {L N T w e a d v c}(h:ew L N T w e a)(hd:d<a.tmps.size)(hv:bc L N T w v c):ew L N T w (mo e d v) (a.put (some d) c):=by
 intro t;rw[iw a d t c hd]
 by_cases RA:d=t
 ·subst RA;rw[cF];simpa using hv
 ·rw[bB _ _ _ _ RA,if_neg RA];exact h t
structure St where
 e:Env
 H:List aA
 T:ar
structure Cx where
 P:Program
 nt:Nat
 nv:Nat
 nb:Nat
 tb:Nat
 bx:List Nat
structure eF (C:Cx)(s:St)(L:Lay)(w:World)(a:Act):Prop where
 nb:C.nb≤s.H.length
 tb:C.tb≤s.T.length
 mQ:bT L s.H s.T w
 size:a.tmps.size=C.nt
 defers:a.defers=[]
 env:ew L s.H.length s.T w s.e a
def dh (C:Cx)(Q:Exit→St→Prop)(L:Lay)(s:St)(w:World)(e:Exit)(a':Act)(w':World):Prop:=
 ∃s' L',Q e s'∧eF C s' L' w' a'∧Ev C.nb C.tb L s.H.length s.T w L' s'.H.length s'.T w'
def AW (C:Cx)(c:Code)(Q:Exit→St→Prop)(s:St):Prop:=
 ∀L w a,eF C s L w a→c.wp C.P (dh C Q L s w) a w
theorem dh.step {C Q L s w L1 s1 w1 e a' w'}(h:Ev C.nb C.tb L s.H.length s.T w L1 s1.H.length s1.T w1)(k:dh C Q L1 s1 w1 e a' w'):dh C Q L s w e a' w':=by
 obtain⟨s',L',q,c,ev⟩:=k;exact⟨s',L',q,c,h.trans ev⟩
theorem AW.mono {C c Q Q' s}(h:AW C c Q s)(hq:∀e s,Q e s→Q' e s):AW C c Q' s:=fun L w a hc=>
 wp_mono (h L w a hc) fun _ _ _ ⟨s',L',q,r⟩=>⟨s',L',hq _ _ q,r⟩
def dL (K:St→Prop)(Q:Exit→St→Prop):Exit→St→Prop
 |.normal,s=>K s
 |e,s=>Q e s
theorem ai {C Q s}(h:Q .normal s):AW C .skip Q s:=fun L w a hc=>wp_skip ⟨s,L,h,hc,Ev.refl hc.nb hc.tb⟩
theorem aC {C Q s id}(h:Q (.exit id) s):AW C (.exit id) Q s:=fun L w a hc=>wp_exit ⟨s,L,h,hc,Ev.refl hc.nb hc.tb⟩
theorem az {C Q s}(h:Q .ret s):AW C .ret Q s:=fun L w a hc=>wp_ret ⟨s,L,h,hc,Ev.refl hc.nb hc.tb⟩
theorem yF {C x y Q s}(h:∀K:St→Prop,(∀s,AW C y Q s→K s)→AW C x (dL K Q) s):AW C (.seq x y) Q s:=fun L w a hc=>
 wp_seq (wp_mono (h _ (fun _ h=>h) L w a hc) fun e a' w' ⟨s',L',q,c,ev⟩=>by
  cases e with
  |normal=>exact wp_mono (q L' w' a' c) fun _ _ _ k=>dh.step ev k
  |_=>exact⟨s',L',q,c,ev⟩)
def C9 (id:Nat)(Q:Exit→St→Prop):Exit→St→Prop
 |.exit Zc,s=>if Zc=id then Q .normal s else Q (.exit Zc) s
 |e,s=>Q e s
theorem ah {C id x Q s}(h:AW C x (C9 id Q) s):AW C (.block id x) Q s:=fun L w a hc=>
 wp_block (wp_mono (h L w a hc) fun e a' w' ⟨s',L',q,c,ev⟩=>by
  cases e with
  |exit Zc=>
   simp only[C9] at q;simp only[Exit.inBlock]
   split
   ·rename_i IE;rw[if_pos IE] at q;exact⟨s',L',q,c,ev⟩
   ·rename_i IE;rw[if_neg IE] at q;exact⟨s',L',q,c,ev⟩
  |_=>exact⟨s',L',q,c,ev⟩)
inductive Below (n t:Nat):AV→Prop
 |top:Below n t .top
 |bool (b:Bool):Below n t (.bool b)
 |int (k:IntKind) (x:Int):Below n t (.int k x)
 |str (s:List UInt8):Below n t (.str s)
 |fc:Below n t .fc
 |ptr (i o:Nat) (h:i<n):Below n t (.ptr i o)
 |dK (cs:List AV) (o:Nat) (h:∀c∈cs,Below n t c):Below n t (.dK cs o)
 |sl (m:Nat) (cs:List AV) (tg:Tag) (h:∀c∈cs,Below n t c) (ht:∀x,tg=.own x→x<t):Below n t (.sl m cs tg)
 |bV (i o m:Nat) (h:i<n):Below n t (.bV i o m)
 |bJ (i m cap:Nat) (h:i<n):Below n t (.bJ i m cap)
 |aO (i:Nat) (h:i<n):Below n t (.aO i)
 |fn (f:FuncId) (first db:List AV) (h1:∀c∈first,Below n t c) (h2:∀c∈db,Below n t c):Below n t (.fn f first db)
 |hZ:Below n t .hZ
 |ly:Below n t .ly
 |yc:Below n t .yc
 |agg (cs:List AV) (h:∀c∈cs,Below n t c):Below n t (.agg cs)
 |df (cs:List AV) (h:∀c∈cs,Below n t c):Below n t (.df cs)
theorem bc.drop {L:Lay}{N n t:Nat}{T:ar}{w:World}{v:AV}{c:Value}(h:bc L N T w v c)(hb:Below n t v):bc L n (T.take t) w v c:=by
 have tag:∀(tg:Tag)(m u:Nat)(a:Option Addr)(cap:Nat),(∀x,tg=.own x→x<t)→kg L T tg m u a cap→kg L (T.take t) tg m u a cap:=by
  intro tg m u a cap hx ht
  cases tg with
  |none=>trivial
  |full=>exact ht
  |own x=>
   obtain⟨u0,z,h0,r⟩:=ht;exact⟨u0,z,by rw[getElem?_take,if_pos (hx x rfl)];exact h0,r⟩
 induction h with
 |top v=>exact .top v
 |bool b=>exact .bool b
 |int k x=>exact .int k x
 |str s=>exact .str s
 |fc=>exact .fc
 |ptr i o h=>cases hb with|ptr _ _ h'=>exact .ptr i o h'
 |dK cs o b base f hm hc h1 hr ih=>cases hb with|dK _ _ hx=>exact .dK cs o b base f hm hc h1 (fun j hj=>ih j hj (hx _ (getElem_mem hj)))
 |wD tg a cap ht=>cases hb with|sl _ _ _ hx hy=>exact .wD tg a cap (tag _ _ _ _ _ hy ht)
 |LU m cs tg b base cap f cg hm hc h1 hr ht ih=>
  cases hb with|sl _ _ _ hx hy=>exact .LU m cs tg b base cap f cg hm hc h1 (fun j hj=>ih j hj (hx _ (getElem_mem hj))) (tag _ _ _ _ _ hy ht)
 |bV i o m cap h cg=>cases hb with|bV _ _ _ h'=>exact .bV i o m cap h' cg
 |bJ i m cap h cg=>cases hb with|bJ _ _ _ h'=>exact .bJ i m cap h' cg
 |aO i h=>cases hb with|aO _ h'=>exact .aO i h'
 |fn f first db fv cv h1 h2 vV mN Po Pn=>
  cases hb with|fn _ _ _ hx hy=>exact .fn f first db fv cv h1 h2 (fun j hj bR=>Po j hj bR (hx _ (getElem_mem hj))) (fun j hj bR=>Pn j hj bR (hy _ (getElem_mem hj)))
 |hZ=>exact .hZ
 |ly=>exact .ly
 |yc t v=>exact .yc t v
 |agg cs cv h1 h2 hr ih=>cases hb with|agg _ hx=>exact .agg cs cv h1 h2 (fun j hj bR=>ih j hj bR (hx _ (getElem_mem hj)))
 |df cs cv h1 hr ih=>cases hb with|df _ hx=>exact .df cs cv h1 (fun j hj bR=>ih j hj bR (hx _ (getElem_mem hj)))
def cY:AV→AV
 |.sl n cs _=>.sl n cs .none
 |.bJ i n _=>.bV i 0 n
 |v=>v
theorem bc.cY {L:Lay}{N:Nat}{T:ar}{w:World}{v:AV}{c:Value}(h:bc L N T w v c):bc L N T w (cY v) c:=by
 cases h with
 |wD tg a cap ht=>exact .wD .none a cap trivial
 |LU n cs tg b base cap f cg hm hc h1 hr ht=>exact .LU n cs .none b base cap f cg hm hc h1 hr trivial
 |top _=>exact .top _
 |bool b=>exact .bool b
 |int k x=>exact .int k x
 |str s=>exact .str s
 |fc=>exact .fc
 |ptr i o h=>exact .ptr i o h
 |dK cs o b base f hm hc h1 hr=>exact .dK cs o b base f hm hc h1 hr
 |bV i o m cap h cg=>exact .bV i o m cap h cg
 |bJ i m cap h cg=>exact .bV i 0 m cap h cg
 |aO i h=>exact .aO i h
 |fn f first db fv cv h1 h2 vV mN=>exact .fn f first db fv cv h1 h2 vV mN
 |hZ=>exact .hZ
 |ly=>exact .ly
 |yc t v=>exact .yc t v
 |agg cs cv h1 h2 hr=>exact .agg cs cv h1 h2 hr
 |df cs cv h1 hr=>exact .df cs cv h1 hr
theorem Below.cY {n t:Nat}{v:AV}(h:Below n t v):Below n t (cY v):=by
 cases h with
 |sl m cs tg h ht=>exact .sl m cs .none h (fun x hx=>by cases hx)
 |top=>exact .top
 |bool b=>exact .bool b
 |int k x=>exact .int k x
 |str s=>exact .str s
 |fc=>exact .fc
 |ptr i o h=>exact .ptr i o h
 |dK cs o h=>exact .dK cs o h
 |bV i o m h=>exact .bV i o m h
 |bJ i m cap h=>exact .bV i 0 m h
 |aO i h=>exact .aO i h
 |fn f a b h1 h2=>exact .fn f a b h1 h2
 |hZ=>exact .hZ
 |ly=>exact .ly
 |yc=>exact .yc
 |agg cs h=>exact .agg cs h
 |df cs h=>exact .df cs h
structure uu (C:Cx)(s s':St):Prop where
 nb:C.nb≤s'.H.length
 tb:C.tb≤s'.T.length
 H:∃r,s.H=s'.H++r
 T:∃r,s.T=s'.T++r
 cells:∀(i:Nat)(b:aA),s'.H[i]?=some b→∀v∈b.yl,Below s'.H.length s'.T.length v
 env:∀t,bF s'.e t=.top∨((bF s'.e t=bF s.e t∨bF s'.e t=cY (bF s.e t))∧Below s'.H.length s'.T.length (bF s'.e t))
theorem uu.mQ {C s s' L w a}(h:uu C s s')(c:eF C s L w a):eF C s' L w a:=by
 obtain⟨fO,eS,⟨rH,hH⟩,⟨rT,hT⟩,uH,pq⟩:=h;have RD:s.T.take s'.T.length=s'.T:=by rw[hT];simp
 have hlen:s'.H.length≤s.H.length:=by rw[hH];simp
 have fP:∀(i:Nat)(b:aA),s'.H[i]?=some b→s.H[i]?=some b:=by
  intro i b hb;have hi:=(List.getElem?_eq_some_iff.1 hb).1;rw[hH,getElem?_append_left hi];exact hb
 have FZ:∀(t:Nat)(x:Nat×Nat),s'.T[t]?=some x→s.T[t]?=some x:=by
  intro t x hx;have hi:=(List.getElem?_eq_some_iff.1 hx).1;rw[hT,getElem?_append_left hi];exact hx
 have rep:∀v c',bc L s.H.length s.T w v c'→Below s'.H.length s'.T.length v→bc L s'.H.length s'.T w v c':=by
  intro v c' hr hb;have:=hr.drop hb
  rwa [RD] at this
 refine⟨fO,eS,⟨fun i b hb=>?_,fun i j hi hj=>c.mQ.inj i j (by omega) (by omega),fun t u z ht=>c.mQ.tok t u z (FZ _ _ ht),fun t u z t' u' z' h1 h2=>c.mQ.nH t u z t' u' z' (FZ _ _ h1) (FZ _ _ h2),
  fun t u z i h1 h2 hi=>c.mQ.jv t u z i (FZ _ _ h1) h2 (by omega),c.mQ.mz,c.mQ.gl⟩,c.size,c.defers,fun t=>?_⟩
 ·have zq:=c.mQ.box i b (fP i b hb)
  cases b with
  |cells vs=>
   obtain⟨cc,t,fr,h1,h2,h3,PF,h4,h5⟩:=zq;exact⟨cc,t,fr,h1,h2,h3,PF,fun j hj bR=>rep _ _ (h4 j hj bR) (uH i _ hb _ (getElem_mem hj)),h5⟩
  |iter s0 pos=>exact zq
  |map es=>
   obtain⟨dz,h1,h2,h3,h4⟩:=zq;exact⟨dz,h1,h2,fun j hj bR=>⟨(h3 j hj bR).1,(h3 j hj bR).2.1,rep _ _ (h3 j hj bR).2.2 (uH i _ hb _ (List.mem_map.2 ⟨_,getElem_mem hj,rfl⟩))⟩,h4⟩
  |kK m n seen=>exact zq
  |Gc g p=>exact zq
 ·rcases pq t with h0|⟨h1,h2⟩
  ·rw[h0];exact .top _
  ·rcases h1 with h1|h1
   ·rw[h1] at h2 ⊢;exact rep _ _ (c.env t) h2
   ·rw[h1] at h2 ⊢;exact rep _ _ (c.env t).cY h2
theorem uu.ev {C s s' L w}(h:uu C s s'):Ev C.nb C.tb L s.H.length s.T w L s'.H.length s'.T w:=by
 obtain⟨fO,eS,⟨rH,hH⟩,⟨rT,hT⟩,_,_⟩:=h;have FZ:∀(t:Nat)(x:Nat×Nat),s'.T[t]?=some x→s.T[t]?=some x:=by
  intro t x hx;have hi:=(List.getElem?_eq_some_iff.1 hx).1;rw[hT,getElem?_append_left hi];exact hx
 refine⟨fO,fun _ _=>rfl,fun t u z ht hx=>⟨u,?_,le_refl _,fun _=>rfl⟩,eS,fun _=>le_refl _,fun _ _ _=>rfl,le_refl _,fun _ _ _=>rfl,fun b hb=>.inl ?_,rfl,rfl,rfl,fun _=>le_refl _,rfl⟩
 ·rw[hT,getElem?_append_left (by omega)] at hx;exact hx
 ·rcases hb with⟨i,hi,e⟩|⟨t,u,z,h1,h2,e⟩
  ·exact .inl ⟨i,by rw[hH];simp;omega,e⟩
  ·exact .inr ⟨t,u,z,FZ _ _ h1,h2,e⟩
theorem aH {C c Q s}(s':St)(hw:uu C s s')(h:AW C c Q s'):AW C c Q s:=fun L w a hc=>
 wp_mono (h L w a (hw.mQ hc)) fun _ _ _ k=>dh.step hw.ev k
theorem aG {C c Q s}{X:Type}(st:X→St)(I:X→Prop)(μ:X→Nat)(x0:X)(h0:I x0)(hw:uu C s (st x0))
  (round:∀x,I x→AW C c (dL (fun s'=>∃x',I x'∧μ x'<μ x∧uu C s' (st x')) Q) (st x)):AW C (.loop c) Q s:=by
 refine aH (st x0) hw ?_;intro L w a hc;refine wp_loop (fun a' w'=>∃x L',I x∧eF C (st x) L' w' a'∧Ev C.nb C.tb L (st x0).H.length (st x0).T w L' (st x).H.length (st x).T w')
  (fun a' w'=>Classical.epsilon fun n=>(∃x L',I x∧eF C (st x) L' w' a'∧Ev C.nb C.tb L (st x0).H.length (st x0).T w L' (st x).H.length (st x).T w'∧μ x=n)∧
   ∀x L',I x→eF C (st x) L' w' a'→Ev C.nb C.tb L (st x0).H.length (st x0).T w L' (st x).H.length (st x).T w'→n≤μ x) ⟨x0,L,h0,hc,Ev.refl hc.nb hc.tb⟩ ?_
 have least:∀a' w',(∃x L',I x∧eF C (st x) L' w' a'∧Ev C.nb C.tb L (st x0).H.length (st x0).T w L' (st x).H.length (st x).T w')→
   ∃n,(∃x L',I x∧eF C (st x) L' w' a'∧Ev C.nb C.tb L (st x0).H.length (st x0).T w L' (st x).H.length (st x).T w'∧μ x=n)∧
    ∀x L',I x→eF C (st x) L' w' a'→Ev C.nb C.tb L (st x0).H.length (st x0).T w L' (st x).H.length (st x).T w'→n≤μ x:=by
  intro a' w' ⟨x,L',hI,pL,dP⟩;have key:∀n,∀x L',I x→eF C (st x) L' w' a'→Ev C.nb C.tb L (st x0).H.length (st x0).T w L' (st x).H.length (st x).T w'→μ x=n→
    ∃n,(∃x L',I x∧eF C (st x) L' w' a'∧Ev C.nb C.tb L (st x0).H.length (st x0).T w L' (st x).H.length (st x).T w'∧μ x=n)∧
    ∀x L',I x→eF C (st x) L' w' a'→Ev C.nb C.tb L (st x0).H.length (st x0).T w L' (st x).H.length (st x).T w'→n≤μ x:=by
   intro n
   induction n using Nat.strongRecOn with
   |_ n ih=>
    intro x L' h1 h2 h3 h4
    by_cases hs:∃y RR,I y∧eF C (st y) RR w' a'∧Ev C.nb C.tb L (st x0).H.length (st x0).T w RR (st y).H.length (st y).T w'∧μ y<n
    ·obtain⟨y,RR,g1,g2,g3,g4⟩:=hs;exact ih (μ y) g4 y RR g1 g2 g3 rfl
    ·refine⟨n,⟨x,L',h1,h2,h3,h4⟩,fun y RR g1 g2 g3=>?_⟩;rcases lt_or_ge (μ y) n with g|g
     ·exact absurd ⟨y,RR,g1,g2,g3,g⟩ hs
     ·exact g
  exact key _ x L' hI pL dP rfl
 intro a1 w1 hI1;obtain⟨⟨x,L1,hI,pL,dP,hμ⟩,acf⟩:=Classical.epsilon_spec (least a1 w1 hI1);refine wp_mono (round x hI L1 w1 a1 pL) fun e a' w' ⟨s',L',q,c',ev⟩=>?_
 cases e with
 |normal=>
  obtain⟨x',PD,aZ,hwk⟩:=q;have hP:I x'∧eF C (st x') L' w' a'∧Ev C.nb C.tb L (st x0).H.length (st x0).T w L' (st x').H.length (st x').T w':=
   ⟨PD,hwk.mQ c',(dP.trans ev).trans hwk.ev⟩
  refine⟨⟨x',L',hP⟩,?_⟩;obtain⟨_,Uk⟩:=Classical.epsilon_spec (least a' w' ⟨x',L',hP⟩);have h1:=Uk x' L' hP.1 hP.2.1 hP.2.2;rw[←hμ];exact lt_of_le_of_lt h1 aZ
 |_=>exact⟨s',L',q,c',dP.trans ev⟩
theorem jf (w:World)(o:Obj)(b:Nat)(h:b<w.heap.size):(w.alloc o).heap[b]?=w.heap[b]?:=by
 show (w.heap.push o)[b]?=_;rw[Array.getElem?_push,if_neg (by omega)]
theorem eI (w:World)(o:Obj):(w.alloc o).heap[w.heap.size]?=some o:=by
 show (w.heap.push o)[w.heap.size]?=_;rw[Array.getElem?_push,if_pos rfl]
theorem gW {w w':World}{b:Nat}(h:w'.heap[b]?=w.heap[b]?)(o:Nat):w'.cell? ⟨b,o,none⟩=w.cell? ⟨b,o,none⟩:=by
 unfold World.cell?;simp only[h]
theorem fo {w:World}{b:Nat}{c:Array Value}{e:TypeId}{fr:Nat×Nat}(h:w.heap[b]?=some (.cells c e fr))(o:Nat):w.cell? ⟨b,o,none⟩=c[o]?:=by
 unfold World.cell?;simp only[h];simp
theorem bT.drew {L:Lay}{H:List aA}{T:ar}{w w':World}(h:bT L H T w)(hh:w'.heap=w.heap):bT L H T w':=by
 have kp:cS L H.length T w L H.length T w':=⟨le_refl _,fun _ _=>rfl,fun t u z h=>⟨u,h,le_refl _,fun _=>rfl⟩,fun _=>le_refl _,fun b o _=>gW (by rw[hh]) o,rfl⟩
 refine⟨fun i b hb=>?_,h.inj,fun t u z ht=>?_,h.nH,h.jv,fun b hb=>h.mz b (by rw[←hh];exact hb),h.gl.keep kp.m kp.rz⟩
 ·exact(h.box i b hb).stay kp (List.getElem?_eq_some_iff.1 hb).1 (by rw[hh]) id
 ·obtain⟨h1,h2⟩:=h.tok t u z ht;exact⟨h1,fun hs=>by rw[hh];exact h2 hs⟩
theorem Ev.drew {L:Lay}{H:List aA}{T:ar}{w w':World}(hh:w'.heap=w.heap)(ho:w'.os=w.os)(ht:w'.tape=w.tape)(yp:w'.output=w.output)(oH:w.drawn≤w'.drawn) :
  Ev H.length T.length L H.length T w L H.length T w':=
 ⟨le_refl _,fun _ _=>rfl,fun t u z _ h=>⟨u,h,le_refl _,fun _=>rfl⟩,le_refl _,fun _=>le_refl _,fun b o _=>gW (by rw[hh]) o,by rw[hh];exact le_refl _,
  fun b _ _=>by rw[hh],fun b hb=>.inl hb,ho,ht,yp,fun _=>oH,rfl⟩
def Lay.bQ (L:Lay)(b k:Nat):Lay:={ L with m:=fun x=>if x=b then k else L.m x }
def Lay.de (L:Lay)(i b:Nat):Lay:={ L with bN:=fun x=>if x=i then b else L.bN x }
def Lay.bh (L:Lay)(t:Nat)(k:Tk):Lay:={ L with dM:=fun x=>if x=t then k else L.dM x }
theorem Ev.alloc {L:Lay}{H:List aA}{T:ar}{w:World}(h:bT L H T w)(o:Obj)(k:Nat) :
  Ev H.length T.length L H.length T w (L.bQ w.heap.size k) H.length T (w.alloc o):=by
 refine⟨le_refl _,fun _ _=>rfl,fun t u z _ h=>⟨u,h,le_refl _,fun _=>rfl⟩,le_refl _,fun b=>?_,fun b o' ho=>?_,by simp,fun b hb _=>jf w o b hb,
  fun b hb=>.inl hb,rfl,rfl,rfl,fun _=>le_refl _,rfl⟩
 ·show L.m b≤if b=w.heap.size then k else L.m b
  split
  ·rename_i e;rw[h.mz b (by omega)];exact Nat.zero_le _
  ·exact le_refl _
 ·have hb:b<w.heap.size:=by
   rcases lt_or_ge b w.heap.size with h1|h1
   ·exact h1
   ·rw[h.mz b h1] at ho;omega
  exact gW (jf w o b hb) o'
theorem bT.alloc {L:Lay}{H:List aA}{T:ar}{w:World}(h:bT L H T w)(o:Obj)(k:Nat):bT (L.bQ w.heap.size k) H T (w.alloc o):=by
 have kp:=(Ev.alloc h o k).keeps;refine⟨fun i b hb=>?_,h.inj,fun t u z ht=>?_,h.nH,h.jv,fun b hb=>?_,h.gl.keep kp.m kp.rz⟩
 ·have aZ:=(h.box i b hb).lt;refine(h.box i b hb).stay kp (List.getElem?_eq_some_iff.1 hb).1 (jf w o _ aZ) fun h5=>?_;show (if L.bN i=w.heap.size then k else L.m (L.bN i))=0;rw[if_neg (by omega)];exact h5
 ·obtain⟨h1,h2⟩:=h.tok t u z ht;refine⟨h1,fun hs=>?_⟩;have aZ:=h.CW ht hs;obtain⟨c,e,fr,g1,g2,g3,g4⟩:=h2 hs;refine⟨c,e,fr,by show (w.alloc o).heap[(L.dM t).b]?=_;rw[jf w o _ aZ];exact g1,g2,g3,?_⟩;show (if (L.dM t).b=w.heap.size then k else L.m (L.dM t).b)≤_;rw[if_neg (by omega)];exact g4
 ·have:w.heap.size+1≤b:=by simpa using hb
  show (if b=w.heap.size then k else L.m b)=0;rw[if_neg (by omega)];exact h.mz b (by omega)
theorem bT.uD {L:Lay}{H:List aA}{T:ar}{w:World}(h:bT L H T w){b:Nat}(hb:w.heap.size≤b):¬Wr L H.length T b:=fun hw=>by
 have:=h.TY hw;omega
theorem bT.p7 {L:Lay}{H:List aA}{T:ar}{w:World}(h:bT L H T w)(b:Nat)(hb:¬Wr L H.length T b)(nf:aA)(hz:w.heap.size≤b→False)
  (pS:lg (L.de H.length b) (H.length+1) T w H.length nf):bT (L.de H.length b) (H++[nf]) T w:=by
 have qp:∀i,i<H.length→(L.de H.length b).bN i=L.bN i:=fun i hi=>by simp only[Lay.de];rw[if_neg (by omega)]
 have uj:(L.de H.length b).bN H.length=b:=by simp[Lay.de]
 have kp:cS L H.length T w (L.de H.length b) (H++[nf]).length T w:=
  ⟨by simp,fun i hi=>qp i hi,fun t u z h=>⟨u,h,le_refl _,fun _=>rfl⟩,fun _=>le_refl _,fun _ _ _=>rfl,rfl⟩
 have fO:∀i,i<H.length→L.bN i≠b:=fun i hi e=>hb (.inl ⟨i,hi,e⟩);refine⟨fun i x hx=>?_,fun i j hi hj e=>?_,fun t u z ht=>h.tok t u z ht,h.nH,fun t u z i ht hs hi=>?_,h.mz,h.gl.keep kp.m kp.rz⟩
 ·rcases lt_or_ge i H.length with hi|hi
  ·rw[getElem?_append_left hi] at hx;have:=(h.box i x hx).stay kp hi rfl id;exact this
  ·have gX:i=H.length:=by
    have:=(List.getElem?_eq_some_iff.1 hx).1;simp at this;omega
   subst gX;simp at hx;subst hx;simpa using pS
 ·simp at hi hj;rcases lt_or_ge i H.length with gX|gX<;>rcases lt_or_ge j H.length with bR|bR
  ·rw[qp i gX,qp j bR] at e;exact h.inj i j gX bR e
  ·have:j=H.length:=by omega
   subst this;rw[qp i gX,uj] at e;exact absurd e (fO i gX)
  ·have:i=H.length:=by omega
   subst this;rw[qp j bR,uj] at e;exact absurd e.symm (fO j bR)
  ·omega
 ·simp at hi;rcases lt_or_ge i H.length with gX|gX
  ·rw[qp i gX];exact h.jv t u z i ht hs gX
  ·have:i=H.length:=by omega
   subst this;rw[uj];intro e;exact hb (.inr ⟨t,u,z,ht,hs,e⟩)
theorem Ev.p7 {L L1:Lay}{H:List aA}{T:ar}{w w1:World}{b:Nat}(nf:aA)(h:Ev H.length T.length L H.length T w L1 H.length T w1)(hb:w.heap.size≤b) :
  Ev H.length T.length L H.length T w (L1.de H.length b) (H++[nf]).length T w1:=by
 refine⟨by simp,fun i hi=>?_,h.tok,h.t,h.m,h.rz,h.size,h.frame,fun x hx=>?_,h.os,h.tape,h.output,h.drawn,h.dr⟩
 ·simp only[Lay.de];rw[if_neg (by omega)];exact h.bN i hi
 ·rcases hx with⟨i,hi,e⟩|⟨t,u,z,ht,hs,e⟩
  ·simp at hi;rcases lt_or_ge i H.length with gX|gX
   ·exact h.wr x (.inl ⟨i,gX,by simp only[Lay.de] at e;rwa [if_neg (by omega)] at e⟩)
   ·have:i=H.length:=by omega
    subst this;simp[Lay.de] at e;exact .inr (by omega)
  ·exact h.wr x (.inr ⟨t,u,z,ht,hs,e⟩)
theorem bT.my {L:Lay}{H:List aA}{T:ar}{w:World}(h:bT L H T w)(k:Tk)(u z:Nat)(hb:u<k.c*z→¬Wr L H.length T k.b)
  (iG:wS (L.bh T.length k) w T.length u z):bT (L.bh T.length k) H (T++[(u,z)]) w:=by
 have pQ:∀t,t<T.length→(L.bh T.length k).dM t=L.dM t:=fun t ht=>by simp only[Lay.bh];rw[if_neg (by omega)]
 have uj:(L.bh T.length k).dM T.length=k:=by simp[Lay.bh]
 have kp:cS L H.length T w (L.bh T.length k) H.length (T++[(u,z)]) w:=by
  refine⟨le_refl _,fun i hi=>rfl,fun t u' z' ht=>?_,fun _=>le_refl _,fun _ _ _=>rfl,rfl⟩;have aZ:=(List.getElem?_eq_some_iff.1 ht).1;exact⟨u',by rw[getElem?_append_left aZ];exact ht,le_refl _,fun _=>pQ t aZ⟩
 have part:∀t u' z',(T++[(u,z)])[t]?=some (u',z')→(t<T.length∧T[t]?=some (u',z'))∨(t=T.length∧u'=u∧z'=z):=by
  intro t u' z' ht;rcases lt_or_ge t T.length with aZ|jE
  ·rw[getElem?_append_left aZ] at ht;exact .inl ⟨aZ,ht⟩
  ·have h1:=(List.getElem?_eq_some_iff.1 ht).1;simp at h1;have:t=T.length:=by omega
   subst this;simp at ht;exact .inr ⟨rfl,ht.1.symm,ht.2.symm⟩
 refine⟨fun i b hb=>?_,h.inj,fun t u' z' ht=>?_,fun t u1 z1 t' u2 z2 h1 h2 s1 s2 e=>?_,fun t u1 z1 i h1 s1 hi=>?_,h.mz,h.gl.keep kp.m kp.rz⟩
 ·exact(h.box i b hb).stay kp (List.getElem?_eq_some_iff.1 hb).1 rfl id
 ·rcases part t u' z' ht with⟨aZ,ht⟩|⟨rfl,rfl,rfl⟩
  ·have:=h.tok t u' z' ht;unfold wS at this ⊢;rw[pQ t aZ];exact this
  ·exact iG
 ·rcases part t u1 z1 h1 with⟨aZ,g1⟩|⟨rfl,e1,e2⟩<;>rcases part t' u2 z2 h2 with⟨nu,g2⟩|⟨rfl,e3,e4⟩
  ·rw[pQ _ aZ] at s1 e;rw[pQ _ nu] at s2 e;exact h.nH t u1 z1 t' u2 z2 g1 g2 s1 s2 e
  ·rw[pQ _ aZ] at s1 e;rw[uj] at s2 e;rw[e3,e4] at s2;exact absurd (.inr ⟨t,u1,z1,g1,s1,e⟩) (hb s2)
  ·rw[pQ _ nu] at s2 e;rw[uj] at s1 e;rw[e1,e2] at s1;exact absurd (.inr ⟨t',u2,z2,g2,s2,e.symm⟩) (hb s1)
  ·rfl
 ·rcases part t u1 z1 h1 with⟨aZ,h1⟩|⟨rfl,rfl,rfl⟩
  ·rw[pQ _ aZ] at s1 ⊢;exact h.jv t u1 z1 i h1 s1 hi
  ·rw[uj] at s1 ⊢;exact fun e=>hb s1 (.inl ⟨i,hi,e.symm⟩)
theorem Ev.my {L L1:Lay}{H:List aA}{T:ar}{w w1:World}{k:Tk}{u z:Nat}(h:Ev H.length T.length L H.length T w L1 H.length T w1)(hb:u<k.c*z→w.heap.size≤k.b∨Wr L H.length T k.b) :
  Ev H.length T.length L H.length T w (L1.bh T.length k) H.length (T++[(u,z)]) w1:=by
 refine⟨h.n,h.bN,fun t u' z' ht hT=>?_,by simp,h.m,h.rz,h.size,h.frame,fun x hx=>?_,h.os,h.tape,h.output,h.drawn,h.dr⟩
 ·obtain⟨u1,h1,h2,h3⟩:=h.tok t u' z' ht hT;refine⟨u1,by rw[getElem?_append_left ht];exact h1,h2,fun e=>?_⟩;simp only[Lay.bh];rw[if_neg (by omega)];exact h3 e
 ·rcases hx with⟨i,hi,e⟩|⟨t,u1,z1,ht,hs,e⟩
  ·exact h.wr x (.inl ⟨i,hi,e⟩)
  ·rcases lt_or_ge t T.length with aZ|jE
   ·rw[getElem?_append_left aZ] at ht;simp only[Lay.bh] at hs e;rw[if_neg (by omega)] at hs e;exact h.wr x (.inr ⟨t,u1,z1,ht,hs,e⟩)
   ·have h1:=(List.getElem?_eq_some_iff.1 ht).1;simp at h1;have:t=T.length:=by omega
    subst this;simp at ht;simp[Lay.bh] at hs e;obtain⟨rfl,rfl⟩:=ht;subst e;rcases hb hs with g|g
    ·exact .inr g
    ·exact .inl g
theorem mV (w:World)(b o:Nat)(v:Value){c:Array Value}{e:TypeId}{fr:Nat×Nat}(h:w.heap[b]?=some (.cells c e fr)) :
  (w.setCell ⟨b,o,none⟩ v).heap[b]?=some (.cells (c.setIfInBounds o v) e fr):=by
 show (w.heap.modify b _)[b]?=_;rw[Array.getElem?_modify,if_pos rfl,h];rfl
theorem fu (w:World)(b o:Nat)(v:Value)(x:Nat)(hx:x≠b):(w.setCell ⟨b,o,none⟩ v).heap[x]?=w.heap[x]?:=by
 simp only[World.setCell,Array.getElem?_modify];rw[if_neg (fun e=>hx e.symm)]
theorem bT.setCell {L:Lay}{H:List aA}{T:ar}{w:World}(h:bT L H T w){i o:Nat}{vs:List AV}(hi:H[i]?=some (.cells vs))(ho:o<vs.length){v:AV}{cv:Value}
  (hv:bc L H.length T w v cv) (h1:cv.oneCell'=true) :
  bT L (H.set i (.cells (vs.set o v))) T (w.setCell ⟨L.bN i,o,none⟩ cv)∧
   Ev H.length T.length L H.length T w L (H.set i (.cells (vs.set o v))).length T (w.setCell ⟨L.bN i,o,none⟩ cv):=by
 have cC:=(List.getElem?_eq_some_iff.1 hi).1;obtain⟨c,t,fr,g1,g2,g3,vO,g4,g5⟩:=h.box i _ hi;have qq:∀b o',o'<L.m b→(w.setCell ⟨L.bN i,o,none⟩ cv).cell? ⟨b,o',none⟩=w.cell? ⟨b,o',none⟩:=by
  intro b o' aZ;refine gW (fu w _ _ _ _ ?_) o';rintro rfl;omega
 have kp:cS L H.length T w L H.length T (w.setCell ⟨L.bN i,o,none⟩ cv):=
  ⟨le_refl _,fun _ _=>rfl,fun t u z h=>⟨u,h,le_refl _,fun _=>rfl⟩,fun _=>le_refl _,qq,rfl⟩
 refine⟨⟨fun j b hb=>?_,fun a b ha hb=>h.inj a b (by simpa using ha) (by simpa using hb),fun t u z ht=>?_,h.nH,fun t u z j ht hs hj=>h.jv t u z j ht hs (by simpa using hj),fun b hb=>h.mz b (by simpa using hb),h.gl.keep kp.m kp.rz⟩,
  by simp,fun _ _=>rfl,fun t u z _ h=>⟨u,h,le_refl _,fun _=>rfl⟩,le_refl _,fun _=>le_refl _,qq,by simp,fun b hb hn=>?_,fun b hb=>.inl (by simpa using hb),rfl,rfl,rfl,fun _=>le_refl _,rfl⟩
 ·rw[length_set]
  by_cases sZ:i=j
  ·subst sZ;rw[getElem?_set_self cC] at hb
   cases hb
   refine⟨_,t,fr,mV w _ _ _ g1,fun o' IX=>g2 o' (by simpa using IX),by simpa using g3,fun j hj=>?_,fun j hj bR=>?_,g5⟩
   ·by_cases OB:o=j
    ·subst OB;simpa using h1
    ·rw[Array.getElem_setIfInBounds_ne (by simpa using hj) OB];exact vO j _
   ·by_cases OB:o=j
    ·subst OB;simpa using hv.keep kp
    ·rw[Array.getElem_setIfInBounds_ne (by simpa using bR) OB,List.getElem_set_ne OB];exact(g4 j (by simpa using hj) (by simpa using bR)).keep kp
  ·rw[getElem?_set_ne sZ] at hb;have hx:=h.box j b hb;have ph:=(List.getElem?_eq_some_iff.1 hb).1;have dA:L.bN j≠L.bN i:=fun e=>sZ (h.inj j i ph cC e).symm;exact hx.stay kp ph (fu w _ _ _ _ dA) id
 ·obtain⟨k1,k2⟩:=h.tok t u z ht;refine⟨k1,fun hs=>?_⟩;rw[fu _ _ _ _ _ (h.jv t u z i ht hs cC)];exact k2 hs
 ·exact fu w _ _ _ _ (fun e=>hn (.inl ⟨i,cC,e.symm⟩))
theorem bT.setIter {L:Lay}{H:List aA}{T:ar}{w:World}(h:bT L H T w){i pos pos':Nat}{s:List UInt8}(hi:H[i]?=some (.iter s pos)) :
  bT L (H.set i (.iter s pos')) T { w with heap:=w.heap.setIfInBounds (L.bN i) (.stringIter ⟨s.toArray⟩ pos') }∧
   Ev H.length T.length L H.length T w L (H.set i (.iter s pos')).length T { w with heap:=w.heap.setIfInBounds (L.bN i) (.stringIter ⟨s.toArray⟩ pos') }:=by
 have cC:=(List.getElem?_eq_some_iff.1 hi).1;have hx:w.heap[L.bN i]?=some (.stringIter ⟨s.toArray⟩ pos):=h.box i _ hi;have dA:∀x,x≠L.bN i→(w.heap.setIfInBounds (L.bN i) (.stringIter ⟨s.toArray⟩ pos'))[x]?=w.heap[x]?:=fun x hx=>Array.getElem?_setIfInBounds_ne (fun e=>hx e.symm);have qq:∀b o',o'<L.m b→World.cell? { w with heap:=w.heap.setIfInBounds (L.bN i) (.stringIter ⟨s.toArray⟩ pos') } ⟨b,o',none⟩=w.cell? ⟨b,o',none⟩:=by
  intro b o' aZ
  by_cases hb:b=L.bN i
  ·subst hb;have nu:=h.lE cC;have h1:(w.heap.setIfInBounds (L.bN i) (.stringIter ⟨s.toArray⟩ pos'))[L.bN i]?=some (.stringIter ⟨s.toArray⟩ pos'):=by simp[nu]
   unfold World.cell?;simp only[hx,h1]
  ·exact gW (dA b hb) o'
 have kp:cS L H.length T w L H.length T { w with heap:=w.heap.setIfInBounds (L.bN i) (.stringIter ⟨s.toArray⟩ pos') }:=
  ⟨le_refl _,fun _ _=>rfl,fun t u z h=>⟨u,h,le_refl _,fun _=>rfl⟩,fun _=>le_refl _,qq,rfl⟩
 refine⟨⟨fun j b hb=>?_,fun a b ha hb=>h.inj a b (by simpa using ha) (by simpa using hb),fun t u z ht=>?_,h.nH,fun t u z j ht hs hj=>h.jv t u z j ht hs (by simpa using hj),fun b hb=>h.mz b (by simpa using hb),h.gl.keep kp.m kp.rz⟩,
  by simp,fun _ _=>rfl,fun t u z _ h=>⟨u,h,le_refl _,fun _=>rfl⟩,le_refl _,fun _=>le_refl _,qq,by simp,fun b hb hn=>?_,fun b hb=>.inl (by simpa using hb),rfl,rfl,rfl,fun _=>le_refl _,rfl⟩
 ·rw[length_set]
  by_cases sZ:i=j
  ·subst sZ;rw[getElem?_set_self cC] at hb
   cases hb
   have:=h.lE cC;simp[lg,this]
  ·rw[getElem?_set_ne sZ] at hb;have hx:=h.box j b hb;have ph:=(List.getElem?_eq_some_iff.1 hb).1;have hnj:L.bN j≠L.bN i:=fun e=>sZ (h.inj j i ph cC e).symm;exact hx.stay kp ph (dA _ hnj) id
 ·obtain⟨k1,k2⟩:=h.tok t u z ht;refine⟨k1,fun hs=>?_⟩;have:=dA _ (h.jv t u z i ht hs cC);simp only[this];exact k2 hs
 ·exact dA _ (fun e=>hn (.inl ⟨i,cC,e.symm⟩))
theorem bT.grow {L:Lay}{H:List aA}{T:ar}{w w':World}(h:bT L H T w){t u z k:Nat}(ht:T[t]?=some (u,z))(hk:0<k)(hs:u+k≤(L.dM t).c*z)
  {c c':Array Value} {e:TypeId} {fr:Nat×Nat} (hb:w.heap[(L.dM t).b]?=some (.cells c e fr)) (vN:w'.heap[(L.dM t).b]?=some (.cells c' e fr)) (iQ:c'.size=c.size)
  (hold:∀j,j<(L.dM t).o+u→c'[j]?=c[j]?) (dA:∀x,x≠(L.dM t).b→w'.heap[x]?=w.heap[x]?) (hz:w'.heap.size=w.heap.size) (ho:w'.os=w.os) (Sq:w'.tape=w.tape) (yp:w'.output=w.output) (oH:w.drawn≤w'.drawn) :
  bT (L.bQ (L.dM t).b ((L.dM t).o+u+k)) H (T.set t (u+k,z)) w'∧
   Ev H.length T.length L H.length T w (L.bQ (L.dM t).b ((L.dM t).o+u+k)) H.length (T.set t (u+k,z)) w':=by
 have pg:=(List.getElem?_eq_some_iff.1 ht).1;obtain⟨vS,rE⟩:=h.tok t u z ht;have CA:u<(L.dM t).c*z:=by omega
 obtain⟨c0,e0,fr0,g1,g2,g3,g4⟩:=rE CA;rw[hb] at g1
 cases g1
 have MT:=h.CW ht CA;have qq:∀b o',o'<L.m b→w'.cell? ⟨b,o',none⟩=w.cell? ⟨b,o',none⟩:=by
  intro b o' aZ
  by_cases IG:b=(L.dM t).b
  ·subst IG;rw[fo hb,fo vN];exact hold o' (by omega)
  ·exact gW (dA b IG) o'
 have OX:∀b,L.m b≤(L.bQ (L.dM t).b ((L.dM t).o+u+k)).m b:=by
  intro b;show L.m b≤if b=(L.dM t).b then _ else L.m b
  split
  ·rename_i e;rw[e];omega
  ·exact le_refl _
 have I9:∀(t' u' z':Nat),T[t']?=some (u',z')→∃u1:Nat,(T.set t (u+k,z))[t']?=some (u1,z')∧u'≤u1∧(u1=u'→(L.bQ (L.dM t).b ((L.dM t).o+u+k)).dM t'=L.dM t'):=by
  intro t' u' z' oF
  by_cases sW:t=t'
  ·subst sW;rw[ht] at oF
   cases oF
   exact⟨u+k,by rw[getElem?_set_self pg],by omega,fun _=>rfl⟩
  ·exact⟨u',by rw[getElem?_set_ne sW];exact oF,le_refl _,fun _=>rfl⟩
 have kp:cS L H.length T w (L.bQ (L.dM t).b ((L.dM t).o+u+k)) H.length (T.set t (u+k,z)) w':=
  ⟨le_refl _,fun _ _=>rfl,I9,OX,qq,rfl⟩
 have pS:∀i,i<H.length→L.bN i≠(L.dM t).b:=fun i hi=>(h.jv t u z i ht CA hi).symm;have back:∀(t' u' z':Nat),(T.set t (u+k,z))[t']?=some (u',z')→∃u0:Nat,T[t']?=some (u0,z')∧u0≤u':=by
  intro t' u' z' oF
  by_cases sW:t=t'
  ·subst sW;rw[getElem?_set_self pg] at oF
   cases oF
   exact⟨u,ht,by omega⟩
  ·rw[getElem?_set_ne sW] at oF;exact⟨u',oF,le_refl _⟩
 refine⟨⟨fun i b Pz=>?_,h.inj,fun t' u' z' oF=>?_,fun t1 u1 z1 t2 u2 z2 h1 h2 s1 s2 e=>?_,fun t1 u1 z1 i h1 s1 hi=>?_,fun b hbz=>?_,h.gl.keep kp.m kp.rz⟩,
  le_refl _,fun _ _=>rfl,fun t' u' z' _ oF=>I9 t' u' z' oF,by simp,OX,qq,by omega,fun b sr hn=>?_,fun b th=>?_,ho,Sq,yp,fun _=>oH,rfl⟩
 ·have hx:=h.box i b Pz;have cC:=(List.getElem?_eq_some_iff.1 Pz).1;have hn:=pS i cC;refine hx.stay kp cC (dA _ hn) fun k5=>?_;show (if L.bN i=(L.dM t).b then _ else L.m (L.bN i))=0;rw[if_neg hn];exact k5
 ·by_cases sW:t=t'
  ·subst sW;rw[getElem?_set_self pg] at oF
   cases oF
   refine⟨vS,fun P9=>⟨c',e,fr,vN,by rw[iQ];exact g2,fun o' h1 h2=>g3 o' (by simp only[Lay.bQ] at h1;omega) h2,?_⟩⟩;show (if (L.dM t).b=(L.dM t).b then _ else _)≤_;rw[if_pos rfl];simp only[Lay.bQ];omega
  ·rw[getElem?_set_ne sW] at oF;obtain⟨k1,k2⟩:=h.tok t' u' z' oF;refine⟨k1,fun P9=>?_⟩;have hbn:(L.dM t').b≠(L.dM t).b:=fun e=>sW (h.nH t' u' z' t u z oF ht P9 CA e).symm;obtain⟨c1,e1,fr1,m1,m2,m3,m4⟩:=k2 P9;refine⟨c1,e1,fr1,(dA _ hbn).trans m1,m2,m3,?_⟩;show (if (L.dM t').b=(L.dM t).b then _ else L.m (L.dM t').b)≤_;rw[if_neg hbn];exact m4
 ·obtain⟨Pj,g1,l1⟩:=back t1 u1 z1 h1;obtain⟨u2',g2,l2⟩:=back t2 u2 z2 h2;have YV:Pj<(L.dM t1).c*z1:=lt_of_le_of_lt l1 s1;have s2':u2'<(L.dM t2).c*z2:=lt_of_le_of_lt l2 s2;exact h.nH t1 Pj z1 t2 u2' z2 g1 g2 YV s2' e
 ·obtain⟨Pj,g1,l1⟩:=back t1 u1 z1 h1;have YV:Pj<(L.dM t1).c*z1:=lt_of_le_of_lt l1 s1;exact h.jv t1 Pj z1 i g1 YV hi
 ·show (if b=(L.dM t).b then _ else L.m b)=0;rw[if_neg (by omega)];exact h.mz b (by omega)
 ·exact dA b (fun e=>hn (.inr ⟨t,u,z,ht,CA,e.symm⟩))
 ·rcases th with⟨i,hi,e⟩|⟨t',u',z',oF,vU,e⟩
  ·exact .inl (.inl ⟨i,hi,e⟩)
  ·obtain⟨Pj,g1,l1⟩:=back t' u' z' oF;exact .inl (.inr ⟨t',Pj,z',g1,lt_of_le_of_lt l1 vU,e⟩)
theorem bT.CY {L:Lay}{H:List aA}{T:ar}{w:World}(h:bT L H T w){t u z u':Nat}(ht:T[t]?=some (u,z))(hu:u<u')(k:Tk)
  (hb:u'<k.c*z→¬Wr L H.length T k.b) (iG:wS (L.bh t k) w t u' z):bT (L.bh t k) H (T.set t (u',z)) w:=by
 have pg:=(List.getElem?_eq_some_iff.1 ht).1;have pQ:∀t',t'≠t→(L.bh t k).dM t'=L.dM t':=fun t' hn=>by simp only[Lay.bh];rw[if_neg hn]
 have uj:(L.bh t k).dM t=k:=by simp[Lay.bh]
 have kp:cS L H.length T w (L.bh t k) H.length (T.set t (u',z)) w:=by
  refine⟨le_refl _,fun i hi=>rfl,fun t' u1 z1 oF=>?_,fun _=>le_refl _,fun _ _ _=>rfl,rfl⟩
  by_cases sW:t'=t
  ·subst sW;rw[ht] at oF
   cases oF
   exact⟨u',by rw[getElem?_set_self pg],by omega,fun e=>by omega⟩
  ·exact⟨u1,by rw[getElem?_set_ne (fun e=>sW e.symm)];exact oF,le_refl _,fun _=>pQ t' sW⟩
 have part:∀(t' u1 z1:Nat),(T.set t (u',z))[t']?=some (u1,z1)→(t'≠t∧T[t']?=some (u1,z1))∨(t'=t∧u1=u'∧z1=z):=by
  intro t' u1 z1 h1
  by_cases sW:t'=t
  ·subst sW;rw[getElem?_set_self pg] at h1
   cases h1
   exact .inr ⟨rfl,rfl,rfl⟩
  ·rw[getElem?_set_ne (fun e=>sW e.symm)] at h1;exact .inl ⟨sW,h1⟩
 refine⟨fun i b Pz=>?_,h.inj,fun t' u1 z1 h1=>?_,fun t1 u1 z1 t2 u2 z2 h1 h2 s1 s2 e=>?_,fun t1 u1 z1 i h1 s1 hi=>?_,h.mz,h.gl.keep kp.m kp.rz⟩
 ·exact(h.box i b Pz).stay kp (List.getElem?_eq_some_iff.1 Pz).1 rfl id
 ·rcases part t' u1 z1 h1 with⟨hn,g1⟩|⟨rfl,e1,e2⟩
  ·have:=h.tok t' u1 z1 g1;unfold wS at this ⊢;rw[pQ t' hn];exact this
  ·rw[e1,e2];exact iG
 ·rcases part t1 u1 z1 h1 with⟨zp,g1⟩|⟨r1,e1,e2⟩<;>rcases part t2 u2 z2 h2 with⟨wF,g2⟩|⟨r2,e3,e4⟩
  ·rw[pQ _ zp] at s1 e;rw[pQ _ wF] at s2 e;exact h.nH t1 u1 z1 t2 u2 z2 g1 g2 s1 s2 e
  ·rw[pQ _ zp] at s1 e;rw[r2,uj] at s2 e;rw[e3,e4] at s2;exact absurd (.inr ⟨t1,u1,z1,g1,s1,e⟩) (hb s2)
  ·rw[pQ _ wF] at s2 e;rw[r1,uj] at s1 e;rw[e1,e2] at s1;exact absurd (.inr ⟨t2,u2,z2,g2,s2,e.symm⟩) (hb s1)
  ·rw[r1,r2]
 ·rcases part t1 u1 z1 h1 with⟨zp,g1⟩|⟨r1,e1,e2⟩
  ·rw[pQ _ zp] at s1 ⊢;exact h.jv t1 u1 z1 i g1 s1 hi
  ·rw[r1,uj] at s1 ⊢;rw[e1,e2] at s1;exact fun e=>hb s1 (.inl ⟨i,hi,e.symm⟩)
theorem Ev.CY {L L1:Lay}{H:List aA}{T:ar}{w w1:World}{k:Tk}{t u z u':Nat}(h:Ev H.length T.length L H.length T w L1 H.length T w1)(ht:T[t]?=some (u,z))(hu:u<u')
  (hb:u'<k.c*z→w.heap.size≤k.b):Ev H.length T.length L H.length T w (L1.bh t k) H.length (T.set t (u',z)) w1:=by
 have pg:=(List.getElem?_eq_some_iff.1 ht).1;refine⟨h.n,h.bN,fun t' u1 z1 aZ hT=>?_,by simp,h.m,h.rz,h.size,h.frame,fun x hx=>?_,h.os,h.tape,h.output,h.drawn,h.dr⟩
 ·obtain⟨u2,h1,h2,h3⟩:=h.tok t' u1 z1 aZ hT;rw[hT] at h1
  by_cases sW:t'=t
  ·subst sW;rw[ht] at hT
   cases hT
   exact⟨u',by rw[getElem?_set_self pg],by omega,fun e=>by omega⟩
  ·refine⟨u1,by rw[getElem?_set_ne (fun e=>sW e.symm)];exact hT,le_refl _,fun e=>?_⟩;simp only[Lay.bh];rw[if_neg sW]
   cases h1
   exact h3 rfl
 ·rcases hx with⟨i,hi,e⟩|⟨t',u1,z1,h1,hs,e⟩
  ·exact h.wr x (.inl ⟨i,hi,e⟩)
  ·by_cases sW:t'=t
   ·subst sW;rw[getElem?_set_self pg] at h1
    cases h1
    simp[Lay.bh] at hs e;subst e;exact .inr (hb hs)
   ·rw[getElem?_set_ne (fun e=>sW e.symm)] at h1;simp only[Lay.bh] at hs e;rw[if_neg sW] at hs e;exact h.wr x (.inr ⟨t',u1,z1,h1,hs,e⟩)
def wc:Value→AV
 |.bool b=>.bool b
 |.int k n=>.int k n
 |.string s=>.str s.data.toList
 |.pointer none=>.fc
 |.slice _ 0 0=>.sl 0 [] .full
 |.nilFunc=>.hZ
 |.nilIface=>.ly
 |_=>.top
def Mh:Value→AV
 |.agg cs=>if cs.all (·.oneCell') then .agg (cs.toList.map wc) else .top
 |v=>wc v
def bK (e:Env):Operand→AV
 |.tmp t=>bF e t
 |.const v=>Mh v
 |.func f=>.fn f [] []
 |.global _=>.top
def yE:AV→Bool
 |.top|.agg _|.df _=>false
 |_=>true
section
variable {L : Lay} {N : Nat} {T : ar} {w : World}
theorem bc.wc (v:Value):bc L N T w (wc v) v:=by
 unfold Am.wc
 split
 ·exact .bool _
 ·exact .int _ _
 ·rename_i s;exact .str s.data.toList
 ·exact .fc
 ·exact .wD .full _ 0 rfl
 ·exact .hZ
 ·exact .ly
 ·exact .top _
theorem bc.Mh (v:Value):bc L N T w (Mh v) v:=by
 unfold Am.Mh
 split
 ·rename_i cs
  split
  ·rename_i h;rw[Array.all_eq_true] at h;refine .agg _ cs (by simp) (fun j hj=>h j hj) (fun j hj bR=>?_);simp only[getElem_map,Array.getElem_toList];exact .wc _
  ·exact .top _
 ·exact .wc _
theorem ew.bK {e:Env}{a:Act}(h:ew L N T w e a)(x:Operand):bc L N T w (bK e x) (a.eval x):=by
 cases x with
 |tmp t=>exact h t
 |const v=>exact .Mh v
 |func f=>exact .fn f [] [] #[] #[] rfl rfl (fun j hj=>by simp at hj) (fun j hj=>by simp at hj)
 |global g=>exact .top _
theorem bc.dC {k:IntKind}{n:Int}{c:Value}(h:bc L N T w (.int k n) c):c=.int k n:=by cases h;rfl
theorem bc.iC {b:Bool}{c:Value}(h:bc L N T w (.bool b) c):c=.bool b:=by cases h;rfl
theorem bc.gK {s:List UInt8}{c:Value}(h:bc L N T w (.str s) c):c=.string ⟨s.toArray⟩:=by cases h;rfl
theorem bc.AS {c:Value}(h:bc L N T w .ly c):c=.nilIface:=by cases h;rfl
theorem bc.Ff {c:Value}(h:bc L N T w .yc c):∃t v,c=.iface t v:=by cases h;exact⟨_,_,rfl⟩
theorem bc.mA {i o:Nat}{c:Value}(h:bc L N T w (.ptr i o) c):c=.pointer (some ⟨L.bN i,o,none⟩)∧i<N:=by cases h;exact⟨rfl,‹_›⟩
theorem bc.cell {v:AV}{c:Value}(h:bc L N T w v c)(hc:yE v=true):c.oneCell'=true:=by
 cases h<;>simp[yE] at hc<;>rfl
end
def Good (P:Program)(x:Sem Next)(H:List aA)(T:ar)(L:Lay)(w:World)(r:AV)(H':List aA)(T':ar):Prop:=
 ∃n cv w' L',x.run P w=.ok n w'∧(n=.value cv∨(n=.skip∧cv=undef))∧bT L' H' T' w'∧bc L' H'.length T' w' r cv∧Ev H.length T.length L H.length T w L' H'.length T' w'
theorem Good.now {P:Program}{x:Sem Next}{H:List aA}{T:ar}{L:Lay}{w:World}{r:AV}{cv:Value}(hc:bT L H T w)(hx:x.run P w=.ok (.value cv) w)(hr:bc L H.length T w r cv):Good P x H T L w r H T:=
 ⟨_,cv,w,L,hx,.inl rfl,hc,hr,Ev.refl (le_refl _) (le_refl _)⟩
def M7 (op : BinOp) (k : IntKind) (a b : Int) : Option AV :=
  match op with
  | .add => some (.int k (k.wrap (a + b)))
  | .sub => some (.int k (k.wrap (a - b)))
  | .mul => some (.int k (k.wrap (a * b)))
  | .quo => if b = 0 then none else some (.int k (k.wrap (a.tdiv b)))
  | .rem => if b = 0 then none else some (.int k (a.tmod b))
  | .and => some (.int k (bits .and k a b))
  | .or => some (.int k (bits .or k a b))
  | .xor => some (.int k (bits .xor k a b))
  | .andNot => some (.int k (bits .andNot k a b))
  | .eql => some (.bool (a == b))
  | .neq => some (.bool (a != b))
  | .lss => some (.bool (decide (a < b)))
  | .leq => some (.bool (decide (a ≤ b)))
  | .gtr => some (.bool (decide (a > b)))
  | .geq => some (.bool (decide (a ≥ b)))
  | _ => none
def M4 (op:BinOp)(a b:List UInt8):Option AV:=
 match op with
 |.add=>if a.length+b.length≤9223372036854775807 then some (.str (a++b)) else none
 |.eql=>some (.bool (a==b))
 |.neq=>some (.bool (!(a==b)))
 |.lss=>some (.bool (Op.bytesLess a b))
 |.leq=>some (.bool (Op.bytesLess a b||a==b))
 |.gtr=>some (.bool (!(Op.bytesLess a b||a==b)))
 |.geq=>some (.bool (!Op.bytesLess a b))
 |_=>none
def M8 (op:BinOp)(x y:AV):Option AV:=
 match x,y with
 |.int k a,.int k' b=>
  match op with
  |.shl=>if 0≤b then some (.int k (k.wrap (a*2 ^ min b.toNat k.bits))) else none
  |.shr=>if 0≤b then some (.int k (a.fdiv (2 ^ min b.toNat k.bits))) else none
  |op=>if k=k' then M7 op k a b else none
 |.str a,.str b=>M4 op a b
 |.bool a,.bool b=>match op with
  |.eql=>some (.bool (a==b))
  |.neq=>some (.bool (!(a==b)))
  |_=>none
 |.fc,.fc=>match op with|.eql=>some (.bool true)|.neq=>some (.bool false)|_=>none
 |.ptr _ _,.fc|.dK _ _,.fc|.fc,.ptr _ _|.fc,.dK _ _=>match op with|.eql=>some (.bool false)|.neq=>some (.bool true)|_=>none
 |_,_=>none
def Xo (op:UnOp)(x:AV):Option AV:=
 match op,x with
 |.neg,.int k n=>some (.int k (k.wrap (0-n)))
 |.xor,.int k n=>some (.int k (bits .xor k (if k.signed then -1 else k.max) n))
 |.not,.bool b=>some (.bool (!b))
 |_,_=>none
section
variable {P : Program} {w : World}
theorem KE {op : BinOp} {k : IntKind} {a b : Int} {r : AV} (h : M7 op k a b = some r) (t : TypeId) (h1 : op ≠ .shl) (h2 : op ≠ .shr) :
    ∃ cv, (binOp op t (.int k a) (.int k b)).run P w = .ok cv w ∧ ∀ (L : Lay) (N : Nat) (T : ar) (w' : World), bc L N T w' r cv := by
  cases op <;> simp only [M7, Option.some.injEq, reduceCtorEq] at h
  case quo =>
    split at h
    · cases h
    · rename_i hb
      cases h
      exact ⟨_, by simp [binOp, Op.intDiv, hb], fun _ _ _ _ => .int _ _⟩
  case rem =>
    split at h
    · cases h
    · rename_i hb
      cases h
      exact ⟨_, by simp [binOp, Op.intDiv, hb], fun _ _ _ _ => .int _ _⟩
  all_goals
    subst h
    first
      | exact ⟨_, by simp [binOp, Op.intArith]; rfl, fun _ _ _ _ => .int _ _⟩
      | exact ⟨_, by simp [binOp, Op.intCmp], fun _ _ _ _ => .bool _⟩
      | exact ⟨_, by simp [binOp, Op.intBits]; rfl, fun _ _ _ _ => .int _ _⟩
theorem toList_mk (s:List UInt8):(⟨s.toArray⟩:ByteArray).toList=s:=by
 rw[show (⟨s.toArray⟩:ByteArray).toList=(⟨s.toArray⟩:ByteArray).data.toList from ByteArray.toList_eq _]
theorem Ht (a b:List UInt8):(⟨a.toArray⟩:ByteArray)++⟨b.toArray⟩=⟨(a++b).toArray⟩:=by
 apply ByteArray.ext;simp
theorem Kz {op:BinOp}{a b:List UInt8}{r:AV}(h:M4 op a b=some r)(t:TypeId) :
  ∃cv,(binOp op t (.string ⟨a.toArray⟩) (.string ⟨b.toArray⟩)).run P w=.ok cv w∧∀(L:Lay)(N:Nat)(T:ar)(w':World),bc L N T w' r cv:=by
 have hi:IntKind.i64.max=9223372036854775807:=by decide
 cases op<;>simp only[M4,Option.some.injEq,reduceCtorEq] at h
 case add=>
  split at h
  ·rename_i hb
   cases h
   refine⟨.string ⟨(a++b).toArray⟩,?_,fun _ _ _ _=>.str _⟩;have:¬((a.length+b.length:Nat):Int)>IntKind.i64.max:=by rw[hi];omega
   simp only[binOp,Op.stringOp];rw[if_neg (by simpa[ByteArray.size] using this),Ht];rfl
  ·cases h
 all_goals
  subst h;exact⟨_,by simp only[binOp,Op.stringOp,toList_mk];rfl,fun _ _ _ _=>.bool _⟩
theorem mU (op:BinOp)(t:TypeId)(x y:Operand)(a b:Value)(h:(∀cs,a≠.agg cs)∧a≠.nilIface):(eqGuard op t x y a b).run P w=.ok () w:=by
 unfold eqGuard
 cases a<;>first|exact absurd rfl h.2|exact absurd rfl (h.1 _)|(cases op<;>simp)
theorem Nu {op:UnOp}{x r:AV}{c:Value}{L:Lay}{N:Nat}{T:ar}(h:Xo op x=some r)(hx:bc L N T w x c) :
  ∃cv,(Op.unary op c).run P w=.ok cv w∧∀(L:Lay)(N:Nat)(T:ar)(w':World),bc L N T w' r cv:=by
 unfold Xo at h
 split at h
 ·cases h;rw[hx.dC];exact⟨_,rfl,fun _ _ _ _=>.int _ _⟩
 ·cases h;rw[hx.dC];exact⟨_,rfl,fun _ _ _ _=>.int _ _⟩
 ·cases h;rw[hx.iC];exact⟨_,rfl,fun _ _ _ _=>.bool _⟩
 ·cases h
def rM (P:Program)(t:TypeId)(x:AV):Bool:=
 match P.underlying t,x with
 |some .bool,.bool _=>true
 |some (.pointer _),.fc|some (.pointer _),.ptr _ _|some (.pointer _),.dK _ _=>true
 |some _,.int _ _|some _,.str _=>true
 |_,_=>false
theorem jQ (t:TypeId)(x y:Value)(b:Bool)(op:BinOp)(ho:op=.eql∨op=.neq)(hb:binOp .eql t x y=(do pure (.bool (←Op.equal t x y))))(vN:binOp .neq t x y=(do pure (.bool (!(←Op.equal t x y)))))
  (h:∀d:Nat,(Op.equalIn (d+1) t x y).run P w=.ok b w):(binOp op t x y).run P w=.ok (.bool (if op=.eql then b else !b)) w:=by
 have h1:(Op.equal t x y).run P w=.ok b w:=h 9999;rcases ho with rfl|rfl
 ·rw[hb];simp only[Sem.run_bind,h1,Result.andThen_ok];rfl
 ·rw[vN];simp only[Sem.run_bind,h1,Result.andThen_ok];rfl
theorem KG {op : BinOp} {x y r : AV} {cx cy : Value} {L : Lay} {N : Nat} {T : ar} (t : TypeId) (h : M8 op x y = some r) (ht : rM P t x = true) (hx : bc L N T w x cx) (hy : bc L N T w y cy) (ox oy : Operand) :
    ∃ cv, (eqGuard op t ox oy cx cy >>= fun _ => binOp op t cx cy).run P w = .ok cv w ∧ ∀ (L : Lay) (N : Nat) (T : ar) (w' : World), bc L N T w' r cv := by
  have hg : (∀ cs, cx ≠ .agg cs) ∧ cx ≠ .nilIface := by
    cases hx <;> first | (exfalso; simp [rM] at ht; done) | exact ⟨fun _ e => (by cases e), fun e => (by cases e)⟩
  simp only [Sem.run_bind, mU op t ox oy cx cy hg, Result.andThen_ok];unfold M8 at h
  split at h
  · rw [hx.dC, hy.dC]
    split at h
    · split at h
      · rename_i hb
        cases h
        refine ⟨_, ?_, fun _ _ _ _ => .int _ _⟩;simp only [binOp, Op.shift];rw [if_neg (by omega)];rfl
      · cases h
    · split at h
      · rename_i hb
        cases h
        refine ⟨_, ?_, fun _ _ _ _ => .int _ _⟩;simp only [binOp, Op.shift];rw [if_neg (by omega)];rfl
      · cases h
    · split at h
      · rename_i hk;subst hk;exact KE h t ‹_› ‹_›
      · cases h
  · rw [hx.gK, hy.gK];exact Kz h t
  · rename_i a b;rw [hx.iC, hy.iC];have hu : P.underlying t = some .bool := by
      unfold rM at ht; split at ht <;> simp_all
    have he : ∀ d : Nat, (Op.equalIn (d + 1) t (.bool a) (.bool b)).run P w = .ok (a == b) w := fun d => by simp [Op.equalIn, run_underlying hu]
    split at h <;> cases h
    · exact ⟨_, jQ t _ _ _ .eql (.inl rfl) rfl rfl he, fun _ _ _ _ => .bool _⟩
    · exact ⟨_, jQ t _ _ _ .neq (.inr rfl) rfl rfl he, fun _ _ _ _ => .bool _⟩
  all_goals first
    | (have hu : ∃ e, P.underlying t = some (.pointer e) := by
        unfold rM at ht; split at ht <;> simp_all
       obtain ⟨e, hu⟩ := hu
       cases hx
       cases hy
       split at h <;> cases h
       · exact ⟨_, jQ t _ _ _ .eql (.inl rfl) rfl rfl (fun d => by simp only [Op.equalIn, Sem.run_bind, run_underlying hu, Result.andThen_ok]; rfl), fun _ _ _ _ => .bool _⟩
       · exact ⟨_, jQ t _ _ _ .neq (.inr rfl) rfl rfl (fun d => by simp only [Op.equalIn, Sem.run_bind, run_underlying hu, Result.andThen_ok]; rfl), fun _ _ _ _ => .bool _⟩)
    | cases h
end
theorem eB (b o j:Nat):(⟨b,o,none⟩:Addr).add j=⟨b,o+j,none⟩:=by
 unfold Addr.add
 split
 ·rename_i h;subst h;rfl
 ·rfl
def cz (L:Lay)(N:Nat)(T:ar)(w:World)(vs:List AV)(c:List Value):Prop:=
 c.length=vs.length∧(∀(j:Nat)(h':j<c.length),(c[j]'h').oneCell'=true)∧∀(j:Nat)(h:j<vs.length)(h':j<c.length),bc L N T w (vs[j]'h) (c[j]'h')
section
variable {L : Lay} {N : Nat} {T : ar} {w : World}
theorem cz.nil:cz L N T w [] []:=⟨rfl,fun _ h=>by simp at h,fun _ h=>by simp at h⟩
theorem cz.one {v:AV}{c:Value}(h:bc L N T w v c)(h1:c.oneCell'=true):cz L N T w [v] [c]:=
 ⟨rfl,fun j hj=>by simp at hj;subst hj;exact h1,fun j hj _=>by simp at hj;subst hj;exact h⟩
theorem cz.append {a b:List AV}{c d:List Value}(h:cz L N T w a c)(k:cz L N T w b d):cz L N T w (a++b) (c++d):=by
 refine⟨by simp[h.1,k.1],fun j hj=>?_,fun j hj bR=>?_⟩
 ·rw[List.getElem_append]
  split
  ·exact h.2.1 _ _
  ·exact k.2.1 _ _
 ·rw[List.getElem_append,List.getElem_append]
  by_cases aZ:j<a.length
  ·rw[dif_pos aZ,dif_pos (by rw[h.1];exact aZ)];exact h.2.2 _ _ _
  ·rw[dif_neg aZ,dif_neg (by rw[h.1];exact aZ)];have:=k.2.2 (j-a.length) (by simp at hj;omega) (by simp at bR;rw[h.1] at bR;omega);simpa[h.1] using this
theorem cz.drop {a:List AV}{c:List Value}(h:cz L N T w a c)(k:Nat):cz L N T w (a.drop k) (c.drop k):=by
 refine⟨by simp[h.1],fun j hj=>?_,fun j hj bR=>?_⟩
 ·rw[List.getElem_drop];exact h.2.1 _ _
 ·rw[List.getElem_drop,List.getElem_drop];exact h.2.2 _ _ _
theorem cz.take {a:List AV}{c:List Value}(h:cz L N T w a c)(k:Nat):cz L N T w (a.take k) (c.take k):=by
 refine⟨by simp[h.1],fun j hj=>?_,fun j hj bR=>?_⟩
 ·rw[List.getElem_take];exact h.2.1 _ _
 ·rw[List.getElem_take,List.getElem_take];exact h.2.2 _ _ _
theorem cz.keep {L':Lay}{N':Nat}{T':ar}{w':World}{a:List AV}{c:List Value}(k:cS L N T w L' N' T' w')(h:cz L N T w a c):cz L' N' T' w' a c:=
 ⟨h.1,h.2.1,fun j hj bR=>(h.2.2 j hj bR).keep k⟩
theorem cz.set {a:List AV}{c:List Value}(h:cz L N T w a c)(i:Nat){v:AV}{x:Value}(hv:bc L N T w v x)(h1:x.oneCell'=true):cz L N T w (a.set i v) (c.set i x):=by
 refine⟨by simp[h.1],fun j hj=>?_,fun j hj bR=>?_⟩
 ·rw[getElem_set]
  split
  ·exact h1
  ·exact h.2.1 _ _
 ·rw[getElem_set,getElem_set]
  split
  ·exact hv
  ·exact h.2.2 _ _ _
theorem cz.agg {a:List AV}{c:List Value}(h:cz L N T w a c):bc L N T w (.agg a) (.agg c.toArray):=
 .agg a c.toArray (by simpa using h.1) (fun j hj=>by simpa using h.2.1 j (by simpa using hj)) (fun j hj bR=>by simpa using h.2.2 j hj (by simpa using bR))
theorem cz.yz {a:List AV}{c:Array Value}(h:bc L N T w (.agg a) (.agg c)):cz L N T w a c.toList:=by
 cases h with
 |agg _ _ h1 h2 hr=>exact⟨by simpa using h1,fun j hj=>by simpa using h2 j (by simpa using hj),fun j hj bR=>by simpa using hr j hj (by simpa using bR)⟩
end
def PK (v:AV):Option (List AV):=
 match v with
 |.agg cs=>some cs
 |v=>if yE v then some [v] else none
theorem y3 {L:Lay}{N:Nat}{T:ar}{w:World}{v:AV}{c:Value}{xs:List AV}(h:PK v=some xs)(hv:bc L N T w v c):cz L N T w xs c.cells.toList:=by
 unfold PK at h
 split at h
 ·cases h
  cases hv with
  |agg _ _ h1 h2 hr=>exact cz.yz (.agg _ _ h1 h2 hr)
 ·rename_i hn
  split at h
  ·rename_i hc
   cases h
   have h1:=hv.cell hc;have:c.cells=#[c]:=by cases c<;>first|rfl|(simp[Value.oneCell'] at h1)
   rw[this];exact cz.one hv h1
  ·cases h
def iT (P:Program)(t:TypeId):Option Bool:=
 match P.underlying t with
 |some (.struct _)|some (.array _ _)=>some true
 |some _=>some false
 |none=>none
theorem jV {P:Program}{t:TypeId}{b:Bool}(h:iT P t=some b)(w:World):(isAgg t).run P w=.ok b w:=by
 unfold iT at h
 split at h<;>cases h
 ·rename_i hu;simp[isAgg,run_underlying hu]
 ·rename_i hu;simp[isAgg,run_underlying hu]
 ·rename_i d zp wF hu;simp only[isAgg,Sem.run_bind,run_underlying hu,Result.andThen_ok]
  cases d<;>first|rfl|exact absurd rfl (zp _)|exact absurd rfl (wF _ _)
theorem NT {P:Program}{t:TypeId}{d:TypeDesc}(h:P.underlying t=some d):∃i,P.info? t=some i:=info_of_underlying h
theorem cI {P:Program}{t:TypeId}{d:TypeDesc}(h:P.underlying t=some d)(w:World):(sizeOf t).run P w=.ok (P.cellsOf t) w:=by
 obtain⟨i,hi⟩:=NT h;exact run_sizeOf w hi
def Jt (H:List aA)(p:AV):Option (List AV×Nat):=
 match p with
 |.ptr i o=>match H[i]? with
  |some (.cells vs)=>some (vs,o)
  |_=>none
 |.dK cs o=>some (cs,o)
 |_=>none
theorem lg.at {L:Lay}{N:Nat}{T:ar}{w:World}{i:Nat}{vs:List AV}(h:lg L N T w i (.cells vs)) :
  ∃c:Array Value,cz L N T w vs c.toList∧∀j,w.cell? ⟨L.bN i,j,none⟩=c[j]?:=by
 obtain⟨c,t,fr,h1,h2,h3,PF,h4,h5⟩:=h;exact⟨c,⟨by simpa using h3,fun j hj=>by simpa using PF j (by simpa using hj),fun j hj bR=>by simpa using h4 j hj (by simpa using bR)⟩,fun j=>fo h1 j⟩
theorem vC {L:Lay}{H:List aA}{T:ar}{w:World}{p:AV}{c:Value}{vs:List AV}{o:Nat}(hc:bT L H T w)(hp:bc L H.length T w p c)(h:Jt H p=some (vs,o)) :
  ∃(b base:Nat) (cv:List Value),c=.pointer (some ⟨b,base+o,none⟩)∧cz L H.length T w vs cv∧∀j,j<vs.length→w.cell? ⟨b,base+j,none⟩=cv[j]?:=by
 unfold Jt at h
 split at h
 ·rename_i i o'
  split at h
  ·rename_i vs' hi
   cases h
   cases hp with
   |ptr _ _ aZ=>
    obtain⟨c,h1,h2⟩:=(hc.box i _ hi).at;exact⟨L.bN i,0,c.toList,by simp,h1,fun j _=>by simpa using h2 j⟩
  ·cases h
 ·cases h
  cases hp with
  |dK _ _ b base f hm ki h1 hr=>
   refine⟨b,base,(List.range vs.length).map f,rfl,⟨by simp,fun j hj=>by simpa using h1 j (by simpa using hj),fun j hj bR=>by simpa using hr j hj⟩,fun j hj=>?_⟩;rw[ki j hj];simp[hj]
 ·cases h
def pD (P:Program)(t:TypeId)(vs:List AV)(o:Nat):Option AV:=
 match iT P t with
 |some true=>if o+P.cellsOf t≤vs.length then some (.agg ((vs.drop o).take (P.cellsOf t))) else none
 |some false=>if o<vs.length then some (vs.getD o .top) else none
 |none=>none
theorem sE {P:Program}{t:TypeId}{L:Lay}{N:Nat}{T:ar}{w:World}{vs:List AV}{o b base:Nat}{cv:List Value}{r:AV}(hr:cz L N T w vs cv)
  (hc:∀j,j<vs.length→w.cell? ⟨b,base+j,none⟩=cv[j]?) (h:pD P t vs o=some r):∃c,(loadVar t ⟨b,base+o,none⟩).run P w=.ok c w∧bc L N T w r c:=by
 unfold pD at h
 split at h
 ·rename_i zC
  split at h
  ·rename_i hle
   cases h
   have hu:∃d,P.underlying t=some d:=by
    unfold iT at zC
    cases hx:P.underlying t with
    |none=>simp[hx] at zC
    |some d=>exact⟨d,rfl⟩
   obtain⟨d,hu⟩:=hu;have L8:cv.length=vs.length:=hr.1;refine⟨.agg ((cv.drop o).take (P.cellsOf t)).toArray,?_,((hr.drop o).take _).agg⟩;have hl:=run_loadCells (P:=P) w ⟨b,base+o,none⟩ (P.cellsOf t) (fun j=>(cv[o+j]?).getD undef) (fun j hj=>by
    rw[eB,show base+o+j=base+(o+j) by omega,hc _ (by omega)];have:o+j<cv.length:=by omega
    simp[this])
   simp only[loadVar,Sem.run_bind,jV zC,Result.andThen_ok,if_true,cI hu,hl];show Result.ok _ _=Result.ok _ _
   congr 3
   apply ext_getElem
   ·simp;omega
   ·intro j h1 h2;simp at h1;have:o+j<cv.length:=by omega
    simp[this]
  ·cases h
 ·rename_i zC
  split at h
  ·rename_i aZ;have L8:o<cv.length:=by rw[hr.1];exact aZ
   refine⟨cv[o],?_,?_⟩
   ·have ki:=hc o aZ;rw[List.getElem?_eq_getElem L8] at ki;simp only[loadVar,Sem.run_bind,jV zC,Result.andThen_ok,Bool.false_eq_true,if_false,run_load,ki]
   ·have:=hr.2.2 o aZ L8
    cases h
    simpa[aZ] using this
  ·cases h
 ·cases h
def setMany:List AV→Nat→List AV→List AV
 |vs,_,[]=>vs
 |vs,o,x::r=>setMany (vs.set o x) (o+1) r
theorem lL {P:Program}{L:Lay}{T:ar}(i:Nat)(o:Nat):∀(xs:List AV)(cs:List Value)(k:Nat)(H:List aA)(w:World)(vs:List AV),bT L H T w→cz L H.length T w xs cs→
  H[i]?=some (.cells vs)→o+k+xs.length≤vs.length→
  ∃w',(storeCells ⟨L.bN i,o,none⟩ cs k).run P w=.ok () w'∧bT L (H.set i (.cells (setMany vs (o+k) xs))) T w'∧
   Ev H.length T.length L H.length T w L (H.set i (.cells (setMany vs (o+k) xs))).length T w':=by
 intro xs
 induction xs with
 |nil=>
  intro cs k H w vs hc hr hi hle;have vY:cs=[]:=eq_nil_of_length_eq_zero (by simpa using hr.1);subst vY;have hH:H.set i (.cells (setMany vs (o+k) []))=H:=by
   have aZ:=(List.getElem?_eq_some_iff.1 hi)
   simp only[setMany];apply List.ext_getElem?;intro j
   by_cases hj:i=j
   ·subst hj;rw[getElem?_set_self aZ.1,hi]
   ·rw[getElem?_set_ne hj]
  refine⟨w,rfl,by rw[hH];exact hc,by rw[hH];exact Ev.refl (le_refl _) (le_refl _)⟩
 |cons x r ih=>
  intro cs k H w vs hc hr hi hle
  match cs,hr with
  |c::cr,hr=>
   have cC:=(List.getElem?_eq_some_iff.1 hi).1;have h0:bc L H.length T w x c:=hr.2.2 0 (by simp) (by simp);have h1:c.oneCell'=true:=hr.2.1 0 (by simp);have Pt:cz L H.length T w r cr:=by simpa using hr.drop 1
   obtain⟨cc,t,fr,g1,g2,g3,vO,g4,g5⟩:=hc.box i _ hi;have aZ:o+k<vs.length:=by simp at hle;omega
   obtain⟨nD,Xc⟩:=hc.setCell hi aZ h0 h1;have eM:(store ((⟨L.bN i,o,none⟩:Addr).add k) c).run P w=.ok () (w.setCell ⟨L.bN i,o+k,none⟩ c):=by
    rw[eB,run_store P w _ c _ h1,fo g1];have hk:o+k<cc.size:=by omega
    have Zz:w.frozen? ⟨L.bN i,o+k,none⟩=false:=by
     unfold World.frozen?;simp only[g1];exact g2 _ hk
    simp[hk,Zz]
   have hlen:(H.set i (.cells (vs.set (o+k) x))).length=H.length:=by simp
   obtain⟨w',cK,jg,vM⟩:=ih cr (k+1) (H.set i (.cells (vs.set (o+k) x))) (w.setCell ⟨L.bN i,o+k,none⟩ c) (vs.set (o+k) x) nD (by rw[hlen];exact Pt.keep (by simpa[hlen] using Xc.keeps))
    (getElem?_set_self cC) (by simp at hle ⊢;omega)
   rw[List.set_set] at jg vM;refine⟨w',?_,?_,?_⟩
   ·simp only[storeCells,Sem.run_bind,eM,Result.andThen_ok,cK]
   ·simpa[setMany,add_assoc] using jg
   ·rw[hlen] at vM;have:=Xc.trans (by rw[hlen];exact vM);simpa[setMany,add_assoc] using this
  |[],hr=>simp[cz] at hr
theorem bT.pY {L:Lay}{H:List aA}{T:ar}{w:World}(h:bT L H T w)(c:Array Value)(ty:TypeId){vs:List AV}(hr:cz L H.length T w vs c.toList) :
  ∃L',bT L' (H++[aA.cells vs]) T (w.alloc (.cells c ty))∧Ev H.length T.length L H.length T w L' (H++[aA.cells vs]).length T (w.alloc (.cells c ty))∧L'.bN H.length=w.heap.size:=by
 have h1:=h.alloc (.cells c ty) 0;have e1:=Ev.alloc h (.cells c ty) 0;have Et:¬Wr (L.bQ w.heap.size 0) H.length T w.heap.size:=h.uD (le_refl _);have e2:=Ev.p7 (b:=w.heap.size) (aA.cells vs) e1 (le_refl _);refine⟨(L.bQ w.heap.size 0).de H.length w.heap.size,h1.p7 w.heap.size Et (aA.cells vs) (fun hle=>by simp at hle;omega) ?_,e2,by simp[Lay.de]⟩;have qp:((L.bQ w.heap.size 0).de H.length w.heap.size).bN H.length=w.heap.size:=by simp[Lay.de]
 have Su:=hr.keep e2.keeps;have hl:(H++[aA.cells vs]).length=H.length+1:=by simp
 rw[hl] at Su;refine⟨c,ty,(0,0),by rw[qp];exact eI w _,fun o ho=>by simp,by simpa using hr.1,fun j hj=>?_,fun j hj bR=>?_,?_⟩
 ·have:=hr.2.1 j (by simpa using hj);rwa [Array.getElem_toList] at this
 ·have:=Su.2.2 j hj (by simpa using bR);rwa [Array.getElem_toList] at this
 ·rw[qp];simp[Lay.de,Lay.bQ]
theorem bT.newRow {L:Lay}{H:List aA}{T:ar}{w:World}(h:bT L H T w)(c:Array Value)(ty:TypeId)(fr:Nat×Nat){vs:List AV}(k:Nat)(hk:vs.length≤k)(hr:cz L H.length T w vs (c.toList.take vs.length))(n cap:Nat)(hn:n≤cap)(tg:Tag)(ht:tg=.none∨(tg=.full∧cap=n)) :
  bT (L.bQ w.heap.size k) H T (w.alloc (.cells c ty fr))∧Ev H.length T.length L H.length T w (L.bQ w.heap.size k) H.length T (w.alloc (.cells c ty fr))∧
   bc (L.bQ w.heap.size k) H.length T (w.alloc (.cells c ty fr)) (.sl n vs tg) (.slice (some ⟨w.heap.size,0,none⟩) n cap):=by
 have e1:=Ev.alloc h (.cells c ty fr) k;refine⟨h.alloc (.cells c ty fr) k,e1,?_⟩;have Su:=hr.keep e1.keeps;have hlen:(c.toList.take vs.length).length=vs.length:=hr.1;have iQ:vs.length≤c.size:=by simp at hlen;omega
 refine .LU n vs tg w.heap.size 0 cap (fun j=>c.getD j undef) hn (by simp[Lay.bQ];omega) (fun j hj=>?_) (fun j hj=>?_) (fun j hj=>?_) ?_
 ·rw[fo (eI w _)];have:j<c.size:=by omega
  simp[this]
 ·have:=Su.2.1 j (by rw[hlen];exact hj);have so:j<c.size:=by omega
  simpa[so] using this
 ·have:=Su.2.2 j hj (by rw[hlen];exact hj);have so:j<c.size:=by omega
  simpa[so] using this
 ·rcases ht with rfl|⟨rfl,rfl⟩
  ·trivial
  ·rfl
section
variable {P : Program} {L : Lay} {N : Nat} {T : ar} {w : World}
theorem bc.eO {n:Nat}{cs:List AV}{tg:Tag}{c:Value}(h:bc L N T w (.sl n cs tg) c) :
  ∃a cap,c=.slice a n cap∧n≤cap∧kg L T tg n cs.length a cap∧((cs=[]∧n=0)∨∃(b base:Nat) (cv:List Value),a=some ⟨b,base,none⟩∧base+cs.length≤L.m b∧cz L N T w cs cv∧
   ∀j,j<cs.length→w.cell? ⟨b,base+j,none⟩=cv[j]?):=by
 cases h with
 |wD _ a cap ht=>exact⟨a,cap,rfl,Nat.zero_le _,ht,.inl ⟨rfl,rfl⟩⟩
 |LU _ _ _ b base cap f cg hm hc h1 hr ht=>
  refine⟨_,cap,rfl,cg,ht,.inr ⟨b,base,(List.range cs.length).map f,rfl,hm,⟨by simp,fun j hj=>by simpa using h1 j (by simpa using hj),fun j hj bR=>by simpa using hr j hj⟩,fun j hj=>?_⟩⟩;rw[hc j hj];simp[hj]
theorem bc.Nk {cs:List AV}{b base:Nat}{cv:List Value}(o:Nat)(hm:base+cs.length≤L.m b)(hr:cz L N T w cs cv)(hc:∀j,j<cs.length→w.cell? ⟨b,base+j,none⟩=cv[j]?) :
  bc L N T w (.dK cs o) (.pointer (some ⟨b,base+o,none⟩)):=by
 refine .dK cs o b base (fun j=>cv.getD j undef) hm (fun j hj=>?_) (fun j hj=>?_) (fun j hj=>?_)
 ·have:j<cv.length:=by rw[hr.1];exact hj
  rw[hc j hj];simp[this]
 ·have:j<cv.length:=by rw[hr.1];exact hj
  simpa[this] using hr.2.1 j this
 ·have:j<cv.length:=by rw[hr.1];exact hj
  simpa[this] using hr.2.2 j hj this
theorem bc.kV {n cap:Nat}{cs:List AV}{tg:Tag}{b base:Nat}{cv:List Value}(cg:n≤cap)(hm:base+cs.length≤L.m b)(hr:cz L N T w cs cv)(hc:∀j,j<cs.length→w.cell? ⟨b,base+j,none⟩=cv[j]?)
  (ht:kg L T tg n cs.length (some ⟨b,base,none⟩) cap):bc L N T w (.sl n cs tg) (.slice (some ⟨b,base,none⟩) n cap):=by
 refine .LU n cs tg b base cap (fun j=>cv.getD j undef) cg hm (fun j hj=>?_) (fun j hj=>?_) (fun j hj=>?_) ht
 ·have:j<cv.length:=by rw[hr.1];exact hj
  rw[hc j hj];simp[this]
 ·have:j<cv.length:=by rw[hr.1];exact hj
  simpa[this] using hr.2.1 j this
 ·have:j<cv.length:=by rw[hr.1];exact hj
  simpa[this] using hr.2.2 j hj this
theorem bc.ir {i n cap:Nat}{c:Value}(h:bc L N T w (.bJ i n cap) c):c=.slice (some ⟨L.bN i,0,none⟩) n cap∧n≤cap∧i<N:=by
 cases h with|bJ _ _ _ hi cg=>exact⟨rfl,cg,hi⟩
theorem bc.jb {i o n:Nat}{c:Value}(h:bc L N T w (.bV i o n) c):∃cap,c=.slice (some ⟨L.bN i,o,none⟩) n cap∧n≤cap∧i<N:=by
 cases h with|bV _ _ _ cap hi cg=>exact⟨cap,rfl,cg,hi⟩
def sA (p:AV)(d:Nat):Option AV:=
 match p with
 |.ptr i o=>some (.ptr i (o+d))
 |.dK cs o=>some (.dK cs (o+d))
 |_=>none
theorem bc.sA {p q:AV}{c:Value}{d:Nat}(h:bc L N T w p c)(hq:Am.sA p d=some q):∃a:Addr,c=.pointer (some a)∧bc L N T w q (.pointer (some (a.add d))):=by
 unfold Am.sA at hq
 split at hq
 ·cases hq;cases h with|ptr _ _ hi=>exact⟨_,rfl,by rw[eB];exact .ptr _ _ hi⟩
 ·cases hq;cases h with|dK _ _ b base f hm hc h1 hr=>exact⟨_,rfl,by rw[eB,add_assoc];exact .dK _ _ b base f hm hc h1 hr⟩
 ·cases hq
def mK (P:Program)(s:TypeId)(p:AV)(f:Nat):Option AV:=
 match P.underlying s with
 |some (.struct fs)=>match fs[f]? with
  |some fd=>if (P.underlying fd.type).isSome&&0<P.cellsOf fd.type then sA p fd.offset else none
  |none=>none
 |_=>none
theorem BS {s:TypeId}{p q:AV}{f:Nat}{c:Value}(h:mK P s p f=some q)(hp:bc L N T w p c):∃cv,(Instr.fieldAt s c f).run P w=.ok cv w∧bc L N T w q cv:=by
 unfold mK at h
 split at h
 ·rename_i fs hu
  split at h
  ·rename_i fd hf
   split at h
   ·rename_i hz;simp only[Bool.and_eq_true,decide_eq_true_eq] at hz;obtain⟨d,hd⟩:=Option.isSome_iff_exists.1 hz.1;obtain⟨a,rfl,hr⟩:=hp.sA h;refine⟨_,?_,hr⟩;have:¬P.cellsOf fd.type=0:=by omega
    simp[Instr.fieldAt,run_underlying hu,hf,Instr.sureAddr,fieldPlace,cI hd,this]
   ·cases h
  ·cases h
 ·cases h
def mJ (P:Program)(t:TypeId)(x ix:AV):Option AV:=
 match P.underlying t,x,ix with
 |some (.slice e),.sl n cs _,.int _ i=>if 0≤i∧i<n then (if (P.underlying e).isSome then some (.dK cs (i.toNat*P.cellsOf e)) else none) else none
 |some (.slice e),.bV b o n,.int _ i=>if 0≤i∧i<n then (if (P.underlying e).isSome then some (.ptr b (o+i.toNat*P.cellsOf e)) else none) else none
 |some (.slice e),.bJ b n _,.int _ i=>if 0≤i∧i<n then (if (P.underlying e).isSome then some (.ptr b (0+i.toNat*P.cellsOf e)) else none) else none
 |some (.array len e),p,.int _ i=>if 0≤i∧i<len then (if (P.underlying e).isSome then sA p (i.toNat*P.cellsOf e) else none) else none
 |_,_,_=>none
theorem BR {t:TypeId}{x ix q:AV}{cx ci:Value}(h:mJ P t x ix=some q)(hx:bc L N T w x cx)(hi:bc L N T w ix ci):∃cv,(Instr.indexAt t cx ci).run P w=.ok cv w∧bc L N T w q cv:=by
 unfold mJ at h
 split at h
 ·rename_i e n cs tg k i hu
  split at h
  ·rename_i hb
   split at h
   ·rename_i he;obtain⟨d,hd⟩:=Option.isSome_iff_exists.1 he
    cases h
    rw[hi.dC];obtain⟨a,cap,rfl,cg,_,h0|⟨b,base,cv,rfl,hm,hr,hc⟩⟩:=hx.eO
    ·omega
    ·refine⟨_,?_,bc.Nk (i.toNat*P.cellsOf e) hm hr hc⟩;simp[Instr.indexAt,run_underlying hu,asIntOf,hb,cI hd,eB]
   ·cases h
  ·cases h
 ·rename_i e b o n k i hu
  split at h
  ·rename_i hb
   split at h
   ·rename_i he;obtain⟨d,hd⟩:=Option.isSome_iff_exists.1 he
    cases h
    rw[hi.dC];obtain⟨cap,rfl,cg,aZ⟩:=hx.jb;refine⟨_,?_,bc.ptr b (o+i.toNat*P.cellsOf e) aZ⟩;simp[Instr.indexAt,run_underlying hu,asIntOf,hb,cI hd,eB]
   ·cases h
  ·cases h
 ·rename_i e b n cap k i hu
  split at h
  ·rename_i hb
   split at h
   ·rename_i he;obtain⟨d,hd⟩:=Option.isSome_iff_exists.1 he
    cases h
    rw[hi.dC];obtain⟨rfl,cg,aZ⟩:=hx.ir;refine⟨_,?_,bc.ptr b (0+i.toNat*P.cellsOf e) aZ⟩;simp[Instr.indexAt,run_underlying hu,asIntOf,hb,cI hd,eB]
   ·cases h
  ·cases h
 ·rename_i len e p k i hu
  split at h
  ·rename_i hb
   split at h
   ·rename_i he;obtain⟨d,hd⟩:=Option.isSome_iff_exists.1 he;rw[hi.dC];obtain⟨a,rfl,hr⟩:=hx.sA h;refine⟨_,?_,hr⟩;simp[Instr.indexAt,run_underlying hu,asIntOf,hb,cI hd,Instr.sureAddr]
   ·cases h
  ·cases h
 ·cases h
def yH (P:Program)(t:TypeId)(x ix:AV):Option AV:=
 match P.underlying t,x,ix with
 |some .string,.str s,.int _ i=>if 0≤i∧i<s.length then some (.int .u8 ((s.getD i.toNat 0).toNat:Int)) else none
 |some (.array len e),.agg cs,.int _ i=>if 0≤i∧i<len then pD P e cs (i.toNat*P.cellsOf e) else none
 |_,_,_=>none
theorem AF {t:TypeId}{cs:List AV}{o:Nat}{r:AV}{c:Array Value}(hr:bc L N T w (.agg cs) (.agg c))(h:pD P t cs o=some r):∃cv,(part t c o).run P w=.ok cv w∧bc L N T w r cv:=by
 have Pu:=cz.yz hr;unfold pD at h
 split at h
 ·rename_i zC
  split at h
  ·rename_i hle
   cases h
   have hu:∃d,P.underlying t=some d:=by
    unfold iT at zC
    cases hx:P.underlying t with
    |none=>simp[hx] at zC
    |some d=>exact⟨d,rfl⟩
   obtain⟨d,hu⟩:=hu;refine⟨_,by simp only[part,Sem.run_bind,jV zC,Result.andThen_ok,if_true,cI hu];rfl,?_⟩;have:=((Pu.drop o).take (P.cellsOf t)).agg;have e:(c.extract o (o+P.cellsOf t))=((c.toList.drop o).take (P.cellsOf t)).toArray:=by
    apply Array.ext';simp
   rw[e];exact this
  ·cases h
 ·rename_i zC
  split at h
  ·rename_i aZ
   cases h
   have L8:o<c.toList.length:=by rw[Pu.1];exact aZ
   have jT:o<c.size:=by simpa using L8
   have h3:=Pu.2.2 o aZ L8;refine⟨c[o],?_,by simpa[aZ] using h3⟩;simp only[part,Sem.run_bind,jV zC,Result.andThen_ok,Bool.false_eq_true,if_false,Array.getElem?_eq_getElem jT];rfl
  ·cases h
 ·cases h
theorem GY {t:TypeId}{x ix r:AV}{cx ci:Value}(h:yH P t x ix=some r)(hx:bc L N T w x cx)(hi:bc L N T w ix ci):∃cv,(Instr.index t cx ci).run P w=.ok cv w∧bc L N T w r cv:=by
 unfold yH at h
 split at h
 ·rename_i s k i hu
  split at h
  ·rename_i hb
   cases h
   rw[hi.dC,hx.gK];have aZ:i.toNat<s.length:=by omega
   have e:(⟨s.toArray⟩:ByteArray)[i.toNat]?=some (s.getD i.toNat 0):=by
    rw[ByteArray.getElem?_lt' _ _ (by simpa[ByteArray.size] using aZ)];simp[aZ];rfl
   refine⟨_,?_,.int _ _⟩;simp[Instr.index,run_underlying hu,asIntOf,hb.1,e]
  ·cases h
 ·rename_i len e cs k i hu
  split at h
  ·rename_i hb;rw[hi.dC];have hd:∃d,P.underlying e=some d:=by
    unfold pD iT at h
    cases hx:P.underlying e with
    |none=>simp[hx] at h
    |some d=>exact⟨d,rfl⟩
   obtain⟨d,hd⟩:=hd
   cases hx with
   |agg _ c h1 h2 hr=>
    obtain⟨cv,h3,h4⟩:=AF (.agg cs c h1 h2 hr) h;refine⟨cv,?_,h4⟩;simp[Instr.index,run_underlying hu,asIntOf,hb,cI hd,h3]
  ·cases h
 ·cases h
def yJ (P:Program)(t:TypeId)(x:AV)(f:Nat):Option AV:=
 match P.underlying t,x with
 |some (.struct fs),.agg cs=>match fs[f]? with
  |some fd=>pD P fd.type cs fd.offset
  |none=>none
 |_,_=>none
theorem GZ {t:TypeId}{x r:AV}{f:Nat}{cx:Value}(h:yJ P t x f=some r)(hx:bc L N T w x cx):∃cv,(Instr.field t cx f).run P w=.ok cv w∧bc L N T w r cv:=by
 unfold yJ at h
 split at h
 ·rename_i fs cs hu
  split at h
  ·rename_i fd hf
   cases hx with
   |agg _ c h1 h2 hr=>
    obtain⟨cv,h3,h4⟩:=AF (.agg cs c h1 h2 hr) h;refine⟨cv,?_,h4⟩;simp[Instr.field,run_underlying hu,hf,asAgg,h3]
  ·cases h
 ·cases h
def eP (x:Option AV)(aaV:Nat):Option Nat:=
 match x with
 |none=>some aaV
 |some (.int _ i)=>if 0≤i then some i.toNat else none
 |_=>none
def yG (P:Program)(t:TypeId)(x:AV)(lo hi mx:Option AV):Option AV:=
 match P.underlying t,x,mx with
 |some .string,.str s,none=>
  match eP lo 0,eP hi s.length with
  |some l,some h=>if l≤h∧h≤s.length then some (.str ((s.drop l).take (h-l))) else none
  |_,_=>none
 |some (.slice e),.sl n cs _,none=>
  match eP lo 0,eP hi n with
  |some l,some h=>if l≤h∧h≤n∧l*P.cellsOf e≤cs.length then (if (P.underlying e).isSome then some (.sl (h-l) ((cs.drop (l*P.cellsOf e)).take ((h-l)*P.cellsOf e)) .none) else none) else none
  |_,_=>none
 |some (.slice e),.sl n cs _,some m=>
  match eP lo 0,eP hi n,eP (some m) 0 with
  |some l,some h,some m=>if l≤h∧h≤m∧m≤n∧hi.isSome∧l*P.cellsOf e≤cs.length then (if (P.underlying e).isSome then some (.sl (h-l) ((cs.drop (l*P.cellsOf e)).take ((h-l)*P.cellsOf e)) (if h=m then .full else .none)) else none) else none
  |_,_,_=>none
 |some (.slice e),.bV i o n,none=>
  match eP lo 0,eP hi n with
  |some l,some h=>if l≤h∧h≤n∧(l<n∨l=0) then (if (P.underlying e).isSome then some (.bV i (o+l*P.cellsOf e) (h-l)) else none) else if l=n∧h=n∧(P.underlying e).isSome then some (.sl 0 [] .none) else none
  |_,_=>none
 |some (.array n e),.ptr i o,none=>
  match eP lo 0,eP hi n with
  |some l,some h=>if l≤h∧h≤n∧(l<n∨l=0) then (if (P.underlying e).isSome then some (.bV i (o+l*P.cellsOf e) (h-l)) else none) else none
  |_,_=>none
 |_,_,_=>none
theorem kJ {x:Option AV}{d n:Nat}{c:Option Value}(h:eP x d=some n)(hc:∀v cv,x=some v→c=some cv→bc L N T w v cv)(hs:x.isSome=c.isSome) :
  (x=none∧c=none∧n=d)∨(∃k,c=some (.int k (n:Int))∧x.isSome=true):=by
 cases x with
 |none=>
  cases c with
  |none=>simp[eP] at h;exact .inl ⟨rfl,rfl,h.symm⟩
  |some c=>simp at hs
 |some v=>
  cases c with
  |none=>simp at hs
  |some cv=>
   have hr:=hc v cv rfl rfl
   cases v<;>simp only[eP,reduceCtorEq] at h
   rename_i k i
   split at h
   ·rename_i hi
    cases h
    right
    rw[hr.dC];exact⟨k,by rw[Int.toNat_of_nonneg hi],rfl⟩
   ·cases h
theorem gq {k:IntKind}{n y:Nat}(h:n≤y)(code:BoundsCode):(Instr.sliceBound (.int k (n:Int)) y code).run P w=.ok n w:=by
 have:(0:Int)≤(n:Int)∧(n:Int)≤(y:Int):=by omega
 simp[Instr.sliceBound,asIntOf];intro hh;omega
theorem kG {isS:Bool}{len cap l h:Nat}{lo hi:Option AV}{cl ch:Option Value}(hl:eP lo 0=some l)(hh:eP hi len=some h)(h1:l≤h)(h2:h≤len)(h3:len≤cap)
  (rl:∀v cv,lo=some v→cl=some cv→bc L N T w v cv) (rh:∀v cv,hi=some v→ch=some cv→bc L N T w v cv) (sl:lo.isSome=cl.isSome) (sh:hi.isSome=ch.isSome) :
  (Instr.sliceBounds isS len cap cl ch none).run P w=.ok (l,h,cap) w:=by
 rcases kJ hl rl sl with⟨_,e1,e2⟩|⟨k,e1,_⟩<;>rcases kJ hh rh sh with⟨_,e3,e4⟩|⟨k',e3,_⟩<;>subst e1<;>subst e3
 ·subst e2;subst e4;simp[Instr.sliceBounds]
 ·subst e2;simp[Instr.sliceBounds,gq (w:=w) (P:=P) (k:=k') (n:=h) (y:=cap) (by omega)]
 ·subst e4;simp[Instr.sliceBounds,gq (w:=w) (P:=P) (k:=k) (n:=l) (y:=h) h1]
 ·simp[Instr.sliceBounds,gq (w:=w) (P:=P) (k:=k') (n:=h) (y:=cap) (by omega),gq (w:=w) (P:=P) (k:=k) (n:=l) (y:=h) h1]
theorem BT {len cap l h m:Nat}{lo hi:Option AV}{x:AV}{cl ch:Option Value}{cm:Value}(hl:eP lo 0=some l)(hh:eP hi len=some h)(hm:eP (some x) 0=some m)(h1:l≤h)(h2:h≤m)(h4:m≤cap)(his:hi.isSome=true)
  (rl:∀v cv,lo=some v→cl=some cv→bc L N T w v cv) (rh:∀v cv,hi=some v→ch=some cv→bc L N T w v cv) (rm:bc L N T w x cm) (sl:lo.isSome=cl.isSome) (sh:hi.isSome=ch.isSome) :
  (Instr.sliceBounds true len cap cl ch (some cm)).run P w=.ok (l,h,m) w:=by
 have em:∃k,cm=.int k (m:Int):=by
  rcases kJ (c:=some cm) hm (fun v cv e1 e2=>by cases e1;cases e2;exact rm) rfl with⟨e,_⟩|⟨k,e,_⟩
  ·cases e
  ·exact⟨k,by cases e;rfl⟩
 obtain⟨km,rfl⟩:=em;rcases kJ hh rh sh with⟨e,_⟩|⟨k',e3,_⟩
 ·subst e;simp at his
 subst e3;rcases kJ hl rl sl with⟨_,e1,e2⟩|⟨k,e1,_⟩<;>subst e1
 ·subst e2;simp[Instr.sliceBounds,gq (w:=w) (P:=P) (k:=km) (n:=m) (y:=cap) h4,gq (w:=w) (P:=P) (k:=k') (n:=h) (y:=m) h2]
 ·simp[Instr.sliceBounds,gq (w:=w) (P:=P) (k:=km) (n:=m) (y:=cap) h4,gq (w:=w) (P:=P) (k:=k') (n:=h) (y:=m) h2,gq (w:=w) (P:=P) (k:=k) (n:=l) (y:=h) h1]
theorem bc.sub {n:Nat}{cs:List AV}{tg:Tag}{a:Option Addr}{cap:Nat}(hx:bc L N T w (.sl n cs tg) (.slice a n cap))(l h m z:Nat)(h1:l≤h)(h2:h≤n)(h3:h≤m)(hlen:l*z≤cs.length)(Mg:Tag)(ht:Mg=.none∨(Mg=.full∧h=m)) :
  bc L N T w (.sl (h-l) ((cs.drop (l*z)).take ((h-l)*z)) Mg) (.slice (if m=l then a else a.map (·.add (l*z))) (h-l) (m-l)):=by
 obtain⟨a',jO,e,cg,_,h0⟩:=hx.eO
 cases e
 have tok:∀a'',kg L T Mg (h-l) ((cs.drop (l*z)).take ((h-l)*z)).length a'' (m-l):=by
  intro a'';rcases ht with rfl|⟨rfl,rfl⟩
  ·trivial
  ·rfl
 rcases h0 with⟨rfl,rfl⟩|⟨b,base,cv,rfl,hm,hr,hc⟩
 ·have:h-l=0:=by omega
  have e2:=tok (if m=l then a else a.map (·.add (l*z)));rw[this] at e2 ⊢;simp at e2 ⊢;exact .wD _ _ _ e2
 ·by_cases hY:m=l
  ·have:h-l=0:=by omega
   have e2:=tok (if m=l then some ⟨b,base,none⟩ else (some (⟨b,base,none⟩:Addr)).map (·.add (l*z)));rw[this] at e2 ⊢;simp at e2 ⊢;exact .wD _ _ _ e2
  ·rw[if_neg hY];simp only[Option.map_some,eB];have Pt:=(hr.drop (l*z)).take ((h-l)*z);have e2:=tok (some ⟨b,base+l*z,none⟩);refine bc.kV (by omega) ?_ Pt (fun j hj=>?_) e2
   ·simp;omega
   ·have vW:j<(h-l)*z∧j<cs.length-l*z:=by simpa[Nat.lt_min] using hj
    rw[add_assoc,hc _ (by omega)];simp[vW.1]
theorem GW {t:TypeId}{x r:AV}{lo hi mx:Option AV}{cx:Value}{cl ch cm:Option Value}(h:yG P t x lo hi mx=some r)(hx:bc L N T w x cx)
  (rl:∀v cv,lo=some v→cl=some cv→bc L N T w v cv) (rh:∀v cv,hi=some v→ch=some cv→bc L N T w v cv) (rm:∀v cv,mx=some v→cm=some cv→bc L N T w v cv)
  (sl:lo.isSome=cl.isSome) (sh:hi.isSome=ch.isSome) (sm:mx.isSome=cm.isSome):∃cv,(Instr.sliceAt t cx cl ch cm).run P w=.ok cv w∧bc L N T w r cv:=by
 unfold yG at h
 split at h
 ·rename_i s hu
  cases cm with|some _=>simp at sm|none=>
  split at h
  ·rename_i l hh e1 e2
   split at h
   ·rename_i hb
    cases h
    have tj:=kG (P:=P) (isS:=false) (cap:=s.length) e1 e2 hb.1 hb.2 (le_refl _) rl rh sl sh;rw[hx.gK];refine⟨_,?_,.str _⟩;simp only[Instr.sliceAt,Sem.run_bind,run_underlying hu,Result.andThen_ok,Instr.slice];have iQ:(⟨s.toArray⟩:ByteArray).size=s.length:=by simp[ByteArray.size]
    simp only[iQ,tj,Sem.run_bind,Result.andThen_ok,Option.isSome_none,Bool.false_eq_true,if_false,ByteArray.extract_mk];rfl
   ·cases h
  ·cases h
 ·rename_i e n cs tg hu
  cases cm with|some _=>simp at sm|none=>
  split at h
  ·rename_i l hh e1 e2
   split at h
   ·rename_i hb
    split at h
    ·rename_i he;obtain⟨d,hd⟩:=Option.isSome_iff_exists.1 he
     cases h
     obtain⟨a,cap,rfl,cg,_,_⟩:=hx.eO;have tj:=kG (P:=P) (isS:=true) (cap:=cap) e1 e2 hb.1 hb.2.1 cg rl rh sl sh;refine⟨_,?_,hx.sub l hh cap (P.cellsOf e) hb.1 hb.2.1 (by omega) hb.2.2 .none (.inl rfl)⟩;simp only[Instr.sliceAt,Sem.run_bind,run_underlying hu,Result.andThen_ok,Instr.slice,tj,cI hd];rfl
    ·cases h
   ·cases h
  ·cases h
 ·rename_i e n cs tg m hu
  cases cm with|none=>simp at sm|some cm=>
  split at h
  ·rename_i l hh mm e1 e2 e3
   split at h
   ·rename_i hb
    split at h
    ·rename_i he;obtain⟨d,hd⟩:=Option.isSome_iff_exists.1 he
     cases h
     obtain⟨a,cap,rfl,cg,_,_⟩:=hx.eO;have tj:=BT (P:=P) (cap:=cap) e1 e2 e3 hb.1 hb.2.1 (by omega) hb.2.2.2.1 rl rh (rm _ _ rfl rfl) sl sh;refine⟨_,?_,hx.sub l hh mm (P.cellsOf e) hb.1 (by omega) hb.2.1 hb.2.2.2.2 (if hh=mm then .full else .none) ?_⟩
     ·simp only[Instr.sliceAt,Sem.run_bind,run_underlying hu,Result.andThen_ok,Instr.slice,tj,cI hd];rfl
     ·split
      ·exact .inr ⟨rfl,‹_›⟩
      ·exact .inl rfl
    ·cases h
   ·cases h
  ·cases h
 ·rename_i e i o n hu
  cases cm with|some _=>simp at sm|none=>
  split at h
  ·rename_i l hh e1 e2
   split at h
   ·rename_i hb
    split at h
    ·rename_i he;obtain⟨d,hd⟩:=Option.isSome_iff_exists.1 he
     cases h
     obtain⟨cap,rfl,cg,aZ⟩:=hx.jb;have tj:=kG (P:=P) (isS:=true) (cap:=cap) e1 e2 hb.1 hb.2.1 cg rl rh sl sh;refine⟨.slice (some ⟨L.bN i,o+l*P.cellsOf e,none⟩) (hh-l) (cap-l),?_,.bV _ _ _ _ aZ (by omega)⟩;simp only[Instr.sliceAt,Sem.run_bind,run_underlying hu,Result.andThen_ok,Instr.slice,tj,cI hd]
     by_cases fK:cap=l
     ·have IC:l=0:=by omega
      subst IC;subst fK;simp
     ·rw[if_neg fK];simp[eB]
    ·cases h
   ·split at h
    ·rename_i hb;obtain⟨q1,q2,he⟩:=hb;subst q2;subst q1;obtain⟨d,hd⟩:=Option.isSome_iff_exists.1 he
     cases h
     obtain⟨cap,rfl,cg,aZ⟩:=hx.jb;have tj:=kG (P:=P) (isS:=true) (cap:=cap) e1 e2 (le_refl _) (le_refl _) cg rl rh sl sh;refine⟨.slice (if cap=l then some ⟨L.bN i,o,none⟩ else some ⟨L.bN i,o+l*P.cellsOf e,none⟩) 0 (cap-l),?_,.wD _ _ _ trivial⟩;simp only[Instr.sliceAt,Sem.run_bind,run_underlying hu,Result.andThen_ok,Instr.slice,tj,cI hd]
     by_cases fK:cap=l
     ·rw[if_pos fK,if_pos fK];simp
     ·rw[if_neg fK,if_neg fK];simp[eB]
    ·cases h
  ·cases h
 ·rename_i n e i o hu
  cases cm with|some _=>simp at sm|none=>
  split at h
  ·rename_i l hh e1 e2
   split at h
   ·rename_i hb
    split at h
    ·rename_i he;obtain⟨d,hd⟩:=Option.isSome_iff_exists.1 he
     cases h
     obtain⟨rfl,aZ⟩:=hx.mA;have tj:=kG (P:=P) (isS:=false) (cap:=n) e1 e2 hb.1 hb.2.1 (le_refl _) rl rh sl sh;refine⟨.slice (some ⟨L.bN i,o+l*P.cellsOf e,none⟩) (hh-l) (n-l),?_,.bV _ _ _ _ aZ (by omega)⟩;simp only[Instr.sliceAt,Sem.run_bind,run_underlying hu,Result.andThen_ok,Instr.sureAddr,tj,cI hd,Sem.run_pure]
     by_cases fK:n=l
     ·have IC:l=0:=by omega
      subst IC;subst fK;simp
     ·rw[if_neg fK];simp[eB]
    ·cases h
   ·cases h
  ·cases h
 ·cases h
end
def qu (s:List UInt8):List AV:=s.map fun b=>.int .u8 (b.toNat:Int)
def I6:AV→Option UInt8
 |.int .u8 n=>some (UInt8.ofNat n.toNat)
 |_=>none
def bytesOf (cs:List AV):Option (List UInt8):=cs.mapM I6
theorem zl (s:List UInt8):bytesOf (qu s)=some s:=by
 induction s with
 |nil=>rfl
 |cons b r ih=>
  unfold bytesOf qu at ih ⊢;simp only[map_cons,mapM_cons,ih];simp[I6]
def fN (H:List aA)(z:Nat)(x:AV):Option (Nat×List AV):=
 match x with
 |.sl m cs _=>if cs.length=m*z then some (m,cs) else none
 |.bV i o m=>match H[i]? with
  |some (.cells vs)=>if o+m*z≤vs.length then some (m,(vs.drop o).take (m*z)) else none
  |_=>none
 |.str s=>if z=1 then some (s.length,qu s) else none
 |_=>none
section
variable {P : Program} {L : Lay} {H : List aA} {T : ar} {w : World}
theorem Bb (s:List UInt8):cz L H.length T w (qu s) (s.map fun b=>Value.int .u8 (b.toNat:Int)):=by
 refine⟨by simp[qu],fun j hj=>by simp[Value.oneCell'],fun j hj bR=>?_⟩;simp only[qu,getElem_map];exact .int _ _
theorem dX {z:Nat}{x:AV}{c:Value}{m:Nat}{ys:List AV}(hc:bT L H T w)(hx:bc L H.length T w x c)(h:fN H z x=some (m,ys)) :
  ∃cv:List Value,ys.length=m*z∧cz L H.length T w ys cv∧(Builtin.lenOf c).run P w=.ok m w∧(Builtin.firstCells z m c).run P w=.ok cv.toArray w:=by
 unfold fN at h
 split at h
 ·rename_i m' cs tg
  split at h
  ·rename_i hl
   cases h
   obtain⟨a,cap,rfl,cg,_,⟨rfl,rfl⟩|⟨b,base,cv,rfl,hm,hr,ki⟩⟩:=hx.eO
   ·refine⟨[],hl,cz.nil,rfl,?_⟩
    cases a with
    |none=>rfl
    |some a=>simp[Builtin.firstCells,loadCells,loadCellsFrom]
   ·have L8:=hr.1;refine⟨cv,hl,hr,rfl,?_⟩;have:=run_loadCells_list (P:=P) w ⟨b,base,none⟩ cv (fun j v hj=>by
     have aZ:=(List.getElem?_eq_some_iff.1 hj).1;rw[eB,ki j (by omega)];exact hj)
    simp only[Builtin.firstCells];rw[←hl,←L8];exact this
  ·cases h
 ·rename_i i o m'
  split at h
  ·rename_i vs hi
   split at h
   ·rename_i hl
    cases h
    obtain⟨cap,rfl,cg,aZ⟩:=hx.jb;obtain⟨c,hr,ki⟩:=(hc.box i _ hi).at;refine⟨(c.toList.drop o).take (m*z),?_,(hr.drop o).take _,rfl,?_⟩
    ·simp;omega
    ·have hlen:((c.toList.drop o).take (m*z)).length=m*z:=by have:=hr.1;simp at this ⊢;omega
     have:=run_loadCells_list (P:=P) w ⟨L.bN i,o,none⟩ ((c.toList.drop o).take (m*z)) (fun j v hj=>by
      have aZ:=(List.getElem?_eq_some_iff.1 hj).1;have nu:j<m*z:=by omega
      rw[getElem?_take,if_pos nu,List.getElem?_drop] at hj;rw[eB,ki];simpa using hj)
     simp only[Builtin.firstCells];rw[hlen] at this;exact this
   ·cases h
  ·cases h
 ·rename_i s
  split at h
  ·rename_i hz
   cases h
   rw[hx.gK];refine⟨s.map fun b=>Value.int .u8 (b.toNat:Int),by simp[qu,hz],Bb s,by simp[Builtin.lenOf,ByteArray.size],?_⟩;have e:(⟨s.toArray⟩:ByteArray).extract 0 s.length=⟨s.toArray⟩:=by rw[ByteArray.extract_mk];simp
   simp[Builtin.firstCells,e]
  ·cases h
 ·cases h
theorem Ci {N:Nat}:∀{cs:List AV} {cv:List Value} {s:List UInt8},cz L N T w cs cv→bytesOf cs=some s→∃ns:List Int,cv=ns.map (Value.int .u8)∧s=ns.map fun n=>UInt8.ofNat n.toNat:=by
 intro cs
 induction cs with
 |nil=>intro cv s hr h;cases h;exact⟨[],eq_nil_of_length_eq_zero hr.1,rfl⟩
 |cons x r ih=>
  intro cv s hr h
  match cv,hr with
  |c::cr,hr=>
   have h0:bc L N T w x c:=hr.2.2 0 (by simp) (by simp);have Pt:cz L N T w r cr:=by simpa using hr.drop 1
   unfold bytesOf at h;rw[mapM_cons] at h
   cases hx:I6 x with
   |none=>rw[hx] at h;cases h
   |some b=>
    cases hy:r.mapM I6 with
    |none=>rw[hx,hy] at h;cases h
    |some bs=>
     rw[hx,hy] at h
     cases h
     obtain⟨ns,e1,e2⟩:=ih Pt hy;unfold I6 at hx
     split at hx
     ·rename_i nn hh
      cases hx
      rw[h0.dC];exact⟨nn::ns,by simp[e1],by simp[e2]⟩
     ·cases hx
  |[],hr=>simp[cz] at hr
def P4:AV→Bool
 |.sl _ _ _|.bV _ _ _=>true
 |_=>false
def EO (P:Program)(H:List aA)(src dst:TypeId)(x:AV):Option AV:=
 match P.underlying src,P.underlying dst,x with
 |some _,some (.int k),.int _ n=>some (.int k (k.wrap n))
 |some _,some .string,.int _ n=>some (.str (Utf8.encode n).data.toList)
 |some _,some .string,.str s=>some (.str s)
 |some (.slice e),some .string,x=>
  match P.underlying e with
  |some (.int .u8)=>if P4 x then (match fN H 1 x with
   |some (_,cs)=>(bytesOf cs).map .str
   |none=>none) else none
  |_=>none
 |_,_,_=>none
theorem Kx {src dst:TypeId}{x r:AV}{c:Value}(hc:bT L H T w)(h:EO P H src dst x=some r)(hx:bc L H.length T w x c):∃cv,(convert src dst c).run P w=.ok cv w∧bc L H.length T w r cv:=by
 unfold EO at h
 split at h
 ·rename_i d k k' n h1 h2
  cases h
  rw[hx.dC];exact⟨_,by simp only[convert,Sem.run_bind,run_underlying h1,run_underlying h2,Result.andThen_ok];cases d<;>rfl,.int _ _⟩
 ·rename_i d k' n h1 h2
  cases h
  rw[hx.dC];exact⟨.string ⟨(Utf8.encode n).data.toList.toArray⟩,by simp only[convert,Sem.run_bind,run_underlying h1,run_underlying h2,Result.andThen_ok];cases d<;>rfl,.str _⟩
 ·rename_i d s h1 h2
  cases h
  rw[hx.gK];exact⟨_,by simp only[convert,Sem.run_bind,run_underlying h1,run_underlying h2,Result.andThen_ok];cases d<;>rfl,.str _⟩
 ·rename_i e _ _ h1 h2 _ _
  split at h
  ·rename_i he
   split at h
   ·rename_i aag
    split at h
    ·rename_i m cs hs
     cases hb:bytesOf cs with
     |none=>rw[hb] at h;cases h
     |some s=>
      rw[hb] at h
      cases h
      obtain⟨cv,hl,hr,hlen,fW⟩:=dX (P:=P) hc hx hs;obtain⟨ns,e1,e2⟩:=Ci hr hb;have Ml:∃a n cap,c=.slice a n cap:=by
       cases hx<;>first|exact⟨_,_,_,rfl⟩|(simp[P4] at aag;done)
      obtain⟨a,n,cap,rfl⟩:=Ml;have hn:n=m:=by
       simp[Builtin.lenOf] at hlen;exact hlen
      subst hn;refine⟨.string ⟨s.toArray⟩,?_,.str s⟩;rw[run_convert_bytes_string w src dst _ a n cap h1 he h2]
      cases a with
      |none=>
       simp[Builtin.firstCells] at fW;subst fW
       cases ns with
       |nil=>subst e2;rfl
       |cons _ _=>cases e1
      |some a=>
       simp only[Builtin.firstCells,Nat.mul_one] at fW;rw[e1] at fW;rw[run_bytesToString w a n cap ns fW,foldl_push_bytes];subst e2;simp
    ·cases h
   ·cases h
  ·cases h
 ·cases h
theorem G4 {src dst e:TypeId}{s:List UInt8}{c:Value}(hc:bT L H T w)(h1:P.underlying src=some .string)(h2:P.underlying dst=some (.slice e))(h3:P.underlying e=some (.int .u8))(hx:bc L H.length T w (.str s) c) :
  ∃cv w' L',(convert src dst c).run P w=.ok cv w'∧bT L' H T w'∧bc L' H.length T w' (.sl s.length (qu s) .none) cv∧Ev H.length T.length L H.length T w L' H.length T w':=by
 rw[hx.gK];have iQ:(⟨s.toArray⟩:ByteArray).size=s.length:=by simp[ByteArray.size]
 obtain⟨cap,cg,hle⟩:∃cap,(Question.appendCap s.length 0 e).cut (w.tape w.drawn (.appendCap s.length 0 e))=cap∧s.length≤cap:=⟨_,rfl,by simp[Question.cut]⟩
 let cells:Array Value:=(s.map fun b=>Value.int .u8 (b.toNat:Int)).toArray++Array.replicate (cap-s.length) (.int .u8 0)
 have vY:cells.size=cap:=by simp[cells];omega
 have hd:bT L H T w.drew:=hc.drew rfl;have ed:Ev H.length T.length L H.length T w L H.length T w.drew:=Ev.drew rfl rfl rfl rfl (le_succ _);obtain⟨k1,k2,k3⟩:=hd.newRow cells e (cap,cap+1) (vs:=qu s) (qu s).length (le_refl _) (by
  have:(cells.toList.take (qu s).length)=s.map fun b=>Value.int .u8 (b.toNat:Int):=by
   simp[cells,qu]
  rw[this];exact Bb s) s.length cap hle .none (.inl rfl)
 refine⟨_,_,_,?_,k1,k3,ed.trans k2⟩;simp only[convert,Sem.run_bind,run_underlying h1,run_underlying h2,run_underlying h3,Result.andThen_ok,Conv.stringToBytes,iQ,run_choose,Question.forced,Bool.false_eq_true,if_false,cg];have CP:(⟨s.toArray⟩:ByteArray).data.map (fun b=>Value.int .u8 (b.toNat:Int))=(s.map fun b=>Value.int .u8 (b.toNat:Int)).toArray:=by simp
 simp only[CP,newRow,Sem.run_bind,run_newObj,Result.andThen_ok,Sem.run_pure,markStringish,run_shape,run_freeze];have W0:World.shape? { w.drew with heap:=w.heap.push (.cells cells e) } w.heap.size=some (e,cap):=by
  simp[World.shape?,vY]
 show (Result.andThen _ _)=_;simp only[World.drew] at W0 ⊢;rw[W0];simp only[run_freeze,Result.andThen_ok,Sem.run_pure]
 congr 1
 simp only[World.freeze,World.alloc,Nat.one_ne_zero,if_false]
 congr 1
 apply Array.ext_getElem?;intro i;rw[Array.getElem?_modify,Array.getElem?_push,Array.getElem?_push]
 by_cases hi:w.heap.size=i
 ·subst hi;simp[cells]
 ·rw[if_neg hi,if_neg (fun e=>hi e.symm),if_neg (fun e=>hi e.symm)]
end
section
variable {P : Program} {L : Lay} {H : List aA} {T : ar} {w : World}
theorem cz.setMany {N:Nat}:∀{xs:List AV} {xc:List Value} {vs:List AV} {c:Array Value} (o:Nat),cz L N T w vs c.toList→cz L N T w xs xc→o+xs.length≤vs.length→
  cz L N T w (setMany vs o xs) ((xc.zipIdx.foldl (fun cs (x:Value×Nat)=>cs.setIfInBounds (o+x.2) x.1) c)).toList:=by
 intro xs;have key:∀(xs:List AV)(xc:List Value)(vs:List AV)(c:Array Value)(o k:Nat),cz L N T w vs c.toList→cz L N T w xs xc→o+k+xs.length≤vs.length→
   cz L N T w (Am.setMany vs (o+k) xs) (((xc.zipIdx k).foldl (fun cs (x:Value×Nat)=>cs.setIfInBounds (o+x.2) x.1) c)).toList:=by
  intro xs
  induction xs with
  |nil=>
   intro xc vs c o k h1 h2 h3;have:xc=[]:=eq_nil_of_length_eq_zero h2.1;subst this;exact h1
  |cons x r ih=>
   intro xc vs c o k h1 h2 h3
   match xc,h2 with
   |y::yr,h2=>
    have h0:bc L N T w x y:=h2.2.2 0 (by simp) (by simp);have PH:y.oneCell'=true:=h2.2.1 0 (by simp);have Pt:cz L N T w r yr:=by simpa using h2.drop 1
    simp only[List.zipIdx_cons,List.foldl_cons,Am.setMany];have:=ih yr (vs.set (o+k) x) (c.setIfInBounds (o+k) y) o (k+1) (by rw[Array.toList_setIfInBounds];exact h1.set _ h0 PH) Pt (by simp at h3 ⊢;omega);rw[show o+k+1=o+(k+1) by omega];exact this
   |[],h2=>simp[cz] at h2
 intro xc vs c o h1 h2 h3;exact key xs xc vs c o 0 h1 h2 h3
def nV (place:Nat→Option (Nat×Nat))(cells:List AV):List (Nat×AV)→Option (List AV)
 |[]=>some cells
 |(i,v)::rest=>
  match place i,PK (cY v) with
  |some (off,size),some xs=>if xs.length=size∧off+size≤cells.length then nV place (setMany cells off xs) rest else none
  |_,_=>none
theorem qX {N:Nat}(place:Nat→Option (Nat×Nat)):∀(parts:List (Nat×AV)) (pc:List (Nat×Value)) (cells:List AV) (c:Array Value) (r:List AV),cz L N T w cells c.toList→pc.length=parts.length→
  (∀(j:Nat)(h:j<parts.length)(h':j<pc.length),(parts[j]'h).1=(pc[j]'h').1∧bc L N T w (parts[j]'h).2 (pc[j]'h').2)→nV place cells parts=some r→
  ∃c',Instr.fill place c pc=some c'∧cz L N T w r c'.toList:=by
 intro parts
 induction parts with
 |nil=>
  intro pc cells c r hr hl hp h;have:pc=[]:=eq_nil_of_length_eq_zero hl;subst this
  cases h
  exact⟨c,rfl,hr⟩
 |cons x rest ih=>
  intro pc cells c r hr hl hp h
  match pc,hl,hp with
  |y::yr,hl,hp=>
   obtain⟨i,v⟩:=x;obtain⟨i',u⟩:=y;obtain⟨e,hv⟩:=hp 0 (by simp) (by simp);simp only[getElem_cons_zero] at e hv;subst e;simp only[nV] at h
   split at h
   ·rename_i off size xs e1 e2
    split at h
    ·rename_i hb;have hx:=y3 e2 hv.cY;have hlen:u.cells.size=size:=by have:=hx.1;simp at this;omega
     obtain⟨c',h1,h2⟩:=ih yr (Am.setMany cells off xs) (u.cells.toList.zipIdx.foldl (fun cs (x:Value×Nat)=>cs.setIfInBounds (off+x.2) x.1) c) r (hr.setMany off hx (by omega)) (by simpa using hl)
      (fun j hj bR=>by have:=hp (j+1) (by simpa using hj) (by simpa using bR);simpa using this) h
     refine⟨c',?_,h2⟩;simp only[Instr.fill,e1];have iQ:c.size=cells.length:=by have:=hr.1;simpa using this
     rw[if_neg (by simp;omega)];rw[←h1]
     congr 1
     rw[←Array.foldl_toList];simp
    ·cases h
   ·cases h
  |[],hl,hp=>simp at hl
def br (P:Program)(t:TypeId):Option (List AV):=
 match P.info? t with
 |some i=>match i.zero with
  |some z=>if z.cells.all (·.oneCell')&&z.cells.size==i.size then some (z.cells.toList.map wc) else none
  |none=>none
 |none=>none
theorem dO {N:Nat}{t:TypeId}{zs:List AV}(h:br P t=some zs):∃i z,P.info? t=some i∧i.zero=some z∧cz L N T w zs z.cells.toList∧z.cells.size=P.cellsOf t:=by
 unfold br at h
 split at h
 ·rename_i i hi
  split at h
  ·rename_i z hz
   split at h
   ·rename_i ha
    cases h
    simp only[Bool.and_eq_true,beq_iff_eq] at ha;have ha1:=ha.1;rw[Array.all_eq_true] at ha1;refine⟨i,z,hi,hz,⟨by simp,fun j hj=>by simpa using ha1 j (by simpa using hj),fun j hj bR=>?_⟩,by rw[ha.2];simp[Program.cellsOf,hi]⟩;simp only[getElem_map];exact .wc _
   ·cases h
  ·cases h
 ·cases h
theorem jo {t:TypeId}{i:TypeInfo}{z:Value}(hi:P.info? t=some i)(hz:i.zero=some z)(w:World):(zeroValue t).run P w=.ok z w:=by
 simp[zeroValue,run_typeInfo w hi,hz]
def yK (P:Program)(t:TypeId)(parts:List (Nat×AV)):Option AV:=
 match br P t,P.underlying t with
 |some zs,some (.struct fs)=>if fs.toList.all (fun f=>(P.underlying f.type).isSome) then (nV (fun i=>(fs[i]?).map fun f=>(f.offset,P.cellsOf f.type)) zs parts).map .agg else none
 |some zs,some (.array _ e)=>if (P.underlying e).isSome then (nV (fun i=>some (i*P.cellsOf e,P.cellsOf e)) zs parts).map .agg else none
 |_,_=>none
theorem run_places (fs:Array Field)(hf:∀f∈fs,(P.underlying f.type).isSome=true)(w:World) :
  (fs.mapM fun f=>do pure (f.offset,←sizeOf f.type):Sem (Array (Nat×Nat))).run P w=.ok (fs.map fun f=>(f.offset,P.cellsOf f.type)) w:=by
 rw[Array.mapM_eq_mapM_toList];have key:∀l:List Field,(∀f∈l,(P.underlying f.type).isSome=true)→(l.mapM fun f=>do pure (f.offset,←sizeOf f.type):Sem (List (Nat×Nat))).run P w=.ok (l.map fun f=>(f.offset,P.cellsOf f.type)) w:=by
  intro l
  induction l with
  |nil=>intro _;simp
  |cons f r ih=>
   intro h;obtain⟨d,hd⟩:=Option.isSome_iff_exists.1 (h f (by simp));have:=ih (fun g hg=>h g (by simp[hg]));simp only[mapM_cons,Sem.run_bind,cI hd,Result.andThen_ok,Sem.run_pure,this,map_cons]
 have:=key fs.toList (fun f Mu=>hf f (by simpa using Mu));simp only[Sem.run_map,this,Result.andThen_ok]
 congr 1
 apply Array.ext';simp
theorem run_build {t:TypeId}{parts:List (Nat×AV)}{pc:Array (Nat×Value)}{r:AV}(h:yK P t parts=some r)(hl:pc.size=parts.length)
  (hp:∀(j:Nat)(h:j<parts.length)(h':j<pc.toList.length),(parts[j]'h).1=(pc.toList[j]'h').1∧bc L H.length T w (parts[j]'h).2 (pc.toList[j]'h').2) :
  ∃cv,(Instr.build t pc).run P w=.ok cv w∧bc L H.length T w r cv:=by
 unfold yK at h
 split at h
 ·rename_i zs fs hz hu
  split at h
  ·rename_i hf;obtain⟨i,z,hi,rv,hr,_⟩:=dO (L:=L) (N:=H.length) (T:=T) (w:=w) hz
   cases oG:nV (fun i=>(fs[i]?).map fun f=>(f.offset,P.cellsOf f.type)) zs parts with
   |none=>rw[oG] at h;cases h
   |some cs=>
    rw[oG] at h
    cases h
    obtain⟨c',h1,h2⟩:=qX _ parts pc.toList zs z.cells cs hr (by simpa using hl) hp oG;have CC:=run_places (P:=P) fs (fun f hm=>List.all_eq_true.1 hf f (Array.mem_def.1 hm)) w;refine⟨.agg c',?_,by simpa using h2.agg⟩;have e:(fun(x:Nat)=>(fs.map fun(f:Field)=>(f.offset,P.cellsOf f.type))[x]?)=fun(i:Nat)=>(fs[i]?).map fun(f:Field)=>(f.offset,P.cellsOf f.type):=by
     funext x;simp
    simp only[Instr.build,Sem.run_bind,jo hi rv,Result.andThen_ok,run_underlying hu,CC,e,h1];rfl
  ·cases h
 ·rename_i zs n e hz hu
  split at h
  ·rename_i he;obtain⟨d,hd⟩:=Option.isSome_iff_exists.1 he;obtain⟨i,z,hi,rv,hr,_⟩:=dO (L:=L) (N:=H.length) (T:=T) (w:=w) hz
   cases oG:nV (fun i=>some (i*P.cellsOf e,P.cellsOf e)) zs parts with
   |none=>rw[oG] at h;cases h
   |some cs=>
    rw[oG] at h
    cases h
    obtain⟨c',h1,h2⟩:=qX _ parts pc.toList zs z.cells cs hr (by simpa using hl) hp oG;refine⟨.agg c',?_,by simpa using h2.agg⟩;simp only[Instr.build,Sem.run_bind,jo hi rv,Result.andThen_ok,run_underlying hu,cI hd,h1];rfl
  ·cases h
 ·cases h
def fH (zs:List AV)(n:Nat):List AV:=(List.range n).map fun i=>zs.getD (i % zs.length) .top
theorem o9 {N n:Nat}{zs:List AV}{z:Array Value}(hr:cz L N T w zs z.toList)(h0:0<zs.length∨n=0):cz L N T w (fH zs n) (madeCells z n).toList:=by
 have hz:z.size=zs.length:=by have:=hr.1;simpa using this
 refine⟨by simp[fH,madeCells],fun j hj=>?_,fun j hj bR=>?_⟩
 ·have vW:j<n:=by simpa[madeCells] using hj
  have aZ:j % zs.length<z.size:=by rw[hz];exact mod_lt _ (by omega)
  have:=hr.2.1 (j % zs.length) (by simpa using aZ);simp only[madeCells,Array.toList_map,Array.toList_range,getElem_map,List.getElem_range];rw[getElem!_pos z _ (show j % z.size<z.size from mod_lt _ (by omega))];have e':j % z.size=j % zs.length:=by rw[hz]
  simp only[e'];simpa using this
 ·have vW:j<n:=by simpa[madeCells] using bR
  have aZ:j % zs.length<z.size:=by rw[hz];exact mod_lt _ (by omega)
  have CQ:j % zs.length<zs.length:=by rw[hz] at aZ;exact aZ
  have:=hr.2.2 (j % zs.length) CQ (by simpa using aZ);simp only[madeCells,fH,Array.toList_map,Array.toList_range,getElem_map,List.getElem_range];rw[getElem!_pos z _ (show j % z.size<z.size from mod_lt _ (by omega))];have e':j % z.size=j % zs.length:=by rw[hz]
  simp only[e'];have e:zs.getD (j % zs.length) .top=zs[j % zs.length]'CQ:=by
   rw[List.getD_eq_getElem?_getD,List.getElem?_eq_getElem CQ];rfl
  rw[e];simpa using this
theorem Ir (v:AV)(n:Nat):fH [v] n=List.replicate n v:=by
 unfold fH;apply ext_getElem
 ·simp
 ·intro i h1 h2;simp[Nat.mod_one]
def lp (P:Program)(t:TypeId)(len:Nat)(parts:List (Nat×AV)):Option AV:=
 match P.underlying t with
 |some (.slice e)=>match br P e with
  |some zs=>if len*P.cellsOf e≤16777216∧0<P.cellsOf e∧zs.length=P.cellsOf e then (nV (fun i=>some (i*P.cellsOf e,P.cellsOf e)) (fH zs (len*P.cellsOf e)) parts).map fun cs=>.sl len cs .full else none
  |none=>none
 |_=>none
theorem vG {t:TypeId}{len:Nat}{parts:List (Nat×AV)}{pc:Array (Nat×Value)}{r:AV}(hc:bT L H T w)(h:lp P t len parts=some r)(hl:pc.size=parts.length)
  (hp:∀(j:Nat)(h:j<parts.length)(h':j<pc.toList.length),(parts[j]'h).1=(pc.toList[j]'h').1∧bc L H.length T w (parts[j]'h).2 (pc.toList[j]'h').2) :
  ∃cv w' L',(Instr.buildSlice t len pc).run P w=.ok cv w'∧bT L' H T w'∧bc L' H.length T w' r cv∧Ev H.length T.length L H.length T w L' H.length T w':=by
 unfold lp at h
 split at h
 ·rename_i e hu
  split at h
  ·rename_i zs hz
   split at h
   ·rename_i hb;obtain⟨i,z,hi,rv,hr,pf⟩:=dO (L:=L) (N:=H.length) (T:=T) (w:=w) hz
    cases oG:nV (fun i=>some (i*P.cellsOf e,P.cellsOf e)) (fH zs (len*P.cellsOf e)) parts with
    |none=>rw[oG] at h;cases h
    |some cs=>
     rw[oG] at h
     cases h
     obtain⟨c',h1,h2⟩:=qX _ parts pc.toList _ (madeCells z.cells (len*P.cellsOf e)) cs (o9 hr (.inl (by omega))) (by simpa using hl) hp oG;have hlen:c'.toList.length=cs.length:=h2.1;obtain⟨k1,k2,k3⟩:=hc.newRow c' e (0,0) (vs:=cs) cs.length (le_refl _) (by rw[List.take_of_length_le (by omega)];exact h2) len len (le_refl _) .full (.inr ⟨rfl,rfl⟩);refine⟨_,_,_,?_,k1,k3,k2⟩;have iQ:=run_sizeOf w hi;have n1:¬len*P.cellsOf e>2 ^ 24:=by omega
     by_cases h0:len*P.cellsOf e=0
     ·have hm:madeCells z.cells (len*P.cellsOf e)=(Array.range 0).map ((#[]:Array Value)[· % (#[]:Array Value).size]!):=by rw[h0];simp[madeCells]
      rw[hm] at h1;have n2:¬0>2 ^ 24:=by omega
      simp only[Instr.buildSlice,Sem.run_bind,run_underlying hu,Result.andThen_ok,iQ,h0,n2,if_false,if_true,pure_bind,h1,Sem.run_pure];rfl
     ·simp only[Instr.buildSlice,Sem.run_bind,run_underlying hu,Result.andThen_ok,iQ,h0,n1,if_false,pure_bind,bind_pure_comp,Sem.run_map,jo hi rv];have PH:=h1;unfold madeCells at PH;simp only[PH];rfl
   ·cases h
  ·cases h
 ·cases h
def mf (P:Program)(t:TypeId)(len:Nat)(parts:List (Nat×AV)):Option (List AV):=
 match P.underlying t with
 |some (.slice e)=>match br P e with
  |some zs=>if len*P.cellsOf e≤16777216∧0<P.cellsOf e∧zs.length=P.cellsOf e then nV (fun i=>some (i*P.cellsOf e,P.cellsOf e)) (fH zs (len*P.cellsOf e)) parts else none
  |none=>none
 |_=>none
theorem y9 {t:TypeId}{len:Nat}{parts:List (Nat×AV)}{pc:Array (Nat×Value)}{cs:List AV}(hc:bT L H T w)(h:mf P t len parts=some cs)(hl:pc.size=parts.length)
  (hp:∀(j:Nat)(h:j<parts.length)(h':j<pc.toList.length),(parts[j]'h).1=(pc.toList[j]'h').1∧bc L H.length T w (parts[j]'h).2 (pc.toList[j]'h').2) :
  ∃cv w' L',(Instr.buildSlice t len pc).run P w=.ok cv w'∧bT L' (H++[.cells cs]) T w'∧bc L' (H++[aA.cells cs]).length T w' (.bV H.length 0 len) cv∧Ev H.length T.length L H.length T w L' (H++[aA.cells cs]).length T w':=by
 unfold mf at h
 split at h
 ·rename_i e hu
  split at h
  ·rename_i zs hz
   split at h
   ·rename_i hb;obtain⟨i,z,hi,rv,hr,pf⟩:=dO (L:=L) (N:=H.length) (T:=T) (w:=w) hz;obtain⟨c',h1,h2⟩:=qX _ parts pc.toList _ (madeCells z.cells (len*P.cellsOf e)) cs (o9 hr (.inl (by omega))) (by simpa using hl) hp h;obtain⟨L',k1,k2,k3⟩:=hc.pY c' e h2;refine⟨.slice (some ⟨w.heap.size,0,none⟩) len len,_,L',?_,k1,?_,k2⟩
    ·have iQ:=run_sizeOf w hi;have n1:¬len*P.cellsOf e>2 ^ 24:=by omega
     by_cases h0:len*P.cellsOf e=0
     ·have hm:madeCells z.cells (len*P.cellsOf e)=(Array.range 0).map ((#[]:Array Value)[· % (#[]:Array Value).size]!):=by rw[h0];simp[madeCells]
      rw[hm] at h1;have n2:¬0>2 ^ 24:=by omega
      simp only[Instr.buildSlice,Sem.run_bind,run_underlying hu,Result.andThen_ok,iQ,h0,n2,if_false,if_true,pure_bind,h1,Sem.run_pure];rfl
     ·simp only[Instr.buildSlice,Sem.run_bind,run_underlying hu,Result.andThen_ok,iQ,h0,n1,if_false,pure_bind,bind_pure_comp,Sem.run_map,jo hi rv];have PH:=h1;unfold madeCells at PH;simp only[PH];rfl
    ·rw[←k3];exact .bV _ _ _ _ (by simp) (le_refl _)
   ·cases h
  ·cases h
 ·cases h
end
section
variable {P : Program} {L : Lay} {H : List aA} {T : ar} {w : World}
theorem BP {t e:TypeId}{zs:List AV}(hc:bT L H T w)(hu:P.underlying t=some (.slice e))(hz:br P e=some zs)(vR:0<zs.length)(kl kc:IntKind)(n:Nat)(hb:n*P.bytesOf e≤281474976710656)(hn:n≤9223372036854775807) :
  ∃cv w' L',(Instr.makeSlice t (.int kl (n:Int)) (.int kc (n:Int))).run P w=.ok cv w'∧bT L' (H++[.cells (fH zs (n*P.cellsOf e))]) T w'∧bc L' (H++[aA.cells (fH zs (n*P.cellsOf e))]).length T w' (.bJ H.length n n) cv∧
   Ev H.length T.length L H.length T w L' (H++[aA.cells (fH zs (n*P.cellsOf e))]).length T w':=by
 obtain⟨i,z,hi,rv,hr,pf⟩:=dO (L:=L) (N:=H.length) (T:=T) (w:=w) hz;have sq:P.bytesOf e=i.bytes:=by simp[Program.bytesOf,hi]
 have iQ:P.cellsOf e=i.size:=by simp[Program.cellsOf,hi]
 have vN:(i.bytes:Int)*(n:Int)≤281474976710656:=by
  rw[sq] at hb;have:((n*i.bytes:Nat):Int)≤281474976710656:=by omega
  rw[Int.natCast_mul,Int.mul_comm] at this;exact this
 have hm:=run_make (P:=P) w t e i z hu hi rv kl kc n n (by omega) (Int.le_refl _) vN (by omega);obtain⟨L',h1,h2,h3⟩:=hc.pY (madeCells z.cells (n*P.cellsOf e)) e (o9 (n:=n*P.cellsOf e) hr (.inl vR));refine⟨_,_,L',by rw[hm];simp only[Int.toNat_natCast,←iQ];rfl,h1,?_,h2⟩;rw[←h3];exact .bJ H.length n n (by simp) (le_refl _)
theorem BO {t e:TypeId}{zs:List AV}(hc:bT L H T w)(hu:P.underlying t=some (.slice e))(hz:br P e=some zs)(vR:0<P.cellsOf e)(kl kc:IntKind)(n:Nat)(hb:n*P.bytesOf e≤281474976710656)(hn:n≤9223372036854775807) :
  ∃cv w' L',(Instr.makeSlice t (.int kl 0) (.int kc (n:Int))).run P w=.ok cv w'∧bT L' H (T++[(0,P.cellsOf e)]) w'∧bc L' H.length (T++[(0,P.cellsOf e)]) w' (.sl 0 [] (.own T.length)) cv∧
   Ev H.length T.length L H.length T w L' H.length (T++[(0,P.cellsOf e)]) w':=by
 obtain⟨i,z,hi,rv,hr,pf⟩:=dO (L:=L) (N:=H.length) (T:=T) (w:=w) hz;have sq:P.bytesOf e=i.bytes:=by simp[Program.bytesOf,hi]
 have iQ:P.cellsOf e=i.size:=by simp[Program.cellsOf,hi]
 have vN:(i.bytes:Int)*(n:Int)≤281474976710656:=by
  rw[sq] at hb;have:((n*i.bytes:Nat):Int)≤281474976710656:=by omega
  rw[Int.natCast_mul,Int.mul_comm] at this;exact this
 have hm:=run_make (P:=P) w t e i z hu hi rv kl kc 0 n (Int.le_refl _) (by omega) vN (by omega);have c1:=hc.alloc (.cells (madeCells z.cells (n*P.cellsOf e)) e) 0;have e1:=Ev.alloc hc (.cells (madeCells z.cells (n*P.cellsOf e)) e) 0;have Et:¬Wr (L.bQ w.heap.size 0) H.length T w.heap.size:=hc.uD (le_refl _)
 let k:Tk:=⟨w.heap.size,0,n⟩
 have hk:((L.bQ w.heap.size 0).bh T.length k).dM T.length=k:=by simp[Lay.bh]
 refine⟨_,_,(L.bQ w.heap.size 0).bh T.length k,by rw[hm];simp only[Int.toNat_natCast,←iQ];rfl,c1.my k 0 (P.cellsOf e) (fun _=>Et) ?_,?_,e1.my (fun _=>.inl (le_refl _))⟩
 ·refine⟨vR,fun _=>?_⟩;rw[hk];refine⟨_,e,(0,0),eI w _,by simp[k,size_madeCells],fun o _ _=>by simp,?_⟩;simp[k,Lay.bh,Lay.bQ]
 ·refine .wD (.own T.length) _ _ ⟨0,P.cellsOf e,by simp,le_refl _,fun _=>.inr ?_⟩;rw[hk];simp[k]
def nX:Array Value→Nat→List Value→Array Value
 |c,_,[]=>c
 |c,o,v::r=>nX (c.setIfInBounds o v) (o+1) r
theorem BN:∀(vs:List Value)(c:Array Value)(o:Nat),(nX c o vs).size=c.size:=by
 intro vs
 induction vs with
 |nil=>intro c o;rfl
 |cons v r ih=>intro c o;simp[nX,ih]
theorem xd:∀(vs:List Value)(c:Array Value)(o j:Nat),j<o→(nX c o vs)[j]?=c[j]?:=by
 intro vs
 induction vs with
 |nil=>intro c o j _;rfl
 |cons v r ih=>
  intro c o j hj;rw[nX,ih _ _ _ (by omega),Array.getElem?_setIfInBounds_ne (by omega)]
theorem GV:∀(vs:List Value)(c:Array Value)(o j:Nat),o+vs.length≤c.size→j<vs.length→(nX c o vs)[o+j]?=vs[j]?:=by
 intro vs
 induction vs with
 |nil=>intro c o j _ h;simp at h
 |cons v r ih=>
  intro c o j hle hj;rw[nX]
  cases j with
  |zero=>
   rw[xd _ _ _ _ (by omega)];simp at hle;have:o<c.size:=by omega
   simp[this]
  |succ j=>
   have:=ih (c.setIfInBounds o v) (o+1) j (by simp at hle ⊢;omega) (by simpa using hj);rw[show o+(j+1)=o+1+j by omega,this];simp
theorem wo:∀(vs:List Value)(w:World)(b o:Nat)(c:Array Value)(e:TypeId)(fr:Nat×Nat),w.heap[b]?=some (.cells c e fr)→
  (w.setCells b o vs).heap[b]?=some (.cells (nX c o vs) e fr)∧(∀x,x≠b→(w.setCells b o vs).heap[x]?=w.heap[x]?)∧(w.setCells b o vs).heap.size=w.heap.size∧
   (w.setCells b o vs).os=w.os∧(w.setCells b o vs).tape=w.tape∧(w.setCells b o vs).output=w.output∧(w.setCells b o vs).drawn=w.drawn:=by
 intro vs
 induction vs with
 |nil=>intro w b o c e fr h;exact⟨h,fun _ _=>rfl,rfl,rfl,rfl,rfl,rfl⟩
 |cons v r ih=>
  intro w b o c e fr h;have h1:=mV w b o v h;obtain⟨g1,g2,g3,g4,g5,g6,g7⟩:=ih (w.setCell ⟨b,o,none⟩ v) b (o+1) _ e fr h1;exact⟨g1,fun x hx=>(g2 x hx).trans (fu w b o v x hx),by rw[World.setCells,g3];simp,g4,g5,g6,g7⟩
def iS (P:Program)(t:TypeId):Bool:=
 match P.underlying t with
 |some (.int _)=>false
 |some _=>true
 |none=>false
theorem Dx {t:TypeId}(h:iS P t=true):∃d,P.underlying t=some d∧(∀k,d≠.int k):=by
 unfold iS at h
 split at h
 ·cases h
 ·rename_i d hn hu;exact⟨d,hu,fun k e=>by subst e;exact hn k rfl⟩
 ·cases h
theorem eR {t t2 ty e:TypeId}{i:TypeInfo}{zv:Value}(hu:P.underlying t=some (.slice e))(h2:iS P t2=true)(hi:P.info? e=some i)(hz:i.zero=some zv)
  {a:Option Addr} {n cap m:Nat} {x:Value} {To new Tp:List Value} (hlen:(Builtin.lenOf x).run P w=.ok m w) (Uj:(Builtin.firstCells i.size m x).run P w=.ok new.toArray w)
  (Ui:(Builtin.firstCells i.size m x).run P w.drew=.ok Tp.toArray w.drew) (Uh:(Builtin.firstCells i.size n (.slice a n cap)).run P w.drew=.ok To.toArray w.drew) (hb:(n+m)*i.bytes≤140737488355328) (hm:n+m≤9223372036854775807) :
  (n+m≤cap→(Builtin.append_ #[t,t2] ty #[.slice a n cap,x]).run P w=((match a with|some a=>storeCells (a.add (n*i.size)) new|none=>pure ()).run P w).andThen fun _ w'=>.ok (.slice a (n+m) cap) w')∧
  (cap<n+m→∃nc,n+m≤nc∧(Builtin.append_ #[t,t2] ty #[.slice a n cap,x]).run P w =
   .ok (.slice (some ⟨w.heap.size,0,none⟩) (n+m) nc) (w.drew.alloc (.cells (To.toArray++Tp.toArray++Builtin.zeroCells zv.cells (nc-(n+m))) e))):=by
 obtain⟨d2,Ex,wF⟩:=Dx h2;have abu:(d2 matches .int _)=false:=by
  cases d2<;>first|rfl|exact absurd rfl (wF _)
 have iQ:=run_sizeOf w hi;have vY:P.cellsOf e=i.size:=by simp[Program.cellsOf,hi]
 constructor
 ·intro hle;simp only[Builtin.append_,List.getElem?_toArray,List.getElem?_cons_zero,List.getElem?_cons_succ,Sem.run_bind,run_underlying hu,run_underlying Ex,Result.andThen_ok,iQ,Sem.run_pure,vY];simp only[Bool.false_eq_true,if_false,hlen,Result.andThen_ok,Sem.run_bind,hle,if_true,Bool.not_false,Uj]
  cases a with
  |none=>rfl
  |some a=>simp only[Sem.run_bind];rfl
 ·intro aZ;obtain⟨nc,kT,hle⟩:∃nc,(Question.appendCap (n+m) cap e).cut (w.tape w.drawn (.appendCap (n+m) cap e))=nc∧n+m≤nc:=⟨_,rfl,by simp[Question.cut]⟩
  refine⟨nc,hle,?_⟩;have g1:¬n+m≤cap:=by omega
  have g2:¬(((n+m:Nat):Int)>IntKind.i64.max∧(False∨i.bytes=0)):=by
   have:IntKind.i64.max=9223372036854775807:=by decide
   rw[this];omega
  have g3:¬Builtin.nextslicecap (n+m) cap*i.bytes>2 ^ 48:=by
   have:=growslice_fits aZ hb;omega
  simp only[Builtin.append_,List.getElem?_toArray,List.getElem?_cons_zero,List.getElem?_cons_succ,Sem.run_bind,run_underlying hu,run_underlying Ex,Result.andThen_ok,iQ,Sem.run_pure,vY];simp only[Bool.false_eq_true,if_false,hlen,Result.andThen_ok,Sem.run_bind,g1,run_typeInfo w hi,g2,g3,Bool.not_false,if_true];simp only[run_choose,Question.forced,Bool.false_eq_true,if_false,kT,Result.andThen_ok,run_askRoom,World.drew_eq,run_typeInfo w.drew hi,Uh,Ui,jo hi hz,newRow,Sem.run_bind,run_newObj,Sem.run_pure];rfl
def qP (P:Program)(H:List aA)(T:ar)(t t2:TypeId)(s x:AV):Option (AV×ar):=
 match P.underlying t,s with
 |some (.slice e),.sl n cs tg=>
  match fN H (P.cellsOf e) x with
  |some (m,ys)=>
   if cs.length=n*P.cellsOf e∧0<P.cellsOf e∧(n+m)*P.bytesOf e≤140737488355328∧n+m≤9223372036854775807∧iS P t2=true∧(br P e).isSome=true then
    match tg with
    |.full=>some (.sl (n+m) (cs++ys) (.own T.length),T++[((n+m)*P.cellsOf e,P.cellsOf e)])
    |.own k=>if T[k]?=some (cs.length,P.cellsOf e) then some (.sl (n+m) (cs++ys) (.own k),T.set k ((n+m)*P.cellsOf e,P.cellsOf e)) else none
    |.none=>none
   else none
  |none=>none
 |_,_=>none
theorem DD {t t2 ty:TypeId}{s x r:AV}{cs cx:Value}{T':ar}(hc:bT L H T w)(h:qP P H T t t2 s x=some (r,T'))(hs:bc L H.length T w s cs)(hx:bc L H.length T w x cx) :
  ∃cv w' L',(Builtin.append_ #[t,t2] ty #[cs,cx]).run P w=.ok cv w'∧bT L' H T' w'∧bc L' H.length T' w' r cv∧Ev H.length T.length L H.length T w L' H.length T' w':=by
 unfold qP at h
 split at h
 ·rename_i e n cl tg hu
  split at h
  ·rename_i m ys lB
   split at h
   ·rename_i hb;obtain⟨fK,vS,sq,rF,sX,pf⟩:=hb;obtain⟨zs,pf⟩:=Option.isSome_iff_exists.1 pf;obtain⟨i,z,hi,rv,LY,zK⟩:=dO (L:=L) (N:=H.length) (T:=T) (w:=w) pf;have te:P.cellsOf e=i.size:=by simp[Program.cellsOf,hi]
    have IG:P.bytesOf e=i.bytes:=by simp[Program.bytesOf,hi]
    rw[IG] at sq;obtain⟨new,Cw,mR,hlen,fW⟩:=dX (P:=P) hc hx lB;have vZ:bT L H T w.drew:=hc.drew rfl;have kd:cS L H.length T w L H.length T w.drew:=(Ev.drew (H:=H) (T:=T) (L:=L) (w:=w) (w':=w.drew) rfl rfl rfl rfl (le_succ _)).keeps;obtain⟨ka,_,mu,_,iq⟩:=dX (P:=P) vZ (hx.keep kd) lB;obtain⟨a,cap,rfl,cg,CM,uH⟩:=hs.eO;have Mm:=hs.keep kd;have iO:fN H (P.cellsOf e) (.sl n cl tg)=some (n,cl):=by simp[fN,fK]
    obtain⟨sT,_,qA,_,mS⟩:=dX (P:=P) vZ Mm iO;have h2:=eR (P:=P) (w:=w) (ty:=ty) hu sX hi rv (a:=a) (n:=n) (cap:=cap) (m:=m) hlen (te▸fW) (te▸iq) (te▸mS) sq rF;rw[←te] at h2;have grow:cap<n+m→∀(k:Nat)(Tn:ar),((k=T.length∧Tn=T++[((n+m)*P.cellsOf e,P.cellsOf e)])∨(∃u,T[k]?=some (u,P.cellsOf e)∧u<(n+m)*P.cellsOf e∧Tn=T.set k ((n+m)*P.cellsOf e,P.cellsOf e)))→
      ∃cv w' L',(Builtin.append_ #[t,t2] ty #[.slice a n cap,cx]).run P w=.ok cv w'∧bT L' H Tn w'∧bc L' H.length Tn w' (.sl (n+m) (cl++ys) (.own k)) cv∧Ev H.length T.length L H.length T w L' H.length Tn w':=by
     intro aZ k Tn hk;obtain⟨nc,kT,cK⟩:=h2.2 aZ;have zM:=qA.append mu;have O4:(sT++ka).length=(cl++ys).length:=zM.1;have tA:(cl++ys).length=(n+m)*P.cellsOf e:=by rw[List.length_append,fK,Cw,add_mul]
     have Ub:((sT.toArray++ka.toArray++Builtin.zeroCells z.cells (nc-(n+m))).toList.take (cl++ys).length)=sT++ka:=by
      have e1:(sT.toArray++ka.toArray++Builtin.zeroCells z.cells (nc-(n+m))).toList=(sT++ka)++(Builtin.zeroCells z.cells (nc-(n+m))).toList:=by simp
      rw[e1,←O4,List.take_left' rfl]
     obtain⟨k1,k2,k3⟩:=vZ.newRow (sT.toArray++ka.toArray++Builtin.zeroCells z.cells (nc-(n+m))) e (0,0) (vs:=cl++ys) (cl++ys).length (le_refl _) (by rw[Ub];exact zM) (n+m) nc kT .none (.inl rfl);have ed:Ev H.length T.length L H.length T w L H.length T w.drew:=Ev.drew rfl rfl rfl rfl (le_succ _);have Et:¬Wr (L.bQ w.heap.size (cl++ys).length) H.length T w.heap.size:=hc.uD (le_refl _)
     let tk:Tk:=⟨w.heap.size,0,nc⟩
     have Uf:(sT.toArray++ka.toArray++Builtin.zeroCells z.cells (nc-(n+m))).size=nc*P.cellsOf e:=by
      have h1:(sT++ka).length=(n+m)*P.cellsOf e:=by rw[O4,tA]
      have h3:nc*P.cellsOf e=(n+m)*P.cellsOf e+(nc-(n+m))*P.cellsOf e:=by rw[←add_mul];congr 1;omega
      simp only[Array.size_append,List.size_toArray,size_zeroCells,zK,h3];rw[←h1];simp
     have I9:∀k',wS ((L.bQ w.heap.size (cl++ys).length).bh k' tk) (w.drew.alloc (.cells (sT.toArray++ka.toArray++Builtin.zeroCells z.cells (nc-(n+m))) e)) k' ((n+m)*P.cellsOf e) (P.cellsOf e):=by
      intro k';have mi:((L.bQ w.heap.size (cl++ys).length).bh k' tk).dM k'=tk:=by simp[Lay.bh]
      refine⟨vS,fun _=>?_⟩;rw[mi];refine⟨_,e,(0,0),eI w.drew _,by rw[Uf];simp[tk],fun o _ _=>by simp,?_⟩;show (if tk.b=w.heap.size then (cl++ys).length else L.m tk.b)≤_;rw[if_pos rfl,tA];exact Nat.le_add_left _ _
     have dI:∀Te,(∀t' u z',T[t']?=some (u,z')→∃u',Te[t']?=some (u',z')∧u≤u'∧(u'=u→t'≠k))→Te[k]?=some ((n+m)*P.cellsOf e,P.cellsOf e)→
       bc ((L.bQ w.heap.size (cl++ys).length).bh k tk) H.length Te (w.drew.alloc (.cells (sT.toArray++ka.toArray++Builtin.zeroCells z.cells (nc-(n+m))) e)) (.sl (n+m) (cl++ys) (.own k)) (.slice (some ⟨w.heap.size,0,none⟩) (n+m) nc):=by
      intro Te hT FO;have kp:cS (L.bQ w.heap.size (cl++ys).length) H.length T (w.drew.alloc (.cells (sT.toArray++ka.toArray++Builtin.zeroCells z.cells (nc-(n+m))) e)) ((L.bQ w.heap.size (cl++ys).length).bh k tk) H.length Te (w.drew.alloc (.cells (sT.toArray++ka.toArray++Builtin.zeroCells z.cells (nc-(n+m))) e)):=by
       refine⟨le_refl _,fun _ _=>rfl,fun t' u z' oF=>?_,fun _=>le_refl _,fun _ _ _=>rfl,rfl⟩;obtain⟨u',h1,h3,h4⟩:=hT t' u z' oF;refine⟨u',h1,h3,fun e=>?_⟩;simp only[Lay.bh];rw[if_neg (h4 e)]
      have:=k3.keep kp;obtain⟨a',jO,e1,jT,_,IU⟩:=this.eO
      cases e1
      have ji:0<(cl++ys).length:=by
       rw[tA];exact Nat.mul_pos (by omega) vS
      rcases IU with⟨e2,_⟩|⟨b,base,cv,e2,g1,g2,g3⟩
      ·rw[e2] at ji;simp at ji
      ·cases e2
       refine bc.kV jT g1 g2 g3 ⟨_,_,FO,by rw[tA];exact le_refl _,fun _=>.inr ?_⟩;simp[Lay.bh,tk]
     rcases hk with⟨rfl,rfl⟩|⟨u,FO,nu,rfl⟩
     ·refine⟨_,_,_,cK,k1.my tk _ _ (fun _=>Et) (I9 _),dI _ (fun t' u z' oF=>?_) (by simp),(ed.trans k2).my (fun _=>.inl (le_refl _))⟩;have CQ:=(List.getElem?_eq_some_iff.1 oF).1;exact⟨u,by rw[getElem?_append_left CQ];exact oF,le_refl _,fun _=>by omega⟩
     ·have gB:=(List.getElem?_eq_some_iff.1 FO).1;refine⟨_,_,_,cK,k1.CY FO nu tk (fun _=>Et) (I9 _),dI _ (fun t' u' z' oF=>?_) (by rw[getElem?_set_self gB]),(ed.trans k2).CY FO nu (fun _=>le_refl _)⟩
      by_cases eN:t'=k
      ·subst eN;rw[FO] at oF
       cases oF
       exact⟨_,by rw[getElem?_set_self gB],by omega,fun e=>by omega⟩
      ·exact⟨u',by rw[getElem?_set_ne (fun e=>eN e.symm)];exact oF,le_refl _,fun _=>eN⟩
    have zero:m=0→(Builtin.append_ #[t,t2] ty #[.slice a n cap,cx]).run P w=.ok (.slice a n cap) w∧ys=[]:=by
     intro hm;subst hm;have Cq:new=[]:=eq_nil_of_length_eq_zero (by rw[mR.1];simpa using Cw);have hy0:ys=[]:=eq_nil_of_length_eq_zero (by simpa using Cw);have:=h2.1 (by omega);rw[Cq] at this;refine⟨?_,hy0⟩;rw[this]
     cases a<;>rfl
    split at h
    ·cases h
     rcases Nat.eq_zero_or_pos m with hm|hm
     ·obtain⟨g1,g2⟩:=zero hm;subst hm;subst g2;refine⟨_,w,L.bh T.length ⟨0,0,0⟩,g1,hc.my ⟨0,0,0⟩ _ _ (fun h=>by simp at h) ⟨vS,fun h=>by simp[Lay.bh] at h⟩,?_,
       (Ev.refl (le_refl _) (le_refl _)).my (fun h=>by simp at h)⟩
      have kp:cS L H.length T w (L.bh T.length ⟨0,0,0⟩) H.length (T++[((n+0)*P.cellsOf e,P.cellsOf e)]) w:=by
       refine⟨le_refl _,fun _ _=>rfl,fun t' u z' oF=>?_,fun _=>le_refl _,fun _ _ _=>rfl,rfl⟩;have CQ:=(List.getElem?_eq_some_iff.1 oF).1;exact⟨u,by rw[getElem?_append_left CQ];exact oF,le_refl _,fun _=>by simp only[Lay.bh];rw[if_neg (by omega)]⟩
      have vU:=(hs.cY).keep kp;simp only[Am.cY] at vU;have tok:∀a',kg (L.bh T.length ⟨0,0,0⟩) (T++[((n+0)*P.cellsOf e,P.cellsOf e)]) (.own T.length) n cl.length a' cap:=fun a'=>⟨(n+0)*P.cellsOf e,P.cellsOf e,by simp,by rw[fK];simp,fun _=>.inl CM⟩
      obtain⟨a',jO,e1,jT,_,IU⟩:=vU.eO
      cases e1
      rcases IU with⟨e2,e3⟩|⟨b,base,cv,e2,q1,q2,q3⟩
      ·subst e2;subst e3;simp only[List.append_nil,add_zero];exact .wD _ _ _ (tok _)
      ·subst e2;simp only[List.append_nil,add_zero];exact bc.kV jT q1 q2 q3 (tok _)
     ·have pL:cap=n:=CM;exact grow (by omega) T.length _ (.inl ⟨rfl,rfl⟩)
    ·rename_i k
     split at h
     ·rename_i FO
      cases h
      have gB:=(List.getElem?_eq_some_iff.1 FO).1;rcases Nat.eq_zero_or_pos m with hm|hm
      ·obtain⟨g1,g2⟩:=zero hm;subst hm;subst g2;have hT:T.set k ((n+0)*P.cellsOf e,P.cellsOf e)=T:=by
        apply List.ext_getElem?;intro j
        by_cases hj:k=j
        ·subst hj;rw[getElem?_set_self gB,FO,fK];simp
        ·rw[getElem?_set_ne hj]
       rw[hT];refine⟨_,w,L,g1,hc,by simpa using hs,Ev.refl (le_refl _) (le_refl _)⟩
      ·rcases lt_or_ge cap (n+m) with aZ|jE
       ·exact grow aZ k _ (.inr ⟨cl.length,FO,by rw[fK];exact Nat.mul_lt_mul_of_pos_right (by omega) vS,rfl⟩)
       ·
        obtain⟨u0,z0,hT0,ack,himp⟩:=CM;rw[FO] at hT0
        cases hT0
        rcases himp rfl with h0|⟨ha,JA⟩
        ·omega
        ·have cK:=h2.1 jE;have CA:cl.length<(L.dM k).c*P.cellsOf e:=by
          rw[←JA,fK];exact Nat.mul_lt_mul_of_pos_right (by omega) vS
         obtain⟨_,rE⟩:=hc.tok k _ _ FO;obtain⟨cc,ee,fr,g1,g2,g3,g4⟩:=rE CA;have hmz:cl.length+m*P.cellsOf e≤(L.dM k).c*P.cellsOf e:=by
          rw[←JA,fK,←add_mul];exact Nat.mul_le_mul_right _ jE
         have abZ:new.length=m*P.cellsOf e:=by rw[mR.1,Cw]
         have eM:=run_storeCells_cells (P:=P) (L.dM k).b ((L.dM k).o+cl.length) new 0 w
          (fun j hj=>by
           rw[fo g1];rw[Array.getElem?_eq_getElem (show (L.dM k).o+cl.length+0+j<cc.size by omega)];rfl)
          (fun j hj=>by
           unfold World.frozen?;simp only[g1];exact g3 _ (by omega) (by omega))
          (fun v hv=>by
           obtain⟨j,hj,e1⟩:=List.mem_iff_getElem.1 hv;rw[←e1];exact mR.2.1 j hj)
         obtain⟨s1,s2,s3,s4,s5,s6,s7⟩:=wo new w (L.dM k).b ((L.dM k).o+cl.length) cc ee fr g1;have tA:cl.length+m*P.cellsOf e=(n+m)*P.cellsOf e:=by rw[fK,add_mul]
         obtain⟨c1,e1⟩:=hc.grow FO (k:=m*P.cellsOf e) (Nat.mul_pos hm vS) hmz g1 s1 (BN _ _ _) (fun j hj=>xd _ _ _ _ hj) s2 s3 s4 s5 s6 (Nat.le_of_eq s7.symm);rw[tA] at c1 e1;refine⟨.slice a (n+m) cap,_,_,?_,c1,?_,e1⟩
         ·rw[cK,ha];simp only[eB,←fK];rw[eM];rfl
         ·have WZ:=hs.keep e1.keeps;obtain⟨a',jO,e3,jT,P5,IU⟩:=WZ.eO
          cases e3
          have zM:cz ((L.bQ (L.dM k).b ((L.dM k).o+cl.length+m*P.cellsOf e))) H.length (T.set k ((n+m)*P.cellsOf e,P.cellsOf e)) (w.setCells (L.dM k).b ((L.dM k).o+cl.length) new) ys new:=mR.keep e1.keeps;have tok:kg (L.bQ (L.dM k).b ((L.dM k).o+cl.length+m*P.cellsOf e)) (T.set k ((n+m)*P.cellsOf e,P.cellsOf e)) (.own k) (n+m) (cl++ys).length (some ⟨(L.dM k).b,(L.dM k).o,none⟩) cap:=
           ⟨_,_,by rw[getElem?_set_self gB],by rw[List.length_append,Cw,tA];exact le_refl _,fun _=>.inr ⟨rfl,JA⟩⟩
          have O2:(L.dM k).o+(cl++ys).length≤(L.bQ (L.dM k).b ((L.dM k).o+cl.length+m*P.cellsOf e)).m (L.dM k).b:=by
           simp only[Lay.bQ,if_true,List.length_append,Cw];omega
          subst ha;have OW:∀j,j<ys.length→(w.setCells (L.dM k).b ((L.dM k).o+cl.length) new).cell? ⟨(L.dM k).b,(L.dM k).o+cl.length+j,none⟩=new[j]?:=by
           intro j hj;rw[fo s1,GV _ _ _ _ (by omega) (by omega)]
          rcases IU with⟨e2,e3⟩|⟨b,base,cv,e2,q1,q2,q3⟩
          ·subst e2;subst e3;refine bc.kV (cv:=new) jE O2 (by simpa using zM) (fun j hj=>?_) tok;have:=OW j (by simpa using hj);simpa using this
          ·cases e2
           refine bc.kV (cv:=cv++new) jE O2 (q2.append zM) (fun j hj=>?_) tok;have L8:cv.length=cl.length:=q2.1;rcases lt_or_ge j cl.length with Ry|Ry
           ·rw[q3 j Ry,getElem?_append_left (by omega)]
           ·have:=OW (j-cl.length) (by simp at hj;omega);rw[List.getElem?_append_right (by omega),L8,←this]
            congr 2
            omega
     ·cases h
    ·cases h
   ·cases h
  ·cases h
 ·cases h
def mC (P:Program)(H:List aA)(t t2:TypeId)(s x:AV):Option (Nat×List AV):=
 match P.underlying t,s with
 |some (.slice e),.sl 0 [] .full=>
  match fN H (P.cellsOf e) x with
  |some (m,ys)=>if 0<m∧0<P.cellsOf e∧m*P.bytesOf e≤140737488355328∧m≤9223372036854775807∧iS P t2=true∧(br P e).isSome=true then some (m,ys) else none
  |none=>none
 |_,_=>none
theorem lI {z:Array Value}{n:Nat}{v:Value}(h:v∈(Builtin.zeroCells z n).toList):v∈z.toList:=by
 unfold Builtin.zeroCells at h;simp only[Array.toList_map,Array.toList_range,List.mem_map,List.mem_range] at h;obtain⟨i,hi,rfl⟩:=h;have hz:0<z.size:=by
  rcases Nat.eq_zero_or_pos z.size with h0|h0
  ·rw[h0] at hi;simp at hi
  ·exact h0
 have aZ:i % z.size<z.size:=mod_lt _ hz;rw[getElem!_pos z _ aZ];simp
theorem cz.PN {N:Nat}{T:ar}(l:List Value)(h:∀v∈l,v.oneCell'=true):cz L N T w (List.replicate l.length .top) l:=by
 refine⟨by simp,fun j hj=>h _ (getElem_mem hj),fun j hj bR=>?_⟩;rw[List.getElem_replicate];exact .top _
theorem DE {t t2 ty:TypeId}{s x:AV}{cs cx:Value}{m:Nat}{ys:List AV}(hc:bT L H T w)(h:mC P H t t2 s x=some (m,ys))(hs:bc L H.length T w s cs)(hx:bc L H.length T w x cx) :
  ∃k cv w' L',(Builtin.append_ #[t,t2] ty #[cs,cx]).run P w=.ok cv w'∧bT L' (H++[.cells (ys++List.replicate k .top)]) T w'∧bc L' (H++[aA.cells (ys++List.replicate k .top)]).length T w' (.bV H.length 0 m) cv∧
   Ev H.length T.length L H.length T w L' (H++[aA.cells (ys++List.replicate k .top)]).length T w':=by
 unfold mC at h
 split at h
 ·rename_i e hu
  split at h
  ·rename_i m' ys' lB
   split at h
   ·rename_i hb
    cases h
    obtain⟨hm,vS,sq,rF,sX,pf⟩:=hb;obtain⟨zs,pf⟩:=Option.isSome_iff_exists.1 pf;obtain⟨i,z,hi,rv,LY,zK⟩:=dO (L:=L) (N:=H.length) (T:=T) (w:=w) pf;have te:P.cellsOf e=i.size:=by simp[Program.cellsOf,hi]
    have IG:P.bytesOf e=i.bytes:=by simp[Program.bytesOf,hi]
    rw[IG] at sq;obtain⟨new,Cw,mR,hlen,fW⟩:=dX (P:=P) hc hx lB;have vZ:bT L H T w.drew:=hc.drew rfl;have kd:cS L H.length T w L H.length T w.drew:=(Ev.drew (H:=H) (T:=T) (L:=L) (w:=w) (w':=w.drew) rfl rfl rfl rfl (le_succ _)).keeps;obtain⟨ka,_,mu,_,iq⟩:=dX (P:=P) vZ (hx.keep kd) lB;obtain⟨a,cap,rfl,cg,CM,uH⟩:=hs.eO;have Mm:=hs.keep kd;have iO:fN H (P.cellsOf e) (.sl 0 [] .full)=some (0,[]):=by simp[fN]
    obtain⟨sT,_,qA,_,mS⟩:=dX (P:=P) vZ Mm iO;have hold:sT=[]:=eq_nil_of_length_eq_zero (by rw[qA.1];rfl);subst hold;have h2:=eR (P:=P) (w:=w) (ty:=ty) hu sX hi rv (a:=a) (n:=0) (cap:=cap) (m:=m) hlen (te▸fW) (te▸iq) (te▸mS) (by simpa using sq) (by simpa using rF);have Ut:cap=0:=CM;obtain⟨nc,kT,cK⟩:=h2.2 (by omega);have zZ:∀v∈(Builtin.zeroCells z.cells (nc-(0+m))).toList,v.oneCell'=true:=by
     intro v hv;obtain⟨j,hj,e1⟩:=List.mem_iff_getElem.1 (lI hv);rw[←e1];exact LY.2.1 j hj
    have pS:cz L H.length T w.drew (ys++List.replicate (Builtin.zeroCells z.cells (nc-(0+m))).toList.length .top) (([]:List Value).toArray++ka.toArray++Builtin.zeroCells z.cells (nc-(0+m))).toList:=by
     have:=mu.append (cz.PN (L:=L) (N:=H.length) (T:=T) (w:=w.drew) _ zZ);simpa using this
    obtain⟨L',g1,g2,g3⟩:=vZ.pY _ e pS;have ed:Ev H.length T.length L H.length T w L H.length T w.drew:=Ev.drew rfl rfl rfl rfl (le_succ _);refine⟨_,_,_,L',cK,g1,?_,ed.trans g2⟩;have:=bc.bV (L:=L') (T:=T) (w:=w.drew.alloc (.cells (([]:List Value).toArray++ka.toArray++Builtin.zeroCells z.cells (nc-(0+m))) e)) H.length 0 m nc
     (show H.length<(H++[aA.cells (ys++List.replicate (Builtin.zeroCells z.cells (nc-(0+m))).toList.length .top)]).length by simp) (by omega)
    rw[g3] at this;simpa using this
   ·cases h
  ·cases h
 ·cases h
def ER (P:Program)(H:List aA)(t t2:TypeId)(s x:AV):Option AV:=
 match s with
 |.bV i o n=>match P.underlying t with
  |some (.slice e)=>match fN H (P.cellsOf e) (.bV i o n),fN H (P.cellsOf e) x with
   |some _,some (0,_)=>if n*P.bytesOf e≤140737488355328∧n≤9223372036854775807∧iS P t2=true∧(br P e).isSome=true then some (.bV i o n) else none
   |_,_=>none
  |_=>none
 |_=>none
theorem KA {t t2 ty:TypeId}{s x r:AV}{cs cx:Value}(hc:bT L H T w)(h:ER P H t t2 s x=some r)(hs:bc L H.length T w s cs)(hx:bc L H.length T w x cx) :
  ∃cv,(Builtin.append_ #[t,t2] ty #[cs,cx]).run P w=.ok cv w∧bc L H.length T w r cv:=by
 unfold ER at h
 split at h
 ·rename_i i o n
  split at h
  ·rename_i e hu
   split at h
   ·rename_i p ys iO lB
    split at h
    ·rename_i hb
     cases h
     obtain⟨sq,rF,sX,pf⟩:=hb;obtain⟨zs,pf⟩:=Option.isSome_iff_exists.1 pf;obtain⟨i',z,hi,rv,LY,zK⟩:=dO (L:=L) (N:=H.length) (T:=T) (w:=w) pf;have te:P.cellsOf e=i'.size:=by simp[Program.cellsOf,hi]
     have IG:P.bytesOf e=i'.bytes:=by simp[Program.bytesOf,hi]
     rw[IG] at sq;obtain⟨new,Cw,mR,hlen,fW⟩:=dX (P:=P) hc hx lB;have vZ:bT L H T w.drew:=hc.drew rfl;have kd:cS L H.length T w L H.length T w.drew:=(Ev.drew (H:=H) (T:=T) (L:=L) (w:=w) (w':=w.drew) rfl rfl rfl rfl (le_succ _)).keeps;obtain⟨ka,_,mu,_,iq⟩:=dX (P:=P) vZ (hx.keep kd) lB;obtain⟨cap,rfl,cg,cC⟩:=hs.jb;have Mm:=hs.keep kd;have hpn:p.1=n:=by
      unfold fN at iO;simp only at iO
      split at iO
      ·split at iO
       ·cases iO;rfl
       ·cases iO
      ·cases iO
     obtain⟨pm,pys⟩:=p;simp only at hpn;subst hpn;obtain⟨sT,_,qA,_,mS⟩:=dX (P:=P) vZ Mm iO;have h2:=eR (P:=P) (w:=w) (ty:=ty) hu sX hi rv (a:=some ⟨L.bN i,o,none⟩) (n:=pm) (cap:=cap) (m:=0) hlen (te▸fW) (te▸iq) (te▸mS) (by simpa using sq) (by simpa using rF);have Cq:new=[]:=eq_nil_of_length_eq_zero (by rw[mR.1];simpa using Cw);have:=h2.1 (by omega);rw[Cq] at this;refine⟨_,?_,hs⟩;rw[this];rfl
    ·cases h
   ·cases h
  ·cases h
 ·cases h
theorem Dv (xs:List AV):∀(vs:List AV)(o:Nat),o+xs.length≤vs.length→setMany vs o xs=vs.take o++xs++vs.drop (o+xs.length):=by
 induction xs with
 |nil=>intro vs o h;simp[setMany]
 |cons x r ih=>
  intro vs o h;rw[List.length_cons] at h;rw[setMany,ih _ _ (by simp;omega)];have h1:(vs.set o x).take (o+1)=vs.take o++[x]:=by
   rw[List.take_succ_eq_append_getElem (by simp;omega),List.getElem_set_self]
   congr 1
   apply List.ext_getElem?;intro j;rw[getElem?_take,getElem?_take]
   split
   ·rw[getElem?_set_ne (by omega)]
   ·rfl
  have h2:(vs.set o x).drop (o+1+r.length)=vs.drop (o+(r.length+1)):=by
   rw[List.drop_set_of_lt (by omega)]
   congr 1
   omega
  rw[h1,h2];simp
theorem AH {t t2 ty e:TypeId}{i n cap m:Nat}{vs xs:List AV}{x:AV}{cs cx:Value}(hc:bT L H T w)(hs:bc L H.length T w (.bJ i n cap) cs)(hx:bc L H.length T w x cx)
  (hu:P.underlying t=some (.slice e)) (hH:H[i]?=some (.cells vs)) (Iz:vs.length=cap*P.cellsOf e) (lB:fN H (P.cellsOf e) x=some (m,xs)) (sq:(n+m)*P.bytesOf e≤140737488355328) (rF:n+m≤9223372036854775807)
  (sX:iS P t2=true) (pf:(br P e).isSome=true) :
  (n+m≤cap∧∃cv w' L',(Builtin.append_ #[t,t2] ty #[cs,cx]).run P w=.ok cv w'∧bT L' (H.set i (.cells (vs.take (n*P.cellsOf e)++xs++vs.drop ((n+m)*P.cellsOf e)))) T w'∧
   bc L' (H.set i (.cells (vs.take (n*P.cellsOf e)++xs++vs.drop ((n+m)*P.cellsOf e)))).length T w' (.bJ i (n+m) cap) cv∧
   Ev H.length T.length L H.length T w L' (H.set i (.cells (vs.take (n*P.cellsOf e)++xs++vs.drop ((n+m)*P.cellsOf e)))).length T w')∨
  (cap<n+m∧∃nc,n+m≤nc∧∃cv w' L',(Builtin.append_ #[t,t2] ty #[cs,cx]).run P w=.ok cv w'∧bT L' (H++[.cells (vs.take (n*P.cellsOf e)++xs++List.replicate ((nc-(n+m))*P.cellsOf e) .top)]) T w'∧
   bc L' (H++[aA.cells (vs.take (n*P.cellsOf e)++xs++List.replicate ((nc-(n+m))*P.cellsOf e) .top)]).length T w' (.bJ H.length (n+m) nc) cv∧
   Ev H.length T.length L H.length T w L' (H++[aA.cells (vs.take (n*P.cellsOf e)++xs++List.replicate ((nc-(n+m))*P.cellsOf e) .top)]).length T w'):=by
 obtain⟨zs,pf⟩:=Option.isSome_iff_exists.1 pf;obtain⟨ti,z,hi,rv,LY,zK⟩:=dO (L:=L) (N:=H.length) (T:=T) (w:=w) pf;have te:P.cellsOf e=ti.size:=by simp[Program.cellsOf,hi]
 have IG:P.bytesOf e=ti.bytes:=by simp[Program.bytesOf,hi]
 rw[IG] at sq;obtain⟨new,Cw,mR,hlen,fW⟩:=dX (P:=P) hc hx lB;have vZ:bT L H T w.drew:=hc.drew rfl;have ed:Ev H.length T.length L H.length T w L H.length T w.drew:=Ev.drew rfl rfl rfl rfl (le_succ _);have kd:cS L H.length T w L H.length T w.drew:=ed.keeps;obtain⟨ka,_,mu,_,iq⟩:=dX (P:=P) vZ (hx.keep kd) lB;obtain⟨rfl,cg,cC⟩:=hs.ir;have hnz:n*P.cellsOf e≤vs.length:=by rw[Iz];exact Nat.mul_le_mul_right _ cg
 have Mm:bc L H.length T w.drew (.bV i 0 n) (.slice (some ⟨L.bN i,0,none⟩) n cap):=.bV i 0 n cap cC cg;have iO:fN H (P.cellsOf e) (.bV i 0 n)=some (n,vs.take (n*P.cellsOf e)):=by simp[fN,hH,hnz]
 obtain⟨sT,_,qA,_,mS⟩:=dX (P:=P) vZ Mm iO;have h2:=eR (P:=P) (w:=w) (ty:=ty) hu sX hi rv (a:=some ⟨L.bN i,0,none⟩) (n:=n) (cap:=cap) (m:=m) hlen (te▸fW) (te▸iq) (te▸mS) sq rF;rw[←te] at h2;rcases lt_or_ge cap (n+m) with aZ|hle
 ·refine .inr ⟨aZ,?_⟩;obtain⟨nc,kT,cK⟩:=h2.2 aZ;have zZ:∀v∈(Builtin.zeroCells z.cells (nc-(n+m))).toList,v.oneCell'=true:=by
   intro v hv;obtain⟨j,hj,e1⟩:=List.mem_iff_getElem.1 (lI hv);rw[←e1];exact LY.2.1 j hj
  have vR:(Builtin.zeroCells z.cells (nc-(n+m))).toList.length=(nc-(n+m))*P.cellsOf e:=by
   rw[Array.length_toList,size_zeroCells,zK]
  have z7:=cz.PN (L:=L) (N:=H.length) (T:=T) (w:=w.drew) _ zZ;rw[vR] at z7;have pS:cz L H.length T w.drew (vs.take (n*P.cellsOf e)++xs++List.replicate ((nc-(n+m))*P.cellsOf e) .top) (sT.toArray++ka.toArray++Builtin.zeroCells z.cells (nc-(n+m))).toList:=by
   have:=(qA.append mu).append z7;simpa using this
  obtain⟨L',g1,g2,g3⟩:=vZ.pY _ e pS;refine⟨nc,kT,_,_,L',cK,g1,?_,ed.trans g2⟩;have:=bc.bJ (L:=L') (T:=T) (w:=w.drew.alloc (.cells (sT.toArray++ka.toArray++Builtin.zeroCells z.cells (nc-(n+m))) e)) H.length (n+m) nc
   (show H.length<(H++[aA.cells (vs.take (n*P.cellsOf e)++xs++List.replicate ((nc-(n+m))*P.cellsOf e) .top)]).length by simp) kT
  rw[g3] at this;exact this
 ·refine .inl ⟨hle,?_⟩;have cK:=h2.1 hle;have F5:n*P.cellsOf e+0+xs.length≤vs.length:=by
   rw[Iz,Cw,add_zero,←add_mul];exact Nat.mul_le_mul_right _ hle
  obtain⟨w',eM,jg,dP⟩:=lL (P:=P) i (n*P.cellsOf e) xs new 0 H w vs hc mR hH F5;have hsm:setMany vs (n*P.cellsOf e+0) xs=vs.take (n*P.cellsOf e)++xs++vs.drop ((n+m)*P.cellsOf e):=by
   rw[Dv _ _ _ (by simpa using F5),Cw,add_zero,←add_mul]
  rw[hsm] at jg dP;refine⟨.slice (some ⟨L.bN i,0,none⟩) (n+m) cap,w',L,?_,jg,?_,dP⟩
  ·rw[cK];simp only[eB,Nat.zero_add,eM,Result.andThen_ok]
  ·exact .bJ i (n+m) cap (by simpa using cC) hle
theorem BU {t t2 ty e:TypeId}{s x:AV}{cs cx:Value}{m:Nat}{ys:List AV}(hc:bT L H T w)(h:mC P H t t2 s x=some (m,ys))(hu:P.underlying t=some (.slice e))(hs:bc L H.length T w s cs)(hx:bc L H.length T w x cx) :
  ∃nc,m≤nc∧∃cv w' L',(Builtin.append_ #[t,t2] ty #[cs,cx]).run P w=.ok cv w'∧bT L' (H++[.cells (ys++List.replicate ((nc-m)*P.cellsOf e) .top)]) T w'∧bc L' (H++[aA.cells (ys++List.replicate ((nc-m)*P.cellsOf e) .top)]).length T w' (.bJ H.length m nc) cv∧
   Ev H.length T.length L H.length T w L' (H++[aA.cells (ys++List.replicate ((nc-m)*P.cellsOf e) .top)]).length T w':=by
 unfold mC at h
 split at h
 ·rename_i e' WX;rw[hu] at WX
  cases WX
  split at h
  ·rename_i m' ys' lB
   split at h
   ·rename_i hb
    cases h
    obtain⟨hm,vS,sq,rF,sX,pf⟩:=hb;obtain⟨zs,pf⟩:=Option.isSome_iff_exists.1 pf;obtain⟨i,z,hi,rv,LY,zK⟩:=dO (L:=L) (N:=H.length) (T:=T) (w:=w) pf;have te:P.cellsOf e=i.size:=by simp[Program.cellsOf,hi]
    have IG:P.bytesOf e=i.bytes:=by simp[Program.bytesOf,hi]
    rw[IG] at sq;obtain⟨new,Cw,mR,hlen,fW⟩:=dX (P:=P) hc hx lB;have vZ:bT L H T w.drew:=hc.drew rfl;have kd:cS L H.length T w L H.length T w.drew:=(Ev.drew (H:=H) (T:=T) (L:=L) (w:=w) (w':=w.drew) rfl rfl rfl rfl (le_succ _)).keeps;obtain⟨ka,_,mu,_,iq⟩:=dX (P:=P) vZ (hx.keep kd) lB;obtain⟨a,cap,rfl,cg,CM,uH⟩:=hs.eO;have Mm:=hs.keep kd;have iO:fN H (P.cellsOf e) (.sl 0 [] .full)=some (0,[]):=by simp[fN]
    obtain⟨sT,_,qA,_,mS⟩:=dX (P:=P) vZ Mm iO;have hold:sT=[]:=eq_nil_of_length_eq_zero (by rw[qA.1];rfl);subst hold;have h2:=eR (P:=P) (w:=w) (ty:=ty) hu sX hi rv (a:=a) (n:=0) (cap:=cap) (m:=m) hlen (te▸fW) (te▸iq) (te▸mS) (by simpa using sq) (by simpa using rF);have Ut:cap=0:=CM;obtain⟨nc,kT,cK⟩:=h2.2 (by omega);rw[Nat.zero_add] at kT cK;have zZ:∀v∈(Builtin.zeroCells z.cells (nc-m)).toList,v.oneCell'=true:=by
     intro v hv;obtain⟨j,hj,e1⟩:=List.mem_iff_getElem.1 (lI hv);rw[←e1];exact LY.2.1 j hj
    have vR:(Builtin.zeroCells z.cells (nc-m)).toList.length=(nc-m)*P.cellsOf e:=by
     rw[Array.length_toList,size_zeroCells,zK]
    have z7:=cz.PN (L:=L) (N:=H.length) (T:=T) (w:=w.drew) _ zZ;rw[vR] at z7;have pS:cz L H.length T w.drew (ys++List.replicate ((nc-m)*P.cellsOf e) .top) (([]:List Value).toArray++ka.toArray++Builtin.zeroCells z.cells (nc-m)).toList:=by
     have:=mu.append z7;simpa using this
    obtain⟨L',g1,g2,g3⟩:=vZ.pY _ e pS;have ed:Ev H.length T.length L H.length T w L H.length T w.drew:=Ev.drew rfl rfl rfl rfl (le_succ _);refine⟨nc,kT,_,_,L',cK,g1,?_,ed.trans g2⟩;have:=bc.bJ (L:=L') (T:=T) (w:=w.drew.alloc (.cells (([]:List Value).toArray++ka.toArray++Builtin.zeroCells z.cells (nc-m)) e)) H.length m nc
     (show H.length<(H++[aA.cells (ys++List.replicate ((nc-m)*P.cellsOf e) .top)]).length by simp) kT
    rw[g3] at this;exact this
   ·cases h
  ·cases h
 ·cases h
end
@[simp] def KC.av:KC→AV
 |.int k n=>.int k n
 |.str s=>.str s
 |.bool b=>.bool b
@[simp] def cN.av:cN→AV
 |.one c=>c.av
 |.agg cs=>.agg (cs.map KC.av)
@[simp] def MO:AV→Option KC
 |.int k n=>some (.int k n)
 |.str s=>some (.str s)
 |.bool b=>some (.bool b)
 |_=>none
@[simp] def zY:List AV→Option (List KC)
 |[]=>some []
 |v::r=>match MO v,zY r with
  |some c,some cs=>some (c::cs)
  |_,_=>none
@[simp] def EH:AV→Option cN
 |.agg cs=>(zY cs).map .agg
 |v=>(MO v).map .one
@[simp] def tm:List (cN×AV)→cN→Option AV
 |[],_=>none
 |(k',v)::r,k=>if k'=k then some v else tm r k
@[simp] def jH:List (cN×AV)→cN→AV→List (cN×AV)
 |[],k,v=>[(k,v)]
 |(k',u)::r,k,v=>if k'=k then (k,v)::r else (k',u)::jH r k v
def gS (es:List (cN×AV))(k:cN)(z:AV)(ok:Bool):AV:=
 if ok then .df [(tm es k).getD z,.bool (tm es k).isSome] else (tm es k).getD z
def P1 (P:Program)(k:TypeId):Bool:=
 match P.underlying k with
 |some .bool|some (.int _)|some .string=>true
 |some (.array _ _)|some (.struct _)=>P.keyTypeAt 3 k&&P.tiled 3 k
 |_=>false
def tq (P:Program)(t:TypeId):Option (TypeId×TypeId):=
 match P.underlying t with
 |some (.map k e)=>if P1 P k then some (k,e) else none
 |_=>none
def kX (P:Program)(kt:TypeId)(k:cN):Bool:=(keyOf P kt k.val).isSome
def cW (P:Program)(kt:TypeId)(es:List (cN×AV)):Bool:=es.all fun e=>kX P kt e.1
def n9 (P:Program)(t:TypeId):Option AV:=(P.info? t).bind fun i=>i.zero.map Mh
theorem oC {P:Program}{kt:TypeId}{es:List (cN×AV)}{k:cN}{v:AV}(h:cW P kt es=true)(hk:kX P kt k=true):cW P kt (jH es k v)=true:=by
 induction es with
 |nil=>simp[cW,hk]
 |cons x r ih=>
  obtain⟨k',u⟩:=x;simp only[cW,all_cons,Bool.and_eq_true] at h ih ⊢;simp only[jH]
  split
  ·simp only[all_cons,Bool.and_eq_true];exact⟨hk,h.2⟩
  ·simp only[all_cons,Bool.and_eq_true];exact⟨h.1,ih h.2⟩
theorem oW {es:List (cN×AV)}{k:cN}(h:∀e∈es,e.1≠k):tm es k=none:=by
 induction es with
 |nil=>rfl
 |cons x r ih=>simp only[tm,if_neg (h x (by simp))];exact ih fun e he=>h e (by simp[he])
theorem lZ {es:List (cN×AV)}{k:cN}{v:AV}(h:∀e∈es,e.1≠k):jH es k v=es++[(k,v)]:=by
 induction es with
 |nil=>rfl
 |cons x r ih=>
  simp only[jH,if_neg (h x (by simp)),List.cons_append];rw[ih fun e he=>h e (by simp[he])]
theorem tO {es:List (cN×AV)}{k:cN}(hn:(es.map (·.1)).Nodup):∀{j:Nat} (hj:j<es.length),(es[j]).1=k→tm es k=some (es[j]).2:=by
 induction es with
 |nil=>intro j hj;simp at hj
 |cons x r ih=>
  intro j hj he;simp only[map_cons,List.nodup_cons] at hn
  cases j with
  |zero=>simp only[getElem_cons_zero] at he ⊢;simp[tm,he]
  |succ j=>
   simp only[List.getElem_cons_succ] at he ⊢;have:x.1≠k:=fun e=>hn.1 (by rw[e,←he];exact List.mem_map.2 ⟨_,getElem_mem _,rfl⟩);simp only[tm,if_neg this];exact ih hn.2 _ he
theorem yS {es:List (cN×AV)}{k:cN}{v:AV}(hn:(es.map (·.1)).Nodup):∀{j:Nat} (hj:j<es.length),(es[j]).1=k→jH es k v=es.set j (k,v):=by
 induction es with
 |nil=>intro j hj;simp at hj
 |cons x r ih=>
  intro j hj he;simp only[map_cons,List.nodup_cons] at hn
  cases j with
  |zero=>simp only[getElem_cons_zero] at he;simp[jH,he]
  |succ j=>
   simp only[List.getElem_cons_succ] at he;have:x.1≠k:=fun e=>hn.1 (by rw[e,←he];exact List.mem_map.2 ⟨_,getElem_mem _,rfl⟩);simp only[jH,if_neg this,List.set_cons_succ];rw[ih hn.2 _ he]
theorem KC.val_inj {a b:KC}(h:a.val=b.val):a=b:=by
 cases a<;>cases b<;>simp[KC.val] at h<;>simp_all
theorem E7:∀{a b:List KC},a.map KC.val=b.map KC.val→a=b
 |[],[],_=>rfl
 |[],_::_,h=>by simp at h
 |_::_,[],h=>by simp at h
 |x::r,y::s,h=>by
  simp only[map_cons,List.cons.injEq] at h;rw[KC.val_inj h.1,E7 h.2]
theorem cN.val_inj {a b:cN}(h:a.val=b.val):a=b:=by
 cases a with
 |one a=>cases b with
  |one b=>rw[KC.val_inj (a:=a) (b:=b) (by simpa[cN.val] using h)]
  |agg b=>cases a<;>simp[cN.val,KC.val] at h
 |agg a=>cases b with
  |one b=>cases b<;>simp[cN.val,KC.val] at h
  |agg b=>simp only[cN.val,Value.agg.injEq] at h;rw[E7 (a:=a) (b:=b) (by simpa using congrArg Array.toList h)]
section
variable {P : Program} {L : Lay} {H : List aA} {T : ar} {w : World}
theorem KC.rep {N:Nat}(k:KC):bc L N T w k.av k.val:=by
 cases k with
 |int k n=>exact .int _ _
 |str s=>exact .str _
 |bool b=>exact .bool _
theorem cN.rep {N:Nat}(k:cN):bc L N T w k.av k.val:=by
 cases k with
 |one c=>exact c.rep
 |agg cs=>
  refine .agg _ _ (by simp) (fun j hj=>?_) (fun j hj bR=>?_)
  ·simp only[getElem_toArray,getElem_map];generalize cs[j]'_=c
   cases c<;>rfl
  ·simp only[getElem_toArray,getElem_map];exact KC.rep _
theorem AZ {N:Nat}{v:AV}{c:Value}{k:KC}(h:MO v=some k)(hr:bc L N T w v c):c=k.val:=by
 cases v<;>simp only[MO,reduceCtorEq,Option.some.injEq] at h<;>subst h
 ·rw[hr.iC];rfl
 ·rw[hr.dC];rfl
 ·rw[hr.gK];rfl
theorem xB {N:Nat}:∀{vs:List AV} {cs:List Value} {ks:List KC},zY vs=some ks→cs.length=vs.length→(∀(j:Nat)(h:j<vs.length)(h':j<cs.length),bc L N T w (vs[j]'h) (cs[j]'h'))→cs=ks.map KC.val
 |[],cs,ks,h,hl,_=>by
  have:cs=[]:=eq_nil_of_length_eq_zero (by simpa using hl);simp only[zY,Option.some.injEq] at h;subst h;rw[this];rfl
 |v::vs,c::cs,ks,h,hl,hr=>by
  simp only[zY] at h
  split at h
  ·rename_i k ks' h1 h2
   cases h
   have h0:=hr 0 (by simp) (by simp);simp only[getElem_cons_zero] at h0;have:=xB (cs:=cs) h2 (by simpa using hl) (fun j hj bR=>by have:=hr (j+1) (by simpa using hj) (by simpa using bR);simpa using this);rw[this,AZ h1 h0];rfl
  ·cases h
theorem xA {N:Nat}{v:AV}{c:Value}{k:cN}(h:EH v=some k)(hr:bc L N T w v c):c=k.val:=by
 unfold EH at h
 split at h
 ·rename_i cs;obtain⟨ks,h1,rfl⟩:=Option.map_eq_some_iff.1 h
  cases hr with
  |agg _ cv h2 h3 h4=>
   have:=xB (cs:=cv.toList) h1 (by simpa using h2) (fun j hj bR=>by simpa using h4 j hj (by simpa using bR));show Value.agg cv=.agg (ks.map KC.val).toArray;rw[←this]
 ·obtain⟨c',h1,rfl⟩:=Option.map_eq_some_iff.1 h;exact AZ h1 hr
theorem DV {k:TypeId}(h:P1 P k=true):Maps.Keyed P k:=by
 unfold P1 at h
 split at h
 ·rename_i hu;exact Maps.bool_keyed hu
 ·rename_i hu;exact Maps.int_keyed hu
 ·rename_i hu;exact Maps.string_keyed hu
 ·rename_i hu;simp only[Bool.and_eq_true] at h;exact Maps.Keyed.of_law (deep_law (m:=3) (by omega) h.1 h.2 (by simp[hu]))
 ·rename_i hu;simp only[Bool.and_eq_true] at h;exact Maps.Keyed.of_law (deep_law (m:=3) (by omega) h.1 h.2 (by simp[hu]))
 ·cases h
theorem uX {t kt el:TypeId}(h:tq P t=some (kt,el)):P.underlying t=some (.map kt el)∧Maps.Keyed P kt:=by
 unfold tq at h
 split at h
 ·rename_i k e hu
  split at h
  ·rename_i hk
   cases h
   exact⟨hu,DV hk⟩
  ·cases h
 ·cases h
theorem Ed {t:TypeId}{z:AV}{N:Nat}(h:n9 P t=some z):∃c,(zeroValue t).run P w=.ok c w∧bc L N T w z c:=by
 unfold n9 at h;obtain⟨i,hi,h2⟩:=Option.bind_eq_some_iff.1 h;obtain⟨c,hc,rfl⟩:=Option.map_eq_some_iff.1 h2;exact⟨c,jo hi hc w,.Mh c⟩
theorem bc.uU {N:Nat}{i:Nat}{c:Value}(h:bc L N T w (.aO i) c):c=.map (some (L.bN i))∧i<N:=by cases h;exact⟨rfl,‹_›⟩
theorem bT.JR {w':World}(h:bT L H T w){i:Nat}{b b':aA}(hi:H[i]?=some b)(hm:L.m (L.bN i)=0)(dA:∀x,x≠L.bN i→w'.heap[x]?=w.heap[x]?)(hz:w'.heap.size=w.heap.size)
  (ho:w'.os=w.os) (Sq:w'.tape=w.tape) (yp:w'.output=w.output) (oH:w.drawn≤w'.drawn) (vN:cS L H.length T w L H.length T w'→lg L H.length T w' i b') :
  bT L (H.set i b') T w'∧Ev H.length T.length L H.length T w L (H.set i b').length T w':=by
 have cC:=(List.getElem?_eq_some_iff.1 hi).1;have qq:∀b o',o'<L.m b→w'.cell? ⟨b,o',none⟩=w.cell? ⟨b,o',none⟩:=by
  intro b o' aZ;refine gW (dA _ ?_) o';rintro rfl;omega
 have kp:cS L H.length T w L H.length T w':=
  ⟨le_refl _,fun _ _=>rfl,fun t u z h=>⟨u,h,le_refl _,fun _=>rfl⟩,fun _=>le_refl _,qq,rfl⟩
 refine⟨⟨fun j b hb=>?_,fun a b ha hb=>h.inj a b (by simpa using ha) (by simpa using hb),fun t u z ht=>?_,h.nH,fun t u z j ht hs hj=>h.jv t u z j ht hs (by simpa using hj),fun b hb=>h.mz b (by omega),h.gl.keep kp.m kp.rz⟩,
  by simp,fun _ _=>rfl,fun t u z _ h=>⟨u,h,le_refl _,fun _=>rfl⟩,le_refl _,fun _=>le_refl _,qq,by omega,fun b hb hn=>?_,fun b hb=>.inl (by simpa using hb),ho,Sq,yp,fun _=>oH,rfl⟩
 ·rw[length_set]
  by_cases sZ:i=j
  ·subst sZ;rw[getElem?_set_self cC] at hb
   cases hb
   exact vN kp
  ·rw[getElem?_set_ne sZ] at hb;have ph:=(List.getElem?_eq_some_iff.1 hb).1;exact(h.box j b hb).stay kp ph (dA _ fun e=>sZ (h.inj j i ph cC e).symm) id
 ·obtain⟨k1,k2⟩:=h.tok t u z ht;refine⟨k1,fun hs=>?_⟩;rw[dA _ (h.jv t u z i ht hs cC)];exact k2 hs
 ·exact dA _ (fun e=>hn (.inl ⟨i,cC,e.symm⟩))
theorem bT.JW (h:bT L H T w)(o:Obj)(b:aA)(hb:∀L',cS L H.length T w L' (H.length+1) T (w.alloc o)→L'.bN H.length=w.heap.size→L'.m w.heap.size=0→lg L' (H.length+1) T (w.alloc o) H.length b) :
  ∃L',bT L' (H++[b]) T (w.alloc o)∧Ev H.length T.length L H.length T w L' (H++[b]).length T (w.alloc o)∧L'.bN H.length=w.heap.size:=by
 have h1:=h.alloc o 0;have e1:=Ev.alloc h o 0;have Et:¬Wr (L.bQ w.heap.size 0) H.length T w.heap.size:=h.uD (le_refl _);have e2:=Ev.p7 (b:=w.heap.size) b e1 (le_refl _);have qp:((L.bQ w.heap.size 0).de H.length w.heap.size).bN H.length=w.heap.size:=by simp[Lay.de]
 have kp:=e2.keeps;have hl:(H++[b]).length=H.length+1:=by simp
 rw[hl] at kp;exact⟨(L.bQ w.heap.size 0).de H.length w.heap.size,h1.p7 w.heap.size Et b (fun hle=>by simp at hle;omega) (hb _ kp qp (by simp[Lay.de,Lay.bQ])),e2,qp⟩
theorem run_makeMap (hc:bT L H T w)(t:TypeId):∃cv w' L',(Instr.makeMap t none).run P w=.ok cv w'∧bT L' (H++[.map []]) T w'∧bc L' (H++[aA.map []]).length T w' (.aO H.length) cv∧Ev H.length T.length L H.length T w L' (H++[aA.map []]).length T w':=by
 obtain⟨L',h1,h2,h3⟩:=hc.JW (.map #[] 0) (.map []) (fun L' kp hp hm=>⟨#[],by rw[hp];exact eI w _,rfl,fun j hj=>by simp at hj,by simp,by rw[hp];exact hm⟩);refine⟨.map (some w.heap.size),_,L',rfl,h1,?_,h2⟩;rw[←h3];exact .aO _ (by simp)
theorem AG (kt:TypeId)(K:Maps.Keyed P kt){N:Nat}{es:List (cN×AV)}{dz:Array MapEntry}{k:cN}(iQ:dz.size=es.length)
  (hr:∀(j:Nat)(h:j<es.length)(h':j<dz.size),(dz[j]'h').key=(es[j]'h).1.val∧(dz[j]'h').born=j∧bc L N T w (es[j]'h).2 (dz[j]'h').val) (hk:kX P kt k=true) (CG:cW P kt es=true) :
  ((Instr.findKey kt k.val dz.toList).run P w=.ok none w∧∀e∈es,e.1≠k)∨∃(j:Nat) (h:j<es.length) (h':j<dz.size),(Instr.findKey kt k.val dz.toList).run P w=.ok (some (j,(dz[j]'h').val)) w∧(es[j]'h).1=k:=by
 obtain⟨l,hl⟩:=Option.isSome_iff_exists.1 hk;have fj:∀e∈dz.toList,∃l,keyOf P kt e.key=some l:=by
  intro e he;obtain⟨j,hj,rfl⟩:=List.mem_iff_getElem.1 he;have bR:j<dz.size:=by simpa using hj
  have vW:j<es.length:=by omega
  have:=(hr j vW bR).1;rw[Array.getElem_toList,this];have h2:=List.all_eq_true.1 CG _ (getElem_mem vW);exact Option.isSome_iff_exists.1 h2
 rcases K.find w hl dz.toList fj with⟨h1,h2⟩|⟨j,e,h1,h2,h3⟩
 ·refine .inl ⟨h1,fun e he ry=>?_⟩;obtain⟨j,hj,rfl⟩:=List.mem_iff_getElem.1 he;have bR:j<dz.size:=by omega
  refine h2 dz[j] (by simp) ?_;rw[(hr j hj bR).1,ry]
 ·obtain⟨hj,rfl⟩:=List.getElem?_eq_some_iff.1 h2;have bR:j<dz.size:=by simpa using hj
  have vW:j<es.length:=by omega
  rw[Array.getElem_toList] at h1 h3;exact .inr ⟨j,vW,bR,h1,cN.val_inj (by rw[←(hr j vW bR).1];exact h3)⟩
theorem DB (hc:bT L H T w){t kt el:TypeId}{m:Nat}{es:List (cN×AV)}{k:cN}{z:AV}(ok:Bool)(hT:tq P t=some (kt,el))(hi:H[m]?=some (.map es))(hz:n9 P el=some z)
  (hk:kX P kt k=true) (CG:cW P kt es=true):∃cv,(Instr.lookup t (.map (some (L.bN m))) k.val ok).run P w=.ok cv w∧bc L H.length T w (gS es k z ok) cv:=by
 obtain⟨hu,K⟩:=uX hT;obtain⟨dz,g1,g2,g3,g4,_⟩:=hc.box m _ hi;obtain⟨l,hl⟩:=Option.isSome_iff_exists.1 hk;have fin:∀(v:AV)(c:Value)(b:Bool),bc L H.length T w v c→bc L H.length T w (if ok then .df [v,.bool b] else v) (if ok then .tuple #[c,.bool b] else c):=by
  intro v c b hv
  cases ok
  ·exact hv
  ·refine .df _ _ rfl (fun j hj bR=>?_)
   match j,hj with
   |0,_=>exact hv
   |1,_=>exact .bool _
 rcases AG kt K g2 g3 hk CG with⟨h1,h2⟩|⟨j,hj,bR,h1,h2⟩
 ·obtain⟨c,c1,c2⟩:=Ed (P:=P) (L:=L) (N:=H.length) (T:=T) (w:=w) hz;refine⟨if ok then .tuple #[c,.bool false] else c,?_,?_⟩
  ·simp only[Instr.lookup,Sem.run_bind,run_underlying hu,Result.andThen_ok,MapKept.run_getObj_map g1,K.check w _ hl,h1,c1,Sem.run_pure]
  ·have:=fin z c false c2;simpa only[gS,oW h2,Option.getD_none,Option.isSome_none] using this
 ·refine⟨if ok then .tuple #[dz[j].val,.bool true] else dz[j].val,?_,?_⟩
  ·simp only[Instr.lookup,Sem.run_bind,run_underlying hu,Result.andThen_ok,MapKept.run_getObj_map g1,K.check w _ hl,h1,Sem.run_pure]
  ·have:=fin _ _ true (g3 j hj bR).2.2;simpa only[gS,tO g4 hj h2,Option.getD_some,Option.isSome_some] using this
theorem wq (hc:bT L H T w){t kt el:TypeId}{m:Nat}{es:List (cN×AV)}{k:cN}{v:AV}{c:Value}(hT:tq P t=some (kt,el))(hi:H[m]?=some (.map es))(hv:bc L H.length T w v c)
  (hk:kX P kt k=true) (CG:cW P kt es=true):∃w',(Instr.mapUpdate t (.map (some (L.bN m))) k.val c).run P w=.ok () w'∧bT L (H.set m (.map (jH es k v))) T w'∧Ev H.length T.length L H.length T w L (H.set m (.map (jH es k v))).length T w':=by
 obtain⟨hu,K⟩:=uX hT;obtain⟨dz,g1,g2,g3,g4,g5⟩:=hc.box m _ hi;obtain⟨l,hl⟩:=Option.isSome_iff_exists.1 hk;have hY:=(List.getElem?_eq_some_iff.1 hi).1;have aZ:=hc.lE hY;have put:∀(o:Obj),(cS L H.length T w L H.length T { w with heap:=w.heap.setIfInBounds (L.bN m) o }→lg L H.length T { w with heap:=w.heap.setIfInBounds (L.bN m) o } m (.map (jH es k v)))→
   bT L (H.set m (.map (jH es k v))) T { w with heap:=w.heap.setIfInBounds (L.bN m) o }∧Ev H.length T.length L H.length T w L (H.set m (.map (jH es k v))).length T { w with heap:=w.heap.setIfInBounds (L.bN m) o }:=fun o hb=>
  hc.JR hi g5 (fun x hx=>Array.getElem?_setIfInBounds_ne (fun e=>hx e.symm)) (by simp) rfl rfl rfl (le_refl _) hb
 have new:∀o:Obj,(w.heap.setIfInBounds (L.bN m) o)[L.bN m]?=some o:=fun o=>by simp[aZ]
 rcases AG kt K g2 g3 hk CG with⟨h1,h2⟩|⟨j,hj,bR,h1,h2⟩
 ·refine⟨_,?_,put (.map (dz.push { key:=k.val,val:=c,born:=es.length }) (es.length+1)) fun kp=>?_⟩
  ·simp only[Instr.mapUpdate,Sem.run_bind,run_underlying hu,Result.andThen_ok,MapKept.run_getObj_map g1,K.check w _ hl,h1,MapKept.run_setObj_map _ g1]
  ·have e:=lZ (v:=v) h2;refine⟨dz.push { key:=k.val,val:=c,born:=es.length },by rw[new,e];simp,by rw[e];simp[g2],fun j hj bR=>?_,?_,g5⟩
   ·rcases lt_or_ge j es.length with ph|ph
    ·have ID:j<dz.size:=by omega
     have:=g3 j ph ID;simp only[e,List.getElem_append_left ph,Array.getElem_push_lt ID];exact⟨this.1,this.2.1,this.2.2.keep kp⟩
    ·have:j=es.length:=by simp[e] at hj;omega
     subst this;have e2:(dz.push { key:=k.val,val:=c,born:=es.length })[es.length]'bR={ key:=k.val,val:=c,born:=es.length }:=by simp[←g2]
     simp only[e,e2,List.getElem_append_right (le_refl _),Nat.sub_self,getElem_cons_zero];exact⟨trivial,trivial,hv.keep kp⟩
   ·rw[e,List.map_append,List.nodup_append];refine⟨g4,by simp,fun a ha b hb=>?_⟩;obtain⟨x,hx,rfl⟩:=List.mem_map.1 ha;simp at hb;rw[hb];exact h2 x hx
 ·have jK:=(g3 j hj bR).1;rw[h2] at jK;have eM:(Instr.keyThatStays k.val k.val).run P w=.ok k.val w:=K.stays w hl;refine⟨_,?_,put (.map (dz.modify j fun e=>{ e with key:=k.val,val:=c }) es.length) fun kp=>?_⟩
  ·have e0:((dz[j]?.map (·.key)).getD k.val)=k.val:=by rw[Array.getElem?_eq_getElem bR];exact jK
   simp only[Instr.mapUpdate,Sem.run_bind,run_underlying hu,Result.andThen_ok,MapKept.run_getObj_map g1,K.check w _ hl,h1,e0,eM,MapKept.run_setObj_map _ g1]
  ·have e:=yS (v:=v) g4 hj h2;refine⟨dz.modify j fun e=>{ e with key:=k.val,val:=c },by rw[new,e];simp,by rw[e];simp[g2],fun i gX dY=>?_,?_,g5⟩
   ·have cC:i<es.length:=by simpa[e] using gX
    have tJ:i<dz.size:=by omega
    have:=g3 i cC tJ;simp only[e,Array.getElem_modify,getElem_set]
    by_cases jt:j=i
    ·subst jt;simp only[if_true];exact⟨trivial,this.2.1,hv.keep kp⟩
    ·simp only[if_neg jt];exact⟨this.1,this.2.1,this.2.2.keep kp⟩
   ·rw[e,List.map_set];have:(es.map (·.1)).set j k=es.map (·.1):=by
     apply ext_getElem (by simp);intro i h3 h4;rw[getElem_set]
     split
     ·rename_i jt;subst jt;simp[h2]
     ·rfl
    rw[this];exact g4
theorem Dy (hc:bT L H T w){t kt el:TypeId}{m:Nat}{es:List (cN×AV)}(hT:tq P t=some (kt,el))(hi:H[m]?=some (.map es)) :
  ∃cv w' L',(Instr.range t (.map (some (L.bN m)))).run P w=.ok cv w'∧bT L' (H++[.kK m es.length []]) T w'∧bc L' (H++[aA.kK m es.length []]).length T w' (.ptr H.length 0) cv∧Ev H.length T.length L H.length T w L' (H++[aA.kK m es.length []]).length T w':=by
 obtain⟨hu,K⟩:=uX hT;obtain⟨dz,g1,g2,g3,g4,g5⟩:=hc.box m _ hi;have hY:=(List.getElem?_eq_some_iff.1 hi).1;obtain⟨L',h1,h2,h3⟩:=hc.JW (.mapIter (some (L.bN m)) es.length #[] es.length) (.kK m es.length [])
  (fun L' kp hp hm=>⟨by rw[hp,kp.bN m hY];exact eI w _,hY,by rw[hp];exact hm⟩)
 refine⟨.pointer (some ⟨w.heap.size,0,none⟩),_,L',run_range_map w t kt el _ dz es.length hu g1,h1,?_,h2⟩;rw[←h3];exact .ptr _ _ (by simp)
theorem GX (hc:bT L H T w)(ty:TypeId){i m:Nat}{es:List (cN×AV)}{seen:List Nat}(hi:H[i]?=some (.kK m es.length seen))(hm:H[m]?=some (.map es)) :
  ((∀j,j<es.length→j∈seen)∧(Instr.next (.pointer (some ⟨L.bN i,0,none⟩)) false ty).run P w=.ok (.tuple #[.bool false]) w)∨
  ∃(j:Nat) (hj:j<es.length) (cv:Value) (w':World),j∉seen∧(Instr.next (.pointer (some ⟨L.bN i,0,none⟩)) false ty).run P w=.ok cv w'∧bT L (H.set i (.kK m es.length (seen++[j]))) T w'∧
   bc L (H.set i (.kK m es.length (seen++[j]))).length T w' (.df [.bool true,(es[j]).1.av,(es[j]).2]) cv∧Ev H.length T.length L H.length T w L (H.set i (.kK m es.length (seen++[j]))).length T w':=by
 obtain⟨dz,g1,g2,g3,g4,g5⟩:=hc.box m _ hm;obtain⟨k1,k2,k3⟩:=hc.box i _ hi;have cC:=(List.getElem?_eq_some_iff.1 hi).1;have aZ:=hc.lE cC;have born:∀x∈dz.toList,x.born<es.length:=by
  intro x hx;obtain⟨j,hj,rfl⟩:=List.mem_iff_getElem.1 hx;have bR:j<dz.size:=by simpa using hj
  rw[Array.getElem_toList,(g3 j (by omega) bR).2.1];omega
 rcases run_next_at (P:=P) w ty (L.bN i) (L.bN m) es.length es.length seen.toArray dz es.length k1 g1 born (le_refl _) with⟨h1,h2⟩|⟨e,he,w1,hw,h2⟩
 ·refine .inl ⟨fun j hj=>?_,h2⟩;have bR:j<dz.size:=by omega
  have h0:leftOf dz seen.toArray=#[]:=Array.eq_empty_of_size_eq_zero h1;unfold leftOf at h0;rw[Array.filter_eq_empty_iff] at h0;have:=h0 dz[j] (by simp);rw[(g3 j hj bR).2.1] at this;simpa using this
 ·unfold leftOf at he;simp only[Array.toList_filter,List.mem_filter] at he;obtain⟨hem,CG⟩:=he;obtain⟨j,hj,rfl⟩:=List.mem_iff_getElem.1 hem;have bR:j<dz.size:=by simpa using hj
  have ph:j<es.length:=by omega
  obtain⟨b1,b2,b3⟩:=g3 j ph bR;simp only[Array.getElem_toList] at h2 CG;rw[b2] at h2 CG;have Rl:j∉seen:=by simpa using CG
  have hh:w1.heap=w.heap:=by rcases hw with rfl|rfl<;>rfl
  have ho:w1.os=w.os∧w1.tape=w.tape∧w1.output=w.output∧w.drawn≤w1.drawn:=by rcases hw with rfl|rfl<;>exact⟨rfl,rfl,rfl,by first|exact le_refl _|exact le_succ _⟩
  have hb:∀o:Obj,(ChangeMaps.setBlock w1 (L.bN i) o).heap=w.heap.setIfInBounds (L.bN i) o:=fun o=>by simp[ChangeMaps.setBlock,hh]
  obtain⟨c1,c2⟩:=hc.JR (w':=ChangeMaps.setBlock w1 (L.bN i) (.mapIter (some (L.bN m)) es.length (seen.toArray.push j) es.length)) (b':=.kK m es.length (seen++[j])) hi k3
   (fun x hx=>by rw[hb];exact Array.getElem?_setIfInBounds_ne (fun e=>hx e.symm)) (by rw[hb];simp) ho.1 ho.2.1 ho.2.2.1 ho.2.2.2 (fun kp=>⟨by rw[hb];simp[aZ],k2,k3⟩)
  refine .inr ⟨j,ph,_,_,Rl,h2,c1,?_,c2⟩;refine .df _ _ rfl (fun j' Ry vW=>?_)
  match j',Ry with
  |0,_=>exact .bool _
  |1,_=>simp only[getElem_toArray,List.getElem_cons_succ,getElem_cons_zero,b1];exact cN.rep _
  |2,_=>
   have:=b3.keep (by simpa using c2.keeps);simpa using this
theorem DA (hc:bT L H T w){i m j:Nat}{es:List (cN×AV)}{seen:List Nat}(hi:H[i]?=some (.kK m es.length (seen++[j])))(hm:H[m]?=some (.map es))(hj:j<es.length) :
  ∃cv,(Instr.entry (.pointer (some ⟨L.bN i,0,none⟩))).run P w=.ok cv w∧bc L H.length T w (.df [(es[j]).1.av,(es[j]).2]) cv:=by
 obtain⟨dz,g1,g2,g3,g4,g5⟩:=hc.box m _ hm;obtain⟨k1,k2,k3⟩:=hc.box i _ hi;have bR:j<dz.size:=by omega
 obtain⟨b1,b2,b3⟩:=g3 j hj bR;have hn:(dz.toList.map (·.born)).Nodup:=by
  have:dz.toList.map (·.born)=List.range dz.size:=by
   apply ext_getElem (by simp);intro x h1 h2;simp only[getElem_map,Array.getElem_toList,List.getElem_range];exact(g3 x (by simp at h1;omega) (by simpa using h1)).2.1
  rw[this];exact List.nodup_range
 refine⟨_,run_entry_at (P:=P) w (L.bN i) (L.bN m) es.length seen.toArray dz es.length dz[j] (by rw[b2,k1];simp) g1 (by simp) hn,?_⟩;refine .df _ _ rfl (fun j' Ry vW=>?_)
 match j',Ry with
 |0,_=>simp only[getElem_toArray,getElem_cons_zero,b1];exact cN.rep _
 |1,_=>exact b3
end
end Go.Am
