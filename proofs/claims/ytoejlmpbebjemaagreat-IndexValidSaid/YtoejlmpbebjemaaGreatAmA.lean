/- The abstract machine: abstract values, their representation in a world of the model, and the evolution of worlds. Rules for the structured code over abstract states: sequence, condition, block, loop, region, region that draws its order; contracts of calls. Steps of the world that keep what is represented: a new row, a new box, a new token, a store into a box. Steps of the world that keep what is represented, continued: a store into a box; a row that grows in place or anew. Operations that neither read nor write memory, over abstract values, and that they are what the model does. Operations that read memory or make new variables, over abstract values, and that they are what the model does. Indexing, slicing, fields, conversions and making of values, over abstract values; they are what the model does. Conversions, composite values, new slices, and append, over abstract values; they are what the model does. Composite values, make, append, iterators over strings; they are what the model does. make, append, iterators over strings; they are what the model does. Maps over abstract values: their keys, and the operations on them; they are what the model does.
  Conditions: as the theorems say. -/
import Derived.WalkKit
import Derived.Orders
import Derived.ChangeKeysEq
import Derived.Maps.RangeRun
import Derived.Maps.Keyed
set_option linter.all false
namespace Go.Am
open Go
inductive Tag where
 |none
 |full
 |own (t:Nat)
inductive KC where
 |int (k:IntKind) (n:Int)
 |str (s:List UInt8)
 |bool (b:Bool)
 deriving DecidableEq
inductive MKey where
 |one (c:KC)
 |agg (cs:List KC)
 deriving DecidableEq
def KC.val:KC→Value
 |.int k n=>.int k n
 |.str s=>.string ⟨s.toArray⟩
 |.bool b=>.bool b
def MKey.val:MKey→Value
 |.one c=>c.val
 |.agg cs=>.agg (cs.map KC.val).toArray
inductive AV where
 |top
 |bool (b:Bool)
 |int (k:IntKind) (n:Int)
 |str (s:List UInt8)
 |nilp
 |ptr (i o:Nat)
 |vptr (cs:List AV) (o:Nat)
 |sl (n:Nat) (cs:List AV) (tg:Tag)
 |msl (i o n:Nat)
 |csl (i n cap:Nat)
 |mref (i:Nat)
 |fn (f:FuncId) (first caps:List AV)
 |nilf
 |nili
 |ifc
 |agg (cs:List AV)
 |tup (cs:List AV)
abbrev Toks:=List (Nat×Nat)
abbrev Env:=List (Nat×AV)
inductive Blk where
 |cells (vs:List AV)
 |iter (s:List UInt8) (pos:Nat)
 |map (es:List (MKey×AV))
 |mit (m n:Nat) (seen:List Nat)
 |glob (g:Nat) (p:Obj→Prop)
@[simp] def Blk.vals:Blk→List AV
 |.cells vs=>vs
 |.map es=>es.map (·.2)
 |.iter _ _=>[]
 |.mit _ _ _=>[]
 |.glob _ _=>[]
structure Tk where
 b:Nat
 o:Nat
 c:Nat
structure Lay where
 phi:Nat→Nat
 tau:Nat→Tk
 m:Nat→Nat
 dr:Bool
def tagOk (L:Lay)(T:Toks)(tg:Tag)(n u:Nat)(a:Option Addr)(cap:Nat):Prop:=
 match tg with
 |.none=>True
 |.full=>cap=n
 |.own t=>∃u0 z,T[t]?=some (u0,z)∧u≤u0∧(u0=u→cap=n∨(a=some ⟨(L.tau t).b,(L.tau t).o,none⟩∧cap=(L.tau t).c))
inductive Rep (L:Lay) (N:Nat) (T:Toks) (w:World):AV→Value→Prop
 |top (v:Value):Rep L N T w .top v
 |bool (b:Bool):Rep L N T w (.bool b) (.bool b)
 |int (k:IntKind) (n:Int):Rep L N T w (.int k n) (.int k n)
 |str (s:List UInt8):Rep L N T w (.str s) (.string ⟨s.toArray⟩)
 |nilp:Rep L N T w .nilp (.pointer none)
 |ptr (i o:Nat) (h:i<N):Rep L N T w (.ptr i o) (.pointer (some ⟨L.phi i,o,none⟩))
 |vptr (cs:List AV) (o b base:Nat) (f:Nat→Value) (hm:base+cs.length≤L.m b)
   (hc:∀j,j<cs.length→w.cell? ⟨b,base+j,none⟩=some (f j)) (h1:∀j,j<cs.length→(f j).oneCell'=true)
   (hr:∀(j:Nat)(h:j<cs.length),Rep L N T w (cs[j]'h) (f j)) :
   Rep L N T w (.vptr cs o) (.pointer (some ⟨b,base+o,none⟩))
 |sl0 (tg:Tag) (a:Option Addr) (cap:Nat) (ht:tagOk L T tg 0 0 a cap):Rep L N T w (.sl 0 [] tg) (.slice a 0 cap)
 |sl1 (n:Nat) (cs:List AV) (tg:Tag) (b base cap:Nat) (f:Nat→Value) (hcap:n≤cap) (hm:base+cs.length≤L.m b)
   (hc:∀j,j<cs.length→w.cell? ⟨b,base+j,none⟩=some (f j)) (h1:∀j,j<cs.length→(f j).oneCell'=true)
   (hr:∀(j:Nat)(h:j<cs.length),Rep L N T w (cs[j]'h) (f j))
   (ht:tagOk L T tg n cs.length (some ⟨b,base,none⟩) cap) :
   Rep L N T w (.sl n cs tg) (.slice (some ⟨b,base,none⟩) n cap)
 |msl (i o n cap:Nat) (h:i<N) (hcap:n≤cap):Rep L N T w (.msl i o n) (.slice (some ⟨L.phi i,o,none⟩) n cap)
 |csl (i n cap:Nat) (h:i<N) (hcap:n≤cap):Rep L N T w (.csl i n cap) (.slice (some ⟨L.phi i,0,none⟩) n cap)
 |mref (i:Nat) (h:i<N):Rep L N T w (.mref i) (.map (some (L.phi i)))
 |fn (f:FuncId) (first caps:List AV) (fv cv:Array Value) (h1:fv.size=first.length) (h2:cv.size=caps.length)
   (hr1:∀(j:Nat)(h:j<first.length)(h':j<fv.size),Rep L N T w (first[j]'h) (fv[j]'h'))
   (hr2:∀(j:Nat)(h:j<caps.length)(h':j<cv.size),Rep L N T w (caps[j]'h) (cv[j]'h')) :
   Rep L N T w (.fn f first caps) (.func (.func f) fv cv)
 |nilf:Rep L N T w .nilf .nilFunc
 |nili:Rep L N T w .nili .nilIface
 |ifc (t:TypeId) (v:Value):Rep L N T w .ifc (.iface t v)
 |agg (cs:List AV) (cv:Array Value) (h1:cv.size=cs.length) (h2:∀(j:Nat)(h':j<cv.size),(cv[j]'h').oneCell'=true)
   (hr:∀(j:Nat)(h:j<cs.length)(h':j<cv.size),Rep L N T w (cs[j]'h) (cv[j]'h')):Rep L N T w (.agg cs) (.agg cv)
 |tup (cs:List AV) (cv:Array Value) (h1:cv.size=cs.length)
   (hr:∀(j:Nat)(h:j<cs.length)(h':j<cv.size),Rep L N T w (cs[j]'h) (cv[j]'h')):Rep L N T w (.tup cs) (.tuple cv)
structure Keeps (L:Lay)(N:Nat)(T:Toks)(w:World)(L':Lay)(N':Nat)(T':Toks)(w':World):Prop where
 n:N≤N'
 phi:∀i,i<N→L'.phi i=L.phi i
 tok:∀t u z,T[t]?=some (u,z)→∃u',T'[t]?=some (u',z)∧u≤u'∧(u'=u→L'.tau t=L.tau t)
 m:∀b,L.m b≤L'.m b
 com:∀b o,o<L.m b→w'.cell? ⟨b,o,none⟩=w.cell? ⟨b,o,none⟩
 dr:L'.dr=L.dr
theorem Keeps.refl (L:Lay)(N:Nat)(T:Toks)(w:World):Keeps L N T w L N T w:=
 ⟨Nat.le_refl _,fun _ _=>rfl,fun _ u _ h=>⟨u,h,Nat.le_refl _,fun _=>rfl⟩,fun _=>Nat.le_refl _,fun _ _ _=>rfl,rfl⟩
theorem Keeps.trans {L N T w L1 N1 T1 w1 L2 N2 T2 w2}(h:Keeps L N T w L1 N1 T1 w1)(k:Keeps L1 N1 T1 w1 L2 N2 T2 w2):Keeps L N T w L2 N2 T2 w2:=by
 refine⟨Nat.le_trans h.n k.n,fun i hi=>?_,fun t u z ht=>?_,fun b=>Nat.le_trans (h.m b) (k.m b),fun b o ho=>?_,k.dr.trans h.dr⟩
 ·rw[k.phi i (Nat.lt_of_lt_of_le hi h.n),h.phi i hi]
 ·obtain⟨u1,h1,hle,he⟩:=h.tok t u z ht;obtain⟨u2,h2,hle2,he2⟩:=k.tok t u1 z h1;refine⟨u2,h2,Nat.le_trans hle hle2,fun e=>?_⟩;rw[he2 (by omega),he (by omega)]
 ·rw[k.com b o (Nat.lt_of_lt_of_le ho (h.m b)),h.com b o ho]
theorem tagOk.keep {L N T w L' N' T' w' tg n u a cap}(k:Keeps L N T w L' N' T' w')(h:tagOk L T tg n u a cap):tagOk L' T' tg n u a cap:=by
 cases tg with
 |none=>trivial
 |full=>exact h
 |own t=>
  obtain⟨u0,z,h0,hle,he⟩:=h;obtain⟨u1,h1,hle1,he1⟩:=k.tok t u0 z h0;refine⟨u1,z,h1,by omega,fun e=>?_⟩;rw[he1 (by omega)];exact he (by omega)
theorem Rep.keep {L N T w L' N' T' w' v c}(k:Keeps L N T w L' N' T' w')(h:Rep L N T w v c):Rep L' N' T' w' v c:=by
 induction h with
 |top v=>exact .top v
 |bool b=>exact .bool b
 |int k n=>exact .int k n
 |str s=>exact .str s
 |nilp=>exact .nilp
 |ptr i o h=>rw[←k.phi i h];exact .ptr i o (Nat.lt_of_lt_of_le h k.n)
 |vptr cs o b base f hm hc h1 hr ih=>
  exact .vptr cs o b base f (Nat.le_trans hm (k.m b)) (fun j hj=>by rw[k.com _ _ (by omega)];exact hc j hj) h1 ih
 |sl0 tg a cap ht=>exact .sl0 tg a cap (ht.keep k)
 |sl1 n cs tg b base cap f hcap hm hc h1 hr ht ih=>
  exact .sl1 n cs tg b base cap f hcap (Nat.le_trans hm (k.m b)) (fun j hj=>by rw[k.com _ _ (by omega)];exact hc j hj) h1 ih (ht.keep k)
 |msl i o n cap h hcap=>rw[←k.phi i h];exact .msl i o n cap (Nat.lt_of_lt_of_le h k.n) hcap
 |csl i n cap h hcap=>rw[←k.phi i h];exact .csl i n cap (Nat.lt_of_lt_of_le h k.n) hcap
 |mref i h=>rw[←k.phi i h];exact .mref i (Nat.lt_of_lt_of_le h k.n)
 |fn f first caps fv cv h1 h2 hr1 hr2 ih1 ih2=>exact .fn f first caps fv cv h1 h2 ih1 ih2
 |nilf=>exact .nilf
 |nili=>exact .nili
 |ifc t v=>exact .ifc t v
 |agg cs cv h1 h2 hr ih=>exact .agg cs cv h1 h2 ih
 |tup cs cv h1 hr ih=>exact .tup cs cv h1 ih
def Wr (L:Lay)(N:Nat)(T:Toks)(b:Nat):Prop:=
 (∃i,i<N∧L.phi i=b)∨(∃t u z,T[t]?=some (u,z)∧u<(L.tau t).c*z∧(L.tau t).b=b)
structure Ev (nb tb:Nat)(L:Lay)(N:Nat)(T:Toks)(w:World)(L':Lay)(N':Nat)(T':Toks)(w':World):Prop where
 n:nb≤N'
 phi:∀i,i<nb→L'.phi i=L.phi i
 tok:∀t u z,t<tb→T[t]?=some (u,z)→∃u',T'[t]?=some (u',z)∧u≤u'∧(u'=u→L'.tau t=L.tau t)
 t:tb≤T'.length
 m:∀b,L.m b≤L'.m b
 com:∀b o,o<L.m b→w'.cell? ⟨b,o,none⟩=w.cell? ⟨b,o,none⟩
 size:w.heap.size≤w'.heap.size
 frame:∀b,b<w.heap.size→¬Wr L N T b→w'.heap[b]?=w.heap[b]?
 wr:∀b,Wr L' N' T' b→Wr L N T b∨w.heap.size≤b
 os:w'.os=w.os
 tape:w'.tape=w.tape
 output:w'.output=w.output
 drawn:L.dr=true→w.drawn≤w'.drawn
 dr:L'.dr=L.dr
theorem Ev.refl {nb tb L N T w}(h:nb≤N)(h':tb≤T.length):Ev nb tb L N T w L N T w:=
 ⟨h,fun _ _=>rfl,fun _ u _ _ h=>⟨u,h,Nat.le_refl _,fun _=>rfl⟩,h',fun _=>Nat.le_refl _,fun _ _ _=>rfl,Nat.le_refl _,fun _ _ _=>rfl,
  fun _ h=>.inl h,rfl,rfl,rfl,fun _=>Nat.le_refl _,rfl⟩
theorem Ev.trans {nb tb L N T w L1 N1 T1 w1 L2 N2 T2 w2}(h:Ev nb tb L N T w L1 N1 T1 w1)(k:Ev nb tb L1 N1 T1 w1 L2 N2 T2 w2):Ev nb tb L N T w L2 N2 T2 w2:=by
 refine⟨k.n,fun i hi=>?_,fun t u z ht hT=>?_,k.t,fun b=>Nat.le_trans (h.m b) (k.m b),fun b o ho=>?_,Nat.le_trans h.size k.size,fun b hb hn=>?_,fun b hb=>?_,
  k.os.trans h.os,k.tape.trans h.tape,k.output.trans h.output,fun e=>Nat.le_trans (h.drawn e) (k.drawn (by rw[h.dr];exact e)),k.dr.trans h.dr⟩
 ·rw[k.phi i hi,h.phi i hi]
 ·obtain⟨u1,h1,hle,he⟩:=h.tok t u z ht hT;obtain⟨u2,h2,hle2,he2⟩:=k.tok t u1 z ht h1;refine⟨u2,h2,Nat.le_trans hle hle2,fun e=>?_⟩;rw[he2 (by omega),he (by omega)]
 ·rw[k.com b o (Nat.lt_of_lt_of_le ho (h.m b)),h.com b o ho]
 ·rw[k.frame b (Nat.lt_of_lt_of_le hb h.size) (fun hw=>?_),h.frame b hb hn];rcases h.wr b hw with h'|h'
  ·exact hn h'
  ·omega
 ·rcases k.wr b hb with h'|h'
  ·exact h.wr b h'
  ·exact .inr (Nat.le_trans h.size h')
theorem Ev.mono {nb tb nb' tb' L N T w L' N' T' w'}(h:Ev nb tb L N T w L' N' T' w')(hn:nb'≤nb)(ht:tb'≤tb):Ev nb' tb' L N T w L' N' T' w':=
 ⟨Nat.le_trans hn h.n,fun i hi=>h.phi i (Nat.lt_of_lt_of_le hi hn),fun t u z hlt=>h.tok t u z (Nat.lt_of_lt_of_le hlt ht),Nat.le_trans ht h.t,h.m,h.com,h.size,h.frame,h.wr,h.os,h.tape,h.output,h.drawn,h.dr⟩
theorem Ev.keeps {L N T w L' N' T' w'}(h:Ev N T.length L N T w L' N' T' w'):Keeps L N T w L' N' T' w':=
 ⟨h.n,h.phi,fun t u z hT=>h.tok t u z ((List.getElem?_eq_some_iff.1 hT).1) hT,h.m,h.com,h.dr⟩
def BoxOk (L:Lay)(N:Nat)(T:Toks)(w:World)(i:Nat):Blk→Prop
 |.cells vs=>∃c t fr,w.heap[L.phi i]?=some (.cells c t fr)∧(∀o,o<c.size→(fr.1≤o&&o<fr.2)=false)∧c.size=vs.length∧
   (∀(j:Nat)(h':j<c.size),(c[j]'h').oneCell'=true)∧
   (∀(j:Nat)(h:j<vs.length)(h':j<c.size),Rep L N T w (vs[j]'h) (c[j]'h'))∧L.m (L.phi i)=0
 |.iter s pos=>w.heap[L.phi i]?=some (.stringIter ⟨s.toArray⟩ pos)
 |.map es=>∃ents:Array MapEntry,w.heap[L.phi i]?=some (.map ents es.length)∧ents.size=es.length∧
   (∀(j:Nat)(h:j<es.length)(h':j<ents.size),(ents[j]'h').key=(es[j]'h).1.val∧(ents[j]'h').born=j∧Rep L N T w (es[j]'h).2 (ents[j]'h').val)∧(es.map (·.1)).Nodup∧L.m (L.phi i)=0
 |.mit m n seen=>w.heap[L.phi i]?=some (.mapIter (some (L.phi m)) n seen.toArray n)∧m<i∧L.m (L.phi i)=0
 |.glob g p=>L.phi i=g∧L.dr=false∧∃o,w.heap[g]?=some o∧p o
theorem BoxOk.stay {L N T w L' N' T' w' i b}(k:Keeps L N T w L' N' T' w')(h:BoxOk L N T w i b)(hi:i<N)(hh:w'.heap[L.phi i]?=w.heap[L.phi i]?)(hm:L.m (L.phi i)=0→L'.m (L.phi i)=0):BoxOk L' N' T' w' i b:=by
 have e:=k.phi i hi
 cases b with
 |cells vs=>
  obtain⟨c,t,fr,h1,h2,h3,h3',h4,h5⟩:=h;exact⟨c,t,fr,by rw[e,hh];exact h1,h2,h3,h3',fun j a b=>(h4 j a b).keep k,by rw[e];exact hm h5⟩
 |iter s pos=>show w'.heap[_]?=_;rw[e,hh];exact h
 |map es=>
  obtain⟨ents,h1,h2,h3,hn,h4⟩:=h;exact⟨ents,by rw[e,hh];exact h1,h2,fun j a b=>⟨(h3 j a b).1,(h3 j a b).2.1,(h3 j a b).2.2.keep k⟩,hn,by rw[e];exact hm h4⟩
 |mit m n seen=>
  obtain⟨h1,h2,h4⟩:=h;exact⟨by rw[e,hh,k.phi m (by omega)];exact h1,h2,by rw[e];exact hm h4⟩
 |glob g p=>
  obtain⟨h1,h4,o,h2,h3⟩:=h;exact⟨by rw[e,h1],by rw[k.dr,h4],o,by rw[←h1,hh,h1];exact h2,h3⟩
def TokOk (L:Lay)(w:World)(t u z:Nat):Prop:=
 0<z∧(u<(L.tau t).c*z→∃c e fr,w.heap[(L.tau t).b]?=some (.cells c e fr)∧(L.tau t).o+(L.tau t).c*z≤c.size∧
  (∀o,(L.tau t).o+u≤o→o<(L.tau t).o+(L.tau t).c*z→(fr.1≤o&&o<fr.2)=false)∧L.m (L.tau t).b≤(L.tau t).o+u)
def gints:List (Nat×Nat):=[]
def GOk (L:Lay)(w:World):Prop:=∀x∈gints,x.2<L.m x.1∧∃m,w.cell? ⟨x.1,x.2,none⟩=some (.int .i64 m)
theorem GOk.keep {L L':Lay}{w w':World}(h:GOk L w)(hm:∀b,L.m b≤L'.m b)(hc:∀b o,o<L.m b→w'.cell? ⟨b,o,none⟩=w.cell? ⟨b,o,none⟩):GOk L' w':=fun x hx=>by
 obtain⟨h1,m,h2⟩:=h x hx;exact⟨Nat.lt_of_lt_of_le h1 (hm _),m,by rw[hc _ _ h1];exact h2⟩
structure Con (L:Lay)(H:List Blk)(T:Toks)(w:World):Prop where
 box:∀i b,H[i]?=some b→BoxOk L H.length T w i b
 inj:∀i j,i<H.length→j<H.length→L.phi i=L.phi j→i=j
 tok:∀t u z,T[t]?=some (u,z)→TokOk L w t u z
 tinj:∀t u z t' u' z',T[t]?=some (u,z)→T[t']?=some (u',z')→u<(L.tau t).c*z→u'<(L.tau t').c*z'→(L.tau t).b=(L.tau t').b→t=t'
 tbox:∀t u z i,T[t]?=some (u,z)→u<(L.tau t).c*z→i<H.length→(L.tau t).b≠L.phi i
 mz:∀b,w.heap.size≤b→L.m b=0
 gl:GOk L w
theorem BoxOk.lt {L N T w i b}(h:BoxOk L N T w i b):L.phi i<w.heap.size:=by
 rcases Nat.lt_or_ge (L.phi i) w.heap.size with h1|h1
 ·exact h1
 ·exfalso
  cases b with
  |cells vs=>obtain⟨c,t,fr,hh,_⟩:=h;rw[Array.getElem?_eq_none h1] at hh;cases hh
  |iter s pos=>unfold BoxOk at h;rw[Array.getElem?_eq_none h1] at h;cases h
  |map es=>obtain⟨ents,hh,_⟩:=h;rw[Array.getElem?_eq_none h1] at hh;cases hh
  |mit m n seen=>obtain⟨hh,_⟩:=h;rw[Array.getElem?_eq_none h1] at hh;cases hh
  |glob g p=>obtain⟨e,_,o,hh,_⟩:=h;rw[←e,Array.getElem?_eq_none h1] at hh;cases hh
theorem Con.phi_lt {L H T w}(h:Con L H T w){i:Nat}(hi:i<H.length):L.phi i<w.heap.size:=
 (h.box i _ (List.getElem?_eq_getElem hi)).lt
theorem Con.tau_lt {L H T w}(h:Con L H T w){t u z:Nat}(ht:T[t]?=some (u,z))(hs:u<(L.tau t).c*z):(L.tau t).b<w.heap.size:=by
 obtain⟨_,h2⟩:=h.tok t u z ht;obtain⟨c,e,fr,hh,_⟩:=h2 hs;rcases Nat.lt_or_ge (L.tau t).b w.heap.size with h1|h1
 ·exact h1
 ·rw[Array.getElem?_eq_none h1] at hh;cases hh
theorem Con.wr_lt {L H T w}(h:Con L H T w){b:Nat}(hb:Wr L H.length T b):b<w.heap.size:=by
 rcases hb with⟨i,hi,rfl⟩|⟨t,u,z,ht,hs,rfl⟩
 ·exact h.phi_lt hi
 ·exact h.tau_lt ht hs
def eget:Env→Nat→AV
 |[],_=>.top
 |(s,v)::r,t=>if s=t then v else eget r t
def eput:Env→Nat→AV→Env
 |[],t,v=>[(t,v)]
 |(s,u)::r,t,v=>if s=t then (t,v)::r else (s,u)::eput r t v
theorem eget_eput_same (e:Env)(t:Nat)(v:AV):eget (eput e t v) t=v:=by
 induction e with
 |nil=>simp[eput,eget]
 |cons x r ih=>
  obtain⟨s,u⟩:=x
  by_cases h:s=t
  ·simp[eput,eget,h]
  ·simp[eput,eget,h,ih]
theorem eget_eput_other (e:Env)(t t':Nat)(v:AV)(hne:t≠t'):eget (eput e t v) t'=eget e t':=by
 induction e with
 |nil=>simp[eput,eget,hne]
 |cons x r ih=>
  obtain⟨s,u⟩:=x
  by_cases h:s=t
  ·subst h;simp[eput,eget,hne]
  ·by_cases h2:s=t'
   ·subst h2;simp[eput,eget,h]
   ·simp[eput,eget,h,h2,ih]
def EnvRep (L:Lay)(N:Nat)(T:Toks)(w:World)(e:Env)(a:Act):Prop:=
 ∀t,Rep L N T w (eget e t) (a.tmps.getD t undef)
theorem EnvRep.keep {L N T w L' N' T' w' e a}(k:Keeps L N T w L' N' T' w')(h:EnvRep L N T w e a):EnvRep L' N' T' w' e a:=fun t=>(h t).keep k
theorem getD_put (a:Act)(d t:Nat)(v:Value)(hd:d<a.tmps.size):(a.put (some d) v).tmps.getD t undef=if d=t then v else a.tmps.getD t undef:=by
 simp only[Act.put,Array.getD_eq_getD_getElem?]
 by_cases h:d=t
 ·subst h;simp[hd]
 ·simp[Array.getElem?_setIfInBounds_ne h,h]
theorem EnvRep.put {L N T w e a d v c}(h:EnvRep L N T w e a)(hd:d<a.tmps.size)(hv:Rep L N T w v c):EnvRep L N T w (eput e d v) (a.put (some d) c):=by
 intro t;rw[getD_put a d t c hd]
 by_cases hdt:d=t
 ·subst hdt;rw[eget_eput_same];simpa using hv
 ·rw[eget_eput_other _ _ _ _ hdt,if_neg hdt];exact h t
structure St where
 e:Env
 H:List Blk
 T:Toks
structure Cx where
 P:Program
 nt:Nat
 nv:Nat
 nb:Nat
 tb:Nat
 bx:List Nat
structure ConSt (C:Cx)(s:St)(L:Lay)(w:World)(a:Act):Prop where
 nb:C.nb≤s.H.length
 tb:C.tb≤s.T.length
 con:Con L s.H s.T w
 size:a.tmps.size=C.nt
 defers:a.defers=[]
 env:EnvRep L s.H.length s.T w s.e a
def Post (C:Cx)(Q:Exit→St→Prop)(L:Lay)(s:St)(w:World)(e:Exit)(a':Act)(w':World):Prop:=
 ∃s' L',Q e s'∧ConSt C s' L' w' a'∧Ev C.nb C.tb L s.H.length s.T w L' s'.H.length s'.T w'
def AW (C:Cx)(c:Code)(Q:Exit→St→Prop)(s:St):Prop:=
 ∀L w a,ConSt C s L w a→c.wp C.P (Post C Q L s w) a w
theorem Post.step {C Q L s w L1 s1 w1 e a' w'}(h:Ev C.nb C.tb L s.H.length s.T w L1 s1.H.length s1.T w1)(k:Post C Q L1 s1 w1 e a' w'):Post C Q L s w e a' w':=by
 obtain⟨s',L',q,c,ev⟩:=k;exact⟨s',L',q,c,h.trans ev⟩
theorem AW.mono {C c Q Q' s}(h:AW C c Q s)(hq:∀e s,Q e s→Q' e s):AW C c Q' s:=fun L w a hc=>
 wp_mono (h L w a hc) fun _ _ _ ⟨s',L',q,r⟩=>⟨s',L',hq _ _ q,r⟩
def ExitK (K:St→Prop)(Q:Exit→St→Prop):Exit→St→Prop
 |.normal,s=>K s
 |e,s=>Q e s
theorem aw_skip {C Q s}(h:Q .normal s):AW C .skip Q s:=fun L w a hc=>wp_skip ⟨s,L,h,hc,Ev.refl hc.nb hc.tb⟩
theorem aw_exit {C Q s id}(h:Q (.exit id) s):AW C (.exit id) Q s:=fun L w a hc=>wp_exit ⟨s,L,h,hc,Ev.refl hc.nb hc.tb⟩
theorem aw_ret {C Q s}(h:Q .ret s):AW C .ret Q s:=fun L w a hc=>wp_ret ⟨s,L,h,hc,Ev.refl hc.nb hc.tb⟩
theorem aw_seq {C x y Q s}(h:∀K:St→Prop,(∀s,AW C y Q s→K s)→AW C x (ExitK K Q) s):AW C (.seq x y) Q s:=fun L w a hc=>
 wp_seq (wp_mono (h _ (fun _ h=>h) L w a hc) fun e a' w' ⟨s',L',q,c,ev⟩=>by
  cases e with
  |normal=>exact wp_mono (q L' w' a' c) fun _ _ _ k=>Post.step ev k
  |_=>exact⟨s',L',q,c,ev⟩)
def BlockQ (id:Nat)(Q:Exit→St→Prop):Exit→St→Prop
 |.exit id',s=>if id'=id then Q .normal s else Q (.exit id') s
 |e,s=>Q e s
theorem aw_block {C id x Q s}(h:AW C x (BlockQ id Q) s):AW C (.block id x) Q s:=fun L w a hc=>
 wp_block (wp_mono (h L w a hc) fun e a' w' ⟨s',L',q,c,ev⟩=>by
  cases e with
  |exit id'=>
   simp only[BlockQ] at q;simp only[Exit.inBlock]
   split
   ·rename_i hid;rw[if_pos hid] at q;exact⟨s',L',q,c,ev⟩
   ·rename_i hid;rw[if_neg hid] at q;exact⟨s',L',q,c,ev⟩
  |_=>exact⟨s',L',q,c,ev⟩)
inductive Below (n t:Nat):AV→Prop
 |top:Below n t .top
 |bool (b:Bool):Below n t (.bool b)
 |int (k:IntKind) (x:Int):Below n t (.int k x)
 |str (s:List UInt8):Below n t (.str s)
 |nilp:Below n t .nilp
 |ptr (i o:Nat) (h:i<n):Below n t (.ptr i o)
 |vptr (cs:List AV) (o:Nat) (h:∀c∈cs,Below n t c):Below n t (.vptr cs o)
 |sl (m:Nat) (cs:List AV) (tg:Tag) (h:∀c∈cs,Below n t c) (ht:∀x,tg=.own x→x<t):Below n t (.sl m cs tg)
 |msl (i o m:Nat) (h:i<n):Below n t (.msl i o m)
 |csl (i m cap:Nat) (h:i<n):Below n t (.csl i m cap)
 |mref (i:Nat) (h:i<n):Below n t (.mref i)
 |fn (f:FuncId) (first caps:List AV) (h1:∀c∈first,Below n t c) (h2:∀c∈caps,Below n t c):Below n t (.fn f first caps)
 |nilf:Below n t .nilf
 |nili:Below n t .nili
 |ifc:Below n t .ifc
 |agg (cs:List AV) (h:∀c∈cs,Below n t c):Below n t (.agg cs)
 |tup (cs:List AV) (h:∀c∈cs,Below n t c):Below n t (.tup cs)
theorem Rep.drop {L:Lay}{N n t:Nat}{T:Toks}{w:World}{v:AV}{c:Value}(h:Rep L N T w v c)(hb:Below n t v):Rep L n (T.take t) w v c:=by
 have tag:∀(tg:Tag)(m u:Nat)(a:Option Addr)(cap:Nat),(∀x,tg=.own x→x<t)→tagOk L T tg m u a cap→tagOk L (T.take t) tg m u a cap:=by
  intro tg m u a cap hx ht
  cases tg with
  |none=>trivial
  |full=>exact ht
  |own x=>
   obtain⟨u0,z,h0,r⟩:=ht;exact⟨u0,z,by rw[List.getElem?_take,if_pos (hx x rfl)];exact h0,r⟩
 induction h with
 |top v=>exact .top v
 |bool b=>exact .bool b
 |int k x=>exact .int k x
 |str s=>exact .str s
 |nilp=>exact .nilp
 |ptr i o h=>cases hb with|ptr _ _ h'=>exact .ptr i o h'
 |vptr cs o b base f hm hc h1 hr ih=>cases hb with|vptr _ _ hx=>exact .vptr cs o b base f hm hc h1 (fun j hj=>ih j hj (hx _ (List.getElem_mem hj)))
 |sl0 tg a cap ht=>cases hb with|sl _ _ _ hx hy=>exact .sl0 tg a cap (tag _ _ _ _ _ hy ht)
 |sl1 m cs tg b base cap f hcap hm hc h1 hr ht ih=>
  cases hb with|sl _ _ _ hx hy=>exact .sl1 m cs tg b base cap f hcap hm hc h1 (fun j hj=>ih j hj (hx _ (List.getElem_mem hj))) (tag _ _ _ _ _ hy ht)
 |msl i o m cap h hcap=>cases hb with|msl _ _ _ h'=>exact .msl i o m cap h' hcap
 |csl i m cap h hcap=>cases hb with|csl _ _ _ h'=>exact .csl i m cap h' hcap
 |mref i h=>cases hb with|mref _ h'=>exact .mref i h'
 |fn f first caps fv cv h1 h2 hr1 hr2 ih1 ih2=>
  cases hb with|fn _ _ _ hx hy=>exact .fn f first caps fv cv h1 h2 (fun j hj hj'=>ih1 j hj hj' (hx _ (List.getElem_mem hj))) (fun j hj hj'=>ih2 j hj hj' (hy _ (List.getElem_mem hj)))
 |nilf=>exact .nilf
 |nili=>exact .nili
 |ifc t v=>exact .ifc t v
 |agg cs cv h1 h2 hr ih=>cases hb with|agg _ hx=>exact .agg cs cv h1 h2 (fun j hj hj'=>ih j hj hj' (hx _ (List.getElem_mem hj)))
 |tup cs cv h1 hr ih=>cases hb with|tup _ hx=>exact .tup cs cv h1 (fun j hj hj'=>ih j hj hj' (hx _ (List.getElem_mem hj)))
def untag:AV→AV
 |.sl n cs _=>.sl n cs .none
 |.csl i n _=>.msl i 0 n
 |v=>v
theorem Rep.untag {L:Lay}{N:Nat}{T:Toks}{w:World}{v:AV}{c:Value}(h:Rep L N T w v c):Rep L N T w (untag v) c:=by
 cases h with
 |sl0 tg a cap ht=>exact .sl0 .none a cap trivial
 |sl1 n cs tg b base cap f hcap hm hc h1 hr ht=>exact .sl1 n cs .none b base cap f hcap hm hc h1 hr trivial
 |top _=>exact .top _
 |bool b=>exact .bool b
 |int k x=>exact .int k x
 |str s=>exact .str s
 |nilp=>exact .nilp
 |ptr i o h=>exact .ptr i o h
 |vptr cs o b base f hm hc h1 hr=>exact .vptr cs o b base f hm hc h1 hr
 |msl i o m cap h hcap=>exact .msl i o m cap h hcap
 |csl i m cap h hcap=>exact .msl i 0 m cap h hcap
 |mref i h=>exact .mref i h
 |fn f first caps fv cv h1 h2 hr1 hr2=>exact .fn f first caps fv cv h1 h2 hr1 hr2
 |nilf=>exact .nilf
 |nili=>exact .nili
 |ifc t v=>exact .ifc t v
 |agg cs cv h1 h2 hr=>exact .agg cs cv h1 h2 hr
 |tup cs cv h1 hr=>exact .tup cs cv h1 hr
theorem Below.untag {n t:Nat}{v:AV}(h:Below n t v):Below n t (untag v):=by
 cases h with
 |sl m cs tg h ht=>exact .sl m cs .none h (fun x hx=>by cases hx)
 |top=>exact .top
 |bool b=>exact .bool b
 |int k x=>exact .int k x
 |str s=>exact .str s
 |nilp=>exact .nilp
 |ptr i o h=>exact .ptr i o h
 |vptr cs o h=>exact .vptr cs o h
 |msl i o m h=>exact .msl i o m h
 |csl i m cap h=>exact .msl i 0 m h
 |mref i h=>exact .mref i h
 |fn f a b h1 h2=>exact .fn f a b h1 h2
 |nilf=>exact .nilf
 |nili=>exact .nili
 |ifc=>exact .ifc
 |agg cs h=>exact .agg cs h
 |tup cs h=>exact .tup cs h
structure Weak (C:Cx)(s s':St):Prop where
 nb:C.nb≤s'.H.length
 tb:C.tb≤s'.T.length
 H:∃r,s.H=s'.H++r
 T:∃r,s.T=s'.T++r
 cells:∀(i:Nat)(b:Blk),s'.H[i]?=some b→∀v∈b.vals,Below s'.H.length s'.T.length v
 env:∀t,eget s'.e t=.top∨((eget s'.e t=eget s.e t∨eget s'.e t=untag (eget s.e t))∧Below s'.H.length s'.T.length (eget s'.e t))
theorem Weak.con {C s s' L w a}(h:Weak C s s')(c:ConSt C s L w a):ConSt C s' L w a:=by
 obtain⟨hnb,htb,⟨rH,hH⟩,⟨rT,hT⟩,hcells,henv⟩:=h;have hTt:s.T.take s'.T.length=s'.T:=by rw[hT];simp
 have hlen:s'.H.length≤s.H.length:=by rw[hH];simp
 have hat:∀(i:Nat)(b:Blk),s'.H[i]?=some b→s.H[i]?=some b:=by
  intro i b hb;have hi:=(List.getElem?_eq_some_iff.1 hb).1;rw[hH,List.getElem?_append_left hi];exact hb
 have htat:∀(t:Nat)(x:Nat×Nat),s'.T[t]?=some x→s.T[t]?=some x:=by
  intro t x hx;have hi:=(List.getElem?_eq_some_iff.1 hx).1;rw[hT,List.getElem?_append_left hi];exact hx
 have rep:∀v c',Rep L s.H.length s.T w v c'→Below s'.H.length s'.T.length v→Rep L s'.H.length s'.T w v c':=by
  intro v c' hr hb;have:=hr.drop hb
  rwa [hTt] at this
 refine⟨hnb,htb,⟨fun i b hb=>?_,fun i j hi hj=>c.con.inj i j (by omega) (by omega),fun t u z ht=>c.con.tok t u z (htat _ _ ht),fun t u z t' u' z' h1 h2=>c.con.tinj t u z t' u' z' (htat _ _ h1) (htat _ _ h2),
  fun t u z i h1 h2 hi=>c.con.tbox t u z i (htat _ _ h1) h2 (by omega),c.con.mz,c.con.gl⟩,c.size,c.defers,fun t=>?_⟩
 ·have hbx:=c.con.box i b (hat i b hb)
  cases b with
  |cells vs=>
   obtain⟨cc,t,fr,h1,h2,h3,h3',h4,h5⟩:=hbx;exact⟨cc,t,fr,h1,h2,h3,h3',fun j hj hj'=>rep _ _ (h4 j hj hj') (hcells i _ hb _ (List.getElem_mem hj)),h5⟩
  |iter s0 pos=>exact hbx
  |map es=>
   obtain⟨ents,h1,h2,h3,h4⟩:=hbx;exact⟨ents,h1,h2,fun j hj hj'=>⟨(h3 j hj hj').1,(h3 j hj hj').2.1,rep _ _ (h3 j hj hj').2.2 (hcells i _ hb _ (List.mem_map.2 ⟨_,List.getElem_mem hj,rfl⟩))⟩,h4⟩
  |mit m n seen=>exact hbx
  |glob g p=>exact hbx
 ·rcases henv t with h0|⟨h1,h2⟩
  ·rw[h0];exact .top _
  ·rcases h1 with h1|h1
   ·rw[h1] at h2 ⊢;exact rep _ _ (c.env t) h2
   ·rw[h1] at h2 ⊢;exact rep _ _ (c.env t).untag h2
theorem Weak.ev {C s s' L w}(h:Weak C s s'):Ev C.nb C.tb L s.H.length s.T w L s'.H.length s'.T w:=by
 obtain⟨hnb,htb,⟨rH,hH⟩,⟨rT,hT⟩,_,_⟩:=h;have htat:∀(t:Nat)(x:Nat×Nat),s'.T[t]?=some x→s.T[t]?=some x:=by
  intro t x hx;have hi:=(List.getElem?_eq_some_iff.1 hx).1;rw[hT,List.getElem?_append_left hi];exact hx
 refine⟨hnb,fun _ _=>rfl,fun t u z ht hx=>⟨u,?_,Nat.le_refl _,fun _=>rfl⟩,htb,fun _=>Nat.le_refl _,fun _ _ _=>rfl,Nat.le_refl _,fun _ _ _=>rfl,fun b hb=>.inl ?_,rfl,rfl,rfl,fun _=>Nat.le_refl _,rfl⟩
 ·rw[hT,List.getElem?_append_left (by omega)] at hx;exact hx
 ·rcases hb with⟨i,hi,e⟩|⟨t,u,z,h1,h2,e⟩
  ·exact .inl ⟨i,by rw[hH];simp;omega,e⟩
  ·exact .inr ⟨t,u,z,htat _ _ h1,h2,e⟩
theorem aw_weak {C c Q s}(s':St)(hw:Weak C s s')(h:AW C c Q s'):AW C c Q s:=fun L w a hc=>
 wp_mono (h L w a (hw.con hc)) fun _ _ _ k=>Post.step hw.ev k
theorem aw_loop {C c Q s}{X:Type}(st:X→St)(I:X→Prop)(μ:X→Nat)(x0:X)(h0:I x0)(hw:Weak C s (st x0))
  (round:∀x,I x→AW C c (ExitK (fun s'=>∃x',I x'∧μ x'<μ x∧Weak C s' (st x')) Q) (st x)):AW C (.loop c) Q s:=by
 refine aw_weak (st x0) hw ?_;intro L w a hc;refine wp_loop (fun a' w'=>∃x L',I x∧ConSt C (st x) L' w' a'∧Ev C.nb C.tb L (st x0).H.length (st x0).T w L' (st x).H.length (st x).T w')
  (fun a' w'=>Classical.epsilon fun n=>(∃x L',I x∧ConSt C (st x) L' w' a'∧Ev C.nb C.tb L (st x0).H.length (st x0).T w L' (st x).H.length (st x).T w'∧μ x=n)∧
   ∀x L',I x→ConSt C (st x) L' w' a'→Ev C.nb C.tb L (st x0).H.length (st x0).T w L' (st x).H.length (st x).T w'→n≤μ x) ⟨x0,L,h0,hc,Ev.refl hc.nb hc.tb⟩ ?_
 have least:∀a' w',(∃x L',I x∧ConSt C (st x) L' w' a'∧Ev C.nb C.tb L (st x0).H.length (st x0).T w L' (st x).H.length (st x).T w')→
   ∃n,(∃x L',I x∧ConSt C (st x) L' w' a'∧Ev C.nb C.tb L (st x0).H.length (st x0).T w L' (st x).H.length (st x).T w'∧μ x=n)∧
    ∀x L',I x→ConSt C (st x) L' w' a'→Ev C.nb C.tb L (st x0).H.length (st x0).T w L' (st x).H.length (st x).T w'→n≤μ x:=by
  intro a' w' ⟨x,L',hI,hcn,hev⟩;have key:∀n,∀x L',I x→ConSt C (st x) L' w' a'→Ev C.nb C.tb L (st x0).H.length (st x0).T w L' (st x).H.length (st x).T w'→μ x=n→
    ∃n,(∃x L',I x∧ConSt C (st x) L' w' a'∧Ev C.nb C.tb L (st x0).H.length (st x0).T w L' (st x).H.length (st x).T w'∧μ x=n)∧
    ∀x L',I x→ConSt C (st x) L' w' a'→Ev C.nb C.tb L (st x0).H.length (st x0).T w L' (st x).H.length (st x).T w'→n≤μ x:=by
   intro n
   induction n using Nat.strongRecOn with
   |_ n ih=>
    intro x L' h1 h2 h3 h4
    by_cases hs:∃y L'',I y∧ConSt C (st y) L'' w' a'∧Ev C.nb C.tb L (st x0).H.length (st x0).T w L'' (st y).H.length (st y).T w'∧μ y<n
    ·obtain⟨y,L'',g1,g2,g3,g4⟩:=hs;exact ih (μ y) g4 y L'' g1 g2 g3 rfl
    ·refine⟨n,⟨x,L',h1,h2,h3,h4⟩,fun y L'' g1 g2 g3=>?_⟩;rcases Nat.lt_or_ge (μ y) n with g|g
     ·exact absurd ⟨y,L'',g1,g2,g3,g⟩ hs
     ·exact g
  exact key _ x L' hI hcn hev rfl
 intro a1 w1 hI1;obtain⟨⟨x,L1,hI,hcn,hev,hμ⟩,hmin⟩:=Classical.epsilon_spec (least a1 w1 hI1);refine wp_mono (round x hI L1 w1 a1 hcn) fun e a' w' ⟨s',L',q,c',ev⟩=>?_
 cases e with
 |normal=>
  obtain⟨x',hI',hlt,hwk⟩:=q;have hP:I x'∧ConSt C (st x') L' w' a'∧Ev C.nb C.tb L (st x0).H.length (st x0).T w L' (st x').H.length (st x').T w':=
   ⟨hI',hwk.con c',(hev.trans ev).trans hwk.ev⟩
  refine⟨⟨x',L',hP⟩,?_⟩;obtain⟨_,hmin'⟩:=Classical.epsilon_spec (least a' w' ⟨x',L',hP⟩);have h1:=hmin' x' L' hP.1 hP.2.1 hP.2.2;rw[←hμ];exact Nat.lt_of_le_of_lt h1 hlt
 |_=>exact⟨s',L',q,c',hev.trans ev⟩
theorem heap_alloc_lt (w:World)(o:Obj)(b:Nat)(h:b<w.heap.size):(w.alloc o).heap[b]?=w.heap[b]?:=by
 show (w.heap.push o)[b]?=_;rw[Array.getElem?_push,if_neg (by omega)]
theorem heap_alloc_at (w:World)(o:Obj):(w.alloc o).heap[w.heap.size]?=some o:=by
 show (w.heap.push o)[w.heap.size]?=_;rw[Array.getElem?_push,if_pos rfl]
theorem cell_heap {w w':World}{b:Nat}(h:w'.heap[b]?=w.heap[b]?)(o:Nat):w'.cell? ⟨b,o,none⟩=w.cell? ⟨b,o,none⟩:=by
 unfold World.cell?;simp only[h]
theorem cell_row {w:World}{b:Nat}{c:Array Value}{e:TypeId}{fr:Nat×Nat}(h:w.heap[b]?=some (.cells c e fr))(o:Nat):w.cell? ⟨b,o,none⟩=c[o]?:=by
 unfold World.cell?;simp only[h];simp
theorem Con.drew {L:Lay}{H:List Blk}{T:Toks}{w w':World}(h:Con L H T w)(hh:w'.heap=w.heap):Con L H T w':=by
 have kp:Keeps L H.length T w L H.length T w':=⟨Nat.le_refl _,fun _ _=>rfl,fun t u z h=>⟨u,h,Nat.le_refl _,fun _=>rfl⟩,fun _=>Nat.le_refl _,fun b o _=>cell_heap (by rw[hh]) o,rfl⟩
 refine⟨fun i b hb=>?_,h.inj,fun t u z ht=>?_,h.tinj,h.tbox,fun b hb=>h.mz b (by rw[←hh];exact hb),h.gl.keep kp.m kp.com⟩
 ·exact(h.box i b hb).stay kp (List.getElem?_eq_some_iff.1 hb).1 (by rw[hh]) id
 ·obtain⟨h1,h2⟩:=h.tok t u z ht;exact⟨h1,fun hs=>by rw[hh];exact h2 hs⟩
theorem Ev.drew {L:Lay}{H:List Blk}{T:Toks}{w w':World}(hh:w'.heap=w.heap)(ho:w'.os=w.os)(ht:w'.tape=w.tape)(hout:w'.output=w.output)(hdr:w.drawn≤w'.drawn) :
  Ev H.length T.length L H.length T w L H.length T w':=
 ⟨Nat.le_refl _,fun _ _=>rfl,fun t u z _ h=>⟨u,h,Nat.le_refl _,fun _=>rfl⟩,Nat.le_refl _,fun _=>Nat.le_refl _,fun b o _=>cell_heap (by rw[hh]) o,by rw[hh];exact Nat.le_refl _,
  fun b _ _=>by rw[hh],fun b hb=>.inl hb,ho,ht,hout,fun _=>hdr,rfl⟩
def Lay.commit (L:Lay)(b k:Nat):Lay:={ L with m:=fun x=>if x=b then k else L.m x }
def Lay.withBox (L:Lay)(i b:Nat):Lay:={ L with phi:=fun x=>if x=i then b else L.phi x }
def Lay.withTok (L:Lay)(t:Nat)(k:Tk):Lay:={ L with tau:=fun x=>if x=t then k else L.tau x }
theorem Ev.alloc {L:Lay}{H:List Blk}{T:Toks}{w:World}(h:Con L H T w)(o:Obj)(k:Nat) :
  Ev H.length T.length L H.length T w (L.commit w.heap.size k) H.length T (w.alloc o):=by
 refine⟨Nat.le_refl _,fun _ _=>rfl,fun t u z _ h=>⟨u,h,Nat.le_refl _,fun _=>rfl⟩,Nat.le_refl _,fun b=>?_,fun b o' ho=>?_,by simp,fun b hb _=>heap_alloc_lt w o b hb,
  fun b hb=>.inl hb,rfl,rfl,rfl,fun _=>Nat.le_refl _,rfl⟩
 ·show L.m b≤if b=w.heap.size then k else L.m b
  split
  ·rename_i e;rw[h.mz b (by omega)];exact Nat.zero_le _
  ·exact Nat.le_refl _
 ·have hb:b<w.heap.size:=by
   rcases Nat.lt_or_ge b w.heap.size with h1|h1
   ·exact h1
   ·rw[h.mz b h1] at ho;omega
  exact cell_heap (heap_alloc_lt w o b hb) o'
theorem Con.alloc {L:Lay}{H:List Blk}{T:Toks}{w:World}(h:Con L H T w)(o:Obj)(k:Nat):Con (L.commit w.heap.size k) H T (w.alloc o):=by
 have kp:=(Ev.alloc h o k).keeps;refine⟨fun i b hb=>?_,h.inj,fun t u z ht=>?_,h.tinj,h.tbox,fun b hb=>?_,h.gl.keep kp.m kp.com⟩
 ·have hlt:=(h.box i b hb).lt;refine(h.box i b hb).stay kp (List.getElem?_eq_some_iff.1 hb).1 (heap_alloc_lt w o _ hlt) fun h5=>?_;show (if L.phi i=w.heap.size then k else L.m (L.phi i))=0;rw[if_neg (by omega)];exact h5
 ·obtain⟨h1,h2⟩:=h.tok t u z ht;refine⟨h1,fun hs=>?_⟩;have hlt:=h.tau_lt ht hs;obtain⟨c,e,fr,g1,g2,g3,g4⟩:=h2 hs;refine⟨c,e,fr,by show (w.alloc o).heap[(L.tau t).b]?=_;rw[heap_alloc_lt w o _ hlt];exact g1,g2,g3,?_⟩;show (if (L.tau t).b=w.heap.size then k else L.m (L.tau t).b)≤_;rw[if_neg (by omega)];exact g4
 ·have:w.heap.size+1≤b:=by simpa using hb
  show (if b=w.heap.size then k else L.m b)=0;rw[if_neg (by omega)];exact h.mz b (by omega)
theorem Con.not_wr {L:Lay}{H:List Blk}{T:Toks}{w:World}(h:Con L H T w){b:Nat}(hb:w.heap.size≤b):¬Wr L H.length T b:=fun hw=>by
 have:=h.wr_lt hw;omega
theorem Con.addBox {L:Lay}{H:List Blk}{T:Toks}{w:World}(h:Con L H T w)(b:Nat)(hb:¬Wr L H.length T b)(blk:Blk)(hz:w.heap.size≤b→False)
  (hbox:BoxOk (L.withBox H.length b) (H.length+1) T w H.length blk):Con (L.withBox H.length b) (H++[blk]) T w:=by
 have hphi:∀i,i<H.length→(L.withBox H.length b).phi i=L.phi i:=fun i hi=>by simp only[Lay.withBox];rw[if_neg (by omega)]
 have hnew:(L.withBox H.length b).phi H.length=b:=by simp[Lay.withBox]
 have kp:Keeps L H.length T w (L.withBox H.length b) (H++[blk]).length T w:=
  ⟨by simp,fun i hi=>hphi i hi,fun t u z h=>⟨u,h,Nat.le_refl _,fun _=>rfl⟩,fun _=>Nat.le_refl _,fun _ _ _=>rfl,rfl⟩
 have hnb:∀i,i<H.length→L.phi i≠b:=fun i hi e=>hb (.inl ⟨i,hi,e⟩);refine⟨fun i x hx=>?_,fun i j hi hj e=>?_,fun t u z ht=>h.tok t u z ht,h.tinj,fun t u z i ht hs hi=>?_,h.mz,h.gl.keep kp.m kp.com⟩
 ·rcases Nat.lt_or_ge i H.length with hi|hi
  ·rw[List.getElem?_append_left hi] at hx;have:=(h.box i x hx).stay kp hi rfl id;exact this
  ·have hi':i=H.length:=by
    have:=(List.getElem?_eq_some_iff.1 hx).1;simp at this;omega
   subst hi';simp at hx;subst hx;simpa using hbox
 ·simp at hi hj;rcases Nat.lt_or_ge i H.length with hi'|hi'<;>rcases Nat.lt_or_ge j H.length with hj'|hj'
  ·rw[hphi i hi',hphi j hj'] at e;exact h.inj i j hi' hj' e
  ·have:j=H.length:=by omega
   subst this;rw[hphi i hi',hnew] at e;exact absurd e (hnb i hi')
  ·have:i=H.length:=by omega
   subst this;rw[hphi j hj',hnew] at e;exact absurd e.symm (hnb j hj')
  ·omega
 ·simp at hi;rcases Nat.lt_or_ge i H.length with hi'|hi'
  ·rw[hphi i hi'];exact h.tbox t u z i ht hs hi'
  ·have:i=H.length:=by omega
   subst this;rw[hnew];intro e;exact hb (.inr ⟨t,u,z,ht,hs,e⟩)
theorem Ev.addBox {L L1:Lay}{H:List Blk}{T:Toks}{w w1:World}{b:Nat}(blk:Blk)(h:Ev H.length T.length L H.length T w L1 H.length T w1)(hb:w.heap.size≤b) :
  Ev H.length T.length L H.length T w (L1.withBox H.length b) (H++[blk]).length T w1:=by
 refine⟨by simp,fun i hi=>?_,h.tok,h.t,h.m,h.com,h.size,h.frame,fun x hx=>?_,h.os,h.tape,h.output,h.drawn,h.dr⟩
 ·simp only[Lay.withBox];rw[if_neg (by omega)];exact h.phi i hi
 ·rcases hx with⟨i,hi,e⟩|⟨t,u,z,ht,hs,e⟩
  ·simp at hi;rcases Nat.lt_or_ge i H.length with hi'|hi'
   ·exact h.wr x (.inl ⟨i,hi',by simp only[Lay.withBox] at e;rwa [if_neg (by omega)] at e⟩)
   ·have:i=H.length:=by omega
    subst this;simp[Lay.withBox] at e;exact .inr (by omega)
  ·exact h.wr x (.inr ⟨t,u,z,ht,hs,e⟩)
theorem Con.addTok {L:Lay}{H:List Blk}{T:Toks}{w:World}(h:Con L H T w)(k:Tk)(u z:Nat)(hb:u<k.c*z→¬Wr L H.length T k.b)
  (hok:TokOk (L.withTok T.length k) w T.length u z):Con (L.withTok T.length k) H (T++[(u,z)]) w:=by
 have htau:∀t,t<T.length→(L.withTok T.length k).tau t=L.tau t:=fun t ht=>by simp only[Lay.withTok];rw[if_neg (by omega)]
 have hnew:(L.withTok T.length k).tau T.length=k:=by simp[Lay.withTok]
 have kp:Keeps L H.length T w (L.withTok T.length k) H.length (T++[(u,z)]) w:=by
  refine⟨Nat.le_refl _,fun i hi=>rfl,fun t u' z' ht=>?_,fun _=>Nat.le_refl _,fun _ _ _=>rfl,rfl⟩;have hlt:=(List.getElem?_eq_some_iff.1 ht).1;exact⟨u',by rw[List.getElem?_append_left hlt];exact ht,Nat.le_refl _,fun _=>htau t hlt⟩
 have part:∀t u' z',(T++[(u,z)])[t]?=some (u',z')→(t<T.length∧T[t]?=some (u',z'))∨(t=T.length∧u'=u∧z'=z):=by
  intro t u' z' ht;rcases Nat.lt_or_ge t T.length with hlt|hge
  ·rw[List.getElem?_append_left hlt] at ht;exact .inl ⟨hlt,ht⟩
  ·have h1:=(List.getElem?_eq_some_iff.1 ht).1;simp at h1;have:t=T.length:=by omega
   subst this;simp at ht;exact .inr ⟨rfl,ht.1.symm,ht.2.symm⟩
 refine⟨fun i b hb=>?_,h.inj,fun t u' z' ht=>?_,fun t u1 z1 t' u2 z2 h1 h2 s1 s2 e=>?_,fun t u1 z1 i h1 s1 hi=>?_,h.mz,h.gl.keep kp.m kp.com⟩
 ·exact(h.box i b hb).stay kp (List.getElem?_eq_some_iff.1 hb).1 rfl id
 ·rcases part t u' z' ht with⟨hlt,ht⟩|⟨rfl,rfl,rfl⟩
  ·have:=h.tok t u' z' ht;unfold TokOk at this ⊢;rw[htau t hlt];exact this
  ·exact hok
 ·rcases part t u1 z1 h1 with⟨hlt,g1⟩|⟨rfl,e1,e2⟩<;>rcases part t' u2 z2 h2 with⟨hlt',g2⟩|⟨rfl,e3,e4⟩
  ·rw[htau _ hlt] at s1 e;rw[htau _ hlt'] at s2 e;exact h.tinj t u1 z1 t' u2 z2 g1 g2 s1 s2 e
  ·rw[htau _ hlt] at s1 e;rw[hnew] at s2 e;rw[e3,e4] at s2;exact absurd (.inr ⟨t,u1,z1,g1,s1,e⟩) (hb s2)
  ·rw[htau _ hlt'] at s2 e;rw[hnew] at s1 e;rw[e1,e2] at s1;exact absurd (.inr ⟨t',u2,z2,g2,s2,e.symm⟩) (hb s1)
  ·rfl
 ·rcases part t u1 z1 h1 with⟨hlt,h1⟩|⟨rfl,rfl,rfl⟩
  ·rw[htau _ hlt] at s1 ⊢;exact h.tbox t u1 z1 i h1 s1 hi
  ·rw[hnew] at s1 ⊢;exact fun e=>hb s1 (.inl ⟨i,hi,e.symm⟩)
theorem Ev.addTok {L L1:Lay}{H:List Blk}{T:Toks}{w w1:World}{k:Tk}{u z:Nat}(h:Ev H.length T.length L H.length T w L1 H.length T w1)(hb:u<k.c*z→w.heap.size≤k.b∨Wr L H.length T k.b) :
  Ev H.length T.length L H.length T w (L1.withTok T.length k) H.length (T++[(u,z)]) w1:=by
 refine⟨h.n,h.phi,fun t u' z' ht hT=>?_,by simp,h.m,h.com,h.size,h.frame,fun x hx=>?_,h.os,h.tape,h.output,h.drawn,h.dr⟩
 ·obtain⟨u1,h1,h2,h3⟩:=h.tok t u' z' ht hT;refine⟨u1,by rw[List.getElem?_append_left ht];exact h1,h2,fun e=>?_⟩;simp only[Lay.withTok];rw[if_neg (by omega)];exact h3 e
 ·rcases hx with⟨i,hi,e⟩|⟨t,u1,z1,ht,hs,e⟩
  ·exact h.wr x (.inl ⟨i,hi,e⟩)
  ·rcases Nat.lt_or_ge t T.length with hlt|hge
   ·rw[List.getElem?_append_left hlt] at ht;simp only[Lay.withTok] at hs e;rw[if_neg (by omega)] at hs e;exact h.wr x (.inr ⟨t,u1,z1,ht,hs,e⟩)
   ·have h1:=(List.getElem?_eq_some_iff.1 ht).1;simp at h1;have:t=T.length:=by omega
    subst this;simp at ht;simp[Lay.withTok] at hs e;obtain⟨rfl,rfl⟩:=ht;subst e;rcases hb hs with g|g
    ·exact .inr g
    ·exact .inl g
theorem heap_setCell_at (w:World)(b o:Nat)(v:Value){c:Array Value}{e:TypeId}{fr:Nat×Nat}(h:w.heap[b]?=some (.cells c e fr)) :
  (w.setCell ⟨b,o,none⟩ v).heap[b]?=some (.cells (c.setIfInBounds o v) e fr):=by
 show (w.heap.modify b _)[b]?=_;rw[Array.getElem?_modify,if_pos rfl,h];rfl
theorem heap_setCell_ne (w:World)(b o:Nat)(v:Value)(x:Nat)(hx:x≠b):(w.setCell ⟨b,o,none⟩ v).heap[x]?=w.heap[x]?:=by
 simp only[World.setCell,Array.getElem?_modify];rw[if_neg (fun e=>hx e.symm)]
theorem Con.setCell {L:Lay}{H:List Blk}{T:Toks}{w:World}(h:Con L H T w){i o:Nat}{vs:List AV}(hi:H[i]?=some (.cells vs))(ho:o<vs.length){v:AV}{cv:Value}
  (hv:Rep L H.length T w v cv) (h1:cv.oneCell'=true) :
  Con L (H.set i (.cells (vs.set o v))) T (w.setCell ⟨L.phi i,o,none⟩ cv)∧
   Ev H.length T.length L H.length T w L (H.set i (.cells (vs.set o v))).length T (w.setCell ⟨L.phi i,o,none⟩ cv):=by
 have hil:=(List.getElem?_eq_some_iff.1 hi).1;obtain⟨c,t,fr,g1,g2,g3,g3',g4,g5⟩:=h.box i _ hi;have hcom:∀b o',o'<L.m b→(w.setCell ⟨L.phi i,o,none⟩ cv).cell? ⟨b,o',none⟩=w.cell? ⟨b,o',none⟩:=by
  intro b o' hlt;refine cell_heap (heap_setCell_ne w _ _ _ _ ?_) o';rintro rfl;omega
 have kp:Keeps L H.length T w L H.length T (w.setCell ⟨L.phi i,o,none⟩ cv):=
  ⟨Nat.le_refl _,fun _ _=>rfl,fun t u z h=>⟨u,h,Nat.le_refl _,fun _=>rfl⟩,fun _=>Nat.le_refl _,hcom,rfl⟩
 refine⟨⟨fun j b hb=>?_,fun a b ha hb=>h.inj a b (by simpa using ha) (by simpa using hb),fun t u z ht=>?_,h.tinj,fun t u z j ht hs hj=>h.tbox t u z j ht hs (by simpa using hj),fun b hb=>h.mz b (by simpa using hb),h.gl.keep kp.m kp.com⟩,
  by simp,fun _ _=>rfl,fun t u z _ h=>⟨u,h,Nat.le_refl _,fun _=>rfl⟩,Nat.le_refl _,fun _=>Nat.le_refl _,hcom,by simp,fun b hb hn=>?_,fun b hb=>.inl (by simpa using hb),rfl,rfl,rfl,fun _=>Nat.le_refl _,rfl⟩
 ·rw[List.length_set]
  by_cases hji:i=j
  ·subst hji;rw[List.getElem?_set_self hil] at hb
   cases hb
   refine⟨_,t,fr,heap_setCell_at w _ _ _ g1,fun o' ho'=>g2 o' (by simpa using ho'),by simpa using g3,fun j hj=>?_,fun j hj hj'=>?_,g5⟩
   ·by_cases hjo:o=j
    ·subst hjo;simpa using h1
    ·rw[Array.getElem_setIfInBounds_ne (by simpa using hj) hjo];exact g3' j _
   ·by_cases hjo:o=j
    ·subst hjo;simpa using hv.keep kp
    ·rw[Array.getElem_setIfInBounds_ne (by simpa using hj') hjo,List.getElem_set_ne hjo];exact(g4 j (by simpa using hj) (by simpa using hj')).keep kp
  ·rw[List.getElem?_set_ne hji] at hb;have hx:=h.box j b hb;have hjl:=(List.getElem?_eq_some_iff.1 hb).1;have hne:L.phi j≠L.phi i:=fun e=>hji (h.inj j i hjl hil e).symm;exact hx.stay kp hjl (heap_setCell_ne w _ _ _ _ hne) id
 ·obtain⟨k1,k2⟩:=h.tok t u z ht;refine⟨k1,fun hs=>?_⟩;rw[heap_setCell_ne _ _ _ _ _ (h.tbox t u z i ht hs hil)];exact k2 hs
 ·exact heap_setCell_ne w _ _ _ _ (fun e=>hn (.inl ⟨i,hil,e.symm⟩))
theorem Con.setIter {L:Lay}{H:List Blk}{T:Toks}{w:World}(h:Con L H T w){i pos pos':Nat}{s:List UInt8}(hi:H[i]?=some (.iter s pos)) :
  Con L (H.set i (.iter s pos')) T { w with heap:=w.heap.setIfInBounds (L.phi i) (.stringIter ⟨s.toArray⟩ pos') }∧
   Ev H.length T.length L H.length T w L (H.set i (.iter s pos')).length T { w with heap:=w.heap.setIfInBounds (L.phi i) (.stringIter ⟨s.toArray⟩ pos') }:=by
 have hil:=(List.getElem?_eq_some_iff.1 hi).1;have hx:w.heap[L.phi i]?=some (.stringIter ⟨s.toArray⟩ pos):=h.box i _ hi;have hne:∀x,x≠L.phi i→(w.heap.setIfInBounds (L.phi i) (.stringIter ⟨s.toArray⟩ pos'))[x]?=w.heap[x]?:=fun x hx=>Array.getElem?_setIfInBounds_ne (fun e=>hx e.symm);have hcom:∀b o',o'<L.m b→World.cell? { w with heap:=w.heap.setIfInBounds (L.phi i) (.stringIter ⟨s.toArray⟩ pos') } ⟨b,o',none⟩=w.cell? ⟨b,o',none⟩:=by
  intro b o' hlt
  by_cases hb:b=L.phi i
  ·subst hb;have hlt':=h.phi_lt hil;have h1:(w.heap.setIfInBounds (L.phi i) (.stringIter ⟨s.toArray⟩ pos'))[L.phi i]?=some (.stringIter ⟨s.toArray⟩ pos'):=by simp[hlt']
   unfold World.cell?;simp only[hx,h1]
  ·exact cell_heap (hne b hb) o'
 have kp:Keeps L H.length T w L H.length T { w with heap:=w.heap.setIfInBounds (L.phi i) (.stringIter ⟨s.toArray⟩ pos') }:=
  ⟨Nat.le_refl _,fun _ _=>rfl,fun t u z h=>⟨u,h,Nat.le_refl _,fun _=>rfl⟩,fun _=>Nat.le_refl _,hcom,rfl⟩
 refine⟨⟨fun j b hb=>?_,fun a b ha hb=>h.inj a b (by simpa using ha) (by simpa using hb),fun t u z ht=>?_,h.tinj,fun t u z j ht hs hj=>h.tbox t u z j ht hs (by simpa using hj),fun b hb=>h.mz b (by simpa using hb),h.gl.keep kp.m kp.com⟩,
  by simp,fun _ _=>rfl,fun t u z _ h=>⟨u,h,Nat.le_refl _,fun _=>rfl⟩,Nat.le_refl _,fun _=>Nat.le_refl _,hcom,by simp,fun b hb hn=>?_,fun b hb=>.inl (by simpa using hb),rfl,rfl,rfl,fun _=>Nat.le_refl _,rfl⟩
 ·rw[List.length_set]
  by_cases hji:i=j
  ·subst hji;rw[List.getElem?_set_self hil] at hb
   cases hb
   have:=h.phi_lt hil;simp[BoxOk,this]
  ·rw[List.getElem?_set_ne hji] at hb;have hx:=h.box j b hb;have hjl:=(List.getElem?_eq_some_iff.1 hb).1;have hnj:L.phi j≠L.phi i:=fun e=>hji (h.inj j i hjl hil e).symm;exact hx.stay kp hjl (hne _ hnj) id
 ·obtain⟨k1,k2⟩:=h.tok t u z ht;refine⟨k1,fun hs=>?_⟩;have:=hne _ (h.tbox t u z i ht hs hil);simp only[this];exact k2 hs
 ·exact hne _ (fun e=>hn (.inl ⟨i,hil,e.symm⟩))
theorem Con.grow {L:Lay}{H:List Blk}{T:Toks}{w w':World}(h:Con L H T w){t u z k:Nat}(ht:T[t]?=some (u,z))(hk:0<k)(hs:u+k≤(L.tau t).c*z)
  {c c':Array Value} {e:TypeId} {fr:Nat×Nat} (hb:w.heap[(L.tau t).b]?=some (.cells c e fr)) (hb':w'.heap[(L.tau t).b]?=some (.cells c' e fr)) (hsz:c'.size=c.size)
  (hold:∀j,j<(L.tau t).o+u→c'[j]?=c[j]?) (hne:∀x,x≠(L.tau t).b→w'.heap[x]?=w.heap[x]?) (hz:w'.heap.size=w.heap.size) (ho:w'.os=w.os) (hta:w'.tape=w.tape) (hout:w'.output=w.output) (hdr:w.drawn≤w'.drawn) :
  Con (L.commit (L.tau t).b ((L.tau t).o+u+k)) H (T.set t (u+k,z)) w'∧
   Ev H.length T.length L H.length T w (L.commit (L.tau t).b ((L.tau t).o+u+k)) H.length (T.set t (u+k,z)) w':=by
 have htl:=(List.getElem?_eq_some_iff.1 ht).1;obtain⟨hz0,hrow⟩:=h.tok t u z ht;have hsp:u<(L.tau t).c*z:=by omega
 obtain⟨c0,e0,fr0,g1,g2,g3,g4⟩:=hrow hsp;rw[hb] at g1
 cases g1
 have hblt:=h.tau_lt ht hsp;have hcom:∀b o',o'<L.m b→w'.cell? ⟨b,o',none⟩=w.cell? ⟨b,o',none⟩:=by
  intro b o' hlt
  by_cases hbb:b=(L.tau t).b
  ·subst hbb;rw[cell_row hb,cell_row hb'];exact hold o' (by omega)
  ·exact cell_heap (hne b hbb) o'
 have hmono:∀b,L.m b≤(L.commit (L.tau t).b ((L.tau t).o+u+k)).m b:=by
  intro b;show L.m b≤if b=(L.tau t).b then _ else L.m b
  split
  ·rename_i e;rw[e];omega
  ·exact Nat.le_refl _
 have htok:∀(t' u' z':Nat),T[t']?=some (u',z')→∃u1:Nat,(T.set t (u+k,z))[t']?=some (u1,z')∧u'≤u1∧(u1=u'→(L.commit (L.tau t).b ((L.tau t).o+u+k)).tau t'=L.tau t'):=by
  intro t' u' z' ht'
  by_cases htt:t=t'
  ·subst htt;rw[ht] at ht'
   cases ht'
   exact⟨u+k,by rw[List.getElem?_set_self htl],by omega,fun _=>rfl⟩
  ·exact⟨u',by rw[List.getElem?_set_ne htt];exact ht',Nat.le_refl _,fun _=>rfl⟩
 have kp:Keeps L H.length T w (L.commit (L.tau t).b ((L.tau t).o+u+k)) H.length (T.set t (u+k,z)) w':=
  ⟨Nat.le_refl _,fun _ _=>rfl,htok,hmono,hcom,rfl⟩
 have hbox:∀i,i<H.length→L.phi i≠(L.tau t).b:=fun i hi=>(h.tbox t u z i ht hsp hi).symm;have back:∀(t' u' z':Nat),(T.set t (u+k,z))[t']?=some (u',z')→∃u0:Nat,T[t']?=some (u0,z')∧u0≤u':=by
  intro t' u' z' ht'
  by_cases htt:t=t'
  ·subst htt;rw[List.getElem?_set_self htl] at ht'
   cases ht'
   exact⟨u,ht,by omega⟩
  ·rw[List.getElem?_set_ne htt] at ht';exact⟨u',ht',Nat.le_refl _⟩
 refine⟨⟨fun i b hbi=>?_,h.inj,fun t' u' z' ht'=>?_,fun t1 u1 z1 t2 u2 z2 h1 h2 s1 s2 e=>?_,fun t1 u1 z1 i h1 s1 hi=>?_,fun b hbz=>?_,h.gl.keep kp.m kp.com⟩,
  Nat.le_refl _,fun _ _=>rfl,fun t' u' z' _ ht'=>htok t' u' z' ht',by simp,hmono,hcom,by omega,fun b hbl hn=>?_,fun b hbw=>?_,ho,hta,hout,fun _=>hdr,rfl⟩
 ·have hx:=h.box i b hbi;have hil:=(List.getElem?_eq_some_iff.1 hbi).1;have hn:=hbox i hil;refine hx.stay kp hil (hne _ hn) fun k5=>?_;show (if L.phi i=(L.tau t).b then _ else L.m (L.phi i))=0;rw[if_neg hn];exact k5
 ·by_cases htt:t=t'
  ·subst htt;rw[List.getElem?_set_self htl] at ht'
   cases ht'
   refine⟨hz0,fun hsp'=>⟨c',e,fr,hb',by rw[hsz];exact g2,fun o' h1 h2=>g3 o' (by simp only[Lay.commit] at h1;omega) h2,?_⟩⟩;show (if (L.tau t).b=(L.tau t).b then _ else _)≤_;rw[if_pos rfl];simp only[Lay.commit];omega
  ·rw[List.getElem?_set_ne htt] at ht';obtain⟨k1,k2⟩:=h.tok t' u' z' ht';refine⟨k1,fun hsp'=>?_⟩;have hbn:(L.tau t').b≠(L.tau t).b:=fun e=>htt (h.tinj t' u' z' t u z ht' ht hsp' hsp e).symm;obtain⟨c1,e1,fr1,m1,m2,m3,m4⟩:=k2 hsp';refine⟨c1,e1,fr1,(hne _ hbn).trans m1,m2,m3,?_⟩;show (if (L.tau t').b=(L.tau t).b then _ else L.m (L.tau t').b)≤_;rw[if_neg hbn];exact m4
 ·obtain⟨u1',g1,l1⟩:=back t1 u1 z1 h1;obtain⟨u2',g2,l2⟩:=back t2 u2 z2 h2;have s1':u1'<(L.tau t1).c*z1:=Nat.lt_of_le_of_lt l1 s1;have s2':u2'<(L.tau t2).c*z2:=Nat.lt_of_le_of_lt l2 s2;exact h.tinj t1 u1' z1 t2 u2' z2 g1 g2 s1' s2' e
 ·obtain⟨u1',g1,l1⟩:=back t1 u1 z1 h1;have s1':u1'<(L.tau t1).c*z1:=Nat.lt_of_le_of_lt l1 s1;exact h.tbox t1 u1' z1 i g1 s1' hi
 ·show (if b=(L.tau t).b then _ else L.m b)=0;rw[if_neg (by omega)];exact h.mz b (by omega)
 ·exact hne b (fun e=>hn (.inr ⟨t,u,z,ht,hsp,e.symm⟩))
 ·rcases hbw with⟨i,hi,e⟩|⟨t',u',z',ht',hs',e⟩
  ·exact .inl (.inl ⟨i,hi,e⟩)
  ·obtain⟨u1',g1,l1⟩:=back t' u' z' ht';exact .inl (.inr ⟨t',u1',z',g1,Nat.lt_of_le_of_lt l1 hs',e⟩)
theorem Con.setTok {L:Lay}{H:List Blk}{T:Toks}{w:World}(h:Con L H T w){t u z u':Nat}(ht:T[t]?=some (u,z))(hu:u<u')(k:Tk)
  (hb:u'<k.c*z→¬Wr L H.length T k.b) (hok:TokOk (L.withTok t k) w t u' z):Con (L.withTok t k) H (T.set t (u',z)) w:=by
 have htl:=(List.getElem?_eq_some_iff.1 ht).1;have htau:∀t',t'≠t→(L.withTok t k).tau t'=L.tau t':=fun t' hn=>by simp only[Lay.withTok];rw[if_neg hn]
 have hnew:(L.withTok t k).tau t=k:=by simp[Lay.withTok]
 have kp:Keeps L H.length T w (L.withTok t k) H.length (T.set t (u',z)) w:=by
  refine⟨Nat.le_refl _,fun i hi=>rfl,fun t' u1 z1 ht'=>?_,fun _=>Nat.le_refl _,fun _ _ _=>rfl,rfl⟩
  by_cases htt:t'=t
  ·subst htt;rw[ht] at ht'
   cases ht'
   exact⟨u',by rw[List.getElem?_set_self htl],by omega,fun e=>by omega⟩
  ·exact⟨u1,by rw[List.getElem?_set_ne (fun e=>htt e.symm)];exact ht',Nat.le_refl _,fun _=>htau t' htt⟩
 have part:∀(t' u1 z1:Nat),(T.set t (u',z))[t']?=some (u1,z1)→(t'≠t∧T[t']?=some (u1,z1))∨(t'=t∧u1=u'∧z1=z):=by
  intro t' u1 z1 h1
  by_cases htt:t'=t
  ·subst htt;rw[List.getElem?_set_self htl] at h1
   cases h1
   exact .inr ⟨rfl,rfl,rfl⟩
  ·rw[List.getElem?_set_ne (fun e=>htt e.symm)] at h1;exact .inl ⟨htt,h1⟩
 refine⟨fun i b hbi=>?_,h.inj,fun t' u1 z1 h1=>?_,fun t1 u1 z1 t2 u2 z2 h1 h2 s1 s2 e=>?_,fun t1 u1 z1 i h1 s1 hi=>?_,h.mz,h.gl.keep kp.m kp.com⟩
 ·exact(h.box i b hbi).stay kp (List.getElem?_eq_some_iff.1 hbi).1 rfl id
 ·rcases part t' u1 z1 h1 with⟨hn,g1⟩|⟨rfl,e1,e2⟩
  ·have:=h.tok t' u1 z1 g1;unfold TokOk at this ⊢;rw[htau t' hn];exact this
  ·rw[e1,e2];exact hok
 ·rcases part t1 u1 z1 h1 with⟨hn1,g1⟩|⟨r1,e1,e2⟩<;>rcases part t2 u2 z2 h2 with⟨hn2,g2⟩|⟨r2,e3,e4⟩
  ·rw[htau _ hn1] at s1 e;rw[htau _ hn2] at s2 e;exact h.tinj t1 u1 z1 t2 u2 z2 g1 g2 s1 s2 e
  ·rw[htau _ hn1] at s1 e;rw[r2,hnew] at s2 e;rw[e3,e4] at s2;exact absurd (.inr ⟨t1,u1,z1,g1,s1,e⟩) (hb s2)
  ·rw[htau _ hn2] at s2 e;rw[r1,hnew] at s1 e;rw[e1,e2] at s1;exact absurd (.inr ⟨t2,u2,z2,g2,s2,e.symm⟩) (hb s1)
  ·rw[r1,r2]
 ·rcases part t1 u1 z1 h1 with⟨hn1,g1⟩|⟨r1,e1,e2⟩
  ·rw[htau _ hn1] at s1 ⊢;exact h.tbox t1 u1 z1 i g1 s1 hi
  ·rw[r1,hnew] at s1 ⊢;rw[e1,e2] at s1;exact fun e=>hb s1 (.inl ⟨i,hi,e.symm⟩)
theorem Ev.setTok {L L1:Lay}{H:List Blk}{T:Toks}{w w1:World}{k:Tk}{t u z u':Nat}(h:Ev H.length T.length L H.length T w L1 H.length T w1)(ht:T[t]?=some (u,z))(hu:u<u')
  (hb:u'<k.c*z→w.heap.size≤k.b):Ev H.length T.length L H.length T w (L1.withTok t k) H.length (T.set t (u',z)) w1:=by
 have htl:=(List.getElem?_eq_some_iff.1 ht).1;refine⟨h.n,h.phi,fun t' u1 z1 hlt hT=>?_,by simp,h.m,h.com,h.size,h.frame,fun x hx=>?_,h.os,h.tape,h.output,h.drawn,h.dr⟩
 ·obtain⟨u2,h1,h2,h3⟩:=h.tok t' u1 z1 hlt hT;rw[hT] at h1
  by_cases htt:t'=t
  ·subst htt;rw[ht] at hT
   cases hT
   exact⟨u',by rw[List.getElem?_set_self htl],by omega,fun e=>by omega⟩
  ·refine⟨u1,by rw[List.getElem?_set_ne (fun e=>htt e.symm)];exact hT,Nat.le_refl _,fun e=>?_⟩;simp only[Lay.withTok];rw[if_neg htt]
   cases h1
   exact h3 rfl
 ·rcases hx with⟨i,hi,e⟩|⟨t',u1,z1,h1,hs,e⟩
  ·exact h.wr x (.inl ⟨i,hi,e⟩)
  ·by_cases htt:t'=t
   ·subst htt;rw[List.getElem?_set_self htl] at h1
    cases h1
    simp[Lay.withTok] at hs e;subst e;exact .inr (hb hs)
   ·rw[List.getElem?_set_ne (fun e=>htt e.symm)] at h1;simp only[Lay.withTok] at hs e;rw[if_neg htt] at hs e;exact h.wr x (.inr ⟨t',u1,z1,h1,hs,e⟩)
def ofC1:Value→AV
 |.bool b=>.bool b
 |.int k n=>.int k n
 |.string s=>.str s.data.toList
 |.pointer none=>.nilp
 |.slice _ 0 0=>.sl 0 [] .full
 |.nilFunc=>.nilf
 |.nilIface=>.nili
 |_=>.top
def ofC:Value→AV
 |.agg cs=>if cs.all (·.oneCell') then .agg (cs.toList.map ofC1) else .top
 |v=>ofC1 v
def aev (e:Env):Operand→AV
 |.tmp t=>eget e t
 |.const v=>ofC v
 |.func f=>.fn f [] []
 |.global _=>.top
def cellAV:AV→Bool
 |.top|.agg _|.tup _=>false
 |_=>true
section
variable {L : Lay} {N : Nat} {T : Toks} {w : World}
theorem Rep.ofC1 (v:Value):Rep L N T w (ofC1 v) v:=by
 unfold Am.ofC1
 split
 ·exact .bool _
 ·exact .int _ _
 ·rename_i s;exact .str s.data.toList
 ·exact .nilp
 ·exact .sl0 .full _ 0 rfl
 ·exact .nilf
 ·exact .nili
 ·exact .top _
theorem Rep.ofC (v:Value):Rep L N T w (ofC v) v:=by
 unfold Am.ofC
 split
 ·rename_i cs
  split
  ·rename_i h;rw[Array.all_eq_true] at h;refine .agg _ cs (by simp) (fun j hj=>h j hj) (fun j hj hj'=>?_);simp only[List.getElem_map,Array.getElem_toList];exact .ofC1 _
  ·exact .top _
 ·exact .ofC1 _
theorem EnvRep.aev {e:Env}{a:Act}(h:EnvRep L N T w e a)(x:Operand):Rep L N T w (aev e x) (a.eval x):=by
 cases x with
 |tmp t=>exact h t
 |const v=>exact .ofC v
 |func f=>exact .fn f [] [] #[] #[] rfl rfl (fun j hj=>by simp at hj) (fun j hj=>by simp at hj)
 |global g=>exact .top _
theorem Rep.int_inv {k:IntKind}{n:Int}{c:Value}(h:Rep L N T w (.int k n) c):c=.int k n:=by cases h;rfl
theorem Rep.bool_inv {b:Bool}{c:Value}(h:Rep L N T w (.bool b) c):c=.bool b:=by cases h;rfl
theorem Rep.str_inv {s:List UInt8}{c:Value}(h:Rep L N T w (.str s) c):c=.string ⟨s.toArray⟩:=by cases h;rfl
theorem Rep.nili_inv {c:Value}(h:Rep L N T w .nili c):c=.nilIface:=by cases h;rfl
theorem Rep.ifc_inv {c:Value}(h:Rep L N T w .ifc c):∃t v,c=.iface t v:=by cases h;exact⟨_,_,rfl⟩
theorem Rep.ptr_inv {i o:Nat}{c:Value}(h:Rep L N T w (.ptr i o) c):c=.pointer (some ⟨L.phi i,o,none⟩)∧i<N:=by cases h;exact⟨rfl,‹_›⟩
theorem Rep.cell {v:AV}{c:Value}(h:Rep L N T w v c)(hc:cellAV v=true):c.oneCell'=true:=by
 cases h<;>simp[cellAV] at hc<;>rfl
end
def Good (P:Program)(x:Sem Next)(H:List Blk)(T:Toks)(L:Lay)(w:World)(r:AV)(H':List Blk)(T':Toks):Prop:=
 ∃n cv w' L',x.run P w=.ok n w'∧(n=.value cv∨(n=.skip∧cv=undef))∧Con L' H' T' w'∧Rep L' H'.length T' w' r cv∧Ev H.length T.length L H.length T w L' H'.length T' w'
theorem Good.now {P:Program}{x:Sem Next}{H:List Blk}{T:Toks}{L:Lay}{w:World}{r:AV}{cv:Value}(hc:Con L H T w)(hx:x.run P w=.ok (.value cv) w)(hr:Rep L H.length T w r cv):Good P x H T L w r H T:=
 ⟨_,cv,w,L,hx,.inl rfl,hc,hr,Ev.refl (Nat.le_refl _) (Nat.le_refl _)⟩
def aint (op : BinOp) (k : IntKind) (a b : Int) : Option AV :=
  match op with
  | .add => some (.int k (k.wrap (a + b)))
  | .sub => some (.int k (k.wrap (a - b)))
  | .mul => some (.int k (k.wrap (a * b)))
  | .quo => if b = 0 then none else some (.int k (k.wrap (a.tdiv b)))
  | .rem => if b = 0 then none else some (.int k (a.tmod b))
  | .and => some (.int k (bits .and k a b))
  | .or => some (.int k (bits .or k a b))
  | .xor => some (.int k (bits .xor k a b))
  | .andNot => some (.int k (bits .andNot k a b))
  | .eql => some (.bool (a == b))
  | .neq => some (.bool (a != b))
  | .lss => some (.bool (decide (a < b)))
  | .leq => some (.bool (decide (a ≤ b)))
  | .gtr => some (.bool (decide (a > b)))
  | .geq => some (.bool (decide (a ≥ b)))
  | _ => none
def astr (op:BinOp)(a b:List UInt8):Option AV:=
 match op with
 |.add=>if a.length+b.length≤9223372036854775807 then some (.str (a++b)) else none
 |.eql=>some (.bool (a==b))
 |.neq=>some (.bool (!(a==b)))
 |.lss=>some (.bool (Op.bytesLess a b))
 |.leq=>some (.bool (Op.bytesLess a b||a==b))
 |.gtr=>some (.bool (!(Op.bytesLess a b||a==b)))
 |.geq=>some (.bool (!Op.bytesLess a b))
 |_=>none
def abin (op:BinOp)(x y:AV):Option AV:=
 match x,y with
 |.int k a,.int k' b=>
  match op with
  |.shl=>if 0≤b then some (.int k (k.wrap (a*2 ^ min b.toNat k.bits))) else none
  |.shr=>if 0≤b then some (.int k (a.fdiv (2 ^ min b.toNat k.bits))) else none
  |op=>if k=k' then aint op k a b else none
 |.str a,.str b=>astr op a b
 |.bool a,.bool b=>match op with
  |.eql=>some (.bool (a==b))
  |.neq=>some (.bool (!(a==b)))
  |_=>none
 |.nilp,.nilp=>match op with|.eql=>some (.bool true)|.neq=>some (.bool false)|_=>none
 |.ptr _ _,.nilp|.vptr _ _,.nilp|.nilp,.ptr _ _|.nilp,.vptr _ _=>match op with|.eql=>some (.bool false)|.neq=>some (.bool true)|_=>none
 |_,_=>none
def aun (op:UnOp)(x:AV):Option AV:=
 match op,x with
 |.neg,.int k n=>some (.int k (k.wrap (0-n)))
 |.xor,.int k n=>some (.int k (bits .xor k (if k.signed then -1 else k.max) n))
 |.not,.bool b=>some (.bool (!b))
 |_,_=>none
section
variable {P : Program} {w : World}
theorem run_aint {op : BinOp} {k : IntKind} {a b : Int} {r : AV} (h : aint op k a b = some r) (t : TypeId) (h1 : op ≠ .shl) (h2 : op ≠ .shr) :
    ∃ cv, (binOp op t (.int k a) (.int k b)).run P w = .ok cv w ∧ ∀ (L : Lay) (N : Nat) (T : Toks) (w' : World), Rep L N T w' r cv := by
  cases op <;> simp only [aint, Option.some.injEq, reduceCtorEq] at h
  case quo =>
    split at h
    · cases h
    · rename_i hb
      cases h
      exact ⟨_, by simp [binOp, Op.intDiv, hb], fun _ _ _ _ => .int _ _⟩
  case rem =>
    split at h
    · cases h
    · rename_i hb
      cases h
      exact ⟨_, by simp [binOp, Op.intDiv, hb], fun _ _ _ _ => .int _ _⟩
  all_goals
    subst h
    first
      | exact ⟨_, by simp [binOp, Op.intArith]; rfl, fun _ _ _ _ => .int _ _⟩
      | exact ⟨_, by simp [binOp, Op.intCmp], fun _ _ _ _ => .bool _⟩
      | exact ⟨_, by simp [binOp, Op.intBits]; rfl, fun _ _ _ _ => .int _ _⟩
theorem toList_mk (s:List UInt8):(⟨s.toArray⟩:ByteArray).toList=s:=by
 rw[show (⟨s.toArray⟩:ByteArray).toList=(⟨s.toArray⟩:ByteArray).data.toList from ByteArray.toList_eq _]
theorem mk_append (a b:List UInt8):(⟨a.toArray⟩:ByteArray)++⟨b.toArray⟩=⟨(a++b).toArray⟩:=by
 apply ByteArray.ext;simp
theorem run_astr {op:BinOp}{a b:List UInt8}{r:AV}(h:astr op a b=some r)(t:TypeId) :
  ∃cv,(binOp op t (.string ⟨a.toArray⟩) (.string ⟨b.toArray⟩)).run P w=.ok cv w∧∀(L:Lay)(N:Nat)(T:Toks)(w':World),Rep L N T w' r cv:=by
 have hi:IntKind.i64.max=9223372036854775807:=by decide
 cases op<;>simp only[astr,Option.some.injEq,reduceCtorEq] at h
 case add=>
  split at h
  ·rename_i hb
   cases h
   refine⟨.string ⟨(a++b).toArray⟩,?_,fun _ _ _ _=>.str _⟩;have:¬((a.length+b.length:Nat):Int)>IntKind.i64.max:=by rw[hi];omega
   simp only[binOp,Op.stringOp];rw[if_neg (by simpa[ByteArray.size] using this),mk_append];rfl
  ·cases h
 all_goals
  subst h;exact⟨_,by simp only[binOp,Op.stringOp,toList_mk];rfl,fun _ _ _ _=>.bool _⟩
theorem run_eqGuard_int (op:BinOp)(t:TypeId)(x y:Operand)(a b:Value)(h:(∀cs,a≠.agg cs)∧a≠.nilIface):(eqGuard op t x y a b).run P w=.ok () w:=by
 unfold eqGuard
 cases a<;>first|exact absurd rfl h.2|exact absurd rfl (h.1 _)|(cases op<;>simp)
theorem run_aun {op:UnOp}{x r:AV}{c:Value}{L:Lay}{N:Nat}{T:Toks}(h:aun op x=some r)(hx:Rep L N T w x c) :
  ∃cv,(Op.unary op c).run P w=.ok cv w∧∀(L:Lay)(N:Nat)(T:Toks)(w':World),Rep L N T w' r cv:=by
 unfold aun at h
 split at h
 ·cases h;rw[hx.int_inv];exact⟨_,rfl,fun _ _ _ _=>.int _ _⟩
 ·cases h;rw[hx.int_inv];exact⟨_,rfl,fun _ _ _ _=>.int _ _⟩
 ·cases h;rw[hx.bool_inv];exact⟨_,rfl,fun _ _ _ _=>.bool _⟩
 ·cases h
def eqType (P:Program)(t:TypeId)(x:AV):Bool:=
 match P.underlying t,x with
 |some .bool,.bool _=>true
 |some (.pointer _),.nilp|some (.pointer _),.ptr _ _|some (.pointer _),.vptr _ _=>true
 |some _,.int _ _|some _,.str _=>true
 |_,_=>false
theorem run_eql (t:TypeId)(x y:Value)(b:Bool)(op:BinOp)(ho:op=.eql∨op=.neq)(hb:binOp .eql t x y=(do pure (.bool (←Op.equal t x y))))(hb':binOp .neq t x y=(do pure (.bool (!(←Op.equal t x y)))))
  (h:∀d:Nat,(Op.equalIn (d+1) t x y).run P w=.ok b w):(binOp op t x y).run P w=.ok (.bool (if op=.eql then b else !b)) w:=by
 have h1:(Op.equal t x y).run P w=.ok b w:=h 9999;rcases ho with rfl|rfl
 ·rw[hb];simp only[Sem.run_bind,h1,Result.andThen_ok];rfl
 ·rw[hb'];simp only[Sem.run_bind,h1,Result.andThen_ok];rfl
theorem run_abin {op : BinOp} {x y r : AV} {cx cy : Value} {L : Lay} {N : Nat} {T : Toks} (t : TypeId) (h : abin op x y = some r) (ht : eqType P t x = true) (hx : Rep L N T w x cx) (hy : Rep L N T w y cy) (ox oy : Operand) :
    ∃ cv, (eqGuard op t ox oy cx cy >>= fun _ => binOp op t cx cy).run P w = .ok cv w ∧ ∀ (L : Lay) (N : Nat) (T : Toks) (w' : World), Rep L N T w' r cv := by
  have hg : (∀ cs, cx ≠ .agg cs) ∧ cx ≠ .nilIface := by
    cases hx <;> first | (exfalso; simp [eqType] at ht; done) | exact ⟨fun _ e => (by cases e), fun e => (by cases e)⟩
  simp only [Sem.run_bind, run_eqGuard_int op t ox oy cx cy hg, Result.andThen_ok];unfold abin at h
  split at h
  · rw [hx.int_inv, hy.int_inv]
    split at h
    · split at h
      · rename_i hb
        cases h
        refine ⟨_, ?_, fun _ _ _ _ => .int _ _⟩;simp only [binOp, Op.shift];rw [if_neg (by omega)];rfl
      · cases h
    · split at h
      · rename_i hb
        cases h
        refine ⟨_, ?_, fun _ _ _ _ => .int _ _⟩;simp only [binOp, Op.shift];rw [if_neg (by omega)];rfl
      · cases h
    · split at h
      · rename_i hk;subst hk;exact run_aint h t ‹_› ‹_›
      · cases h
  · rw [hx.str_inv, hy.str_inv];exact run_astr h t
  · rename_i a b;rw [hx.bool_inv, hy.bool_inv];have hu : P.underlying t = some .bool := by
      unfold eqType at ht; split at ht <;> simp_all
    have he : ∀ d : Nat, (Op.equalIn (d + 1) t (.bool a) (.bool b)).run P w = .ok (a == b) w := fun d => by simp [Op.equalIn, run_underlying hu]
    split at h <;> cases h
    · exact ⟨_, run_eql t _ _ _ .eql (.inl rfl) rfl rfl he, fun _ _ _ _ => .bool _⟩
    · exact ⟨_, run_eql t _ _ _ .neq (.inr rfl) rfl rfl he, fun _ _ _ _ => .bool _⟩
  all_goals first
    | (have hu : ∃ e, P.underlying t = some (.pointer e) := by
        unfold eqType at ht; split at ht <;> simp_all
       obtain ⟨e, hu⟩ := hu
       cases hx
       cases hy
       split at h <;> cases h
       · exact ⟨_, run_eql t _ _ _ .eql (.inl rfl) rfl rfl (fun d => by simp only [Op.equalIn, Sem.run_bind, run_underlying hu, Result.andThen_ok]; rfl), fun _ _ _ _ => .bool _⟩
       · exact ⟨_, run_eql t _ _ _ .neq (.inr rfl) rfl rfl (fun d => by simp only [Op.equalIn, Sem.run_bind, run_underlying hu, Result.andThen_ok]; rfl), fun _ _ _ _ => .bool _⟩)
    | cases h
end
theorem addr_add (b o j:Nat):(⟨b,o,none⟩:Addr).add j=⟨b,o+j,none⟩:=by
 unfold Addr.add
 split
 ·rename_i h;subst h;rfl
 ·rfl
def RepC (L:Lay)(N:Nat)(T:Toks)(w:World)(vs:List AV)(c:List Value):Prop:=
 c.length=vs.length∧(∀(j:Nat)(h':j<c.length),(c[j]'h').oneCell'=true)∧∀(j:Nat)(h:j<vs.length)(h':j<c.length),Rep L N T w (vs[j]'h) (c[j]'h')
section
variable {L : Lay} {N : Nat} {T : Toks} {w : World}
theorem RepC.nil:RepC L N T w [] []:=⟨rfl,fun _ h=>by simp at h,fun _ h=>by simp at h⟩
theorem RepC.one {v:AV}{c:Value}(h:Rep L N T w v c)(h1:c.oneCell'=true):RepC L N T w [v] [c]:=
 ⟨rfl,fun j hj=>by simp at hj;subst hj;exact h1,fun j hj _=>by simp at hj;subst hj;exact h⟩
theorem RepC.append {a b:List AV}{c d:List Value}(h:RepC L N T w a c)(k:RepC L N T w b d):RepC L N T w (a++b) (c++d):=by
 refine⟨by simp[h.1,k.1],fun j hj=>?_,fun j hj hj'=>?_⟩
 ·rw[List.getElem_append]
  split
  ·exact h.2.1 _ _
  ·exact k.2.1 _ _
 ·rw[List.getElem_append,List.getElem_append]
  by_cases hlt:j<a.length
  ·rw[dif_pos hlt,dif_pos (by rw[h.1];exact hlt)];exact h.2.2 _ _ _
  ·rw[dif_neg hlt,dif_neg (by rw[h.1];exact hlt)];have:=k.2.2 (j-a.length) (by simp at hj;omega) (by simp at hj';rw[h.1] at hj';omega);simpa[h.1] using this
theorem RepC.drop {a:List AV}{c:List Value}(h:RepC L N T w a c)(k:Nat):RepC L N T w (a.drop k) (c.drop k):=by
 refine⟨by simp[h.1],fun j hj=>?_,fun j hj hj'=>?_⟩
 ·rw[List.getElem_drop];exact h.2.1 _ _
 ·rw[List.getElem_drop,List.getElem_drop];exact h.2.2 _ _ _
theorem RepC.take {a:List AV}{c:List Value}(h:RepC L N T w a c)(k:Nat):RepC L N T w (a.take k) (c.take k):=by
 refine⟨by simp[h.1],fun j hj=>?_,fun j hj hj'=>?_⟩
 ·rw[List.getElem_take];exact h.2.1 _ _
 ·rw[List.getElem_take,List.getElem_take];exact h.2.2 _ _ _
theorem RepC.keep {L':Lay}{N':Nat}{T':Toks}{w':World}{a:List AV}{c:List Value}(k:Keeps L N T w L' N' T' w')(h:RepC L N T w a c):RepC L' N' T' w' a c:=
 ⟨h.1,h.2.1,fun j hj hj'=>(h.2.2 j hj hj').keep k⟩
theorem RepC.set {a:List AV}{c:List Value}(h:RepC L N T w a c)(i:Nat){v:AV}{x:Value}(hv:Rep L N T w v x)(h1:x.oneCell'=true):RepC L N T w (a.set i v) (c.set i x):=by
 refine⟨by simp[h.1],fun j hj=>?_,fun j hj hj'=>?_⟩
 ·rw[List.getElem_set]
  split
  ·exact h1
  ·exact h.2.1 _ _
 ·rw[List.getElem_set,List.getElem_set]
  split
  ·exact hv
  ·exact h.2.2 _ _ _
theorem RepC.agg {a:List AV}{c:List Value}(h:RepC L N T w a c):Rep L N T w (.agg a) (.agg c.toArray):=
 .agg a c.toArray (by simpa using h.1) (fun j hj=>by simpa using h.2.1 j (by simpa using hj)) (fun j hj hj'=>by simpa using h.2.2 j hj (by simpa using hj'))
theorem RepC.of_agg {a:List AV}{c:Array Value}(h:Rep L N T w (.agg a) (.agg c)):RepC L N T w a c.toList:=by
 cases h with
 |agg _ _ h1 h2 hr=>exact⟨by simpa using h1,fun j hj=>by simpa using h2 j (by simpa using hj),fun j hj hj'=>by simpa using hr j hj (by simpa using hj')⟩
end
def axs (v:AV):Option (List AV):=
 match v with
 |.agg cs=>some cs
 |v=>if cellAV v then some [v] else none
theorem axs_rep {L:Lay}{N:Nat}{T:Toks}{w:World}{v:AV}{c:Value}{xs:List AV}(h:axs v=some xs)(hv:Rep L N T w v c):RepC L N T w xs c.cells.toList:=by
 unfold axs at h
 split at h
 ·cases h
  cases hv with
  |agg _ _ h1 h2 hr=>exact RepC.of_agg (.agg _ _ h1 h2 hr)
 ·rename_i hn
  split at h
  ·rename_i hc
   cases h
   have h1:=hv.cell hc;have:c.cells=#[c]:=by cases c<;>first|rfl|(simp[Value.oneCell'] at h1)
   rw[this];exact RepC.one hv h1
  ·cases h
def isAggT (P:Program)(t:TypeId):Option Bool:=
 match P.underlying t with
 |some (.struct _)|some (.array _ _)=>some true
 |some _=>some false
 |none=>none
theorem run_isAgg {P:Program}{t:TypeId}{b:Bool}(h:isAggT P t=some b)(w:World):(isAgg t).run P w=.ok b w:=by
 unfold isAggT at h
 split at h<;>cases h
 ·rename_i hu;simp[isAgg,run_underlying hu]
 ·rename_i hu;simp[isAgg,run_underlying hu]
 ·rename_i d hn1 hn2 hu;simp only[isAgg,Sem.run_bind,run_underlying hu,Result.andThen_ok]
  cases d<;>first|rfl|exact absurd rfl (hn1 _)|exact absurd rfl (hn2 _ _)
theorem info_of {P:Program}{t:TypeId}{d:TypeDesc}(h:P.underlying t=some d):∃i,P.info? t=some i:=info_of_underlying h
theorem run_sizeOf' {P:Program}{t:TypeId}{d:TypeDesc}(h:P.underlying t=some d)(w:World):(sizeOf t).run P w=.ok (P.cellsOf t) w:=by
 obtain⟨i,hi⟩:=info_of h;exact run_sizeOf w hi
def arow (H:List Blk)(p:AV):Option (List AV×Nat):=
 match p with
 |.ptr i o=>match H[i]? with
  |some (.cells vs)=>some (vs,o)
  |_=>none
 |.vptr cs o=>some (cs,o)
 |_=>none
theorem BoxOk.at {L:Lay}{N:Nat}{T:Toks}{w:World}{i:Nat}{vs:List AV}(h:BoxOk L N T w i (.cells vs)) :
  ∃c:Array Value,RepC L N T w vs c.toList∧∀j,w.cell? ⟨L.phi i,j,none⟩=c[j]?:=by
 obtain⟨c,t,fr,h1,h2,h3,h3',h4,h5⟩:=h;exact⟨c,⟨by simpa using h3,fun j hj=>by simpa using h3' j (by simpa using hj),fun j hj hj'=>by simpa using h4 j hj (by simpa using hj')⟩,fun j=>cell_row h1 j⟩
theorem arow_reads {L:Lay}{H:List Blk}{T:Toks}{w:World}{p:AV}{c:Value}{vs:List AV}{o:Nat}(hc:Con L H T w)(hp:Rep L H.length T w p c)(h:arow H p=some (vs,o)) :
  ∃(b base:Nat) (cv:List Value),c=.pointer (some ⟨b,base+o,none⟩)∧RepC L H.length T w vs cv∧∀j,j<vs.length→w.cell? ⟨b,base+j,none⟩=cv[j]?:=by
 unfold arow at h
 split at h
 ·rename_i i o'
  split at h
  ·rename_i vs' hi
   cases h
   cases hp with
   |ptr _ _ hlt=>
    obtain⟨c,h1,h2⟩:=(hc.box i _ hi).at;exact⟨L.phi i,0,c.toList,by simp,h1,fun j _=>by simpa using h2 j⟩
  ·cases h
 ·cases h
  cases hp with
  |vptr _ _ b base f hm hcell h1 hr=>
   refine⟨b,base,(List.range vs.length).map f,rfl,⟨by simp,fun j hj=>by simpa using h1 j (by simpa using hj),fun j hj hj'=>by simpa using hr j hj⟩,fun j hj=>?_⟩;rw[hcell j hj];simp[hj]
 ·cases h
def aload (P:Program)(t:TypeId)(vs:List AV)(o:Nat):Option AV:=
 match isAggT P t with
 |some true=>if o+P.cellsOf t≤vs.length then some (.agg ((vs.drop o).take (P.cellsOf t))) else none
 |some false=>if o<vs.length then some (vs.getD o .top) else none
 |none=>none
theorem run_loadVar {P:Program}{t:TypeId}{L:Lay}{N:Nat}{T:Toks}{w:World}{vs:List AV}{o b base:Nat}{cv:List Value}{r:AV}(hr:RepC L N T w vs cv)
  (hc:∀j,j<vs.length→w.cell? ⟨b,base+j,none⟩=cv[j]?) (h:aload P t vs o=some r):∃c,(loadVar t ⟨b,base+o,none⟩).run P w=.ok c w∧Rep L N T w r c:=by
 unfold aload at h
 split at h
 ·rename_i hag
  split at h
  ·rename_i hle
   cases h
   have hu:∃d,P.underlying t=some d:=by
    unfold isAggT at hag
    cases hx:P.underlying t with
    |none=>simp[hx] at hag
    |some d=>exact⟨d,rfl⟩
   obtain⟨d,hu⟩:=hu;have hcv:cv.length=vs.length:=hr.1;refine⟨.agg ((cv.drop o).take (P.cellsOf t)).toArray,?_,((hr.drop o).take _).agg⟩;have hl:=run_loadCells (P:=P) w ⟨b,base+o,none⟩ (P.cellsOf t) (fun j=>(cv[o+j]?).getD undef) (fun j hj=>by
    rw[addr_add,show base+o+j=base+(o+j) by omega,hc _ (by omega)];have:o+j<cv.length:=by omega
    simp[this])
   simp only[loadVar,Sem.run_bind,run_isAgg hag,Result.andThen_ok,if_true,run_sizeOf' hu,hl];show Result.ok _ _=Result.ok _ _
   congr 3
   apply List.ext_getElem
   ·simp;omega
   ·intro j h1 h2;simp at h1;have:o+j<cv.length:=by omega
    simp[this]
  ·cases h
 ·rename_i hag
  split at h
  ·rename_i hlt;have hcv:o<cv.length:=by rw[hr.1];exact hlt
   refine⟨cv[o],?_,?_⟩
   ·have hcell:=hc o hlt;rw[List.getElem?_eq_getElem hcv] at hcell;simp only[loadVar,Sem.run_bind,run_isAgg hag,Result.andThen_ok,Bool.false_eq_true,if_false,run_load,hcell]
   ·have:=hr.2.2 o hlt hcv
    cases h
    simpa[hlt] using this
  ·cases h
 ·cases h
def setMany:List AV→Nat→List AV→List AV
 |vs,_,[]=>vs
 |vs,o,x::r=>setMany (vs.set o x) (o+1) r
theorem run_storeMany {P:Program}{L:Lay}{T:Toks}(i:Nat)(o:Nat):∀(xs:List AV)(cs:List Value)(k:Nat)(H:List Blk)(w:World)(vs:List AV),Con L H T w→RepC L H.length T w xs cs→
  H[i]?=some (.cells vs)→o+k+xs.length≤vs.length→
  ∃w',(storeCells ⟨L.phi i,o,none⟩ cs k).run P w=.ok () w'∧Con L (H.set i (.cells (setMany vs (o+k) xs))) T w'∧
   Ev H.length T.length L H.length T w L (H.set i (.cells (setMany vs (o+k) xs))).length T w':=by
 intro xs
 induction xs with
 |nil=>
  intro cs k H w vs hc hr hi hle;have hcs:cs=[]:=List.eq_nil_of_length_eq_zero (by simpa using hr.1);subst hcs;have hH:H.set i (.cells (setMany vs (o+k) []))=H:=by
   have hlt:=(List.getElem?_eq_some_iff.1 hi)
   simp only[setMany];apply List.ext_getElem?;intro j
   by_cases hj:i=j
   ·subst hj;rw[List.getElem?_set_self hlt.1,hi]
   ·rw[List.getElem?_set_ne hj]
  refine⟨w,rfl,by rw[hH];exact hc,by rw[hH];exact Ev.refl (Nat.le_refl _) (Nat.le_refl _)⟩
 |cons x r ih=>
  intro cs k H w vs hc hr hi hle
  match cs,hr with
  |c::cr,hr=>
   have hil:=(List.getElem?_eq_some_iff.1 hi).1;have h0:Rep L H.length T w x c:=hr.2.2 0 (by simp) (by simp);have h1:c.oneCell'=true:=hr.2.1 0 (by simp);have hrr:RepC L H.length T w r cr:=by simpa using hr.drop 1
   obtain⟨cc,t,fr,g1,g2,g3,g3',g4,g5⟩:=hc.box i _ hi;have hlt:o+k<vs.length:=by simp at hle;omega
   obtain⟨hc1,he1⟩:=hc.setCell hi hlt h0 h1;have hst:(store ((⟨L.phi i,o,none⟩:Addr).add k) c).run P w=.ok () (w.setCell ⟨L.phi i,o+k,none⟩ c):=by
    rw[addr_add,run_store P w _ c _ h1,cell_row g1];have hk:o+k<cc.size:=by omega
    have hfz:w.frozen? ⟨L.phi i,o+k,none⟩=false:=by
     unfold World.frozen?;simp only[g1];exact g2 _ hk
    simp[hk,hfz]
   have hlen:(H.set i (.cells (vs.set (o+k) x))).length=H.length:=by simp
   obtain⟨w',hrun,hc2,he2⟩:=ih cr (k+1) (H.set i (.cells (vs.set (o+k) x))) (w.setCell ⟨L.phi i,o+k,none⟩ c) (vs.set (o+k) x) hc1 (by rw[hlen];exact hrr.keep (by simpa[hlen] using he1.keeps))
    (List.getElem?_set_self hil) (by simp at hle ⊢;omega)
   rw[List.set_set] at hc2 he2;refine⟨w',?_,?_,?_⟩
   ·simp only[storeCells,Sem.run_bind,hst,Result.andThen_ok,hrun]
   ·simpa[setMany,Nat.add_assoc] using hc2
   ·rw[hlen] at he2;have:=he1.trans (by rw[hlen];exact he2);simpa[setMany,Nat.add_assoc] using this
  |[],hr=>simp[RepC] at hr
theorem Con.newBox {L:Lay}{H:List Blk}{T:Toks}{w:World}(h:Con L H T w)(c:Array Value)(ty:TypeId){vs:List AV}(hr:RepC L H.length T w vs c.toList) :
  ∃L',Con L' (H++[Blk.cells vs]) T (w.alloc (.cells c ty))∧Ev H.length T.length L H.length T w L' (H++[Blk.cells vs]).length T (w.alloc (.cells c ty))∧L'.phi H.length=w.heap.size:=by
 have h1:=h.alloc (.cells c ty) 0;have e1:=Ev.alloc h (.cells c ty) 0;have hnw:¬Wr (L.commit w.heap.size 0) H.length T w.heap.size:=h.not_wr (Nat.le_refl _);have e2:=Ev.addBox (b:=w.heap.size) (Blk.cells vs) e1 (Nat.le_refl _);refine⟨(L.commit w.heap.size 0).withBox H.length w.heap.size,h1.addBox w.heap.size hnw (Blk.cells vs) (fun hle=>by simp at hle;omega) ?_,e2,by simp[Lay.withBox]⟩;have hphi:((L.commit w.heap.size 0).withBox H.length w.heap.size).phi H.length=w.heap.size:=by simp[Lay.withBox]
 have hr':=hr.keep e2.keeps;have hl:(H++[Blk.cells vs]).length=H.length+1:=by simp
 rw[hl] at hr';refine⟨c,ty,(0,0),by rw[hphi];exact heap_alloc_at w _,fun o ho=>by simp,by simpa using hr.1,fun j hj=>?_,fun j hj hj'=>?_,?_⟩
 ·have:=hr.2.1 j (by simpa using hj);rwa [Array.getElem_toList] at this
 ·have:=hr'.2.2 j hj (by simpa using hj');rwa [Array.getElem_toList] at this
 ·rw[hphi];simp[Lay.withBox,Lay.commit]
theorem Con.newRow {L:Lay}{H:List Blk}{T:Toks}{w:World}(h:Con L H T w)(c:Array Value)(ty:TypeId)(fr:Nat×Nat){vs:List AV}(k:Nat)(hk:vs.length≤k)(hr:RepC L H.length T w vs (c.toList.take vs.length))(n cap:Nat)(hn:n≤cap)(tg:Tag)(ht:tg=.none∨(tg=.full∧cap=n)) :
  Con (L.commit w.heap.size k) H T (w.alloc (.cells c ty fr))∧Ev H.length T.length L H.length T w (L.commit w.heap.size k) H.length T (w.alloc (.cells c ty fr))∧
   Rep (L.commit w.heap.size k) H.length T (w.alloc (.cells c ty fr)) (.sl n vs tg) (.slice (some ⟨w.heap.size,0,none⟩) n cap):=by
 have e1:=Ev.alloc h (.cells c ty fr) k;refine⟨h.alloc (.cells c ty fr) k,e1,?_⟩;have hr':=hr.keep e1.keeps;have hlen:(c.toList.take vs.length).length=vs.length:=hr.1;have hsz:vs.length≤c.size:=by simp at hlen;omega
 refine .sl1 n vs tg w.heap.size 0 cap (fun j=>c.getD j undef) hn (by simp[Lay.commit];omega) (fun j hj=>?_) (fun j hj=>?_) (fun j hj=>?_) ?_
 ·rw[cell_row (heap_alloc_at w _)];have:j<c.size:=by omega
  simp[this]
 ·have:=hr'.2.1 j (by rw[hlen];exact hj);have hjc:j<c.size:=by omega
  simpa[hjc] using this
 ·have:=hr'.2.2 j hj (by rw[hlen];exact hj);have hjc:j<c.size:=by omega
  simpa[hjc] using this
 ·rcases ht with rfl|⟨rfl,rfl⟩
  ·trivial
  ·rfl
section
variable {P : Program} {L : Lay} {N : Nat} {T : Toks} {w : World}
theorem Rep.sl_inv {n:Nat}{cs:List AV}{tg:Tag}{c:Value}(h:Rep L N T w (.sl n cs tg) c) :
  ∃a cap,c=.slice a n cap∧n≤cap∧tagOk L T tg n cs.length a cap∧((cs=[]∧n=0)∨∃(b base:Nat) (cv:List Value),a=some ⟨b,base,none⟩∧base+cs.length≤L.m b∧RepC L N T w cs cv∧
   ∀j,j<cs.length→w.cell? ⟨b,base+j,none⟩=cv[j]?):=by
 cases h with
 |sl0 _ a cap ht=>exact⟨a,cap,rfl,Nat.zero_le _,ht,.inl ⟨rfl,rfl⟩⟩
 |sl1 _ _ _ b base cap f hcap hm hc h1 hr ht=>
  refine⟨_,cap,rfl,hcap,ht,.inr ⟨b,base,(List.range cs.length).map f,rfl,hm,⟨by simp,fun j hj=>by simpa using h1 j (by simpa using hj),fun j hj hj'=>by simpa using hr j hj⟩,fun j hj=>?_⟩⟩;rw[hc j hj];simp[hj]
theorem Rep.vptr_mk {cs:List AV}{b base:Nat}{cv:List Value}(o:Nat)(hm:base+cs.length≤L.m b)(hr:RepC L N T w cs cv)(hc:∀j,j<cs.length→w.cell? ⟨b,base+j,none⟩=cv[j]?) :
  Rep L N T w (.vptr cs o) (.pointer (some ⟨b,base+o,none⟩)):=by
 refine .vptr cs o b base (fun j=>cv.getD j undef) hm (fun j hj=>?_) (fun j hj=>?_) (fun j hj=>?_)
 ·have:j<cv.length:=by rw[hr.1];exact hj
  rw[hc j hj];simp[this]
 ·have:j<cv.length:=by rw[hr.1];exact hj
  simpa[this] using hr.2.1 j this
 ·have:j<cv.length:=by rw[hr.1];exact hj
  simpa[this] using hr.2.2 j hj this
theorem Rep.sl_mk {n cap:Nat}{cs:List AV}{tg:Tag}{b base:Nat}{cv:List Value}(hcap:n≤cap)(hm:base+cs.length≤L.m b)(hr:RepC L N T w cs cv)(hc:∀j,j<cs.length→w.cell? ⟨b,base+j,none⟩=cv[j]?)
  (ht:tagOk L T tg n cs.length (some ⟨b,base,none⟩) cap):Rep L N T w (.sl n cs tg) (.slice (some ⟨b,base,none⟩) n cap):=by
 refine .sl1 n cs tg b base cap (fun j=>cv.getD j undef) hcap hm (fun j hj=>?_) (fun j hj=>?_) (fun j hj=>?_) ht
 ·have:j<cv.length:=by rw[hr.1];exact hj
  rw[hc j hj];simp[this]
 ·have:j<cv.length:=by rw[hr.1];exact hj
  simpa[this] using hr.2.1 j this
 ·have:j<cv.length:=by rw[hr.1];exact hj
  simpa[this] using hr.2.2 j hj this
theorem Rep.csl_inv {i n cap:Nat}{c:Value}(h:Rep L N T w (.csl i n cap) c):c=.slice (some ⟨L.phi i,0,none⟩) n cap∧n≤cap∧i<N:=by
 cases h with|csl _ _ _ hi hcap=>exact⟨rfl,hcap,hi⟩
theorem Rep.msl_inv {i o n:Nat}{c:Value}(h:Rep L N T w (.msl i o n) c):∃cap,c=.slice (some ⟨L.phi i,o,none⟩) n cap∧n≤cap∧i<N:=by
 cases h with|msl _ _ _ cap hi hcap=>exact⟨cap,rfl,hcap,hi⟩
def amove (p:AV)(d:Nat):Option AV:=
 match p with
 |.ptr i o=>some (.ptr i (o+d))
 |.vptr cs o=>some (.vptr cs (o+d))
 |_=>none
theorem Rep.amove {p q:AV}{c:Value}{d:Nat}(h:Rep L N T w p c)(hq:Am.amove p d=some q):∃a:Addr,c=.pointer (some a)∧Rep L N T w q (.pointer (some (a.add d))):=by
 unfold Am.amove at hq
 split at hq
 ·cases hq;cases h with|ptr _ _ hi=>exact⟨_,rfl,by rw[addr_add];exact .ptr _ _ hi⟩
 ·cases hq;cases h with|vptr _ _ b base f hm hc h1 hr=>exact⟨_,rfl,by rw[addr_add,Nat.add_assoc];exact .vptr _ _ b base f hm hc h1 hr⟩
 ·cases hq
def afieldAddr (P:Program)(s:TypeId)(p:AV)(f:Nat):Option AV:=
 match P.underlying s with
 |some (.struct fs)=>match fs[f]? with
  |some fd=>if (P.underlying fd.type).isSome&&0<P.cellsOf fd.type then amove p fd.offset else none
  |none=>none
 |_=>none
theorem run_fieldAt {s:TypeId}{p q:AV}{f:Nat}{c:Value}(h:afieldAddr P s p f=some q)(hp:Rep L N T w p c):∃cv,(Instr.fieldAt s c f).run P w=.ok cv w∧Rep L N T w q cv:=by
 unfold afieldAddr at h
 split at h
 ·rename_i fs hu
  split at h
  ·rename_i fd hf
   split at h
   ·rename_i hz;simp only[Bool.and_eq_true,decide_eq_true_eq] at hz;obtain⟨d,hd⟩:=Option.isSome_iff_exists.1 hz.1;obtain⟨a,rfl,hr⟩:=hp.amove h;refine⟨_,?_,hr⟩;have:¬P.cellsOf fd.type=0:=by omega
    simp[Instr.fieldAt,run_underlying hu,hf,Instr.sureAddr,fieldPlace,run_sizeOf' hd,this]
   ·cases h
  ·cases h
 ·cases h
def aindexAddr (P:Program)(t:TypeId)(x ix:AV):Option AV:=
 match P.underlying t,x,ix with
 |some (.slice e),.sl n cs _,.int _ i=>if 0≤i∧i<n then (if (P.underlying e).isSome then some (.vptr cs (i.toNat*P.cellsOf e)) else none) else none
 |some (.slice e),.msl b o n,.int _ i=>if 0≤i∧i<n then (if (P.underlying e).isSome then some (.ptr b (o+i.toNat*P.cellsOf e)) else none) else none
 |some (.slice e),.csl b n _,.int _ i=>if 0≤i∧i<n then (if (P.underlying e).isSome then some (.ptr b (0+i.toNat*P.cellsOf e)) else none) else none
 |some (.array len e),p,.int _ i=>if 0≤i∧i<len then (if (P.underlying e).isSome then amove p (i.toNat*P.cellsOf e) else none) else none
 |_,_,_=>none
theorem run_indexAt {t:TypeId}{x ix q:AV}{cx ci:Value}(h:aindexAddr P t x ix=some q)(hx:Rep L N T w x cx)(hi:Rep L N T w ix ci):∃cv,(Instr.indexAt t cx ci).run P w=.ok cv w∧Rep L N T w q cv:=by
 unfold aindexAddr at h
 split at h
 ·rename_i e n cs tg k i hu
  split at h
  ·rename_i hb
   split at h
   ·rename_i he;obtain⟨d,hd⟩:=Option.isSome_iff_exists.1 he
    cases h
    rw[hi.int_inv];obtain⟨a,cap,rfl,hcap,_,h0|⟨b,base,cv,rfl,hm,hr,hc⟩⟩:=hx.sl_inv
    ·omega
    ·refine⟨_,?_,Rep.vptr_mk (i.toNat*P.cellsOf e) hm hr hc⟩;simp[Instr.indexAt,run_underlying hu,asIntOf,hb,run_sizeOf' hd,addr_add]
   ·cases h
  ·cases h
 ·rename_i e b o n k i hu
  split at h
  ·rename_i hb
   split at h
   ·rename_i he;obtain⟨d,hd⟩:=Option.isSome_iff_exists.1 he
    cases h
    rw[hi.int_inv];obtain⟨cap,rfl,hcap,hlt⟩:=hx.msl_inv;refine⟨_,?_,Rep.ptr b (o+i.toNat*P.cellsOf e) hlt⟩;simp[Instr.indexAt,run_underlying hu,asIntOf,hb,run_sizeOf' hd,addr_add]
   ·cases h
  ·cases h
 ·rename_i e b n cap k i hu
  split at h
  ·rename_i hb
   split at h
   ·rename_i he;obtain⟨d,hd⟩:=Option.isSome_iff_exists.1 he
    cases h
    rw[hi.int_inv];obtain⟨rfl,hcap,hlt⟩:=hx.csl_inv;refine⟨_,?_,Rep.ptr b (0+i.toNat*P.cellsOf e) hlt⟩;simp[Instr.indexAt,run_underlying hu,asIntOf,hb,run_sizeOf' hd,addr_add]
   ·cases h
  ·cases h
 ·rename_i len e p k i hu
  split at h
  ·rename_i hb
   split at h
   ·rename_i he;obtain⟨d,hd⟩:=Option.isSome_iff_exists.1 he;rw[hi.int_inv];obtain⟨a,rfl,hr⟩:=hx.amove h;refine⟨_,?_,hr⟩;simp[Instr.indexAt,run_underlying hu,asIntOf,hb,run_sizeOf' hd,Instr.sureAddr]
   ·cases h
  ·cases h
 ·cases h
def aindex (P:Program)(t:TypeId)(x ix:AV):Option AV:=
 match P.underlying t,x,ix with
 |some .string,.str s,.int _ i=>if 0≤i∧i<s.length then some (.int .u8 ((s.getD i.toNat 0).toNat:Int)) else none
 |some (.array len e),.agg cs,.int _ i=>if 0≤i∧i<len then aload P e cs (i.toNat*P.cellsOf e) else none
 |_,_,_=>none
theorem run_part {t:TypeId}{cs:List AV}{o:Nat}{r:AV}{c:Array Value}(hr:Rep L N T w (.agg cs) (.agg c))(h:aload P t cs o=some r):∃cv,(part t c o).run P w=.ok cv w∧Rep L N T w r cv:=by
 have hrc:=RepC.of_agg hr;unfold aload at h
 split at h
 ·rename_i hag
  split at h
  ·rename_i hle
   cases h
   have hu:∃d,P.underlying t=some d:=by
    unfold isAggT at hag
    cases hx:P.underlying t with
    |none=>simp[hx] at hag
    |some d=>exact⟨d,rfl⟩
   obtain⟨d,hu⟩:=hu;refine⟨_,by simp only[part,Sem.run_bind,run_isAgg hag,Result.andThen_ok,if_true,run_sizeOf' hu];rfl,?_⟩;have:=((hrc.drop o).take (P.cellsOf t)).agg;have e:(c.extract o (o+P.cellsOf t))=((c.toList.drop o).take (P.cellsOf t)).toArray:=by
    apply Array.ext';simp
   rw[e];exact this
  ·cases h
 ·rename_i hag
  split at h
  ·rename_i hlt
   cases h
   have hcv:o<c.toList.length:=by rw[hrc.1];exact hlt
   have hc':o<c.size:=by simpa using hcv
   have h3:=hrc.2.2 o hlt hcv;refine⟨c[o],?_,by simpa[hlt] using h3⟩;simp only[part,Sem.run_bind,run_isAgg hag,Result.andThen_ok,Bool.false_eq_true,if_false,Array.getElem?_eq_getElem hc'];rfl
  ·cases h
 ·cases h
theorem run_index {t:TypeId}{x ix r:AV}{cx ci:Value}(h:aindex P t x ix=some r)(hx:Rep L N T w x cx)(hi:Rep L N T w ix ci):∃cv,(Instr.index t cx ci).run P w=.ok cv w∧Rep L N T w r cv:=by
 unfold aindex at h
 split at h
 ·rename_i s k i hu
  split at h
  ·rename_i hb
   cases h
   rw[hi.int_inv,hx.str_inv];have hlt:i.toNat<s.length:=by omega
   have e:(⟨s.toArray⟩:ByteArray)[i.toNat]?=some (s.getD i.toNat 0):=by
    rw[ByteArray.getElem?_lt' _ _ (by simpa[ByteArray.size] using hlt)];simp[hlt];rfl
   refine⟨_,?_,.int _ _⟩;simp[Instr.index,run_underlying hu,asIntOf,hb.1,e]
  ·cases h
 ·rename_i len e cs k i hu
  split at h
  ·rename_i hb;rw[hi.int_inv];have hd:∃d,P.underlying e=some d:=by
    unfold aload isAggT at h
    cases hx:P.underlying e with
    |none=>simp[hx] at h
    |some d=>exact⟨d,rfl⟩
   obtain⟨d,hd⟩:=hd
   cases hx with
   |agg _ c h1 h2 hr=>
    obtain⟨cv,h3,h4⟩:=run_part (.agg cs c h1 h2 hr) h;refine⟨cv,?_,h4⟩;simp[Instr.index,run_underlying hu,asIntOf,hb,run_sizeOf' hd,h3]
  ·cases h
 ·cases h
def afield (P:Program)(t:TypeId)(x:AV)(f:Nat):Option AV:=
 match P.underlying t,x with
 |some (.struct fs),.agg cs=>match fs[f]? with
  |some fd=>aload P fd.type cs fd.offset
  |none=>none
 |_,_=>none
theorem run_field {t:TypeId}{x r:AV}{f:Nat}{cx:Value}(h:afield P t x f=some r)(hx:Rep L N T w x cx):∃cv,(Instr.field t cx f).run P w=.ok cv w∧Rep L N T w r cv:=by
 unfold afield at h
 split at h
 ·rename_i fs cs hu
  split at h
  ·rename_i fd hf
   cases hx with
   |agg _ c h1 h2 hr=>
    obtain⟨cv,h3,h4⟩:=run_part (.agg cs c h1 h2 hr) h;refine⟨cv,?_,h4⟩;simp[Instr.field,run_underlying hu,hf,asAgg,h3]
  ·cases h
 ·cases h
def abound (x:Option AV)(dflt:Nat):Option Nat:=
 match x with
 |none=>some dflt
 |some (.int _ i)=>if 0≤i then some i.toNat else none
 |_=>none
def aslice (P:Program)(t:TypeId)(x:AV)(lo hi mx:Option AV):Option AV:=
 match P.underlying t,x,mx with
 |some .string,.str s,none=>
  match abound lo 0,abound hi s.length with
  |some l,some h=>if l≤h∧h≤s.length then some (.str ((s.drop l).take (h-l))) else none
  |_,_=>none
 |some (.slice e),.sl n cs _,none=>
  match abound lo 0,abound hi n with
  |some l,some h=>if l≤h∧h≤n∧l*P.cellsOf e≤cs.length then (if (P.underlying e).isSome then some (.sl (h-l) ((cs.drop (l*P.cellsOf e)).take ((h-l)*P.cellsOf e)) .none) else none) else none
  |_,_=>none
 |some (.slice e),.sl n cs _,some m=>
  match abound lo 0,abound hi n,abound (some m) 0 with
  |some l,some h,some m=>if l≤h∧h≤m∧m≤n∧hi.isSome∧l*P.cellsOf e≤cs.length then (if (P.underlying e).isSome then some (.sl (h-l) ((cs.drop (l*P.cellsOf e)).take ((h-l)*P.cellsOf e)) (if h=m then .full else .none)) else none) else none
  |_,_,_=>none
 |some (.slice e),.msl i o n,none=>
  match abound lo 0,abound hi n with
  |some l,some h=>if l≤h∧h≤n∧(l<n∨l=0) then (if (P.underlying e).isSome then some (.msl i (o+l*P.cellsOf e) (h-l)) else none) else if l=n∧h=n∧(P.underlying e).isSome then some (.sl 0 [] .none) else none
  |_,_=>none
 |some (.array n e),.ptr i o,none=>
  match abound lo 0,abound hi n with
  |some l,some h=>if l≤h∧h≤n∧(l<n∨l=0) then (if (P.underlying e).isSome then some (.msl i (o+l*P.cellsOf e) (h-l)) else none) else none
  |_,_=>none
 |_,_,_=>none
theorem abound_rep {x:Option AV}{d n:Nat}{c:Option Value}(h:abound x d=some n)(hc:∀v cv,x=some v→c=some cv→Rep L N T w v cv)(hs:x.isSome=c.isSome) :
  (x=none∧c=none∧n=d)∨(∃k,c=some (.int k (n:Int))∧x.isSome=true):=by
 cases x with
 |none=>
  cases c with
  |none=>simp[abound] at h;exact .inl ⟨rfl,rfl,h.symm⟩
  |some c=>simp at hs
 |some v=>
  cases c with
  |none=>simp at hs
  |some cv=>
   have hr:=hc v cv rfl rfl
   cases v<;>simp only[abound,reduceCtorEq] at h
   rename_i k i
   split at h
   ·rename_i hi
    cases h
    right
    rw[hr.int_inv];exact⟨k,by rw[Int.toNat_of_nonneg hi],rfl⟩
   ·cases h
theorem run_bound {k:IntKind}{n y:Nat}(h:n≤y)(code:BoundsCode):(Instr.sliceBound (.int k (n:Int)) y code).run P w=.ok n w:=by
 have:(0:Int)≤(n:Int)∧(n:Int)≤(y:Int):=by omega
 simp[Instr.sliceBound,asIntOf];intro hh;omega
theorem run_bounds {isS:Bool}{len cap l h:Nat}{lo hi:Option AV}{cl ch:Option Value}(hl:abound lo 0=some l)(hh:abound hi len=some h)(h1:l≤h)(h2:h≤len)(h3:len≤cap)
  (rl:∀v cv,lo=some v→cl=some cv→Rep L N T w v cv) (rh:∀v cv,hi=some v→ch=some cv→Rep L N T w v cv) (sl:lo.isSome=cl.isSome) (sh:hi.isSome=ch.isSome) :
  (Instr.sliceBounds isS len cap cl ch none).run P w=.ok (l,h,cap) w:=by
 rcases abound_rep hl rl sl with⟨_,e1,e2⟩|⟨k,e1,_⟩<;>rcases abound_rep hh rh sh with⟨_,e3,e4⟩|⟨k',e3,_⟩<;>subst e1<;>subst e3
 ·subst e2;subst e4;simp[Instr.sliceBounds]
 ·subst e2;simp[Instr.sliceBounds,run_bound (w:=w) (P:=P) (k:=k') (n:=h) (y:=cap) (by omega)]
 ·subst e4;simp[Instr.sliceBounds,run_bound (w:=w) (P:=P) (k:=k) (n:=l) (y:=h) h1]
 ·simp[Instr.sliceBounds,run_bound (w:=w) (P:=P) (k:=k') (n:=h) (y:=cap) (by omega),run_bound (w:=w) (P:=P) (k:=k) (n:=l) (y:=h) h1]
theorem run_bounds3 {len cap l h m:Nat}{lo hi:Option AV}{x:AV}{cl ch:Option Value}{cm:Value}(hl:abound lo 0=some l)(hh:abound hi len=some h)(hm:abound (some x) 0=some m)(h1:l≤h)(h2:h≤m)(h4:m≤cap)(his:hi.isSome=true)
  (rl:∀v cv,lo=some v→cl=some cv→Rep L N T w v cv) (rh:∀v cv,hi=some v→ch=some cv→Rep L N T w v cv) (rm:Rep L N T w x cm) (sl:lo.isSome=cl.isSome) (sh:hi.isSome=ch.isSome) :
  (Instr.sliceBounds true len cap cl ch (some cm)).run P w=.ok (l,h,m) w:=by
 have em:∃k,cm=.int k (m:Int):=by
  rcases abound_rep (c:=some cm) hm (fun v cv e1 e2=>by cases e1;cases e2;exact rm) rfl with⟨e,_⟩|⟨k,e,_⟩
  ·cases e
  ·exact⟨k,by cases e;rfl⟩
 obtain⟨km,rfl⟩:=em;rcases abound_rep hh rh sh with⟨e,_⟩|⟨k',e3,_⟩
 ·subst e;simp at his
 subst e3;rcases abound_rep hl rl sl with⟨_,e1,e2⟩|⟨k,e1,_⟩<;>subst e1
 ·subst e2;simp[Instr.sliceBounds,run_bound (w:=w) (P:=P) (k:=km) (n:=m) (y:=cap) h4,run_bound (w:=w) (P:=P) (k:=k') (n:=h) (y:=m) h2]
 ·simp[Instr.sliceBounds,run_bound (w:=w) (P:=P) (k:=km) (n:=m) (y:=cap) h4,run_bound (w:=w) (P:=P) (k:=k') (n:=h) (y:=m) h2,run_bound (w:=w) (P:=P) (k:=k) (n:=l) (y:=h) h1]
theorem Rep.sub {n:Nat}{cs:List AV}{tg:Tag}{a:Option Addr}{cap:Nat}(hx:Rep L N T w (.sl n cs tg) (.slice a n cap))(l h m z:Nat)(h1:l≤h)(h2:h≤n)(h3:h≤m)(hlen:l*z≤cs.length)(tg':Tag)(ht:tg'=.none∨(tg'=.full∧h=m)) :
  Rep L N T w (.sl (h-l) ((cs.drop (l*z)).take ((h-l)*z)) tg') (.slice (if m=l then a else a.map (·.add (l*z))) (h-l) (m-l)):=by
 obtain⟨a',cap',e,hcap,_,h0⟩:=hx.sl_inv
 cases e
 have tok:∀a'',tagOk L T tg' (h-l) ((cs.drop (l*z)).take ((h-l)*z)).length a'' (m-l):=by
  intro a'';rcases ht with rfl|⟨rfl,rfl⟩
  ·trivial
  ·rfl
 rcases h0 with⟨rfl,rfl⟩|⟨b,base,cv,rfl,hm,hr,hc⟩
 ·have:h-l=0:=by omega
  have e2:=tok (if m=l then a else a.map (·.add (l*z)));rw[this] at e2 ⊢;simp at e2 ⊢;exact .sl0 _ _ _ e2
 ·by_cases hml:m=l
  ·have:h-l=0:=by omega
   have e2:=tok (if m=l then some ⟨b,base,none⟩ else (some (⟨b,base,none⟩:Addr)).map (·.add (l*z)));rw[this] at e2 ⊢;simp at e2 ⊢;exact .sl0 _ _ _ e2
  ·rw[if_neg hml];simp only[Option.map_some,addr_add];have hrr:=(hr.drop (l*z)).take ((h-l)*z);have e2:=tok (some ⟨b,base+l*z,none⟩);refine Rep.sl_mk (by omega) ?_ hrr (fun j hj=>?_) e2
   ·simp;omega
   ·have hj2:j<(h-l)*z∧j<cs.length-l*z:=by simpa[Nat.lt_min] using hj
    rw[Nat.add_assoc,hc _ (by omega)];simp[hj2.1]
theorem run_slice {t:TypeId}{x r:AV}{lo hi mx:Option AV}{cx:Value}{cl ch cm:Option Value}(h:aslice P t x lo hi mx=some r)(hx:Rep L N T w x cx)
  (rl:∀v cv,lo=some v→cl=some cv→Rep L N T w v cv) (rh:∀v cv,hi=some v→ch=some cv→Rep L N T w v cv) (rm:∀v cv,mx=some v→cm=some cv→Rep L N T w v cv)
  (sl:lo.isSome=cl.isSome) (sh:hi.isSome=ch.isSome) (sm:mx.isSome=cm.isSome):∃cv,(Instr.sliceAt t cx cl ch cm).run P w=.ok cv w∧Rep L N T w r cv:=by
 unfold aslice at h
 split at h
 ·rename_i s hu
  cases cm with|some _=>simp at sm|none=>
  split at h
  ·rename_i l hh e1 e2
   split at h
   ·rename_i hb
    cases h
    have hbd:=run_bounds (P:=P) (isS:=false) (cap:=s.length) e1 e2 hb.1 hb.2 (Nat.le_refl _) rl rh sl sh;rw[hx.str_inv];refine⟨_,?_,.str _⟩;simp only[Instr.sliceAt,Sem.run_bind,run_underlying hu,Result.andThen_ok,Instr.slice];have hsz:(⟨s.toArray⟩:ByteArray).size=s.length:=by simp[ByteArray.size]
    simp only[hsz,hbd,Sem.run_bind,Result.andThen_ok,Option.isSome_none,Bool.false_eq_true,if_false,ByteArray.extract_mk];rfl
   ·cases h
  ·cases h
 ·rename_i e n cs tg hu
  cases cm with|some _=>simp at sm|none=>
  split at h
  ·rename_i l hh e1 e2
   split at h
   ·rename_i hb
    split at h
    ·rename_i he;obtain⟨d,hd⟩:=Option.isSome_iff_exists.1 he
     cases h
     obtain⟨a,cap,rfl,hcap,_,_⟩:=hx.sl_inv;have hbd:=run_bounds (P:=P) (isS:=true) (cap:=cap) e1 e2 hb.1 hb.2.1 hcap rl rh sl sh;refine⟨_,?_,hx.sub l hh cap (P.cellsOf e) hb.1 hb.2.1 (by omega) hb.2.2 .none (.inl rfl)⟩;simp only[Instr.sliceAt,Sem.run_bind,run_underlying hu,Result.andThen_ok,Instr.slice,hbd,run_sizeOf' hd];rfl
    ·cases h
   ·cases h
  ·cases h
 ·rename_i e n cs tg m hu
  cases cm with|none=>simp at sm|some cm=>
  split at h
  ·rename_i l hh mm e1 e2 e3
   split at h
   ·rename_i hb
    split at h
    ·rename_i he;obtain⟨d,hd⟩:=Option.isSome_iff_exists.1 he
     cases h
     obtain⟨a,cap,rfl,hcap,_,_⟩:=hx.sl_inv;have hbd:=run_bounds3 (P:=P) (cap:=cap) e1 e2 e3 hb.1 hb.2.1 (by omega) hb.2.2.2.1 rl rh (rm _ _ rfl rfl) sl sh;refine⟨_,?_,hx.sub l hh mm (P.cellsOf e) hb.1 (by omega) hb.2.1 hb.2.2.2.2 (if hh=mm then .full else .none) ?_⟩
     ·simp only[Instr.sliceAt,Sem.run_bind,run_underlying hu,Result.andThen_ok,Instr.slice,hbd,run_sizeOf' hd];rfl
     ·split
      ·exact .inr ⟨rfl,‹_›⟩
      ·exact .inl rfl
    ·cases h
   ·cases h
  ·cases h
 ·rename_i e i o n hu
  cases cm with|some _=>simp at sm|none=>
  split at h
  ·rename_i l hh e1 e2
   split at h
   ·rename_i hb
    split at h
    ·rename_i he;obtain⟨d,hd⟩:=Option.isSome_iff_exists.1 he
     cases h
     obtain⟨cap,rfl,hcap,hlt⟩:=hx.msl_inv;have hbd:=run_bounds (P:=P) (isS:=true) (cap:=cap) e1 e2 hb.1 hb.2.1 hcap rl rh sl sh;refine⟨.slice (some ⟨L.phi i,o+l*P.cellsOf e,none⟩) (hh-l) (cap-l),?_,.msl _ _ _ _ hlt (by omega)⟩;simp only[Instr.sliceAt,Sem.run_bind,run_underlying hu,Result.andThen_ok,Instr.slice,hbd,run_sizeOf' hd]
     by_cases hcl:cap=l
     ·have hl0:l=0:=by omega
      subst hl0;subst hcl;simp
     ·rw[if_neg hcl];simp[addr_add]
    ·cases h
   ·split at h
    ·rename_i hb;obtain⟨q1,q2,he⟩:=hb;subst q2;subst q1;obtain⟨d,hd⟩:=Option.isSome_iff_exists.1 he
     cases h
     obtain⟨cap,rfl,hcap,hlt⟩:=hx.msl_inv;have hbd:=run_bounds (P:=P) (isS:=true) (cap:=cap) e1 e2 (Nat.le_refl _) (Nat.le_refl _) hcap rl rh sl sh;refine⟨.slice (if cap=l then some ⟨L.phi i,o,none⟩ else some ⟨L.phi i,o+l*P.cellsOf e,none⟩) 0 (cap-l),?_,.sl0 _ _ _ trivial⟩;simp only[Instr.sliceAt,Sem.run_bind,run_underlying hu,Result.andThen_ok,Instr.slice,hbd,run_sizeOf' hd]
     by_cases hcl:cap=l
     ·rw[if_pos hcl,if_pos hcl];simp
     ·rw[if_neg hcl,if_neg hcl];simp[addr_add]
    ·cases h
  ·cases h
 ·rename_i n e i o hu
  cases cm with|some _=>simp at sm|none=>
  split at h
  ·rename_i l hh e1 e2
   split at h
   ·rename_i hb
    split at h
    ·rename_i he;obtain⟨d,hd⟩:=Option.isSome_iff_exists.1 he
     cases h
     obtain⟨rfl,hlt⟩:=hx.ptr_inv;have hbd:=run_bounds (P:=P) (isS:=false) (cap:=n) e1 e2 hb.1 hb.2.1 (Nat.le_refl _) rl rh sl sh;refine⟨.slice (some ⟨L.phi i,o+l*P.cellsOf e,none⟩) (hh-l) (n-l),?_,.msl _ _ _ _ hlt (by omega)⟩;simp only[Instr.sliceAt,Sem.run_bind,run_underlying hu,Result.andThen_ok,Instr.sureAddr,hbd,run_sizeOf' hd,Sem.run_pure]
     by_cases hcl:n=l
     ·have hl0:l=0:=by omega
      subst hl0;subst hcl;simp
     ·rw[if_neg hcl];simp[addr_add]
    ·cases h
   ·cases h
  ·cases h
 ·cases h
end
def encB (s:List UInt8):List AV:=s.map fun b=>.int .u8 (b.toNat:Int)
def toU8:AV→Option UInt8
 |.int .u8 n=>some (UInt8.ofNat n.toNat)
 |_=>none
def bytesOf (cs:List AV):Option (List UInt8):=cs.mapM toU8
theorem bytesOf_encB (s:List UInt8):bytesOf (encB s)=some s:=by
 induction s with
 |nil=>rfl
 |cons b r ih=>
  unfold bytesOf encB at ih ⊢;simp only[List.map_cons,List.mapM_cons,ih];simp[toU8]
def asrc (H:List Blk)(z:Nat)(x:AV):Option (Nat×List AV):=
 match x with
 |.sl m cs _=>if cs.length=m*z then some (m,cs) else none
 |.msl i o m=>match H[i]? with
  |some (.cells vs)=>if o+m*z≤vs.length then some (m,(vs.drop o).take (m*z)) else none
  |_=>none
 |.str s=>if z=1 then some (s.length,encB s) else none
 |_=>none
section
variable {P : Program} {L : Lay} {H : List Blk} {T : Toks} {w : World}
theorem encB_rep (s:List UInt8):RepC L H.length T w (encB s) (s.map fun b=>Value.int .u8 (b.toNat:Int)):=by
 refine⟨by simp[encB],fun j hj=>by simp[Value.oneCell'],fun j hj hj'=>?_⟩;simp only[encB,List.getElem_map];exact .int _ _
theorem run_src {z:Nat}{x:AV}{c:Value}{m:Nat}{ys:List AV}(hc:Con L H T w)(hx:Rep L H.length T w x c)(h:asrc H z x=some (m,ys)) :
  ∃cv:List Value,ys.length=m*z∧RepC L H.length T w ys cv∧(Builtin.lenOf c).run P w=.ok m w∧(Builtin.firstCells z m c).run P w=.ok cv.toArray w:=by
 unfold asrc at h
 split at h
 ·rename_i m' cs tg
  split at h
  ·rename_i hl
   cases h
   obtain⟨a,cap,rfl,hcap,_,⟨rfl,rfl⟩|⟨b,base,cv,rfl,hm,hr,hcell⟩⟩:=hx.sl_inv
   ·refine⟨[],hl,RepC.nil,rfl,?_⟩
    cases a with
    |none=>rfl
    |some a=>simp[Builtin.firstCells,loadCells,loadCellsFrom]
   ·have hcv:=hr.1;refine⟨cv,hl,hr,rfl,?_⟩;have:=run_loadCells_list (P:=P) w ⟨b,base,none⟩ cv (fun j v hj=>by
     have hlt:=(List.getElem?_eq_some_iff.1 hj).1;rw[addr_add,hcell j (by omega)];exact hj)
    simp only[Builtin.firstCells];rw[←hl,←hcv];exact this
  ·cases h
 ·rename_i i o m'
  split at h
  ·rename_i vs hi
   split at h
   ·rename_i hl
    cases h
    obtain⟨cap,rfl,hcap,hlt⟩:=hx.msl_inv;obtain⟨c,hr,hcell⟩:=(hc.box i _ hi).at;refine⟨(c.toList.drop o).take (m*z),?_,(hr.drop o).take _,rfl,?_⟩
    ·simp;omega
    ·have hlen:((c.toList.drop o).take (m*z)).length=m*z:=by have:=hr.1;simp at this ⊢;omega
     have:=run_loadCells_list (P:=P) w ⟨L.phi i,o,none⟩ ((c.toList.drop o).take (m*z)) (fun j v hj=>by
      have hlt:=(List.getElem?_eq_some_iff.1 hj).1;have hlt':j<m*z:=by omega
      rw[List.getElem?_take,if_pos hlt',List.getElem?_drop] at hj;rw[addr_add,hcell];simpa using hj)
     simp only[Builtin.firstCells];rw[hlen] at this;exact this
   ·cases h
  ·cases h
 ·rename_i s
  split at h
  ·rename_i hz
   cases h
   rw[hx.str_inv];refine⟨s.map fun b=>Value.int .u8 (b.toNat:Int),by simp[encB,hz],encB_rep s,by simp[Builtin.lenOf,ByteArray.size],?_⟩;have e:(⟨s.toArray⟩:ByteArray).extract 0 s.length=⟨s.toArray⟩:=by rw[ByteArray.extract_mk];simp
   simp[Builtin.firstCells,e]
  ·cases h
 ·cases h
theorem bytesOf_rep {N:Nat}:∀{cs:List AV} {cv:List Value} {s:List UInt8},RepC L N T w cs cv→bytesOf cs=some s→∃ns:List Int,cv=ns.map (Value.int .u8)∧s=ns.map fun n=>UInt8.ofNat n.toNat:=by
 intro cs
 induction cs with
 |nil=>intro cv s hr h;cases h;exact⟨[],List.eq_nil_of_length_eq_zero hr.1,rfl⟩
 |cons x r ih=>
  intro cv s hr h
  match cv,hr with
  |c::cr,hr=>
   have h0:Rep L N T w x c:=hr.2.2 0 (by simp) (by simp);have hrr:RepC L N T w r cr:=by simpa using hr.drop 1
   unfold bytesOf at h;rw[List.mapM_cons] at h
   cases hx:toU8 x with
   |none=>rw[hx] at h;cases h
   |some b=>
    cases hy:r.mapM toU8 with
    |none=>rw[hx,hy] at h;cases h
    |some bs=>
     rw[hx,hy] at h
     cases h
     obtain⟨ns,e1,e2⟩:=ih hrr hy;unfold toU8 at hx
     split at hx
     ·rename_i nn hh
      cases hx
      rw[h0.int_inv];exact⟨nn::ns,by simp[e1],by simp[e2]⟩
     ·cases hx
  |[],hr=>simp[RepC] at hr
def isSl:AV→Bool
 |.sl _ _ _|.msl _ _ _=>true
 |_=>false
def aconv (P:Program)(H:List Blk)(src dst:TypeId)(x:AV):Option AV:=
 match P.underlying src,P.underlying dst,x with
 |some _,some (.int k),.int _ n=>some (.int k (k.wrap n))
 |some _,some .string,.int _ n=>some (.str (Utf8.encode n).data.toList)
 |some _,some .string,.str s=>some (.str s)
 |some (.slice e),some .string,x=>
  match P.underlying e with
  |some (.int .u8)=>if isSl x then (match asrc H 1 x with
   |some (_,cs)=>(bytesOf cs).map .str
   |none=>none) else none
  |_=>none
 |_,_,_=>none
theorem run_conv {src dst:TypeId}{x r:AV}{c:Value}(hc:Con L H T w)(h:aconv P H src dst x=some r)(hx:Rep L H.length T w x c):∃cv,(convert src dst c).run P w=.ok cv w∧Rep L H.length T w r cv:=by
 unfold aconv at h
 split at h
 ·rename_i d k k' n h1 h2
  cases h
  rw[hx.int_inv];exact⟨_,by simp only[convert,Sem.run_bind,run_underlying h1,run_underlying h2,Result.andThen_ok];cases d<;>rfl,.int _ _⟩
 ·rename_i d k' n h1 h2
  cases h
  rw[hx.int_inv];exact⟨.string ⟨(Utf8.encode n).data.toList.toArray⟩,by simp only[convert,Sem.run_bind,run_underlying h1,run_underlying h2,Result.andThen_ok];cases d<;>rfl,.str _⟩
 ·rename_i d s h1 h2
  cases h
  rw[hx.str_inv];exact⟨_,by simp only[convert,Sem.run_bind,run_underlying h1,run_underlying h2,Result.andThen_ok];cases d<;>rfl,.str _⟩
 ·rename_i e _ _ h1 h2 _ _
  split at h
  ·rename_i he
   split at h
   ·rename_i hsl0
    split at h
    ·rename_i m cs hs
     cases hb:bytesOf cs with
     |none=>rw[hb] at h;cases h
     |some s=>
      rw[hb] at h
      cases h
      obtain⟨cv,hl,hr,hlen,hfirst⟩:=run_src (P:=P) hc hx hs;obtain⟨ns,e1,e2⟩:=bytesOf_rep hr hb;have hsl:∃a n cap,c=.slice a n cap:=by
       cases hx<;>first|exact⟨_,_,_,rfl⟩|(simp[isSl] at hsl0;done)
      obtain⟨a,n,cap,rfl⟩:=hsl;have hn:n=m:=by
       simp[Builtin.lenOf] at hlen;exact hlen
      subst hn;refine⟨.string ⟨s.toArray⟩,?_,.str s⟩;rw[run_convert_bytes_string w src dst _ a n cap h1 he h2]
      cases a with
      |none=>
       simp[Builtin.firstCells] at hfirst;subst hfirst
       cases ns with
       |nil=>subst e2;rfl
       |cons _ _=>cases e1
      |some a=>
       simp only[Builtin.firstCells,Nat.mul_one] at hfirst;rw[e1] at hfirst;rw[run_bytesToString w a n cap ns hfirst,foldl_push_bytes];subst e2;simp
    ·cases h
   ·cases h
  ·cases h
 ·cases h
theorem run_bytes {src dst e:TypeId}{s:List UInt8}{c:Value}(hc:Con L H T w)(h1:P.underlying src=some .string)(h2:P.underlying dst=some (.slice e))(h3:P.underlying e=some (.int .u8))(hx:Rep L H.length T w (.str s) c) :
  ∃cv w' L',(convert src dst c).run P w=.ok cv w'∧Con L' H T w'∧Rep L' H.length T w' (.sl s.length (encB s) .none) cv∧Ev H.length T.length L H.length T w L' H.length T w':=by
 rw[hx.str_inv];have hsz:(⟨s.toArray⟩:ByteArray).size=s.length:=by simp[ByteArray.size]
 obtain⟨cap,hcap,hle⟩:∃cap,(Question.appendCap s.length 0 e).cut (w.tape w.drawn (.appendCap s.length 0 e))=cap∧s.length≤cap:=⟨_,rfl,by simp[Question.cut]⟩
 let cells:Array Value:=(s.map fun b=>Value.int .u8 (b.toNat:Int)).toArray++Array.replicate (cap-s.length) (.int .u8 0)
 have hcs:cells.size=cap:=by simp[cells];omega
 have hd:Con L H T w.drew:=hc.drew rfl;have ed:Ev H.length T.length L H.length T w L H.length T w.drew:=Ev.drew rfl rfl rfl rfl (Nat.le_succ _);obtain⟨k1,k2,k3⟩:=hd.newRow cells e (cap,cap+1) (vs:=encB s) (encB s).length (Nat.le_refl _) (by
  have:(cells.toList.take (encB s).length)=s.map fun b=>Value.int .u8 (b.toNat:Int):=by
   simp[cells,encB]
  rw[this];exact encB_rep s) s.length cap hle .none (.inl rfl)
 refine⟨_,_,_,?_,k1,k3,ed.trans k2⟩;simp only[convert,Sem.run_bind,run_underlying h1,run_underlying h2,run_underlying h3,Result.andThen_ok,Conv.stringToBytes,hsz,run_choose,Question.forced,Bool.false_eq_true,if_false,hcap];have hmap:(⟨s.toArray⟩:ByteArray).data.map (fun b=>Value.int .u8 (b.toNat:Int))=(s.map fun b=>Value.int .u8 (b.toNat:Int)).toArray:=by simp
 simp only[hmap,newRow,Sem.run_bind,run_newObj,Result.andThen_ok,Sem.run_pure,markStringish,run_shape,run_freeze];have hsh:World.shape? { w.drew with heap:=w.heap.push (.cells cells e) } w.heap.size=some (e,cap):=by
  simp[World.shape?,hcs]
 show (Result.andThen _ _)=_;simp only[World.drew] at hsh ⊢;rw[hsh];simp only[run_freeze,Result.andThen_ok,Sem.run_pure]
 congr 1
 simp only[World.freeze,World.alloc,Nat.one_ne_zero,if_false]
 congr 1
 apply Array.ext_getElem?;intro i;rw[Array.getElem?_modify,Array.getElem?_push,Array.getElem?_push]
 by_cases hi:w.heap.size=i
 ·subst hi;simp[cells]
 ·rw[if_neg hi,if_neg (fun e=>hi e.symm),if_neg (fun e=>hi e.symm)]
end
section
variable {P : Program} {L : Lay} {H : List Blk} {T : Toks} {w : World}
theorem RepC.setMany {N:Nat}:∀{xs:List AV} {xc:List Value} {vs:List AV} {c:Array Value} (o:Nat),RepC L N T w vs c.toList→RepC L N T w xs xc→o+xs.length≤vs.length→
  RepC L N T w (setMany vs o xs) ((xc.zipIdx.foldl (fun cs (x:Value×Nat)=>cs.setIfInBounds (o+x.2) x.1) c)).toList:=by
 intro xs;have key:∀(xs:List AV)(xc:List Value)(vs:List AV)(c:Array Value)(o k:Nat),RepC L N T w vs c.toList→RepC L N T w xs xc→o+k+xs.length≤vs.length→
   RepC L N T w (Am.setMany vs (o+k) xs) (((xc.zipIdx k).foldl (fun cs (x:Value×Nat)=>cs.setIfInBounds (o+x.2) x.1) c)).toList:=by
  intro xs
  induction xs with
  |nil=>
   intro xc vs c o k h1 h2 h3;have:xc=[]:=List.eq_nil_of_length_eq_zero h2.1;subst this;exact h1
  |cons x r ih=>
   intro xc vs c o k h1 h2 h3
   match xc,h2 with
   |y::yr,h2=>
    have h0:Rep L N T w x y:=h2.2.2 0 (by simp) (by simp);have h1':y.oneCell'=true:=h2.2.1 0 (by simp);have hrr:RepC L N T w r yr:=by simpa using h2.drop 1
    simp only[List.zipIdx_cons,List.foldl_cons,Am.setMany];have:=ih yr (vs.set (o+k) x) (c.setIfInBounds (o+k) y) o (k+1) (by rw[Array.toList_setIfInBounds];exact h1.set _ h0 h1') hrr (by simp at h3 ⊢;omega);rw[show o+k+1=o+(k+1) by omega];exact this
   |[],h2=>simp[RepC] at h2
 intro xc vs c o h1 h2 h3;exact key xs xc vs c o 0 h1 h2 h3
def akeep:List TypeId:=[33]
def untagK (t:TypeId)(v:AV):AV:=if akeep.contains t=true then v else untag v
theorem Rep.untagK {N:Nat}{v:AV}{c:Value}(t:TypeId)(h:Rep L N T w v c):Rep L N T w (Am.untagK t v) c:=by
 unfold Am.untagK
 split
 ·exact h
 ·exact h.untag
def afill (u:AV→AV)(place:Nat→Option (Nat×Nat))(cells:List AV):List (Nat×AV)→Option (List AV)
 |[]=>some cells
 |(i,v)::rest=>
  match place i,axs (u v) with
  |some (off,size),some xs=>if xs.length=size∧off+size≤cells.length then afill u place (setMany cells off xs) rest else none
  |_,_=>none
theorem run_fill {N:Nat}{u:AV→AV}(hu:∀v c,Rep L N T w v c→Rep L N T w (u v) c)(place:Nat→Option (Nat×Nat)):∀(parts:List (Nat×AV)) (pc:List (Nat×Value)) (cells:List AV) (c:Array Value) (r:List AV),RepC L N T w cells c.toList→pc.length=parts.length→
  (∀(j:Nat)(h:j<parts.length)(h':j<pc.length),(parts[j]'h).1=(pc[j]'h').1∧Rep L N T w (parts[j]'h).2 (pc[j]'h').2)→afill u place cells parts=some r→
  ∃c',Instr.fill place c pc=some c'∧RepC L N T w r c'.toList:=by
 intro parts
 induction parts with
 |nil=>
  intro pc cells c r hr hl hp h;have:pc=[]:=List.eq_nil_of_length_eq_zero hl;subst this
  cases h
  exact⟨c,rfl,hr⟩
 |cons x rest ih=>
  intro pc cells c r hr hl hp h
  match pc,hl,hp with
  |y::yr,hl,hp=>
   obtain⟨i,v⟩:=x;obtain⟨i',u⟩:=y;obtain⟨e,hv⟩:=hp 0 (by simp) (by simp);simp only[List.getElem_cons_zero] at e hv;subst e;simp only[afill] at h
   split at h
   ·rename_i off size xs e1 e2
    split at h
    ·rename_i hb;have hx:=axs_rep e2 (hu _ _ hv);have hlen:u.cells.size=size:=by have:=hx.1;simp at this;omega
     obtain⟨c',h1,h2⟩:=ih yr (Am.setMany cells off xs) (u.cells.toList.zipIdx.foldl (fun cs (x:Value×Nat)=>cs.setIfInBounds (off+x.2) x.1) c) r (hr.setMany off hx (by omega)) (by simpa using hl)
      (fun j hj hj'=>by have:=hp (j+1) (by simpa using hj) (by simpa using hj');simpa using this) h
     refine⟨c',?_,h2⟩;simp only[Instr.fill,e1];have hsz:c.size=cells.length:=by have:=hr.1;simpa using this
     rw[if_neg (by simp;omega)];rw[←h1]
     congr 1
     rw[←Array.foldl_toList];simp
    ·cases h
   ·cases h
  |[],hl,hp=>simp at hl
def azero (P:Program)(t:TypeId):Option (List AV):=
 match P.info? t with
 |some i=>match i.zero with
  |some z=>if z.cells.all (·.oneCell')&&z.cells.size==i.size then some (z.cells.toList.map ofC1) else none
  |none=>none
 |none=>none
theorem azero_rep {N:Nat}{t:TypeId}{zs:List AV}(h:azero P t=some zs):∃i z,P.info? t=some i∧i.zero=some z∧RepC L N T w zs z.cells.toList∧z.cells.size=P.cellsOf t:=by
 unfold azero at h
 split at h
 ·rename_i i hi
  split at h
  ·rename_i z hz
   split at h
   ·rename_i ha
    cases h
    simp only[Bool.and_eq_true,beq_iff_eq] at ha;have ha1:=ha.1;rw[Array.all_eq_true] at ha1;refine⟨i,z,hi,hz,⟨by simp,fun j hj=>by simpa using ha1 j (by simpa using hj),fun j hj hj'=>?_⟩,by rw[ha.2];simp[Program.cellsOf,hi]⟩;simp only[List.getElem_map];exact .ofC1 _
   ·cases h
  ·cases h
 ·cases h
theorem run_zero {t:TypeId}{i:TypeInfo}{z:Value}(hi:P.info? t=some i)(hz:i.zero=some z)(w:World):(zeroValue t).run P w=.ok z w:=by
 simp[zeroValue,run_typeInfo w hi,hz]
def abuild (P:Program)(t:TypeId)(parts:List (Nat×AV)):Option AV:=
 match azero P t,P.underlying t with
 |some zs,some (.struct fs)=>if fs.toList.all (fun f=>(P.underlying f.type).isSome) then (afill (untagK t) (fun i=>(fs[i]?).map fun f=>(f.offset,P.cellsOf f.type)) zs parts).map .agg else none
 |some zs,some (.array _ e)=>if (P.underlying e).isSome then (afill untag (fun i=>some (i*P.cellsOf e,P.cellsOf e)) zs parts).map .agg else none
 |_,_=>none
theorem run_places (fs:Array Field)(hf:∀f∈fs,(P.underlying f.type).isSome=true)(w:World) :
  (fs.mapM fun f=>do pure (f.offset,←sizeOf f.type):Sem (Array (Nat×Nat))).run P w=.ok (fs.map fun f=>(f.offset,P.cellsOf f.type)) w:=by
 rw[Array.mapM_eq_mapM_toList];have key:∀l:List Field,(∀f∈l,(P.underlying f.type).isSome=true)→(l.mapM fun f=>do pure (f.offset,←sizeOf f.type):Sem (List (Nat×Nat))).run P w=.ok (l.map fun f=>(f.offset,P.cellsOf f.type)) w:=by
  intro l
  induction l with
  |nil=>intro _;simp
  |cons f r ih=>
   intro h;obtain⟨d,hd⟩:=Option.isSome_iff_exists.1 (h f (by simp));have:=ih (fun g hg=>h g (by simp[hg]));simp only[List.mapM_cons,Sem.run_bind,run_sizeOf' hd,Result.andThen_ok,Sem.run_pure,this,List.map_cons]
 have:=key fs.toList (fun f hfm=>hf f (by simpa using hfm));simp only[Sem.run_map,this,Result.andThen_ok]
 congr 1
 apply Array.ext';simp
theorem run_build {t:TypeId}{parts:List (Nat×AV)}{pc:Array (Nat×Value)}{r:AV}(h:abuild P t parts=some r)(hl:pc.size=parts.length)
  (hp:∀(j:Nat)(h:j<parts.length)(h':j<pc.toList.length),(parts[j]'h).1=(pc.toList[j]'h').1∧Rep L H.length T w (parts[j]'h).2 (pc.toList[j]'h').2) :
  ∃cv,(Instr.build t pc).run P w=.ok cv w∧Rep L H.length T w r cv:=by
 unfold abuild at h
 split at h
 ·rename_i zs fs hz hu
  split at h
  ·rename_i hf;obtain⟨i,z,hi,hzz,hr,_⟩:=azero_rep (L:=L) (N:=H.length) (T:=T) (w:=w) hz
   cases hfl:afill (untagK t) (fun i=>(fs[i]?).map fun f=>(f.offset,P.cellsOf f.type)) zs parts with
   |none=>rw[hfl] at h;cases h
   |some cs=>
    rw[hfl] at h
    cases h
    obtain⟨c',h1,h2⟩:=run_fill (fun _ _ h=>h.untagK t) _ parts pc.toList zs z.cells cs hr (by simpa using hl) hp hfl;have hpl:=run_places (P:=P) fs (fun f hm=>List.all_eq_true.1 hf f (Array.mem_def.1 hm)) w;refine⟨.agg c',?_,by simpa using h2.agg⟩;have e:(fun(x:Nat)=>(fs.map fun(f:Field)=>(f.offset,P.cellsOf f.type))[x]?)=fun(i:Nat)=>(fs[i]?).map fun(f:Field)=>(f.offset,P.cellsOf f.type):=by
     funext x;simp
    simp only[Instr.build,Sem.run_bind,run_zero hi hzz,Result.andThen_ok,run_underlying hu,hpl,e,h1];rfl
  ·cases h
 ·rename_i zs n e hz hu
  split at h
  ·rename_i he;obtain⟨d,hd⟩:=Option.isSome_iff_exists.1 he;obtain⟨i,z,hi,hzz,hr,_⟩:=azero_rep (L:=L) (N:=H.length) (T:=T) (w:=w) hz
   cases hfl:afill untag (fun i=>some (i*P.cellsOf e,P.cellsOf e)) zs parts with
   |none=>rw[hfl] at h;cases h
   |some cs=>
    rw[hfl] at h
    cases h
    obtain⟨c',h1,h2⟩:=run_fill (fun _ _ h=>h.untag) _ parts pc.toList zs z.cells cs hr (by simpa using hl) hp hfl;refine⟨.agg c',?_,by simpa using h2.agg⟩;simp only[Instr.build,Sem.run_bind,run_zero hi hzz,Result.andThen_ok,run_underlying hu,run_sizeOf' hd,h1];rfl
  ·cases h
 ·cases h
def amade (zs:List AV)(n:Nat):List AV:=(List.range n).map fun i=>zs.getD (i % zs.length) .top
theorem amade_rep {N n:Nat}{zs:List AV}{z:Array Value}(hr:RepC L N T w zs z.toList)(h0:0<zs.length∨n=0):RepC L N T w (amade zs n) (madeCells z n).toList:=by
 have hz:z.size=zs.length:=by have:=hr.1;simpa using this
 refine⟨by simp[amade,madeCells],fun j hj=>?_,fun j hj hj'=>?_⟩
 ·have hj2:j<n:=by simpa[madeCells] using hj
  have hlt:j % zs.length<z.size:=by rw[hz];exact Nat.mod_lt _ (by omega)
  have:=hr.2.1 (j % zs.length) (by simpa using hlt);simp only[madeCells,Array.toList_map,Array.toList_range,List.getElem_map,List.getElem_range];rw[getElem!_pos z _ (show j % z.size<z.size from Nat.mod_lt _ (by omega))];have e':j % z.size=j % zs.length:=by rw[hz]
  simp only[e'];simpa using this
 ·have hj2:j<n:=by simpa[madeCells] using hj'
  have hlt:j % zs.length<z.size:=by rw[hz];exact Nat.mod_lt _ (by omega)
  have hlt2:j % zs.length<zs.length:=by rw[hz] at hlt;exact hlt
  have:=hr.2.2 (j % zs.length) hlt2 (by simpa using hlt);simp only[madeCells,amade,Array.toList_map,Array.toList_range,List.getElem_map,List.getElem_range];rw[getElem!_pos z _ (show j % z.size<z.size from Nat.mod_lt _ (by omega))];have e':j % z.size=j % zs.length:=by rw[hz]
  simp only[e'];have e:zs.getD (j % zs.length) .top=zs[j % zs.length]'hlt2:=by
   rw[List.getD_eq_getElem?_getD,List.getElem?_eq_getElem hlt2];rfl
  rw[e];simpa using this
theorem amade_one (v:AV)(n:Nat):amade [v] n=List.replicate n v:=by
 unfold amade;apply List.ext_getElem
 ·simp
 ·intro i h1 h2;simp[Nat.mod_one]
def abuildSlice (P:Program)(t:TypeId)(len:Nat)(parts:List (Nat×AV)):Option AV:=
 match P.underlying t with
 |some (.slice e)=>match azero P e with
  |some zs=>if len*P.cellsOf e≤16777216∧0<P.cellsOf e∧zs.length=P.cellsOf e then (afill untag (fun i=>some (i*P.cellsOf e,P.cellsOf e)) (amade zs (len*P.cellsOf e)) parts).map fun cs=>.sl len cs .full else none
  |none=>none
 |_=>none
theorem run_buildSlice {t:TypeId}{len:Nat}{parts:List (Nat×AV)}{pc:Array (Nat×Value)}{r:AV}(hc:Con L H T w)(h:abuildSlice P t len parts=some r)(hl:pc.size=parts.length)
  (hp:∀(j:Nat)(h:j<parts.length)(h':j<pc.toList.length),(parts[j]'h).1=(pc.toList[j]'h').1∧Rep L H.length T w (parts[j]'h).2 (pc.toList[j]'h').2) :
  ∃cv w' L',(Instr.buildSlice t len pc).run P w=.ok cv w'∧Con L' H T w'∧Rep L' H.length T w' r cv∧Ev H.length T.length L H.length T w L' H.length T w':=by
 unfold abuildSlice at h
 split at h
 ·rename_i e hu
  split at h
  ·rename_i zs hz
   split at h
   ·rename_i hb;obtain⟨i,z,hi,hzz,hr,hzs⟩:=azero_rep (L:=L) (N:=H.length) (T:=T) (w:=w) hz
    cases hfl:afill untag (fun i=>some (i*P.cellsOf e,P.cellsOf e)) (amade zs (len*P.cellsOf e)) parts with
    |none=>rw[hfl] at h;cases h
    |some cs=>
     rw[hfl] at h
     cases h
     obtain⟨c',h1,h2⟩:=run_fill (fun _ _ h=>h.untag) _ parts pc.toList _ (madeCells z.cells (len*P.cellsOf e)) cs (amade_rep hr (.inl (by omega))) (by simpa using hl) hp hfl;have hlen:c'.toList.length=cs.length:=h2.1;obtain⟨k1,k2,k3⟩:=hc.newRow c' e (0,0) (vs:=cs) cs.length (Nat.le_refl _) (by rw[List.take_of_length_le (by omega)];exact h2) len len (Nat.le_refl _) .full (.inr ⟨rfl,rfl⟩);refine⟨_,_,_,?_,k1,k3,k2⟩;have hsz:=run_sizeOf w hi;have n1:¬len*P.cellsOf e>2 ^ 24:=by omega
     by_cases h0:len*P.cellsOf e=0
     ·have hm:madeCells z.cells (len*P.cellsOf e)=(Array.range 0).map ((#[]:Array Value)[· % (#[]:Array Value).size]!):=by rw[h0];simp[madeCells]
      rw[hm] at h1;have n2:¬0>2 ^ 24:=by omega
      simp only[Instr.buildSlice,Sem.run_bind,run_underlying hu,Result.andThen_ok,hsz,h0,n2,if_false,if_true,pure_bind,h1,Sem.run_pure];rfl
     ·simp only[Instr.buildSlice,Sem.run_bind,run_underlying hu,Result.andThen_ok,hsz,h0,n1,if_false,pure_bind,bind_pure_comp,Sem.run_map,run_zero hi hzz];have h1':=h1;unfold madeCells at h1';simp only[h1'];rfl
   ·cases h
  ·cases h
 ·cases h
def abuildBox (P:Program)(t:TypeId)(len:Nat)(parts:List (Nat×AV)):Option (List AV):=
 match P.underlying t with
 |some (.slice e)=>match azero P e with
  |some zs=>if len*P.cellsOf e≤16777216∧0<P.cellsOf e∧zs.length=P.cellsOf e then afill untag (fun i=>some (i*P.cellsOf e,P.cellsOf e)) (amade zs (len*P.cellsOf e)) parts else none
  |none=>none
 |_=>none
theorem run_buildBox {t:TypeId}{len:Nat}{parts:List (Nat×AV)}{pc:Array (Nat×Value)}{cs:List AV}(hc:Con L H T w)(h:abuildBox P t len parts=some cs)(hl:pc.size=parts.length)
  (hp:∀(j:Nat)(h:j<parts.length)(h':j<pc.toList.length),(parts[j]'h).1=(pc.toList[j]'h').1∧Rep L H.length T w (parts[j]'h).2 (pc.toList[j]'h').2) :
  ∃cv w' L',(Instr.buildSlice t len pc).run P w=.ok cv w'∧Con L' (H++[.cells cs]) T w'∧Rep L' (H++[Blk.cells cs]).length T w' (.msl H.length 0 len) cv∧Ev H.length T.length L H.length T w L' (H++[Blk.cells cs]).length T w':=by
 unfold abuildBox at h
 split at h
 ·rename_i e hu
  split at h
  ·rename_i zs hz
   split at h
   ·rename_i hb;obtain⟨i,z,hi,hzz,hr,hzs⟩:=azero_rep (L:=L) (N:=H.length) (T:=T) (w:=w) hz;obtain⟨c',h1,h2⟩:=run_fill (fun _ _ h=>h.untag) _ parts pc.toList _ (madeCells z.cells (len*P.cellsOf e)) cs (amade_rep hr (.inl (by omega))) (by simpa using hl) hp h;obtain⟨L',k1,k2,k3⟩:=hc.newBox c' e h2;refine⟨.slice (some ⟨w.heap.size,0,none⟩) len len,_,L',?_,k1,?_,k2⟩
    ·have hsz:=run_sizeOf w hi;have n1:¬len*P.cellsOf e>2 ^ 24:=by omega
     by_cases h0:len*P.cellsOf e=0
     ·have hm:madeCells z.cells (len*P.cellsOf e)=(Array.range 0).map ((#[]:Array Value)[· % (#[]:Array Value).size]!):=by rw[h0];simp[madeCells]
      rw[hm] at h1;have n2:¬0>2 ^ 24:=by omega
      simp only[Instr.buildSlice,Sem.run_bind,run_underlying hu,Result.andThen_ok,hsz,h0,n2,if_false,if_true,pure_bind,h1,Sem.run_pure];rfl
     ·simp only[Instr.buildSlice,Sem.run_bind,run_underlying hu,Result.andThen_ok,hsz,h0,n1,if_false,pure_bind,bind_pure_comp,Sem.run_map,run_zero hi hzz];have h1':=h1;unfold madeCells at h1';simp only[h1'];rfl
    ·rw[←k3];exact .msl _ _ _ _ (by simp) (Nat.le_refl _)
   ·cases h
  ·cases h
 ·cases h
end
section
variable {P : Program} {L : Lay} {H : List Blk} {T : Toks} {w : World}
theorem run_makeBox {t e:TypeId}{zs:List AV}(hc:Con L H T w)(hu:P.underlying t=some (.slice e))(hz:azero P e=some zs)(hzl:0<zs.length)(kl kc:IntKind)(n:Nat)(hb:n*P.bytesOf e≤281474976710656)(hn:n≤9223372036854775807) :
  ∃cv w' L',(Instr.makeSlice t (.int kl (n:Int)) (.int kc (n:Int))).run P w=.ok cv w'∧Con L' (H++[.cells (amade zs (n*P.cellsOf e))]) T w'∧Rep L' (H++[Blk.cells (amade zs (n*P.cellsOf e))]).length T w' (.csl H.length n n) cv∧
   Ev H.length T.length L H.length T w L' (H++[Blk.cells (amade zs (n*P.cellsOf e))]).length T w':=by
 obtain⟨i,z,hi,hzz,hr,hzs⟩:=azero_rep (L:=L) (N:=H.length) (T:=T) (w:=w) hz;have hby:P.bytesOf e=i.bytes:=by simp[Program.bytesOf,hi]
 have hsz:P.cellsOf e=i.size:=by simp[Program.cellsOf,hi]
 have hb':(i.bytes:Int)*(n:Int)≤281474976710656:=by
  rw[hby] at hb;have:((n*i.bytes:Nat):Int)≤281474976710656:=by omega
  rw[Int.natCast_mul,Int.mul_comm] at this;exact this
 have hm:=run_make (P:=P) w t e i z hu hi hzz kl kc n n (by omega) (Int.le_refl _) hb' (by omega);obtain⟨L',h1,h2,h3⟩:=hc.newBox (madeCells z.cells (n*P.cellsOf e)) e (amade_rep (n:=n*P.cellsOf e) hr (.inl hzl));refine⟨_,_,L',by rw[hm];simp only[Int.toNat_natCast,←hsz];rfl,h1,?_,h2⟩;rw[←h3];exact .csl H.length n n (by simp) (Nat.le_refl _)
theorem run_makeOwn {t e:TypeId}{zs:List AV}(hc:Con L H T w)(hu:P.underlying t=some (.slice e))(hz:azero P e=some zs)(hzl:0<P.cellsOf e)(kl kc:IntKind)(n:Nat)(hb:n*P.bytesOf e≤281474976710656)(hn:n≤9223372036854775807) :
  ∃cv w' L',(Instr.makeSlice t (.int kl 0) (.int kc (n:Int))).run P w=.ok cv w'∧Con L' H (T++[(0,P.cellsOf e)]) w'∧Rep L' H.length (T++[(0,P.cellsOf e)]) w' (.sl 0 [] (.own T.length)) cv∧
   Ev H.length T.length L H.length T w L' H.length (T++[(0,P.cellsOf e)]) w':=by
 obtain⟨i,z,hi,hzz,hr,hzs⟩:=azero_rep (L:=L) (N:=H.length) (T:=T) (w:=w) hz;have hby:P.bytesOf e=i.bytes:=by simp[Program.bytesOf,hi]
 have hsz:P.cellsOf e=i.size:=by simp[Program.cellsOf,hi]
 have hb':(i.bytes:Int)*(n:Int)≤281474976710656:=by
  rw[hby] at hb;have:((n*i.bytes:Nat):Int)≤281474976710656:=by omega
  rw[Int.natCast_mul,Int.mul_comm] at this;exact this
 have hm:=run_make (P:=P) w t e i z hu hi hzz kl kc 0 n (Int.le_refl _) (by omega) hb' (by omega);have c1:=hc.alloc (.cells (madeCells z.cells (n*P.cellsOf e)) e) 0;have e1:=Ev.alloc hc (.cells (madeCells z.cells (n*P.cellsOf e)) e) 0;have hnw:¬Wr (L.commit w.heap.size 0) H.length T w.heap.size:=hc.not_wr (Nat.le_refl _)
 let k:Tk:=⟨w.heap.size,0,n⟩
 have hk:((L.commit w.heap.size 0).withTok T.length k).tau T.length=k:=by simp[Lay.withTok]
 refine⟨_,_,(L.commit w.heap.size 0).withTok T.length k,by rw[hm];simp only[Int.toNat_natCast,←hsz];rfl,c1.addTok k 0 (P.cellsOf e) (fun _=>hnw) ?_,?_,e1.addTok (fun _=>.inl (Nat.le_refl _))⟩
 ·refine⟨hzl,fun _=>?_⟩;rw[hk];refine⟨_,e,(0,0),heap_alloc_at w _,by simp[k,size_madeCells],fun o _ _=>by simp,?_⟩;simp[k,Lay.withTok,Lay.commit]
 ·refine .sl0 (.own T.length) _ _ ⟨0,P.cellsOf e,by simp,Nat.le_refl _,fun _=>.inr ?_⟩;rw[hk];simp[k]
def setArr:Array Value→Nat→List Value→Array Value
 |c,_,[]=>c
 |c,o,v::r=>setArr (c.setIfInBounds o v) (o+1) r
theorem setArr_size:∀(vs:List Value)(c:Array Value)(o:Nat),(setArr c o vs).size=c.size:=by
 intro vs
 induction vs with
 |nil=>intro c o;rfl
 |cons v r ih=>intro c o;simp[setArr,ih]
theorem setArr_lt:∀(vs:List Value)(c:Array Value)(o j:Nat),j<o→(setArr c o vs)[j]?=c[j]?:=by
 intro vs
 induction vs with
 |nil=>intro c o j _;rfl
 |cons v r ih=>
  intro c o j hj;rw[setArr,ih _ _ _ (by omega),Array.getElem?_setIfInBounds_ne (by omega)]
theorem setArr_at:∀(vs:List Value)(c:Array Value)(o j:Nat),o+vs.length≤c.size→j<vs.length→(setArr c o vs)[o+j]?=vs[j]?:=by
 intro vs
 induction vs with
 |nil=>intro c o j _ h;simp at h
 |cons v r ih=>
  intro c o j hle hj;rw[setArr]
  cases j with
  |zero=>
   rw[setArr_lt _ _ _ _ (by omega)];simp at hle;have:o<c.size:=by omega
   simp[this]
  |succ j=>
   have:=ih (c.setIfInBounds o v) (o+1) j (by simp at hle ⊢;omega) (by simpa using hj);rw[show o+(j+1)=o+1+j by omega,this];simp
theorem setCells_heap:∀(vs:List Value)(w:World)(b o:Nat)(c:Array Value)(e:TypeId)(fr:Nat×Nat),w.heap[b]?=some (.cells c e fr)→
  (w.setCells b o vs).heap[b]?=some (.cells (setArr c o vs) e fr)∧(∀x,x≠b→(w.setCells b o vs).heap[x]?=w.heap[x]?)∧(w.setCells b o vs).heap.size=w.heap.size∧
   (w.setCells b o vs).os=w.os∧(w.setCells b o vs).tape=w.tape∧(w.setCells b o vs).output=w.output∧(w.setCells b o vs).drawn=w.drawn:=by
 intro vs
 induction vs with
 |nil=>intro w b o c e fr h;exact⟨h,fun _ _=>rfl,rfl,rfl,rfl,rfl,rfl⟩
 |cons v r ih=>
  intro w b o c e fr h;have h1:=heap_setCell_at w b o v h;obtain⟨g1,g2,g3,g4,g5,g6,g7⟩:=ih (w.setCell ⟨b,o,none⟩ v) b (o+1) _ e fr h1;exact⟨g1,fun x hx=>(g2 x hx).trans (heap_setCell_ne w b o v x hx),by rw[World.setCells,g3];simp,g4,g5,g6,g7⟩
def notInt (P:Program)(t:TypeId):Bool:=
 match P.underlying t with
 |some (.int _)=>false
 |some _=>true
 |none=>false
theorem run_notInt {t:TypeId}(h:notInt P t=true):∃d,P.underlying t=some d∧(∀k,d≠.int k):=by
 unfold notInt at h
 split at h
 ·cases h
 ·rename_i d hn hu;exact⟨d,hu,fun k e=>by subst e;exact hn k rfl⟩
 ·cases h
theorem run_append_two {t t2 ty e:TypeId}{i:TypeInfo}{zv:Value}(hu:P.underlying t=some (.slice e))(h2:notInt P t2=true)(hi:P.info? e=some i)(hz:i.zero=some zv)
  {a:Option Addr} {n cap m:Nat} {x:Value} {old1 new new1:List Value} (hlen:(Builtin.lenOf x).run P w=.ok m w) (hnew0:(Builtin.firstCells i.size m x).run P w=.ok new.toArray w)
  (hnew1:(Builtin.firstCells i.size m x).run P w.drew=.ok new1.toArray w.drew) (hold1:(Builtin.firstCells i.size n (.slice a n cap)).run P w.drew=.ok old1.toArray w.drew) (hb:(n+m)*i.bytes≤140737488355328) (hm:n+m≤9223372036854775807) :
  (n+m≤cap→(Builtin.append_ #[t,t2] ty #[.slice a n cap,x]).run P w=((match a with|some a=>storeCells (a.add (n*i.size)) new|none=>pure ()).run P w).andThen fun _ w'=>.ok (.slice a (n+m) cap) w')∧
  (cap<n+m→∃nc,n+m≤nc∧(Builtin.append_ #[t,t2] ty #[.slice a n cap,x]).run P w =
   .ok (.slice (some ⟨w.heap.size,0,none⟩) (n+m) nc) (w.drew.alloc (.cells (old1.toArray++new1.toArray++Builtin.zeroCells zv.cells (nc-(n+m))) e))):=by
 obtain⟨d2,hd2,hn2⟩:=run_notInt h2;have hzeros:(d2 matches .int _)=false:=by
  cases d2<;>first|rfl|exact absurd rfl (hn2 _)
 have hsz:=run_sizeOf w hi;have hcs:P.cellsOf e=i.size:=by simp[Program.cellsOf,hi]
 constructor
 ·intro hle;simp only[Builtin.append_,List.getElem?_toArray,List.getElem?_cons_zero,List.getElem?_cons_succ,Sem.run_bind,run_underlying hu,run_underlying hd2,Result.andThen_ok,hsz,Sem.run_pure,hcs];simp only[Bool.false_eq_true,if_false,hlen,Result.andThen_ok,Sem.run_bind,hle,if_true,Bool.not_false,hnew0]
  cases a with
  |none=>rfl
  |some a=>simp only[Sem.run_bind];rfl
 ·intro hlt;obtain⟨nc,hnc,hle⟩:∃nc,(Question.appendCap (n+m) cap e).cut (w.tape w.drawn (.appendCap (n+m) cap e))=nc∧n+m≤nc:=⟨_,rfl,by simp[Question.cut]⟩
  refine⟨nc,hle,?_⟩;have g1:¬n+m≤cap:=by omega
  have g2:¬(((n+m:Nat):Int)>IntKind.i64.max∧(False∨i.bytes=0)):=by
   have:IntKind.i64.max=9223372036854775807:=by decide
   rw[this];omega
  have g3:¬Builtin.nextslicecap (n+m) cap*i.bytes>2 ^ 48:=by
   have:=growslice_fits hlt hb;omega
  simp only[Builtin.append_,List.getElem?_toArray,List.getElem?_cons_zero,List.getElem?_cons_succ,Sem.run_bind,run_underlying hu,run_underlying hd2,Result.andThen_ok,hsz,Sem.run_pure,hcs];simp only[Bool.false_eq_true,if_false,hlen,Result.andThen_ok,Sem.run_bind,g1,run_typeInfo w hi,g2,g3,Bool.not_false,if_true];simp only[run_choose,Question.forced,Bool.false_eq_true,if_false,hnc,Result.andThen_ok,run_askRoom,World.drew_eq,run_typeInfo w.drew hi,hold1,hnew1,run_zero hi hz,newRow,Sem.run_bind,run_newObj,Sem.run_pure];rfl
def aappend (P:Program)(H:List Blk)(T:Toks)(t t2:TypeId)(s x:AV):Option (AV×Toks):=
 match P.underlying t,s with
 |some (.slice e),.sl n cs tg=>
  match asrc H (P.cellsOf e) x with
  |some (m,ys)=>
   if cs.length=n*P.cellsOf e∧0<P.cellsOf e∧(n+m)*P.bytesOf e≤140737488355328∧n+m≤9223372036854775807∧notInt P t2=true∧(azero P e).isSome=true then
    match tg with
    |.full=>some (.sl (n+m) (cs++ys) (.own T.length),T++[((n+m)*P.cellsOf e,P.cellsOf e)])
    |.own k=>if T[k]?=some (cs.length,P.cellsOf e) then some (.sl (n+m) (cs++ys) (.own k),T.set k ((n+m)*P.cellsOf e,P.cellsOf e)) else none
    |.none=>none
   else none
  |none=>none
 |_,_=>none
theorem run_append {t t2 ty:TypeId}{s x r:AV}{cs cx:Value}{T':Toks}(hc:Con L H T w)(h:aappend P H T t t2 s x=some (r,T'))(hs:Rep L H.length T w s cs)(hx:Rep L H.length T w x cx) :
  ∃cv w' L',(Builtin.append_ #[t,t2] ty #[cs,cx]).run P w=.ok cv w'∧Con L' H T' w'∧Rep L' H.length T' w' r cv∧Ev H.length T.length L H.length T w L' H.length T' w':=by
 unfold aappend at h
 split at h
 ·rename_i e n cl tg hu
  split at h
  ·rename_i m ys hsrc
   split at h
   ·rename_i hb;obtain⟨hcl,hz0,hby,hmax,hni,hzs⟩:=hb;obtain⟨zs,hzs⟩:=Option.isSome_iff_exists.1 hzs;obtain⟨i,z,hi,hzz,hzr,hzsz⟩:=azero_rep (L:=L) (N:=H.length) (T:=T) (w:=w) hzs;have hcz:P.cellsOf e=i.size:=by simp[Program.cellsOf,hi]
    have hbb:P.bytesOf e=i.bytes:=by simp[Program.bytesOf,hi]
    rw[hbb] at hby;obtain⟨new,hyl,hynew,hlen,hfirst⟩:=run_src (P:=P) hc hx hsrc;have hcd:Con L H T w.drew:=hc.drew rfl;have kd:Keeps L H.length T w L H.length T w.drew:=(Ev.drew (H:=H) (T:=T) (L:=L) (w:=w) (w':=w.drew) rfl rfl rfl rfl (Nat.le_succ _)).keeps;obtain⟨new',_,hynew',_,hfirst'⟩:=run_src (P:=P) hcd (hx.keep kd) hsrc;obtain⟨a,cap,rfl,hcap,htag,hcells⟩:=hs.sl_inv;have hsd:=hs.keep kd;have hsold:asrc H (P.cellsOf e) (.sl n cl tg)=some (n,cl):=by simp[asrc,hcl]
    obtain⟨old,_,hyold,_,hfold⟩:=run_src (P:=P) hcd hsd hsold;have h2:=run_append_two (P:=P) (w:=w) (ty:=ty) hu hni hi hzz (a:=a) (n:=n) (cap:=cap) (m:=m) hlen (hcz▸hfirst) (hcz▸hfirst') (hcz▸hfold) hby hmax;rw[←hcz] at h2;have grow:cap<n+m→∀(k:Nat)(Tn:Toks),((k=T.length∧Tn=T++[((n+m)*P.cellsOf e,P.cellsOf e)])∨(∃u,T[k]?=some (u,P.cellsOf e)∧u<(n+m)*P.cellsOf e∧Tn=T.set k ((n+m)*P.cellsOf e,P.cellsOf e)))→
      ∃cv w' L',(Builtin.append_ #[t,t2] ty #[.slice a n cap,cx]).run P w=.ok cv w'∧Con L' H Tn w'∧Rep L' H.length Tn w' (.sl (n+m) (cl++ys) (.own k)) cv∧Ev H.length T.length L H.length T w L' H.length Tn w':=by
     intro hlt k Tn hk;obtain⟨nc,hnc,hrun⟩:=h2.2 hlt;have hcat:=hyold.append hynew';have hcatl:(old++new').length=(cl++ys).length:=hcat.1;have hcl2:(cl++ys).length=(n+m)*P.cellsOf e:=by rw[List.length_append,hcl,hyl,Nat.add_mul]
     have htake:((old.toArray++new'.toArray++Builtin.zeroCells z.cells (nc-(n+m))).toList.take (cl++ys).length)=old++new':=by
      have e1:(old.toArray++new'.toArray++Builtin.zeroCells z.cells (nc-(n+m))).toList=(old++new')++(Builtin.zeroCells z.cells (nc-(n+m))).toList:=by simp
      rw[e1,←hcatl,List.take_left' rfl]
     obtain⟨k1,k2,k3⟩:=hcd.newRow (old.toArray++new'.toArray++Builtin.zeroCells z.cells (nc-(n+m))) e (0,0) (vs:=cl++ys) (cl++ys).length (Nat.le_refl _) (by rw[htake];exact hcat) (n+m) nc hnc .none (.inl rfl);have ed:Ev H.length T.length L H.length T w L H.length T w.drew:=Ev.drew rfl rfl rfl rfl (Nat.le_succ _);have hnw:¬Wr (L.commit w.heap.size (cl++ys).length) H.length T w.heap.size:=hc.not_wr (Nat.le_refl _)
     let tk:Tk:=⟨w.heap.size,0,nc⟩
     have hsize:(old.toArray++new'.toArray++Builtin.zeroCells z.cells (nc-(n+m))).size=nc*P.cellsOf e:=by
      have h1:(old++new').length=(n+m)*P.cellsOf e:=by rw[hcatl,hcl2]
      have h3:nc*P.cellsOf e=(n+m)*P.cellsOf e+(nc-(n+m))*P.cellsOf e:=by rw[←Nat.add_mul];congr 1;omega
      simp only[Array.size_append,List.size_toArray,size_zeroCells,hzsz,h3];rw[←h1];simp
     have htok:∀k',TokOk ((L.commit w.heap.size (cl++ys).length).withTok k' tk) (w.drew.alloc (.cells (old.toArray++new'.toArray++Builtin.zeroCells z.cells (nc-(n+m))) e)) k' ((n+m)*P.cellsOf e) (P.cellsOf e):=by
      intro k';have hk':((L.commit w.heap.size (cl++ys).length).withTok k' tk).tau k'=tk:=by simp[Lay.withTok]
      refine⟨hz0,fun _=>?_⟩;rw[hk'];refine⟨_,e,(0,0),heap_alloc_at w.drew _,by rw[hsize];simp[tk],fun o _ _=>by simp,?_⟩;show (if tk.b=w.heap.size then (cl++ys).length else L.m tk.b)≤_;rw[if_pos rfl,hcl2];exact Nat.le_add_left _ _
     have hrep:∀Tn',(∀t' u z',T[t']?=some (u,z')→∃u',Tn'[t']?=some (u',z')∧u≤u'∧(u'=u→t'≠k))→Tn'[k]?=some ((n+m)*P.cellsOf e,P.cellsOf e)→
       Rep ((L.commit w.heap.size (cl++ys).length).withTok k tk) H.length Tn' (w.drew.alloc (.cells (old.toArray++new'.toArray++Builtin.zeroCells z.cells (nc-(n+m))) e)) (.sl (n+m) (cl++ys) (.own k)) (.slice (some ⟨w.heap.size,0,none⟩) (n+m) nc):=by
      intro Tn' hT hTk;have kp:Keeps (L.commit w.heap.size (cl++ys).length) H.length T (w.drew.alloc (.cells (old.toArray++new'.toArray++Builtin.zeroCells z.cells (nc-(n+m))) e)) ((L.commit w.heap.size (cl++ys).length).withTok k tk) H.length Tn' (w.drew.alloc (.cells (old.toArray++new'.toArray++Builtin.zeroCells z.cells (nc-(n+m))) e)):=by
       refine⟨Nat.le_refl _,fun _ _=>rfl,fun t' u z' ht'=>?_,fun _=>Nat.le_refl _,fun _ _ _=>rfl,rfl⟩;obtain⟨u',h1,h3,h4⟩:=hT t' u z' ht';refine⟨u',h1,h3,fun e=>?_⟩;simp only[Lay.withTok];rw[if_neg (h4 e)]
      have:=k3.keep kp;obtain⟨a',cap',e1,hc',_,hx'⟩:=this.sl_inv
      cases e1
      have hpos:0<(cl++ys).length:=by
       rw[hcl2];exact Nat.mul_pos (by omega) hz0
      rcases hx' with⟨e2,_⟩|⟨b,base,cv,e2,g1,g2,g3⟩
      ·rw[e2] at hpos;simp at hpos
      ·cases e2
       refine Rep.sl_mk hc' g1 g2 g3 ⟨_,_,hTk,by rw[hcl2];exact Nat.le_refl _,fun _=>.inr ?_⟩;simp[Lay.withTok,tk]
     rcases hk with⟨rfl,rfl⟩|⟨u,hTk,hlt',rfl⟩
     ·refine⟨_,_,_,hrun,k1.addTok tk _ _ (fun _=>hnw) (htok _),hrep _ (fun t' u z' ht'=>?_) (by simp),(ed.trans k2).addTok (fun _=>.inl (Nat.le_refl _))⟩;have hlt2:=(List.getElem?_eq_some_iff.1 ht').1;exact⟨u,by rw[List.getElem?_append_left hlt2];exact ht',Nat.le_refl _,fun _=>by omega⟩
     ·have hkl:=(List.getElem?_eq_some_iff.1 hTk).1;refine⟨_,_,_,hrun,k1.setTok hTk hlt' tk (fun _=>hnw) (htok _),hrep _ (fun t' u' z' ht'=>?_) (by rw[List.getElem?_set_self hkl]),(ed.trans k2).setTok hTk hlt' (fun _=>Nat.le_refl _)⟩
      by_cases htk:t'=k
      ·subst htk;rw[hTk] at ht'
       cases ht'
       exact⟨_,by rw[List.getElem?_set_self hkl],by omega,fun e=>by omega⟩
      ·exact⟨u',by rw[List.getElem?_set_ne (fun e=>htk e.symm)];exact ht',Nat.le_refl _,fun _=>htk⟩
    have zero:m=0→(Builtin.append_ #[t,t2] ty #[.slice a n cap,cx]).run P w=.ok (.slice a n cap) w∧ys=[]:=by
     intro hm;subst hm;have hn0:new=[]:=List.eq_nil_of_length_eq_zero (by rw[hynew.1];simpa using hyl);have hy0:ys=[]:=List.eq_nil_of_length_eq_zero (by simpa using hyl);have:=h2.1 (by omega);rw[hn0] at this;refine⟨?_,hy0⟩;rw[this]
     cases a<;>rfl
    split at h
    ·cases h
     rcases Nat.eq_zero_or_pos m with hm|hm
     ·obtain⟨g1,g2⟩:=zero hm;subst hm;subst g2;refine⟨_,w,L.withTok T.length ⟨0,0,0⟩,g1,hc.addTok ⟨0,0,0⟩ _ _ (fun h=>by simp at h) ⟨hz0,fun h=>by simp[Lay.withTok] at h⟩,?_,
       (Ev.refl (Nat.le_refl _) (Nat.le_refl _)).addTok (fun h=>by simp at h)⟩
      have kp:Keeps L H.length T w (L.withTok T.length ⟨0,0,0⟩) H.length (T++[((n+0)*P.cellsOf e,P.cellsOf e)]) w:=by
       refine⟨Nat.le_refl _,fun _ _=>rfl,fun t' u z' ht'=>?_,fun _=>Nat.le_refl _,fun _ _ _=>rfl,rfl⟩;have hlt2:=(List.getElem?_eq_some_iff.1 ht').1;exact⟨u,by rw[List.getElem?_append_left hlt2];exact ht',Nat.le_refl _,fun _=>by simp only[Lay.withTok];rw[if_neg (by omega)]⟩
      have hs':=(hs.untag).keep kp;simp only[Am.untag] at hs';have tok:∀a',tagOk (L.withTok T.length ⟨0,0,0⟩) (T++[((n+0)*P.cellsOf e,P.cellsOf e)]) (.own T.length) n cl.length a' cap:=fun a'=>⟨(n+0)*P.cellsOf e,P.cellsOf e,by simp,by rw[hcl];simp,fun _=>.inl htag⟩
      obtain⟨a',cap',e1,hc',_,hx'⟩:=hs'.sl_inv
      cases e1
      rcases hx' with⟨e2,e3⟩|⟨b,base,cv,e2,q1,q2,q3⟩
      ·subst e2;subst e3;simp only[List.append_nil,Nat.add_zero];exact .sl0 _ _ _ (tok _)
      ·subst e2;simp only[List.append_nil,Nat.add_zero];exact Rep.sl_mk hc' q1 q2 q3 (tok _)
     ·have hcn:cap=n:=htag;exact grow (by omega) T.length _ (.inl ⟨rfl,rfl⟩)
    ·rename_i k
     split at h
     ·rename_i hTk
      cases h
      have hkl:=(List.getElem?_eq_some_iff.1 hTk).1;rcases Nat.eq_zero_or_pos m with hm|hm
      ·obtain⟨g1,g2⟩:=zero hm;subst hm;subst g2;have hT:T.set k ((n+0)*P.cellsOf e,P.cellsOf e)=T:=by
        apply List.ext_getElem?;intro j
        by_cases hj:k=j
        ·subst hj;rw[List.getElem?_set_self hkl,hTk,hcl];simp
        ·rw[List.getElem?_set_ne hj]
       rw[hT];refine⟨_,w,L,g1,hc,by simpa using hs,Ev.refl (Nat.le_refl _) (Nat.le_refl _)⟩
      ·rcases Nat.lt_or_ge cap (n+m) with hlt|hge
       ·exact grow hlt k _ (.inr ⟨cl.length,hTk,by rw[hcl];exact Nat.mul_lt_mul_of_pos_right (by omega) hz0,rfl⟩)
       ·
        obtain⟨u0,z0,hT0,hle0,himp⟩:=htag;rw[hTk] at hT0
        cases hT0
        rcases himp rfl with h0|⟨ha,hcapc⟩
        ·omega
        ·have hrun:=h2.1 hge;have hsp:cl.length<(L.tau k).c*P.cellsOf e:=by
          rw[←hcapc,hcl];exact Nat.mul_lt_mul_of_pos_right (by omega) hz0
         obtain⟨_,hrow⟩:=hc.tok k _ _ hTk;obtain⟨cc,ee,fr,g1,g2,g3,g4⟩:=hrow hsp;have hmz:cl.length+m*P.cellsOf e≤(L.tau k).c*P.cellsOf e:=by
          rw[←hcapc,hcl,←Nat.add_mul];exact Nat.mul_le_mul_right _ hge
         have hnewl:new.length=m*P.cellsOf e:=by rw[hynew.1,hyl]
         have hst:=run_storeCells_cells (P:=P) (L.tau k).b ((L.tau k).o+cl.length) new 0 w
          (fun j hj=>by
           rw[cell_row g1];rw[Array.getElem?_eq_getElem (show (L.tau k).o+cl.length+0+j<cc.size by omega)];rfl)
          (fun j hj=>by
           unfold World.frozen?;simp only[g1];exact g3 _ (by omega) (by omega))
          (fun v hv=>by
           obtain⟨j,hj,e1⟩:=List.mem_iff_getElem.1 hv;rw[←e1];exact hynew.2.1 j hj)
         obtain⟨s1,s2,s3,s4,s5,s6,s7⟩:=setCells_heap new w (L.tau k).b ((L.tau k).o+cl.length) cc ee fr g1;have hcl2:cl.length+m*P.cellsOf e=(n+m)*P.cellsOf e:=by rw[hcl,Nat.add_mul]
         obtain⟨c1,e1⟩:=hc.grow hTk (k:=m*P.cellsOf e) (Nat.mul_pos hm hz0) hmz g1 s1 (setArr_size _ _ _) (fun j hj=>setArr_lt _ _ _ _ hj) s2 s3 s4 s5 s6 (Nat.le_of_eq s7.symm);rw[hcl2] at c1 e1;refine⟨.slice a (n+m) cap,_,_,?_,c1,?_,e1⟩
         ·rw[hrun,ha];simp only[addr_add,←hcl];rw[hst];rfl
         ·have hsk:=hs.keep e1.keeps;obtain⟨a',cap',e3,hc',htg',hx'⟩:=hsk.sl_inv
          cases e3
          have hcat:RepC ((L.commit (L.tau k).b ((L.tau k).o+cl.length+m*P.cellsOf e))) H.length (T.set k ((n+m)*P.cellsOf e,P.cellsOf e)) (w.setCells (L.tau k).b ((L.tau k).o+cl.length) new) ys new:=hynew.keep e1.keeps;have tok:tagOk (L.commit (L.tau k).b ((L.tau k).o+cl.length+m*P.cellsOf e)) (T.set k ((n+m)*P.cellsOf e,P.cellsOf e)) (.own k) (n+m) (cl++ys).length (some ⟨(L.tau k).b,(L.tau k).o,none⟩) cap:=
           ⟨_,_,by rw[List.getElem?_set_self hkl],by rw[List.length_append,hyl,hcl2];exact Nat.le_refl _,fun _=>.inr ⟨rfl,hcapc⟩⟩
          have hcomm:(L.tau k).o+(cl++ys).length≤(L.commit (L.tau k).b ((L.tau k).o+cl.length+m*P.cellsOf e)).m (L.tau k).b:=by
           simp only[Lay.commit,if_true,List.length_append,hyl];omega
          subst ha;have hnew2:∀j,j<ys.length→(w.setCells (L.tau k).b ((L.tau k).o+cl.length) new).cell? ⟨(L.tau k).b,(L.tau k).o+cl.length+j,none⟩=new[j]?:=by
           intro j hj;rw[cell_row s1,setArr_at _ _ _ _ (by omega) (by omega)]
          rcases hx' with⟨e2,e3⟩|⟨b,base,cv,e2,q1,q2,q3⟩
          ·subst e2;subst e3;refine Rep.sl_mk (cv:=new) hge hcomm (by simpa using hcat) (fun j hj=>?_) tok;have:=hnew2 j (by simpa using hj);simpa using this
          ·cases e2
           refine Rep.sl_mk (cv:=cv++new) hge hcomm (q2.append hcat) (fun j hj=>?_) tok;have hcv:cv.length=cl.length:=q2.1;rcases Nat.lt_or_ge j cl.length with hj1|hj1
           ·rw[q3 j hj1,List.getElem?_append_left (by omega)]
           ·have:=hnew2 (j-cl.length) (by simp at hj;omega);rw[List.getElem?_append_right (by omega),hcv,←this]
            congr 2
            omega
     ·cases h
    ·cases h
   ·cases h
  ·cases h
 ·cases h
def aappBox (P:Program)(H:List Blk)(t t2:TypeId)(s x:AV):Option (Nat×List AV):=
 match P.underlying t,s with
 |some (.slice e),.sl 0 [] .full=>
  match asrc H (P.cellsOf e) x with
  |some (m,ys)=>if 0<m∧0<P.cellsOf e∧m*P.bytesOf e≤140737488355328∧m≤9223372036854775807∧notInt P t2=true∧(azero P e).isSome=true then some (m,ys) else none
  |none=>none
 |_,_=>none
theorem zeroCells_mem {z:Array Value}{n:Nat}{v:Value}(h:v∈(Builtin.zeroCells z n).toList):v∈z.toList:=by
 unfold Builtin.zeroCells at h;simp only[Array.toList_map,Array.toList_range,List.mem_map,List.mem_range] at h;obtain⟨i,hi,rfl⟩:=h;have hz:0<z.size:=by
  rcases Nat.eq_zero_or_pos z.size with h0|h0
  ·rw[h0] at hi;simp at hi
  ·exact h0
 have hlt:i % z.size<z.size:=Nat.mod_lt _ hz;rw[getElem!_pos z _ hlt];simp
theorem RepC.tops {N:Nat}{T:Toks}(l:List Value)(h:∀v∈l,v.oneCell'=true):RepC L N T w (List.replicate l.length .top) l:=by
 refine⟨by simp,fun j hj=>h _ (List.getElem_mem hj),fun j hj hj'=>?_⟩;rw[List.getElem_replicate];exact .top _
theorem run_appBox {t t2 ty:TypeId}{s x:AV}{cs cx:Value}{m:Nat}{ys:List AV}(hc:Con L H T w)(h:aappBox P H t t2 s x=some (m,ys))(hs:Rep L H.length T w s cs)(hx:Rep L H.length T w x cx) :
  ∃k cv w' L',(Builtin.append_ #[t,t2] ty #[cs,cx]).run P w=.ok cv w'∧Con L' (H++[.cells (ys++List.replicate k .top)]) T w'∧Rep L' (H++[Blk.cells (ys++List.replicate k .top)]).length T w' (.msl H.length 0 m) cv∧
   Ev H.length T.length L H.length T w L' (H++[Blk.cells (ys++List.replicate k .top)]).length T w':=by
 unfold aappBox at h
 split at h
 ·rename_i e hu
  split at h
  ·rename_i m' ys' hsrc
   split at h
   ·rename_i hb
    cases h
    obtain⟨hm,hz0,hby,hmax,hni,hzs⟩:=hb;obtain⟨zs,hzs⟩:=Option.isSome_iff_exists.1 hzs;obtain⟨i,z,hi,hzz,hzr,hzsz⟩:=azero_rep (L:=L) (N:=H.length) (T:=T) (w:=w) hzs;have hcz:P.cellsOf e=i.size:=by simp[Program.cellsOf,hi]
    have hbb:P.bytesOf e=i.bytes:=by simp[Program.bytesOf,hi]
    rw[hbb] at hby;obtain⟨new,hyl,hynew,hlen,hfirst⟩:=run_src (P:=P) hc hx hsrc;have hcd:Con L H T w.drew:=hc.drew rfl;have kd:Keeps L H.length T w L H.length T w.drew:=(Ev.drew (H:=H) (T:=T) (L:=L) (w:=w) (w':=w.drew) rfl rfl rfl rfl (Nat.le_succ _)).keeps;obtain⟨new',_,hynew',_,hfirst'⟩:=run_src (P:=P) hcd (hx.keep kd) hsrc;obtain⟨a,cap,rfl,hcap,htag,hcells⟩:=hs.sl_inv;have hsd:=hs.keep kd;have hsold:asrc H (P.cellsOf e) (.sl 0 [] .full)=some (0,[]):=by simp[asrc]
    obtain⟨old,_,hyold,_,hfold⟩:=run_src (P:=P) hcd hsd hsold;have hold:old=[]:=List.eq_nil_of_length_eq_zero (by rw[hyold.1];rfl);subst hold;have h2:=run_append_two (P:=P) (w:=w) (ty:=ty) hu hni hi hzz (a:=a) (n:=0) (cap:=cap) (m:=m) hlen (hcz▸hfirst) (hcz▸hfirst') (hcz▸hfold) (by simpa using hby) (by simpa using hmax);have hcap0:cap=0:=htag;obtain⟨nc,hnc,hrun⟩:=h2.2 (by omega);have hzone:∀v∈(Builtin.zeroCells z.cells (nc-(0+m))).toList,v.oneCell'=true:=by
     intro v hv;obtain⟨j,hj,e1⟩:=List.mem_iff_getElem.1 (zeroCells_mem hv);rw[←e1];exact hzr.2.1 j hj
    have hbox:RepC L H.length T w.drew (ys++List.replicate (Builtin.zeroCells z.cells (nc-(0+m))).toList.length .top) (([]:List Value).toArray++new'.toArray++Builtin.zeroCells z.cells (nc-(0+m))).toList:=by
     have:=hynew'.append (RepC.tops (L:=L) (N:=H.length) (T:=T) (w:=w.drew) _ hzone);simpa using this
    obtain⟨L',g1,g2,g3⟩:=hcd.newBox _ e hbox;have ed:Ev H.length T.length L H.length T w L H.length T w.drew:=Ev.drew rfl rfl rfl rfl (Nat.le_succ _);refine⟨_,_,_,L',hrun,g1,?_,ed.trans g2⟩;have:=Rep.msl (L:=L') (T:=T) (w:=w.drew.alloc (.cells (([]:List Value).toArray++new'.toArray++Builtin.zeroCells z.cells (nc-(0+m))) e)) H.length 0 m nc
     (show H.length<(H++[Blk.cells (ys++List.replicate (Builtin.zeroCells z.cells (nc-(0+m))).toList.length .top)]).length by simp) (by omega)
    rw[g3] at this;simpa using this
   ·cases h
  ·cases h
 ·cases h
def aapp0 (P:Program)(H:List Blk)(t t2:TypeId)(s x:AV):Option AV:=
 match s with
 |.msl i o n=>match P.underlying t with
  |some (.slice e)=>match asrc H (P.cellsOf e) (.msl i o n),asrc H (P.cellsOf e) x with
   |some _,some (0,_)=>if n*P.bytesOf e≤140737488355328∧n≤9223372036854775807∧notInt P t2=true∧(azero P e).isSome=true then some (.msl i o n) else none
   |_,_=>none
  |_=>none
 |_=>none
theorem run_app0 {t t2 ty:TypeId}{s x r:AV}{cs cx:Value}(hc:Con L H T w)(h:aapp0 P H t t2 s x=some r)(hs:Rep L H.length T w s cs)(hx:Rep L H.length T w x cx) :
  ∃cv,(Builtin.append_ #[t,t2] ty #[cs,cx]).run P w=.ok cv w∧Rep L H.length T w r cv:=by
 unfold aapp0 at h
 split at h
 ·rename_i i o n
  split at h
  ·rename_i e hu
   split at h
   ·rename_i p ys hsold hsrc
    split at h
    ·rename_i hb
     cases h
     obtain⟨hby,hmax,hni,hzs⟩:=hb;obtain⟨zs,hzs⟩:=Option.isSome_iff_exists.1 hzs;obtain⟨i',z,hi,hzz,hzr,hzsz⟩:=azero_rep (L:=L) (N:=H.length) (T:=T) (w:=w) hzs;have hcz:P.cellsOf e=i'.size:=by simp[Program.cellsOf,hi]
     have hbb:P.bytesOf e=i'.bytes:=by simp[Program.bytesOf,hi]
     rw[hbb] at hby;obtain⟨new,hyl,hynew,hlen,hfirst⟩:=run_src (P:=P) hc hx hsrc;have hcd:Con L H T w.drew:=hc.drew rfl;have kd:Keeps L H.length T w L H.length T w.drew:=(Ev.drew (H:=H) (T:=T) (L:=L) (w:=w) (w':=w.drew) rfl rfl rfl rfl (Nat.le_succ _)).keeps;obtain⟨new',_,hynew',_,hfirst'⟩:=run_src (P:=P) hcd (hx.keep kd) hsrc;obtain⟨cap,rfl,hcap,hil⟩:=hs.msl_inv;have hsd:=hs.keep kd;have hpn:p.1=n:=by
      unfold asrc at hsold;simp only at hsold
      split at hsold
      ·split at hsold
       ·cases hsold;rfl
       ·cases hsold
      ·cases hsold
     obtain⟨pm,pys⟩:=p;simp only at hpn;subst hpn;obtain⟨old,_,hyold,_,hfold⟩:=run_src (P:=P) hcd hsd hsold;have h2:=run_append_two (P:=P) (w:=w) (ty:=ty) hu hni hi hzz (a:=some ⟨L.phi i,o,none⟩) (n:=pm) (cap:=cap) (m:=0) hlen (hcz▸hfirst) (hcz▸hfirst') (hcz▸hfold) (by simpa using hby) (by simpa using hmax);have hn0:new=[]:=List.eq_nil_of_length_eq_zero (by rw[hynew.1];simpa using hyl);have:=h2.1 (by omega);rw[hn0] at this;refine⟨_,?_,hs⟩;rw[this];rfl
    ·cases h
   ·cases h
  ·cases h
 ·cases h
theorem setMany_eq (xs:List AV):∀(vs:List AV)(o:Nat),o+xs.length≤vs.length→setMany vs o xs=vs.take o++xs++vs.drop (o+xs.length):=by
 induction xs with
 |nil=>intro vs o h;simp[setMany]
 |cons x r ih=>
  intro vs o h;rw[List.length_cons] at h;rw[setMany,ih _ _ (by simp;omega)];have h1:(vs.set o x).take (o+1)=vs.take o++[x]:=by
   rw[List.take_succ_eq_append_getElem (by simp;omega),List.getElem_set_self]
   congr 1
   apply List.ext_getElem?;intro j;rw[List.getElem?_take,List.getElem?_take]
   split
   ·rw[List.getElem?_set_ne (by omega)]
   ·rfl
  have h2:(vs.set o x).drop (o+1+r.length)=vs.drop (o+(r.length+1)):=by
   rw[List.drop_set_of_lt (by omega)]
   congr 1
   omega
  rw[h1,h2];simp
theorem run_appC {t t2 ty e:TypeId}{i n cap m:Nat}{vs xs:List AV}{x:AV}{cs cx:Value}(hc:Con L H T w)(hs:Rep L H.length T w (.csl i n cap) cs)(hx:Rep L H.length T w x cx)
  (hu:P.underlying t=some (.slice e)) (hH:H[i]?=some (.cells vs)) (hvs:vs.length=cap*P.cellsOf e) (hsrc:asrc H (P.cellsOf e) x=some (m,xs)) (hby:(n+m)*P.bytesOf e≤140737488355328) (hmax:n+m≤9223372036854775807)
  (hni:notInt P t2=true) (hzs:(azero P e).isSome=true) :
  (n+m≤cap∧∃cv w' L',(Builtin.append_ #[t,t2] ty #[cs,cx]).run P w=.ok cv w'∧Con L' (H.set i (.cells (vs.take (n*P.cellsOf e)++xs++vs.drop ((n+m)*P.cellsOf e)))) T w'∧
   Rep L' (H.set i (.cells (vs.take (n*P.cellsOf e)++xs++vs.drop ((n+m)*P.cellsOf e)))).length T w' (.csl i (n+m) cap) cv∧
   Ev H.length T.length L H.length T w L' (H.set i (.cells (vs.take (n*P.cellsOf e)++xs++vs.drop ((n+m)*P.cellsOf e)))).length T w')∨
  (cap<n+m∧∃nc,n+m≤nc∧∃cv w' L',(Builtin.append_ #[t,t2] ty #[cs,cx]).run P w=.ok cv w'∧Con L' (H++[.cells (vs.take (n*P.cellsOf e)++xs++List.replicate ((nc-(n+m))*P.cellsOf e) .top)]) T w'∧
   Rep L' (H++[Blk.cells (vs.take (n*P.cellsOf e)++xs++List.replicate ((nc-(n+m))*P.cellsOf e) .top)]).length T w' (.csl H.length (n+m) nc) cv∧
   Ev H.length T.length L H.length T w L' (H++[Blk.cells (vs.take (n*P.cellsOf e)++xs++List.replicate ((nc-(n+m))*P.cellsOf e) .top)]).length T w'):=by
 obtain⟨zs,hzs⟩:=Option.isSome_iff_exists.1 hzs;obtain⟨ti,z,hi,hzz,hzr,hzsz⟩:=azero_rep (L:=L) (N:=H.length) (T:=T) (w:=w) hzs;have hcz:P.cellsOf e=ti.size:=by simp[Program.cellsOf,hi]
 have hbb:P.bytesOf e=ti.bytes:=by simp[Program.bytesOf,hi]
 rw[hbb] at hby;obtain⟨new,hyl,hynew,hlen,hfirst⟩:=run_src (P:=P) hc hx hsrc;have hcd:Con L H T w.drew:=hc.drew rfl;have ed:Ev H.length T.length L H.length T w L H.length T w.drew:=Ev.drew rfl rfl rfl rfl (Nat.le_succ _);have kd:Keeps L H.length T w L H.length T w.drew:=ed.keeps;obtain⟨new',_,hynew',_,hfirst'⟩:=run_src (P:=P) hcd (hx.keep kd) hsrc;obtain⟨rfl,hcap,hil⟩:=hs.csl_inv;have hnz:n*P.cellsOf e≤vs.length:=by rw[hvs];exact Nat.mul_le_mul_right _ hcap
 have hsd:Rep L H.length T w.drew (.msl i 0 n) (.slice (some ⟨L.phi i,0,none⟩) n cap):=.msl i 0 n cap hil hcap;have hsold:asrc H (P.cellsOf e) (.msl i 0 n)=some (n,vs.take (n*P.cellsOf e)):=by simp[asrc,hH,hnz]
 obtain⟨old,_,hyold,_,hfold⟩:=run_src (P:=P) hcd hsd hsold;have h2:=run_append_two (P:=P) (w:=w) (ty:=ty) hu hni hi hzz (a:=some ⟨L.phi i,0,none⟩) (n:=n) (cap:=cap) (m:=m) hlen (hcz▸hfirst) (hcz▸hfirst') (hcz▸hfold) hby hmax;rw[←hcz] at h2;rcases Nat.lt_or_ge cap (n+m) with hlt|hle
 ·refine .inr ⟨hlt,?_⟩;obtain⟨nc,hnc,hrun⟩:=h2.2 hlt;have hzone:∀v∈(Builtin.zeroCells z.cells (nc-(n+m))).toList,v.oneCell'=true:=by
   intro v hv;obtain⟨j,hj,e1⟩:=List.mem_iff_getElem.1 (zeroCells_mem hv);rw[←e1];exact hzr.2.1 j hj
  have hzl:(Builtin.zeroCells z.cells (nc-(n+m))).toList.length=(nc-(n+m))*P.cellsOf e:=by
   rw[Array.length_toList,size_zeroCells,hzsz]
  have htops:=RepC.tops (L:=L) (N:=H.length) (T:=T) (w:=w.drew) _ hzone;rw[hzl] at htops;have hbox:RepC L H.length T w.drew (vs.take (n*P.cellsOf e)++xs++List.replicate ((nc-(n+m))*P.cellsOf e) .top) (old.toArray++new'.toArray++Builtin.zeroCells z.cells (nc-(n+m))).toList:=by
   have:=(hyold.append hynew').append htops;simpa using this
  obtain⟨L',g1,g2,g3⟩:=hcd.newBox _ e hbox;refine⟨nc,hnc,_,_,L',hrun,g1,?_,ed.trans g2⟩;have:=Rep.csl (L:=L') (T:=T) (w:=w.drew.alloc (.cells (old.toArray++new'.toArray++Builtin.zeroCells z.cells (nc-(n+m))) e)) H.length (n+m) nc
   (show H.length<(H++[Blk.cells (vs.take (n*P.cellsOf e)++xs++List.replicate ((nc-(n+m))*P.cellsOf e) .top)]).length by simp) hnc
  rw[g3] at this;exact this
 ·refine .inl ⟨hle,?_⟩;have hrun:=h2.1 hle;have hle2:n*P.cellsOf e+0+xs.length≤vs.length:=by
   rw[hvs,hyl,Nat.add_zero,←Nat.add_mul];exact Nat.mul_le_mul_right _ hle
  obtain⟨w',hst,hc2,hev⟩:=run_storeMany (P:=P) i (n*P.cellsOf e) xs new 0 H w vs hc hynew hH hle2;have hsm:setMany vs (n*P.cellsOf e+0) xs=vs.take (n*P.cellsOf e)++xs++vs.drop ((n+m)*P.cellsOf e):=by
   rw[setMany_eq _ _ _ (by simpa using hle2),hyl,Nat.add_zero,←Nat.add_mul]
  rw[hsm] at hc2 hev;refine⟨.slice (some ⟨L.phi i,0,none⟩) (n+m) cap,w',L,?_,hc2,?_,hev⟩
  ·rw[hrun];simp only[addr_add,Nat.zero_add,hst,Result.andThen_ok]
  ·exact .csl i (n+m) cap (by simpa using hil) hle
theorem run_appBoxC {t t2 ty e:TypeId}{s x:AV}{cs cx:Value}{m:Nat}{ys:List AV}(hc:Con L H T w)(h:aappBox P H t t2 s x=some (m,ys))(hu:P.underlying t=some (.slice e))(hs:Rep L H.length T w s cs)(hx:Rep L H.length T w x cx) :
  ∃nc,m≤nc∧∃cv w' L',(Builtin.append_ #[t,t2] ty #[cs,cx]).run P w=.ok cv w'∧Con L' (H++[.cells (ys++List.replicate ((nc-m)*P.cellsOf e) .top)]) T w'∧Rep L' (H++[Blk.cells (ys++List.replicate ((nc-m)*P.cellsOf e) .top)]).length T w' (.csl H.length m nc) cv∧
   Ev H.length T.length L H.length T w L' (H++[Blk.cells (ys++List.replicate ((nc-m)*P.cellsOf e) .top)]).length T w':=by
 unfold aappBox at h
 split at h
 ·rename_i e' hu';rw[hu] at hu'
  cases hu'
  split at h
  ·rename_i m' ys' hsrc
   split at h
   ·rename_i hb
    cases h
    obtain⟨hm,hz0,hby,hmax,hni,hzs⟩:=hb;obtain⟨zs,hzs⟩:=Option.isSome_iff_exists.1 hzs;obtain⟨i,z,hi,hzz,hzr,hzsz⟩:=azero_rep (L:=L) (N:=H.length) (T:=T) (w:=w) hzs;have hcz:P.cellsOf e=i.size:=by simp[Program.cellsOf,hi]
    have hbb:P.bytesOf e=i.bytes:=by simp[Program.bytesOf,hi]
    rw[hbb] at hby;obtain⟨new,hyl,hynew,hlen,hfirst⟩:=run_src (P:=P) hc hx hsrc;have hcd:Con L H T w.drew:=hc.drew rfl;have kd:Keeps L H.length T w L H.length T w.drew:=(Ev.drew (H:=H) (T:=T) (L:=L) (w:=w) (w':=w.drew) rfl rfl rfl rfl (Nat.le_succ _)).keeps;obtain⟨new',_,hynew',_,hfirst'⟩:=run_src (P:=P) hcd (hx.keep kd) hsrc;obtain⟨a,cap,rfl,hcap,htag,hcells⟩:=hs.sl_inv;have hsd:=hs.keep kd;have hsold:asrc H (P.cellsOf e) (.sl 0 [] .full)=some (0,[]):=by simp[asrc]
    obtain⟨old,_,hyold,_,hfold⟩:=run_src (P:=P) hcd hsd hsold;have hold:old=[]:=List.eq_nil_of_length_eq_zero (by rw[hyold.1];rfl);subst hold;have h2:=run_append_two (P:=P) (w:=w) (ty:=ty) hu hni hi hzz (a:=a) (n:=0) (cap:=cap) (m:=m) hlen (hcz▸hfirst) (hcz▸hfirst') (hcz▸hfold) (by simpa using hby) (by simpa using hmax);have hcap0:cap=0:=htag;obtain⟨nc,hnc,hrun⟩:=h2.2 (by omega);rw[Nat.zero_add] at hnc hrun;have hzone:∀v∈(Builtin.zeroCells z.cells (nc-m)).toList,v.oneCell'=true:=by
     intro v hv;obtain⟨j,hj,e1⟩:=List.mem_iff_getElem.1 (zeroCells_mem hv);rw[←e1];exact hzr.2.1 j hj
    have hzl:(Builtin.zeroCells z.cells (nc-m)).toList.length=(nc-m)*P.cellsOf e:=by
     rw[Array.length_toList,size_zeroCells,hzsz]
    have htops:=RepC.tops (L:=L) (N:=H.length) (T:=T) (w:=w.drew) _ hzone;rw[hzl] at htops;have hbox:RepC L H.length T w.drew (ys++List.replicate ((nc-m)*P.cellsOf e) .top) (([]:List Value).toArray++new'.toArray++Builtin.zeroCells z.cells (nc-m)).toList:=by
     have:=hynew'.append htops;simpa using this
    obtain⟨L',g1,g2,g3⟩:=hcd.newBox _ e hbox;have ed:Ev H.length T.length L H.length T w L H.length T w.drew:=Ev.drew rfl rfl rfl rfl (Nat.le_succ _);refine⟨nc,hnc,_,_,L',hrun,g1,?_,ed.trans g2⟩;have:=Rep.csl (L:=L') (T:=T) (w:=w.drew.alloc (.cells (([]:List Value).toArray++new'.toArray++Builtin.zeroCells z.cells (nc-m)) e)) H.length m nc
     (show H.length<(H++[Blk.cells (ys++List.replicate ((nc-m)*P.cellsOf e) .top)]).length by simp) hnc
    rw[g3] at this;exact this
   ·cases h
  ·cases h
 ·cases h
end
@[simp] def KC.av:KC→AV
 |.int k n=>.int k n
 |.str s=>.str s
 |.bool b=>.bool b
@[simp] def MKey.av:MKey→AV
 |.one c=>c.av
 |.agg cs=>.agg (cs.map KC.av)
@[simp] def kcAV:AV→Option KC
 |.int k n=>some (.int k n)
 |.str s=>some (.str s)
 |.bool b=>some (.bool b)
 |_=>none
@[simp] def kcsAV:List AV→Option (List KC)
 |[]=>some []
 |v::r=>match kcAV v,kcsAV r with
  |some c,some cs=>some (c::cs)
  |_,_=>none
@[simp] def keyAV:AV→Option MKey
 |.agg cs=>(kcsAV cs).map .agg
 |v=>(kcAV v).map .one
@[simp] def mget:List (MKey×AV)→MKey→Option AV
 |[],_=>none
 |(k',v)::r,k=>if k'=k then some v else mget r k
@[simp] def mput:List (MKey×AV)→MKey→AV→List (MKey×AV)
 |[],k,v=>[(k,v)]
 |(k',u)::r,k,v=>if k'=k then (k,v)::r else (k',u)::mput r k v
def lookV (es:List (MKey×AV))(k:MKey)(z:AV)(ok:Bool):AV:=
 if ok then .tup [(mget es k).getD z,.bool (mget es k).isSome] else (mget es k).getD z
def keyT (P:Program)(k:TypeId):Bool:=
 match P.underlying k with
 |some .bool|some (.int _)|some .string=>true
 |some (.array _ _)|some (.struct _)=>P.keyTypeAt 3 k&&P.tiled 3 k
 |_=>false
def mapT (P:Program)(t:TypeId):Option (TypeId×TypeId):=
 match P.underlying t with
 |some (.map k e)=>if keyT P k then some (k,e) else none
 |_=>none
def fitsB (P:Program)(kt:TypeId)(k:MKey):Bool:=(keyOf P kt k.val).isSome
def keysFit (P:Program)(kt:TypeId)(es:List (MKey×AV)):Bool:=es.all fun e=>fitsB P kt e.1
def azeroV (P:Program)(t:TypeId):Option AV:=(P.info? t).bind fun i=>i.zero.map ofC
theorem keysFit_put {P:Program}{kt:TypeId}{es:List (MKey×AV)}{k:MKey}{v:AV}(h:keysFit P kt es=true)(hk:fitsB P kt k=true):keysFit P kt (mput es k v)=true:=by
 induction es with
 |nil=>simp[keysFit,hk]
 |cons x r ih=>
  obtain⟨k',u⟩:=x;simp only[keysFit,List.all_cons,Bool.and_eq_true] at h ih ⊢;simp only[mput]
  split
  ·simp only[List.all_cons,Bool.and_eq_true];exact⟨hk,h.2⟩
  ·simp only[List.all_cons,Bool.and_eq_true];exact⟨h.1,ih h.2⟩
theorem mget_none {es:List (MKey×AV)}{k:MKey}(h:∀e∈es,e.1≠k):mget es k=none:=by
 induction es with
 |nil=>rfl
 |cons x r ih=>simp only[mget,if_neg (h x (by simp))];exact ih fun e he=>h e (by simp[he])
theorem mput_none {es:List (MKey×AV)}{k:MKey}{v:AV}(h:∀e∈es,e.1≠k):mput es k v=es++[(k,v)]:=by
 induction es with
 |nil=>rfl
 |cons x r ih=>
  simp only[mput,if_neg (h x (by simp)),List.cons_append];rw[ih fun e he=>h e (by simp[he])]
theorem mget_at {es:List (MKey×AV)}{k:MKey}(hn:(es.map (·.1)).Nodup):∀{j:Nat} (hj:j<es.length),(es[j]).1=k→mget es k=some (es[j]).2:=by
 induction es with
 |nil=>intro j hj;simp at hj
 |cons x r ih=>
  intro j hj he;simp only[List.map_cons,List.nodup_cons] at hn
  cases j with
  |zero=>simp only[List.getElem_cons_zero] at he ⊢;simp[mget,he]
  |succ j=>
   simp only[List.getElem_cons_succ] at he ⊢;have:x.1≠k:=fun e=>hn.1 (by rw[e,←he];exact List.mem_map.2 ⟨_,List.getElem_mem _,rfl⟩);simp only[mget,if_neg this];exact ih hn.2 _ he
theorem mput_at {es:List (MKey×AV)}{k:MKey}{v:AV}(hn:(es.map (·.1)).Nodup):∀{j:Nat} (hj:j<es.length),(es[j]).1=k→mput es k v=es.set j (k,v):=by
 induction es with
 |nil=>intro j hj;simp at hj
 |cons x r ih=>
  intro j hj he;simp only[List.map_cons,List.nodup_cons] at hn
  cases j with
  |zero=>simp only[List.getElem_cons_zero] at he;simp[mput,he]
  |succ j=>
   simp only[List.getElem_cons_succ] at he;have:x.1≠k:=fun e=>hn.1 (by rw[e,←he];exact List.mem_map.2 ⟨_,List.getElem_mem _,rfl⟩);simp only[mput,if_neg this,List.set_cons_succ];rw[ih hn.2 _ he]
theorem KC.val_inj {a b:KC}(h:a.val=b.val):a=b:=by
 cases a<;>cases b<;>simp[KC.val] at h<;>simp_all
theorem kcs_inj:∀{a b:List KC},a.map KC.val=b.map KC.val→a=b
 |[],[],_=>rfl
 |[],_::_,h=>by simp at h
 |_::_,[],h=>by simp at h
 |x::r,y::s,h=>by
  simp only[List.map_cons,List.cons.injEq] at h;rw[KC.val_inj h.1,kcs_inj h.2]
theorem MKey.val_inj {a b:MKey}(h:a.val=b.val):a=b:=by
 cases a with
 |one a=>cases b with
  |one b=>rw[KC.val_inj (a:=a) (b:=b) (by simpa[MKey.val] using h)]
  |agg b=>cases a<;>simp[MKey.val,KC.val] at h
 |agg a=>cases b with
  |one b=>cases b<;>simp[MKey.val,KC.val] at h
  |agg b=>simp only[MKey.val,Value.agg.injEq] at h;rw[kcs_inj (a:=a) (b:=b) (by simpa using congrArg Array.toList h)]
section
variable {P : Program} {L : Lay} {H : List Blk} {T : Toks} {w : World}
theorem KC.rep {N:Nat}(k:KC):Rep L N T w k.av k.val:=by
 cases k with
 |int k n=>exact .int _ _
 |str s=>exact .str _
 |bool b=>exact .bool _
theorem MKey.rep {N:Nat}(k:MKey):Rep L N T w k.av k.val:=by
 cases k with
 |one c=>exact c.rep
 |agg cs=>
  refine .agg _ _ (by simp) (fun j hj=>?_) (fun j hj hj'=>?_)
  ·simp only[List.getElem_toArray,List.getElem_map];generalize cs[j]'_=c
   cases c<;>rfl
  ·simp only[List.getElem_toArray,List.getElem_map];exact KC.rep _
theorem kcAV_val {N:Nat}{v:AV}{c:Value}{k:KC}(h:kcAV v=some k)(hr:Rep L N T w v c):c=k.val:=by
 cases v<;>simp only[kcAV,reduceCtorEq,Option.some.injEq] at h<;>subst h
 ·rw[hr.bool_inv];rfl
 ·rw[hr.int_inv];rfl
 ·rw[hr.str_inv];rfl
theorem kcsAV_val {N:Nat}:∀{vs:List AV} {cs:List Value} {ks:List KC},kcsAV vs=some ks→cs.length=vs.length→(∀(j:Nat)(h:j<vs.length)(h':j<cs.length),Rep L N T w (vs[j]'h) (cs[j]'h'))→cs=ks.map KC.val
 |[],cs,ks,h,hl,_=>by
  have:cs=[]:=List.eq_nil_of_length_eq_zero (by simpa using hl);simp only[kcsAV,Option.some.injEq] at h;subst h;rw[this];rfl
 |v::vs,c::cs,ks,h,hl,hr=>by
  simp only[kcsAV] at h
  split at h
  ·rename_i k ks' h1 h2
   cases h
   have h0:=hr 0 (by simp) (by simp);simp only[List.getElem_cons_zero] at h0;have:=kcsAV_val (cs:=cs) h2 (by simpa using hl) (fun j hj hj'=>by have:=hr (j+1) (by simpa using hj) (by simpa using hj');simpa using this);rw[this,kcAV_val h1 h0];rfl
  ·cases h
theorem keyAV_val {N:Nat}{v:AV}{c:Value}{k:MKey}(h:keyAV v=some k)(hr:Rep L N T w v c):c=k.val:=by
 unfold keyAV at h
 split at h
 ·rename_i cs;obtain⟨ks,h1,rfl⟩:=Option.map_eq_some_iff.1 h
  cases hr with
  |agg _ cv h2 h3 h4=>
   have:=kcsAV_val (cs:=cv.toList) h1 (by simpa using h2) (fun j hj hj'=>by simpa using h4 j hj (by simpa using hj'));show Value.agg cv=.agg (ks.map KC.val).toArray;rw[←this]
 ·obtain⟨c',h1,rfl⟩:=Option.map_eq_some_iff.1 h;exact kcAV_val h1 hr
theorem keyT_keyed {k:TypeId}(h:keyT P k=true):Maps.Keyed P k:=by
 unfold keyT at h
 split at h
 ·rename_i hu;exact Maps.bool_keyed hu
 ·rename_i hu;exact Maps.int_keyed hu
 ·rename_i hu;exact Maps.string_keyed hu
 ·rename_i hu;simp only[Bool.and_eq_true] at h;exact Maps.Keyed.of_law (deep_law (m:=3) (by omega) h.1 h.2 (by simp[hu]))
 ·rename_i hu;simp only[Bool.and_eq_true] at h;exact Maps.Keyed.of_law (deep_law (m:=3) (by omega) h.1 h.2 (by simp[hu]))
 ·cases h
theorem mapT_inv {t kt el:TypeId}(h:mapT P t=some (kt,el)):P.underlying t=some (.map kt el)∧Maps.Keyed P kt:=by
 unfold mapT at h
 split at h
 ·rename_i k e hu
  split at h
  ·rename_i hk
   cases h
   exact⟨hu,keyT_keyed hk⟩
  ·cases h
 ·cases h
theorem azeroV_run {t:TypeId}{z:AV}{N:Nat}(h:azeroV P t=some z):∃c,(zeroValue t).run P w=.ok c w∧Rep L N T w z c:=by
 unfold azeroV at h;obtain⟨i,hi,h2⟩:=Option.bind_eq_some_iff.1 h;obtain⟨c,hc,rfl⟩:=Option.map_eq_some_iff.1 h2;exact⟨c,run_zero hi hc w,.ofC c⟩
theorem Rep.mref_inv {N:Nat}{i:Nat}{c:Value}(h:Rep L N T w (.mref i) c):c=.map (some (L.phi i))∧i<N:=by cases h;exact⟨rfl,‹_›⟩
theorem Con.setBlk {w':World}(h:Con L H T w){i:Nat}{b b':Blk}(hi:H[i]?=some b)(hm:L.m (L.phi i)=0)(hne:∀x,x≠L.phi i→w'.heap[x]?=w.heap[x]?)(hz:w'.heap.size=w.heap.size)
  (ho:w'.os=w.os) (hta:w'.tape=w.tape) (hout:w'.output=w.output) (hdr:w.drawn≤w'.drawn) (hb':Keeps L H.length T w L H.length T w'→BoxOk L H.length T w' i b') :
  Con L (H.set i b') T w'∧Ev H.length T.length L H.length T w L (H.set i b').length T w':=by
 have hil:=(List.getElem?_eq_some_iff.1 hi).1;have hcom:∀b o',o'<L.m b→w'.cell? ⟨b,o',none⟩=w.cell? ⟨b,o',none⟩:=by
  intro b o' hlt;refine cell_heap (hne _ ?_) o';rintro rfl;omega
 have kp:Keeps L H.length T w L H.length T w':=
  ⟨Nat.le_refl _,fun _ _=>rfl,fun t u z h=>⟨u,h,Nat.le_refl _,fun _=>rfl⟩,fun _=>Nat.le_refl _,hcom,rfl⟩
 refine⟨⟨fun j b hb=>?_,fun a b ha hb=>h.inj a b (by simpa using ha) (by simpa using hb),fun t u z ht=>?_,h.tinj,fun t u z j ht hs hj=>h.tbox t u z j ht hs (by simpa using hj),fun b hb=>h.mz b (by omega),h.gl.keep kp.m kp.com⟩,
  by simp,fun _ _=>rfl,fun t u z _ h=>⟨u,h,Nat.le_refl _,fun _=>rfl⟩,Nat.le_refl _,fun _=>Nat.le_refl _,hcom,by omega,fun b hb hn=>?_,fun b hb=>.inl (by simpa using hb),ho,hta,hout,fun _=>hdr,rfl⟩
 ·rw[List.length_set]
  by_cases hji:i=j
  ·subst hji;rw[List.getElem?_set_self hil] at hb
   cases hb
   exact hb' kp
  ·rw[List.getElem?_set_ne hji] at hb;have hjl:=(List.getElem?_eq_some_iff.1 hb).1;exact(h.box j b hb).stay kp hjl (hne _ fun e=>hji (h.inj j i hjl hil e).symm) id
 ·obtain⟨k1,k2⟩:=h.tok t u z ht;refine⟨k1,fun hs=>?_⟩;rw[hne _ (h.tbox t u z i ht hs hil)];exact k2 hs
 ·exact hne _ (fun e=>hn (.inl ⟨i,hil,e.symm⟩))
theorem Con.newBlk (h:Con L H T w)(o:Obj)(b:Blk)(hb:∀L',Keeps L H.length T w L' (H.length+1) T (w.alloc o)→L'.phi H.length=w.heap.size→L'.m w.heap.size=0→BoxOk L' (H.length+1) T (w.alloc o) H.length b) :
  ∃L',Con L' (H++[b]) T (w.alloc o)∧Ev H.length T.length L H.length T w L' (H++[b]).length T (w.alloc o)∧L'.phi H.length=w.heap.size:=by
 have h1:=h.alloc o 0;have e1:=Ev.alloc h o 0;have hnw:¬Wr (L.commit w.heap.size 0) H.length T w.heap.size:=h.not_wr (Nat.le_refl _);have e2:=Ev.addBox (b:=w.heap.size) b e1 (Nat.le_refl _);have hphi:((L.commit w.heap.size 0).withBox H.length w.heap.size).phi H.length=w.heap.size:=by simp[Lay.withBox]
 have kp:=e2.keeps;have hl:(H++[b]).length=H.length+1:=by simp
 rw[hl] at kp;exact⟨(L.commit w.heap.size 0).withBox H.length w.heap.size,h1.addBox w.heap.size hnw b (fun hle=>by simp at hle;omega) (hb _ kp hphi (by simp[Lay.withBox,Lay.commit])),e2,hphi⟩
theorem run_makeMap (hc:Con L H T w)(t:TypeId):∃cv w' L',(Instr.makeMap t none).run P w=.ok cv w'∧Con L' (H++[.map []]) T w'∧Rep L' (H++[Blk.map []]).length T w' (.mref H.length) cv∧Ev H.length T.length L H.length T w L' (H++[Blk.map []]).length T w':=by
 obtain⟨L',h1,h2,h3⟩:=hc.newBlk (.map #[] 0) (.map []) (fun L' kp hp hm=>⟨#[],by rw[hp];exact heap_alloc_at w _,rfl,fun j hj=>by simp at hj,by simp,by rw[hp];exact hm⟩);refine⟨.map (some w.heap.size),_,L',rfl,h1,?_,h2⟩;rw[←h3];exact .mref _ (by simp)
theorem run_find (kt:TypeId)(K:Maps.Keyed P kt){N:Nat}{es:List (MKey×AV)}{ents:Array MapEntry}{k:MKey}(hsz:ents.size=es.length)
  (hr:∀(j:Nat)(h:j<es.length)(h':j<ents.size),(ents[j]'h').key=(es[j]'h).1.val∧(ents[j]'h').born=j∧Rep L N T w (es[j]'h).2 (ents[j]'h').val) (hk:fitsB P kt k=true) (hes:keysFit P kt es=true) :
  ((Instr.findKey kt k.val ents.toList).run P w=.ok none w∧∀e∈es,e.1≠k)∨∃(j:Nat) (h:j<es.length) (h':j<ents.size),(Instr.findKey kt k.val ents.toList).run P w=.ok (some (j,(ents[j]'h').val)) w∧(es[j]'h).1=k:=by
 obtain⟨l,hl⟩:=Option.isSome_iff_exists.1 hk;have hall:∀e∈ents.toList,∃l,keyOf P kt e.key=some l:=by
  intro e he;obtain⟨j,hj,rfl⟩:=List.mem_iff_getElem.1 he;have hj':j<ents.size:=by simpa using hj
  have hj2:j<es.length:=by omega
  have:=(hr j hj2 hj').1;rw[Array.getElem_toList,this];have h2:=List.all_eq_true.1 hes _ (List.getElem_mem hj2);exact Option.isSome_iff_exists.1 h2
 rcases K.find w hl ents.toList hall with⟨h1,h2⟩|⟨j,e,h1,h2,h3⟩
 ·refine .inl ⟨h1,fun e he hek=>?_⟩;obtain⟨j,hj,rfl⟩:=List.mem_iff_getElem.1 he;have hj':j<ents.size:=by omega
  refine h2 ents[j] (by simp) ?_;rw[(hr j hj hj').1,hek]
 ·obtain⟨hj,rfl⟩:=List.getElem?_eq_some_iff.1 h2;have hj':j<ents.size:=by simpa using hj
  have hj2:j<es.length:=by omega
  rw[Array.getElem_toList] at h1 h3;exact .inr ⟨j,hj2,hj',h1,MKey.val_inj (by rw[←(hr j hj2 hj').1];exact h3)⟩
theorem run_lookup (hc:Con L H T w){t kt el:TypeId}{m:Nat}{es:List (MKey×AV)}{k:MKey}{z:AV}(ok:Bool)(hT:mapT P t=some (kt,el))(hi:H[m]?=some (.map es))(hz:azeroV P el=some z)
  (hk:fitsB P kt k=true) (hes:keysFit P kt es=true):∃cv,(Instr.lookup t (.map (some (L.phi m))) k.val ok).run P w=.ok cv w∧Rep L H.length T w (lookV es k z ok) cv:=by
 obtain⟨hu,K⟩:=mapT_inv hT;obtain⟨ents,g1,g2,g3,g4,_⟩:=hc.box m _ hi;obtain⟨l,hl⟩:=Option.isSome_iff_exists.1 hk;have fin:∀(v:AV)(c:Value)(b:Bool),Rep L H.length T w v c→Rep L H.length T w (if ok then .tup [v,.bool b] else v) (if ok then .tuple #[c,.bool b] else c):=by
  intro v c b hv
  cases ok
  ·exact hv
  ·refine .tup _ _ rfl (fun j hj hj'=>?_)
   match j,hj with
   |0,_=>exact hv
   |1,_=>exact .bool _
 rcases run_find kt K g2 g3 hk hes with⟨h1,h2⟩|⟨j,hj,hj',h1,h2⟩
 ·obtain⟨c,c1,c2⟩:=azeroV_run (P:=P) (L:=L) (N:=H.length) (T:=T) (w:=w) hz;refine⟨if ok then .tuple #[c,.bool false] else c,?_,?_⟩
  ·simp only[Instr.lookup,Sem.run_bind,run_underlying hu,Result.andThen_ok,MapKept.run_getObj_map g1,K.check w _ hl,h1,c1,Sem.run_pure]
  ·have:=fin z c false c2;simpa only[lookV,mget_none h2,Option.getD_none,Option.isSome_none] using this
 ·refine⟨if ok then .tuple #[ents[j].val,.bool true] else ents[j].val,?_,?_⟩
  ·simp only[Instr.lookup,Sem.run_bind,run_underlying hu,Result.andThen_ok,MapKept.run_getObj_map g1,K.check w _ hl,h1,Sem.run_pure]
  ·have:=fin _ _ true (g3 j hj hj').2.2;simpa only[lookV,mget_at g4 hj h2,Option.getD_some,Option.isSome_some] using this
theorem run_mapUpdate (hc:Con L H T w){t kt el:TypeId}{m:Nat}{es:List (MKey×AV)}{k:MKey}{v:AV}{c:Value}(hT:mapT P t=some (kt,el))(hi:H[m]?=some (.map es))(hv:Rep L H.length T w v c)
  (hk:fitsB P kt k=true) (hes:keysFit P kt es=true):∃w',(Instr.mapUpdate t (.map (some (L.phi m))) k.val c).run P w=.ok () w'∧Con L (H.set m (.map (mput es k v))) T w'∧Ev H.length T.length L H.length T w L (H.set m (.map (mput es k v))).length T w':=by
 obtain⟨hu,K⟩:=mapT_inv hT;obtain⟨ents,g1,g2,g3,g4,g5⟩:=hc.box m _ hi;obtain⟨l,hl⟩:=Option.isSome_iff_exists.1 hk;have hml:=(List.getElem?_eq_some_iff.1 hi).1;have hlt:=hc.phi_lt hml;have put:∀(o:Obj),(Keeps L H.length T w L H.length T { w with heap:=w.heap.setIfInBounds (L.phi m) o }→BoxOk L H.length T { w with heap:=w.heap.setIfInBounds (L.phi m) o } m (.map (mput es k v)))→
   Con L (H.set m (.map (mput es k v))) T { w with heap:=w.heap.setIfInBounds (L.phi m) o }∧Ev H.length T.length L H.length T w L (H.set m (.map (mput es k v))).length T { w with heap:=w.heap.setIfInBounds (L.phi m) o }:=fun o hb=>
  hc.setBlk hi g5 (fun x hx=>Array.getElem?_setIfInBounds_ne (fun e=>hx e.symm)) (by simp) rfl rfl rfl (Nat.le_refl _) hb
 have new:∀o:Obj,(w.heap.setIfInBounds (L.phi m) o)[L.phi m]?=some o:=fun o=>by simp[hlt]
 rcases run_find kt K g2 g3 hk hes with⟨h1,h2⟩|⟨j,hj,hj',h1,h2⟩
 ·refine⟨_,?_,put (.map (ents.push { key:=k.val,val:=c,born:=es.length }) (es.length+1)) fun kp=>?_⟩
  ·simp only[Instr.mapUpdate,Sem.run_bind,run_underlying hu,Result.andThen_ok,MapKept.run_getObj_map g1,K.check w _ hl,h1,MapKept.run_setObj_map _ g1]
  ·have e:=mput_none (v:=v) h2;refine⟨ents.push { key:=k.val,val:=c,born:=es.length },by rw[new,e];simp,by rw[e];simp[g2],fun j hj hj'=>?_,?_,g5⟩
   ·rcases Nat.lt_or_ge j es.length with hjl|hjl
    ·have hje:j<ents.size:=by omega
     have:=g3 j hjl hje;simp only[e,List.getElem_append_left hjl,Array.getElem_push_lt hje];exact⟨this.1,this.2.1,this.2.2.keep kp⟩
    ·have:j=es.length:=by simp[e] at hj;omega
     subst this;have e2:(ents.push { key:=k.val,val:=c,born:=es.length })[es.length]'hj'={ key:=k.val,val:=c,born:=es.length }:=by simp[←g2]
     simp only[e,e2,List.getElem_append_right (Nat.le_refl _),Nat.sub_self,List.getElem_cons_zero];exact⟨trivial,trivial,hv.keep kp⟩
   ·rw[e,List.map_append,List.nodup_append];refine⟨g4,by simp,fun a ha b hb=>?_⟩;obtain⟨x,hx,rfl⟩:=List.mem_map.1 ha;simp at hb;rw[hb];exact h2 x hx
 ·have hkey:=(g3 j hj hj').1;rw[h2] at hkey;have hst:(Instr.keyThatStays k.val k.val).run P w=.ok k.val w:=K.stays w hl;refine⟨_,?_,put (.map (ents.modify j fun e=>{ e with key:=k.val,val:=c }) es.length) fun kp=>?_⟩
  ·have e0:((ents[j]?.map (·.key)).getD k.val)=k.val:=by rw[Array.getElem?_eq_getElem hj'];exact hkey
   simp only[Instr.mapUpdate,Sem.run_bind,run_underlying hu,Result.andThen_ok,MapKept.run_getObj_map g1,K.check w _ hl,h1,e0,hst,MapKept.run_setObj_map _ g1]
  ·have e:=mput_at (v:=v) g4 hj h2;refine⟨ents.modify j fun e=>{ e with key:=k.val,val:=c },by rw[new,e];simp,by rw[e];simp[g2],fun i hi' hi2=>?_,?_,g5⟩
   ·have hil:i<es.length:=by simpa[e] using hi'
    have hie:i<ents.size:=by omega
    have:=g3 i hil hie;simp only[e,Array.getElem_modify,List.getElem_set]
    by_cases hij:j=i
    ·subst hij;simp only[if_true];exact⟨trivial,this.2.1,hv.keep kp⟩
    ·simp only[if_neg hij];exact⟨this.1,this.2.1,this.2.2.keep kp⟩
   ·rw[e,List.map_set];have:(es.map (·.1)).set j k=es.map (·.1):=by
     apply List.ext_getElem (by simp);intro i h3 h4;rw[List.getElem_set]
     split
     ·rename_i hij;subst hij;simp[h2]
     ·rfl
    rw[this];exact g4
theorem run_mrange (hc:Con L H T w){t kt el:TypeId}{m:Nat}{es:List (MKey×AV)}(hT:mapT P t=some (kt,el))(hi:H[m]?=some (.map es)) :
  ∃cv w' L',(Instr.range t (.map (some (L.phi m)))).run P w=.ok cv w'∧Con L' (H++[.mit m es.length []]) T w'∧Rep L' (H++[Blk.mit m es.length []]).length T w' (.ptr H.length 0) cv∧Ev H.length T.length L H.length T w L' (H++[Blk.mit m es.length []]).length T w':=by
 obtain⟨hu,K⟩:=mapT_inv hT;obtain⟨ents,g1,g2,g3,g4,g5⟩:=hc.box m _ hi;have hml:=(List.getElem?_eq_some_iff.1 hi).1;obtain⟨L',h1,h2,h3⟩:=hc.newBlk (.mapIter (some (L.phi m)) es.length #[] es.length) (.mit m es.length [])
  (fun L' kp hp hm=>⟨by rw[hp,kp.phi m hml];exact heap_alloc_at w _,hml,by rw[hp];exact hm⟩)
 refine⟨.pointer (some ⟨w.heap.size,0,none⟩),_,L',run_range_map w t kt el _ ents es.length hu g1,h1,?_,h2⟩;rw[←h3];exact .ptr _ _ (by simp)
theorem run_mnext (hc:Con L H T w)(ty:TypeId){i m:Nat}{es:List (MKey×AV)}{seen:List Nat}(hi:H[i]?=some (.mit m es.length seen))(hm:H[m]?=some (.map es)) :
  ((∀j,j<es.length→j∈seen)∧(Instr.next (.pointer (some ⟨L.phi i,0,none⟩)) false ty).run P w=.ok (.tuple #[.bool false]) w)∨
  ∃(j:Nat) (hj:j<es.length) (cv:Value) (w':World),j∉seen∧(Instr.next (.pointer (some ⟨L.phi i,0,none⟩)) false ty).run P w=.ok cv w'∧Con L (H.set i (.mit m es.length (seen++[j]))) T w'∧
   Rep L (H.set i (.mit m es.length (seen++[j]))).length T w' (.tup [.bool true,(es[j]).1.av,(es[j]).2]) cv∧Ev H.length T.length L H.length T w L (H.set i (.mit m es.length (seen++[j]))).length T w':=by
 obtain⟨ents,g1,g2,g3,g4,g5⟩:=hc.box m _ hm;obtain⟨k1,k2,k3⟩:=hc.box i _ hi;have hil:=(List.getElem?_eq_some_iff.1 hi).1;have hlt:=hc.phi_lt hil;have born:∀x∈ents.toList,x.born<es.length:=by
  intro x hx;obtain⟨j,hj,rfl⟩:=List.mem_iff_getElem.1 hx;have hj':j<ents.size:=by simpa using hj
  rw[Array.getElem_toList,(g3 j (by omega) hj').2.1];omega
 rcases run_next_at (P:=P) w ty (L.phi i) (L.phi m) es.length es.length seen.toArray ents es.length k1 g1 born (Nat.le_refl _) with⟨h1,h2⟩|⟨e,he,w1,hw,h2⟩
 ·refine .inl ⟨fun j hj=>?_,h2⟩;have hj':j<ents.size:=by omega
  have h0:leftOf ents seen.toArray=#[]:=Array.eq_empty_of_size_eq_zero h1;unfold leftOf at h0;rw[Array.filter_eq_empty_iff] at h0;have:=h0 ents[j] (by simp);rw[(g3 j hj hj').2.1] at this;simpa using this
 ·unfold leftOf at he;simp only[Array.toList_filter,List.mem_filter] at he;obtain⟨hem,hes⟩:=he;obtain⟨j,hj,rfl⟩:=List.mem_iff_getElem.1 hem;have hj':j<ents.size:=by simpa using hj
  have hjl:j<es.length:=by omega
  obtain⟨b1,b2,b3⟩:=g3 j hjl hj';simp only[Array.getElem_toList] at h2 hes;rw[b2] at h2 hes;have hns:j∉seen:=by simpa using hes
  have hh:w1.heap=w.heap:=by rcases hw with rfl|rfl<;>rfl
  have ho:w1.os=w.os∧w1.tape=w.tape∧w1.output=w.output∧w.drawn≤w1.drawn:=by rcases hw with rfl|rfl<;>exact⟨rfl,rfl,rfl,by first|exact Nat.le_refl _|exact Nat.le_succ _⟩
  have hb:∀o:Obj,(ChangeMaps.setBlock w1 (L.phi i) o).heap=w.heap.setIfInBounds (L.phi i) o:=fun o=>by simp[ChangeMaps.setBlock,hh]
  obtain⟨c1,c2⟩:=hc.setBlk (w':=ChangeMaps.setBlock w1 (L.phi i) (.mapIter (some (L.phi m)) es.length (seen.toArray.push j) es.length)) (b':=.mit m es.length (seen++[j])) hi k3
   (fun x hx=>by rw[hb];exact Array.getElem?_setIfInBounds_ne (fun e=>hx e.symm)) (by rw[hb];simp) ho.1 ho.2.1 ho.2.2.1 ho.2.2.2 (fun kp=>⟨by rw[hb];simp[hlt],k2,k3⟩)
  refine .inr ⟨j,hjl,_,_,hns,h2,c1,?_,c2⟩;refine .tup _ _ rfl (fun j' hj1 hj2=>?_)
  match j',hj1 with
  |0,_=>exact .bool _
  |1,_=>simp only[List.getElem_toArray,List.getElem_cons_succ,List.getElem_cons_zero,b1];exact MKey.rep _
  |2,_=>
   have:=b3.keep (by simpa using c2.keeps);simpa using this
theorem run_mentry (hc:Con L H T w){i m j:Nat}{es:List (MKey×AV)}{seen:List Nat}(hi:H[i]?=some (.mit m es.length (seen++[j])))(hm:H[m]?=some (.map es))(hj:j<es.length) :
  ∃cv,(Instr.entry (.pointer (some ⟨L.phi i,0,none⟩))).run P w=.ok cv w∧Rep L H.length T w (.tup [(es[j]).1.av,(es[j]).2]) cv:=by
 obtain⟨ents,g1,g2,g3,g4,g5⟩:=hc.box m _ hm;obtain⟨k1,k2,k3⟩:=hc.box i _ hi;have hj':j<ents.size:=by omega
 obtain⟨b1,b2,b3⟩:=g3 j hj hj';have hn:(ents.toList.map (·.born)).Nodup:=by
  have:ents.toList.map (·.born)=List.range ents.size:=by
   apply List.ext_getElem (by simp);intro x h1 h2;simp only[List.getElem_map,Array.getElem_toList,List.getElem_range];exact(g3 x (by simp at h1;omega) (by simpa using h1)).2.1
  rw[this];exact List.nodup_range
 refine⟨_,run_entry_at (P:=P) w (L.phi i) (L.phi m) es.length seen.toArray ents es.length ents[j] (by rw[b2,k1];simp) g1 (by simp) hn,?_⟩;refine .tup _ _ rfl (fun j' hj1 hj2=>?_)
 match j',hj1 with
 |0,_=>simp only[List.getElem_toArray,List.getElem_cons_zero,b1];exact MKey.rep _
 |1,_=>exact b3
end
end Go.Am
