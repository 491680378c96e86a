/- The abstract machine: abstract values, their representation in a world of the model, and the evolution of worlds. Rules for the structured code over abstract states: sequence, condition, block, loop, region, region that draws its order; contracts of calls. Steps of the world that keep what is represented: a new row, a new box, a new token, a store into a box. Steps of the world that keep what is represented, continued: a store into a box; a row that grows in place or anew. Operations that neither read nor write memory, over abstract values, and that they are what the model does. Operations that read memory or make new variables, over abstract values, and that they are what the model does. Indexing, slicing, fields, conversions and making of values, over abstract values; they are what the model does. Conversions, composite values, new slices, and append, over abstract values; they are what the model does. Composite values, make, append, iterators over strings; they are what the model does. make, append, iterators over strings; they are what the model does. Maps over abstract values: their keys, and the operations on them; they are what the model does.
  Conditions: as the theorems say. -/
import Derived.WalkKit
import Derived.Orders
import Derived.KernelRfl
import Derived.ChangeKeysEq
import Derived.Maps.RangeRun
import Derived.Maps.Keyed
set_option linter.all false
open Nat (add_mul add_assoc)
open List (getElem_set mapM_cons all_cons)
def ahs:=@List.getD_eq_getElem?_getD
def aht:=@List.getElem?_eq_some_iff
def ahu:=@List.getElem?_eq_getElem
def ahv:=@Nat.le_refl
def ahw:=@List.length_append
def ahx:=@decide_eq_true
def ahy:=@decide_eq_false
def ahz:=@List.mem_map
def ahA:=@Nat.le_trans
def ahB:=@List.getElem?_append_left
def ahC:=@if_neg
def ahD:=@Nat.lt_or_ge
def ahE:=@Nat.zero_le
def ahF:=@if_pos
def ahG:=@Bool.and_eq_true
def ahH:=@decide_eq_true_eq
def ahI:=@List.mem_append
def ahJ:=@List.map_append
def ahK:=@List.flatMap_cons
def ahL:=@List.length_map
def ahM:=@List.append_assoc
def ahN:=@List.mem_iff_getElem
def ahO:=@List.take_length
def ahP:=@List.getElem?_append_right
def ahQ:=@List.getElem?_toArray
def ahR:=@List.mem_append_left
def ahS:=@List.append_nil
def ahT:=@Nat.not_lt_zero
def ahU:=@List.mem_filter
def ahV:=@List.mem_range
def ahW:=@List.length_take
def ahX:=@List.length_filter_le
def ahY:=@List.length_cons
def ahZ:=@List.getElem?_set_self
def ah0:=@Nat.eq_zero_or_pos
def ah1:=@List.take_append_drop
def ah2:=@List.getElem_mem
def ah3:=@List.all_eq_true
def ah4:=@List.mem_cons
def ah5:=@List.eq_nil_of_length_eq_zero
def ah6:=@List.pairwise_iff_getElem
def ah7:=@List.mem_flatMap
def ah8:=@beq_eq_false_iff_ne
def ah9:=@List.length_eq_zero_iff
def aia:=@Option.isSome_iff_exists
def aib:=@List.map_congr_left
def aic:=@List.mem_singleton
def aid:=@List.flatMap_append
def aie:=@List.pairwise_map
def aif:=@List.nodup_append
def aih:=@List.map_cons
def aii:=@List.length_drop
def aij:=@List.filter_append
def aik:=@List.perm_append_singleton
def ail:=@List.getElem?_set_ne
def aim:=@List.getElem?_take
def ain:=@List.length_singleton
def aio:=@Bool.true_and
def aip:=@List.getElem_map
def aiq:=@Bool.or_eq_true
def air:=@Nat.le_succ
def ais:=@List.length_nil
def ait:=@List.pairwise_cons
def aiu:=@Bool.false_eq_true
def aiv:=@Array.getElem_toList
def aiw:=@List.sublist_cons_self
def aix:=@List.getElem_cons_zero
def aiy:=@List.take_left'
def aiz:=@Nat.mul_le_mul_right
def aiA:=@List.map_map
def aiB:=@List.drop_length
def aiC:=@Nat.lt_of_lt_of_le
def aiD:=@List.getElem?_map
def aiE:=@List.filter_cons_of_neg
def aiF:=@List.take_append_of_le_length
def aiG:=@List.mem_of_find?_eq_some
def aiH:=@Nat.zero_add
def aiI:=@List.filter_cons_of_pos
def aiJ:=@List.find?_eq_none
def aiK:=@List.flatMap_map
def aiL:=@List.getElem_append_left
def aiM:=@Nat.add_mul
def aiN:=@List.mem_of_getElem?
def aiO:=@List.mem_cons_of_mem
def aiP:=@decide_eq_false_iff_not
def aiQ:=@List.eq_nil_iff_forall_not_mem
def aiR:=@List.length_set
def aiS:=@List.take_succ_eq_append_getElem
def aiT:=@Nat.sub_self
def aiU:=@List.getElem?_eq_none
def aiV:=@List.length_pos_iff
def aiW:=@List.drop_eq_getElem_cons
def aiX:=@List.exists_mem_of_ne_nil
def aiY:=@Bool.false_or
def aiZ:=@Array.mem_toList_iff
def ai0:=@Array.getElem?_eq_none
def ai1:=@Nat.add_sub_cancel
def ai2:=@List.set_append_right
def ai3:=@List.nil_append
def ai4:=@List.filter_eq_self
def ai5:=@Option.getD_some
def ai6:=@List.any_eq_true
def ai7:=@Nat.lt_trichotomy
def ai8:=@List.foldl_append
def ai9:=@List.filter_eq_nil_iff
def aja:=@List.getElem?_drop
def ajb:=@List.foldl_cons
def ajc:=@if_true
def ajd:=@List.contains_iff_mem
def aje:=@if_false
def ajf:=@Option.map_some
def ajg:=@List.pairwise_append
def ajh:=@List.take_of_length_le
def aji:=@Option.map_eq_some_iff
def ajj:=@Array.getElem?_eq_getElem
def ajk:=@List.filter_sublist
def ajl:=@beq_iff_eq
def ajm:=@List.any_eq_false
def ajn:=@List.ext_getElem?
def ajo:=@List.mem_append_right
def ajp:=@List.pairwise_mergeSort
def ajq:=@List.ext_getElem
def ajr:=@Array.mem_append
def ajs:=@Array.toList_inj
def ajt:=@List.mem_of_mem_take
def aju:=@List.map_nil
def ajv:=@getElem!_pos
def ajw:=@Array.getElem?_setIfInBounds_ne
def ajx:=@List.getElem_cons_succ
def ajy:=@of_decide_eq_true
def ajz:=@List.mergeSort_perm
def ajA:=@List.getElem_append
def ajB:=@List.getElem_append_right
def ajC:=@Array.eq_empty_of_size_eq_zero
def ajD:=@Nat.lt_of_sub_eq_succ
def ajE:=@List.length_mergeSort
def ajF:=@List.pairwise_flatMap
def ajG:=@Array.getElem?_modify
def ajH:=@List.drop_append_of_le_length
def ajI:=@List.cons_append
def ajJ:=@Nat.mod_lt
def ajK:=@List.getElem_take
def ajL:=@List.find?_some
def ajM:=@List.nodup_cons
def ajN:=@List.drop_of_length_le
def ajO:=@List.perm_middle
def ajP:=@Bool.and_eq_false_iff
def ajQ:=@Bool.false_and
def ajR:=@List.drop_drop
def ajS:=@List.append_of_mem
def ajT:=@Nat.lt_of_le_of_lt
def ajU:=@Bool.not_false
def ajV:=@Bool.or_eq_false_iff
def ajW:=@Nat.add_zero
def ajX:=@Nat.mul_comm
def ajY:=@Nat.div_lt_of_lt_mul
def ajZ:=@Bool.not_eq_true'
def aj0:=@List.getElem_range
def aj1:=@Array.getD_eq_getD_getElem?
def aj2:=@Bool.eq_iff_iff
def aj3:=@List.range_succ
def aj4:=@List.length_replicate
def aj5:=@Nat.min_eq_left
def aj6:=@Nat.le_div_iff_mul_le
def aj7:=@List.filter_congr
def aj8:=@Nat.le_succ_of_le
def aj9:=@List.getElem?_set
def aka:=@List.getLast?_eq_getElem?
def akb:=@List.getElem_toArray
def akc:=@List.getElem?_cons_zero
def akd:=@List.flatMap_eq_nil_iff
def ake:=@and_true
def akf:=@dif_pos
def akg:=@dif_neg
def zS {p:Prop}(h:p:=by simp):p:=h
def zO {p:Prop}(h:p:=by omega):p:=h
def zU {p q:Prop}(h:q)(f:q->p:=by intro h;simpa using h):p:=f h
def zK {p:Prop}(h:p:=by kernel_rfl):p:=h
def zQ {p p':Prop}(h:p')(f:p'->p:=by intro h;simp(disch:=omega);exact h):p:=f h
def zC {p:Prop}(h:p:=by simp(disch:=omega)):p:=h
def zD {p:Prop}(h:p:=by decide):p:=h
namespace Go.Am
open Go
inductive Tag where
 |none
 |full
 |own (t:Nat)
inductive KC where
 |int (k:IntKind) (n:Int)
 |str (s:List UInt8)
 |bool (b:Bool)
 deriving DecidableEq
inductive cZ where
 |one (c:KC)
 |agg (cs:List KC)
 deriving DecidableEq
def KC.val:KC->Value
 |.int k n=>.int k n
 |.str s=>.string ⟨s.toArray⟩
 |.bool b=>.bool b
def cZ.val:cZ->Value
 |.one c=>c.val
 |.agg cs=>.agg (cs.map KC.val).toArray
inductive AV where
 |top
 |bool (b:Bool)
 |int (k:IntKind) (n:Int)
 |str (s:List UInt8)
 |gq
 |ptr (i o:Nat)
 |eB (cs:List AV) (o:Nat)
 |sl (n:Nat) (cs:List AV) (tg:Tag)
 |cV (i o n:Nat)
 |bQ (i n cap:Nat)
 |aP (i:Nat)
 |fn (f:FuncId) (first cF:List AV)
 |jD
 |nG
 |Bm
 |agg (cs:List AV)
 |dn (cs:List AV)
abbrev au:=List (Nat×Nat)
abbrev Env:=List (Nat×AV)
inductive aA where
 |cells (vs:List AV)
 |iter (s:List UInt8) (pos:Nat)
 |map (es:List (cZ×AV))
 |mX (m n:Nat) (seen:List Nat)
 |Kt (g:Nat) (p:Obj->Prop)
@[simp] def aA.Bx:aA->List AV
 |.cells vs=>vs
 |.map es=>es.map (·.2)
 |.iter _ _=>[]
 |.mX _ _ _=>[]
 |.Kt _ _=>[]
structure Tk where
 b:Nat
 o:Nat
 c:Nat
structure Lay where
 bW:Nat->Nat
 eF:Nat->Tk
 m:Nat->Nat
 dr:Bool
def mv (L:Lay)(T:au)(tg:Tag)(n u:Nat)(a:Option Addr)(cap:Nat):Prop:=
 match tg with
 |.none=>True
 |.full=>cap=n
 |.own t=>∃u0 z,T[t]?=some (u0,z)/\u<=u0/\(u0=u->cap=n\/(a=some ⟨(L.eF t).b,(L.eF t).o,none⟩/\cap=(L.eF t).c))
inductive bt (L:Lay) (N:Nat) (T:au) (w:World):AV->Value->Prop
 |top (v:Value):bt L N T w .top v
 |bool (b:Bool):bt L N T w (.bool b) (.bool b)
 |int (k:IntKind) (n:Int):bt L N T w (.int k n) (.int k n)
 |str (s:List UInt8):bt L N T w (.str s) (.string ⟨s.toArray⟩)
 |gq:bt L N T w .gq (.pointer none)
 |ptr (i o:Nat) (h:i<N):bt L N T w (.ptr i o) (.pointer (some ⟨L.bW i,o,none⟩))
 |eB (cs:List AV) (o b base:Nat) (f:Nat->Value) (hm:base+cs.length<=L.m b)
   (hc:∀j,j<cs.length->w.cell? ⟨b,base+j,none⟩=some (f j)) (h1:∀j,j<cs.length->(f j).oneCell'=true)
   (hr:∀(j:Nat)(h:j<cs.length),bt L N T w (cs[j]'h) (f j)) :
   bt L N T w (.eB cs o) (.pointer (some ⟨b,base+o,none⟩))
 |zF (tg:Tag) (a:Option Addr) (cap:Nat) (ht:mv L T tg 0 0 a cap):bt L N T w (.sl 0 [] tg) (.slice a 0 cap)
 |QY (n:Nat) (cs:List AV) (tg:Tag) (b base cap:Nat) (f:Nat->Value) (cK:n<=cap) (hm:base+cs.length<=L.m b)
   (hc:∀j,j<cs.length->w.cell? ⟨b,base+j,none⟩=some (f j)) (h1:∀j,j<cs.length->(f j).oneCell'=true)
   (hr:∀(j:Nat)(h:j<cs.length),bt L N T w (cs[j]'h) (f j))
   (ht:mv L T tg n cs.length (some ⟨b,base,none⟩) cap) :
   bt L N T w (.sl n cs tg) (.slice (some ⟨b,base,none⟩) n cap)
 |cV (i o n cap:Nat) (h:i<N) (cK:n<=cap):bt L N T w (.cV i o n) (.slice (some ⟨L.bW i,o,none⟩) n cap)
 |bQ (i n cap:Nat) (h:i<N) (cK:n<=cap):bt L N T w (.bQ i n cap) (.slice (some ⟨L.bW i,0,none⟩) n cap)
 |aP (i:Nat) (h:i<N):bt L N T w (.aP i) (.map (some (L.bW i)))
 |fn (f:FuncId) (first cF:List AV) (fv cv:Array Value) (h1:fv.size=first.length) (h2:cv.size=cF.length)
   (y4:∀(j:Nat)(h:j<first.length)(h':j<fv.size),bt L N T w (first[j]'h) (fv[j]'h'))
   (o9:∀(j:Nat)(h:j<cF.length)(h':j<cv.size),bt L N T w (cF[j]'h) (cv[j]'h')) :
   bt L N T w (.fn f first cF) (.func (.func f) fv cv)
 |jD:bt L N T w .jD .nilFunc
 |nG:bt L N T w .nG .nilIface
 |Bm (t:TypeId) (v:Value):bt L N T w .Bm (.iface t v)
 |agg (cs:List AV) (cv:Array Value) (h1:cv.size=cs.length) (h2:∀(j:Nat)(h':j<cv.size),(cv[j]'h').oneCell'=true)
   (hr:∀(j:Nat)(h:j<cs.length)(h':j<cv.size),bt L N T w (cs[j]'h) (cv[j]'h')):bt L N T w (.agg cs) (.agg cv)
 |dn (cs:List AV) (cv:Array Value) (h1:cv.size=cs.length)
   (hr:∀(j:Nat)(h:j<cs.length)(h':j<cv.size),bt L N T w (cs[j]'h) (cv[j]'h')):bt L N T w (.dn cs) (.tuple cv)
structure dh (L:Lay)(N:Nat)(T:au)(w:World)(L':Lay)(N':Nat)(T':au)(w':World):Prop where
 n:N<=N'
 bW:∀i,i<N->L'.bW i=L.bW i
 tok:∀t u z,T[t]?=some (u,z)->∃u',T'[t]?=some (u',z)/\u<=u'/\(u'=u->L'.eF t=L.eF t)
 m:∀b,L.m b<=L'.m b
 uh:∀b o,o<L.m b->w'.cell? ⟨b,o,none⟩=w.cell? ⟨b,o,none⟩
 dr:L'.dr=L.dr
def dh.refl (L:Lay)(N:Nat)(T:au)(w:World):dh L N T w L N T w:=
 ⟨ahv _,λ_ _=>rfl,λ_ u _ h=>⟨u,h,ahv _,λ_=>rfl⟩,λ_=>ahv _,λ_ _ _=>rfl,rfl⟩
theorem dh.trans {L N T w L1 N1 T1 w1 L2 N2 T2 w2}(h:dh L N T w L1 N1 T1 w1)(k:dh L1 N1 T1 w1 L2 N2 T2 w2):dh L N T w L2 N2 T2 w2:=by
 refine⟨ahA h.n k.n,λi hi=>?_,λt u z ht=>?_,λb=>ahA (h.m b) (k.m b),λb o ho=>?_,k.dr.trans h.dr⟩
 ·rw[k.bW i (aiC hi h.n),h.bW i hi]
 ·obtain⟨u1,h1,hle,he⟩:=h.tok t u z ht;obtain⟨u2,h2,Kn,wY⟩:=k.tok t u1 z h1;refine⟨u2,h2,ahA hle Kn,λe=>?_⟩;rw[wY zO,he zO]
 ·rw[k.uh b o (aiC ho (h.m b)),h.uh b o ho]
theorem mv.keep {L N T w L' N' T' w' tg n u a cap}(k:dh L N T w L' N' T' w')(h:mv L T tg n u a cap):mv L' T' tg n u a cap:=by
 cases tg with
 |none=>trivial
 |full=>exact h
 |own t=>
  obtain⟨u0,z,h0,hle,he⟩:=h;obtain⟨u1,h1,ahg,he1⟩:=k.tok t u0 z h0;refine⟨u1,z,h1,zO,λe=>?_⟩;rw[he1 zO];exact he zO
theorem bt.keep {L N T w L' N' T' w' v c}(k:dh L N T w L' N' T' w')(h:bt L N T w v c):bt L' N' T' w' v c:=by
 induction h with
 |top v=>exact .top v
 |bool b=>exact .bool b
 |int k n=>exact .int k n
 |str s=>exact .str s
 |gq=>exact .gq
 |ptr i o h=>rw[<-k.bW i h];exact .ptr i o (aiC h k.n)
 |eB cs o b base f hm hc h1 hr ih=>
  exact .eB cs o b base f (ahA hm (k.m b)) (λj hj=>by rw[k.uh _ _ zO];exact hc j hj) h1 ih
 |zF tg a cap ht=>exact .zF tg a cap (ht.keep k)
 |QY n cs tg b base cap f cK hm hc h1 hr ht ih=>
  exact .QY n cs tg b base cap f cK (ahA hm (k.m b)) (λj hj=>by rw[k.uh _ _ zO];exact hc j hj) h1 ih (ht.keep k)
 |cV i o n cap h cK=>rw[<-k.bW i h];exact .cV i o n cap (aiC h k.n) cK
 |bQ i n cap h cK=>rw[<-k.bW i h];exact .bQ i n cap (aiC h k.n) cK
 |aP i h=>rw[<-k.bW i h];exact .aP i (aiC h k.n)
 |fn f first cF fv cv h1 h2 y4 o9 Vy Vx=>exact .fn f first cF fv cv h1 h2 Vy Vx
 |jD=>exact .jD
 |nG=>exact .nG
 |Bm t v=>exact .Bm t v
 |agg cs cv h1 h2 hr ih=>exact .agg cs cv h1 h2 ih
 |dn cs cv h1 hr ih=>exact .dn cs cv h1 ih
def Wr (L:Lay)(N:Nat)(T:au)(b:Nat):Prop:=
 (∃i,i<N/\L.bW i=b)\/(∃t u z,T[t]?=some (u,z)/\u<(L.eF t).c*z/\(L.eF t).b=b)
structure Ev (nb tb:Nat)(L:Lay)(N:Nat)(T:au)(w:World)(L':Lay)(N':Nat)(T':au)(w':World):Prop where
 n:nb<=N'
 bW:∀i,i<nb->L'.bW i=L.bW i
 tok:∀t u z,t<tb->T[t]?=some (u,z)->∃u',T'[t]?=some (u',z)/\u<=u'/\(u'=u->L'.eF t=L.eF t)
 t:tb<=T'.length
 m:∀b,L.m b<=L'.m b
 uh:∀b o,o<L.m b->w'.cell? ⟨b,o,none⟩=w.cell? ⟨b,o,none⟩
 size:w.heap.size<=w'.heap.size
 frame:∀b,b<w.heap.size->¬Wr L N T b->w'.heap[b]?=w.heap[b]?
 wr:∀b,Wr L' N' T' b->Wr L N T b\/w.heap.size<=b
 os:w'.os=w.os
 tape:w'.tape=w.tape
 output:w'.output=w.output
 drawn:L.dr=true->w.drawn<=w'.drawn
 dr:L'.dr=L.dr
def Ev.refl {nb tb L N T w}(h:nb<=N)(h':tb<=T.length):Ev nb tb L N T w L N T w:=
 ⟨h,λ_ _=>rfl,λ_ u _ _ h=>⟨u,h,ahv _,λ_=>rfl⟩,h',λ_=>ahv _,λ_ _ _=>rfl,ahv _,λ_ _ _=>rfl,
  λ_ h=>.inl h,rfl,rfl,rfl,λ_=>ahv _,rfl⟩
theorem Ev.trans {nb tb L N T w L1 N1 T1 w1 L2 N2 T2 w2}(h:Ev nb tb L N T w L1 N1 T1 w1)(k:Ev nb tb L1 N1 T1 w1 L2 N2 T2 w2):Ev nb tb L N T w L2 N2 T2 w2:=by
 refine⟨k.n,λi hi=>?_,λt u z ht hT=>?_,k.t,λb=>ahA (h.m b) (k.m b),λb o ho=>?_,ahA h.size k.size,λb hb hn=>?_,λb hb=>?_,
  k.os.trans h.os,k.tape.trans h.tape,k.output.trans h.output,λe=>ahA (h.drawn e) (k.drawn (by rw[h.dr];exact e)),k.dr.trans h.dr⟩
 ·rw[k.bW i hi,h.bW i hi]
 ·obtain⟨u1,h1,hle,he⟩:=h.tok t u z ht hT;obtain⟨u2,h2,Kn,wY⟩:=k.tok t u1 z ht h1;refine⟨u2,h2,ahA hle Kn,λe=>?_⟩;rw[wY zO,he zO]
 ·rw[k.uh b o (aiC ho (h.m b)),h.uh b o ho]
 ·rw[k.frame b (aiC hb h.size) (λhw=>?_),h.frame b hb hn];rcases h.wr b hw with h'|h'
  ·exact hn h'
  ·omega
 ·rcases k.wr b hb with h'|h'
  ·exact h.wr b h'
  ·exact .inr (ahA h.size h')
def Ev.mono {nb tb nb' tb' L N T w L' N' T' w'}(h:Ev nb tb L N T w L' N' T' w')(hn:nb'<=nb)(ht:tb'<=tb):Ev nb' tb' L N T w L' N' T' w':=
 ⟨ahA hn h.n,λi hi=>h.bW i (aiC hi hn),λt u z bp=>h.tok t u z (aiC bp ht),ahA ht h.t,h.m,h.uh,h.size,h.frame,h.wr,h.os,h.tape,h.output,h.drawn,h.dr⟩
def Ev.keeps {L N T w L' N' T' w'}(h:Ev N T.length L N T w L' N' T' w'):dh L N T w L' N' T' w':=
 ⟨h.n,h.bW,λt u z hT=>h.tok t u z ((aht.1 hT).1) hT,h.m,h.uh,h.dr⟩
def ny (L:Lay)(N:Nat)(T:au)(w:World)(i:Nat):aA->Prop
 |.cells vs=>∃c t fr,w.heap[L.bW i]?=some (.cells c t fr)/\(∀o,o<c.size->(fr.1<=o&&o<fr.2)=false)/\c.size=vs.length/\
   (∀(j:Nat)(h':j<c.size),(c[j]'h').oneCell'=true)/\
   (∀(j:Nat)(h:j<vs.length)(h':j<c.size),bt L N T w (vs[j]'h) (c[j]'h'))/\L.m (L.bW i)=0
 |.iter s pos=>w.heap[L.bW i]?=some (.stringIter ⟨s.toArray⟩ pos)
 |.map es=>∃eg:Array MapEntry,w.heap[L.bW i]?=some (.map eg es.length)/\eg.size=es.length/\
   (∀(j:Nat)(h:j<es.length)(h':j<eg.size),(eg[j]'h').key=(es[j]'h).1.val/\(eg[j]'h').born=j/\bt L N T w (es[j]'h).2 (eg[j]'h').val)/\(es.map (·.1)).Nodup/\L.m (L.bW i)=0
 |.mX m n seen=>w.heap[L.bW i]?=some (.mapIter (some (L.bW m)) n seen.toArray n)/\m<i/\L.m (L.bW i)=0
 |.Kt g p=>L.bW i=g/\L.dr=false/\∃o,w.heap[g]?=some o/\p o
theorem ny.stay {L N T w L' N' T' w' i b}(k:dh L N T w L' N' T' w')(h:ny L N T w i b)(hi:i<N)(hh:w'.heap[L.bW i]?=w.heap[L.bW i]?)(hm:L.m (L.bW i)=0->L'.m (L.bW i)=0):ny L' N' T' w' i b:=by
 have e:=k.bW i hi
 cases b with
 |cells vs=>
  obtain⟨c,t,fr,h1,h2,h3,YX,h4,h5⟩:=h;exact⟨c,t,fr,by rw[e,hh];exact h1,h2,h3,YX,λj a b=>(h4 j a b).keep k,by rw[e];exact hm h5⟩
 |iter s pos=>show w'.heap[_]?=_;rw[e,hh];exact h
 |map es=>
  obtain⟨eg,h1,h2,h3,hn,h4⟩:=h;exact⟨eg,by rw[e,hh];exact h1,h2,λj a b=>⟨(h3 j a b).1,(h3 j a b).2.1,(h3 j a b).2.2.keep k⟩,hn,by rw[e];exact hm h4⟩
 |mX m n seen=>
  obtain⟨h1,h2,h4⟩:=h;exact⟨by rw[e,hh,k.bW m zO];exact h1,h2,by rw[e];exact hm h4⟩
 |Kt g p=>
  obtain⟨h1,h4,o,h2,h3⟩:=h;exact⟨by rw[e,h1],by rw[k.dr,h4],o,by rw[<-h1,hh,h1];exact h2,h3⟩
def Aj (L:Lay)(w:World)(t u z:Nat):Prop:=
 0<z/\(u<(L.eF t).c*z->∃c e fr,w.heap[(L.eF t).b]?=some (.cells c e fr)/\(L.eF t).o+(L.eF t).c*z<=c.size/\
  (∀o,(L.eF t).o+u<=o->o<(L.eF t).o+(L.eF t).c*z->(fr.1<=o&&o<fr.2)=false)/\L.m (L.eF t).b<=(L.eF t).o+u)
def Ah:List (Nat×Nat):=[]
def GOk (L:Lay)(w:World):Prop:=∀x∈Ah,x.2<L.m x.1/\∃m,w.cell? ⟨x.1,x.2,none⟩=some (.int .i64 m)
def GOk.keep {L L':Lay}{w w':World}(h:GOk L w)(hm:∀b,L.m b<=L'.m b)(hc:∀b o,o<L.m b->w'.cell? ⟨b,o,none⟩=w.cell? ⟨b,o,none⟩):GOk L' w':=λx hx=>by
 obtain⟨h1,m,h2⟩:=h x hx;exact⟨aiC h1 (hm _),m,by rw[hc _ _ h1];exact h2⟩
structure cz (L:Lay)(H:List aA)(T:au)(w:World):Prop where
 box:∀i b,H[i]?=some b->ny L H.length T w i b
 inj:∀i j,i<H.length->j<H.length->L.bW i=L.bW j->i=j
 tok:∀t u z,T[t]?=some (u,z)->Aj L w t u z
 pG:∀t u z t' u' z',T[t]?=some (u,z)->T[t']?=some (u',z')->u<(L.eF t).c*z->u'<(L.eF t').c*z'->(L.eF t).b=(L.eF t').b->t=t'
 kY:∀t u z i,T[t]?=some (u,z)->u<(L.eF t).c*z->i<H.length->(L.eF t).b≠L.bW i
 mz:∀b,w.heap.size<=b->L.m b=0
 gl:GOk L w
theorem ny.lt {L N T w i b}(h:ny L N T w i b):L.bW i<w.heap.size:=by
 rcases ahD (L.bW i) w.heap.size with h1|h1
 ·exact h1
 ·exfalso
  cases b with
  |cells vs=>obtain⟨c,t,fr,hh,_⟩:=h;rw[ai0 h1] at hh;cases hh
  |iter s pos=>unfold ny at h;rw[ai0 h1] at h;cases h
  |map es=>obtain⟨eg,hh,_⟩:=h;rw[ai0 h1] at hh;cases hh
  |mX m n seen=>obtain⟨hh,_⟩:=h;rw[ai0 h1] at hh;cases hh
  |Kt g p=>obtain⟨e,_,o,hh,_⟩:=h;rw[<-e,ai0 h1] at hh;cases hh
def cz.mD {L H T w}(h:cz L H T w){i:Nat}(hi:i<H.length):L.bW i<w.heap.size:=
 (h.box i _ (ahu hi)).lt
def cz.G0 {L H T w}(h:cz L H T w){t u z:Nat}(ht:T[t]?=some (u,z))(hs:u<(L.eF t).c*z):(L.eF t).b<w.heap.size:=by
 obtain⟨_,h2⟩:=h.tok t u z ht;obtain⟨c,e,fr,hh,_⟩:=h2 hs;rcases ahD (L.eF t).b w.heap.size with h1|h1
 ·exact h1
 ·rw[ai0 h1] at hh;cases hh
def cz.ZW {L H T w}(h:cz L H T w){b:Nat}(hb:Wr L H.length T b):b<w.heap.size:=by
 rcases hb with⟨i,hi,rfl⟩|⟨t,u,z,ht,hs,rfl⟩
 ·exact h.mD hi
 ·exact h.G0 ht hs
def bO:Env->Nat->AV
 |[],_=>.top
 |(s,v)::r,t=>if s=t then v else bO r t
def mr:Env->Nat->AV->Env
 |[],t,v=>[(t,v)]
 |(s,u)::r,t,v=>if s=t then (t,v)::r else (s,u)::mr r t v
theorem cU (e:Env)(t:Nat)(v:AV):bO (mr e t v) t=v:=by
 induction e with
 |nil=>simp[mr,bO]
 |cons x r ih=>
  obtain⟨s,u⟩:=x
  by_cases h:s=t
  ·simp[mr,bO,h]
  ·simp[mr,bO,h,ih]
theorem bJ (e:Env)(t t':Nat)(v:AV)(dM:t≠t'):bO (mr e t v) t'=bO e t':=by
 induction e with
 |nil=>simp[mr,bO,dM]
 |cons x r ih=>
  obtain⟨s,u⟩:=x
  by_cases h:s=t
  ·subst h;simp[mr,bO,dM]
  ·by_cases h2:s=t'
   ·subst h2;simp[mr,bO,h]
   ·simp[mr,bO,h,h2,ih]
def fu (L:Lay)(N:Nat)(T:au)(w:World)(e:Env)(a:Act):Prop:=
 ∀t,bt L N T w (bO e t) (a.tmps.getD t undef)
theorem fu.keep {L N T w L' N' T' w' e a}(k:dh L N T w L' N' T' w')(h:fu L N T w e a):fu L' N' T' w' e a:=λt=>(h t).keep k
def jR (a:Act)(d t:Nat)(v:Value)(hd:d<a.tmps.size):(a.put (some d) v).tmps.getD t undef=if d=t then v else a.tmps.getD t undef:=by
 simp only[Act.put,aj1]
 by_cases h:d=t
 ·subst h;simp[hd]
 ·simp[ajw h,h]
theorem fu.put {L N T w e a d v c}(h:fu L N T w e a)(hd:d<a.tmps.size)(hv:bt L N T w v c):fu L N T w (mr e d v) (a.put (some d) c):=by
 intro t;rw[jR a d t c hd]
 by_cases XQ:d=t
 ·subst XQ;rw[cU];simpa using hv
 ·rw[bJ _ _ _ _ XQ,ahC XQ];exact h t
structure St where
 e:Env
 H:List aA
 T:au
structure Cx where
 P:Program
 nt:Nat
 nv:Nat
 nb:Nat
 tb:Nat
 bx:List Nat
structure eQ (C:Cx)(s:St)(L:Lay)(w:World)(a:Act):Prop where
 nb:C.nb<=s.H.length
 tb:C.tb<=s.T.length
 nD:cz L s.H s.T w
 size:a.tmps.size=C.nt
 defers:a.defers=[]
 env:fu L s.H.length s.T w s.e a
def cN (C:Cx)(Q:Exit->St->Prop)(L:Lay)(s:St)(w:World)(e:Exit)(a':Act)(w':World):Prop:=
 ∃s' L',Q e s'/\eQ C s' L' w' a'/\Ev C.nb C.tb L s.H.length s.T w L' s'.H.length s'.T w'
def AW (C:Cx)(c:Code)(Q:Exit->St->Prop)(s:St):Prop:=
 ∀L w a,eQ C s L w a->c.wp C.P (cN C Q L s w) a w
def cN.step {C Q L s w L1 s1 w1 e a' w'}(h:Ev C.nb C.tb L s.H.length s.T w L1 s1.H.length s1.T w1)(k:cN C Q L1 s1 w1 e a' w'):cN C Q L s w e a' w':=by
 obtain⟨s',L',q,c,ev⟩:=k;exact⟨s',L',q,c,h.trans ev⟩
def AW.mono {C c Q Q' s}(h:AW C c Q s)(hq:∀e s,Q e s->Q' e s):AW C c Q' s:=λL w a hc=>
 wp_mono (h L w a hc) λ_ _ _ ⟨s',L',q,r⟩=>⟨s',L',hq _ _ q,r⟩
def dK (K:St->Prop)(Q:Exit->St->Prop):Exit->St->Prop
 |.normal,s=>K s
 |e,s=>Q e s
def aj {C Q s}(h:Q .normal s):AW C .skip Q s:=λL w a hc=>wp_skip ⟨s,L,h,hc,Ev.refl hc.nb hc.tb⟩
def aD {C Q s id}(h:Q (.exit id) s):AW C (.exit id) Q s:=λL w a hc=>wp_exit ⟨s,L,h,hc,Ev.refl hc.nb hc.tb⟩
def bu {C Q s}(h:Q .ret s):AW C .ret Q s:=λL w a hc=>wp_ret ⟨s,L,h,hc,Ev.refl hc.nb hc.tb⟩
theorem xE {C x y Q s}(h:∀K:St->Prop,(∀s,AW C y Q s->K s)->AW C x (dK K Q) s):AW C (.seq x y) Q s:=λL w a hc=>
 wp_seq (wp_mono (h _ (λ_ h=>h) L w a hc) λe a' w' ⟨s',L',q,c,ev⟩=>by
  cases e with
  |normal=>exact wp_mono (q L' w' a' c) λ_ _ _ k=>cN.step ev k
  |_=>exact⟨s',L',q,c,ev⟩)
def Hj (id:Nat)(Q:Exit->St->Prop):Exit->St->Prop
 |.exit id',s=>if id'=id then Q .normal s else Q (.exit id') s
 |e,s=>Q e s
theorem ag {C id x Q s}(h:AW C x (Hj id Q) s):AW C (.block id x) Q s:=λL w a hc=>
 wp_block (wp_mono (h L w a hc) λe a' w' ⟨s',L',q,c,ev⟩=>by
  cases e with
  |exit id'=>
   simp only[Hj] at q;simp only[Exit.inBlock]
   split
   ·rename_i Nz;rw[ahF Nz] at q;exact⟨s',L',q,c,ev⟩
   ·rename_i Nz;rw[ahC Nz] at q;exact⟨s',L',q,c,ev⟩
  |_=>exact⟨s',L',q,c,ev⟩)
inductive Below (n t:Nat):AV->Prop
 |top:Below n t .top
 |bool (b:Bool):Below n t (.bool b)
 |int (k:IntKind) (x:Int):Below n t (.int k x)
 |str (s:List UInt8):Below n t (.str s)
 |gq:Below n t .gq
 |ptr (i o:Nat) (h:i<n):Below n t (.ptr i o)
 |eB (cs:List AV) (o:Nat) (h:∀c∈cs,Below n t c):Below n t (.eB cs o)
 |sl (m:Nat) (cs:List AV) (tg:Tag) (h:∀c∈cs,Below n t c) (ht:∀x,tg=.own x->x<t):Below n t (.sl m cs tg)
 |cV (i o m:Nat) (h:i<n):Below n t (.cV i o m)
 |bQ (i m cap:Nat) (h:i<n):Below n t (.bQ i m cap)
 |aP (i:Nat) (h:i<n):Below n t (.aP i)
 |fn (f:FuncId) (first cF:List AV) (h1:∀c∈first,Below n t c) (h2:∀c∈cF,Below n t c):Below n t (.fn f first cF)
 |jD:Below n t .jD
 |nG:Below n t .nG
 |Bm:Below n t .Bm
 |agg (cs:List AV) (h:∀c∈cs,Below n t c):Below n t (.agg cs)
 |dn (cs:List AV) (h:∀c∈cs,Below n t c):Below n t (.dn cs)
theorem bt.drop {L:Lay}{N n t:Nat}{T:au}{w:World}{v:AV}{c:Value}(h:bt L N T w v c)(hb:Below n t v):bt L n (T.take t) w v c:=by
 have tag:∀(tg:Tag)(m u:Nat)(a:Option Addr)(cap:Nat),(∀x,tg=.own x->x<t)->mv L T tg m u a cap->mv L (T.take t) tg m u a cap:=by
  intro tg m u a cap hx ht
  cases tg with
  |none=>trivial
  |full=>exact ht
  |own x=>
   obtain⟨u0,z,h0,r⟩:=ht;exact⟨u0,z,by rw[aim,ahF (hx x rfl)];exact h0,r⟩
 induction h with
 |top v=>exact .top v
 |bool b=>exact .bool b
 |int k x=>exact .int k x
 |str s=>exact .str s
 |gq=>exact .gq
 |ptr i o h=>cases hb with|ptr _ _ h'=>exact .ptr i o h'
 |eB cs o b base f hm hc h1 hr ih=>cases hb with|eB _ _ hx=>exact .eB cs o b base f hm hc h1 (λj hj=>ih j hj (hx _ (ah2 hj)))
 |zF tg a cap ht=>cases hb with|sl _ _ _ hx hy=>exact .zF tg a cap (tag _ _ _ _ _ hy ht)
 |QY m cs tg b base cap f cK hm hc h1 hr ht ih=>
  cases hb with|sl _ _ _ hx hy=>exact .QY m cs tg b base cap f cK hm hc h1 (λj hj=>ih j hj (hx _ (ah2 hj))) (tag _ _ _ _ _ hy ht)
 |cV i o m cap h cK=>cases hb with|cV _ _ _ h'=>exact .cV i o m cap h' cK
 |bQ i m cap h cK=>cases hb with|bQ _ _ _ h'=>exact .bQ i m cap h' cK
 |aP i h=>cases hb with|aP _ h'=>exact .aP i h'
 |fn f first cF fv cv h1 h2 y4 o9 Vy Vx=>
  cases hb with|fn _ _ _ hx hy=>exact .fn f first cF fv cv h1 h2 (λj hj bU=>Vy j hj bU (hx _ (ah2 hj))) (λj hj bU=>Vx j hj bU (hy _ (ah2 hj)))
 |jD=>exact .jD
 |nG=>exact .nG
 |Bm t v=>exact .Bm t v
 |agg cs cv h1 h2 hr ih=>cases hb with|agg _ hx=>exact .agg cs cv h1 h2 (λj hj bU=>ih j hj bU (hx _ (ah2 hj)))
 |dn cs cv h1 hr ih=>cases hb with|dn _ hx=>exact .dn cs cv h1 (λj hj bU=>ih j hj bU (hx _ (ah2 hj)))
def cL:AV->AV
 |.sl n cs _=>.sl n cs .none
 |.bQ i n _=>.cV i 0 n
 |v=>v
theorem bt.cL {L:Lay}{N:Nat}{T:au}{w:World}{v:AV}{c:Value}(h:bt L N T w v c):bt L N T w (cL v) c:=by
 cases h with
 |zF tg a cap ht=>exact .zF .none a cap trivial
 |QY n cs tg b base cap f cK hm hc h1 hr ht=>exact .QY n cs .none b base cap f cK hm hc h1 hr trivial
 |top _=>exact .top _
 |bool b=>exact .bool b
 |int k x=>exact .int k x
 |str s=>exact .str s
 |gq=>exact .gq
 |ptr i o h=>exact .ptr i o h
 |eB cs o b base f hm hc h1 hr=>exact .eB cs o b base f hm hc h1 hr
 |cV i o m cap h cK=>exact .cV i o m cap h cK
 |bQ i m cap h cK=>exact .cV i 0 m cap h cK
 |aP i h=>exact .aP i h
 |fn f first cF fv cv h1 h2 y4 o9=>exact .fn f first cF fv cv h1 h2 y4 o9
 |jD=>exact .jD
 |nG=>exact .nG
 |Bm t v=>exact .Bm t v
 |agg cs cv h1 h2 hr=>exact .agg cs cv h1 h2 hr
 |dn cs cv h1 hr=>exact .dn cs cv h1 hr
theorem Below.cL {n t:Nat}{v:AV}(h:Below n t v):Below n t (cL v):=by
 cases h with
 |sl m cs tg h ht=>exact .sl m cs .none h (λx hx=>by cases hx)
 |top=>exact .top
 |bool b=>exact .bool b
 |int k x=>exact .int k x
 |str s=>exact .str s
 |gq=>exact .gq
 |ptr i o h=>exact .ptr i o h
 |eB cs o h=>exact .eB cs o h
 |cV i o m h=>exact .cV i o m h
 |bQ i m cap h=>exact .cV i 0 m h
 |aP i h=>exact .aP i h
 |fn f a b h1 h2=>exact .fn f a b h1 h2
 |jD=>exact .jD
 |nG=>exact .nG
 |Bm=>exact .Bm
 |agg cs h=>exact .agg cs h
 |dn cs h=>exact .dn cs h
structure sW (C:Cx)(s s':St):Prop where
 nb:C.nb<=s'.H.length
 tb:C.tb<=s'.T.length
 H:∃r,s.H=s'.H++r
 T:∃r,s.T=s'.T++r
 cells:∀(i:Nat)(b:aA),s'.H[i]?=some b->∀v∈b.Bx,Below s'.H.length s'.T.length v
 env:∀t,bO s'.e t=.top\/((bO s'.e t=bO s.e t\/bO s'.e t=cL (bO s.e t))/\Below s'.H.length s'.T.length (bO s'.e t))
theorem sW.nD {C s s' L w a}(h:sW C s s')(c:eQ C s L w a):eQ C s' L w a:=by
 obtain⟨gL,fZ,⟨rH,hH⟩,⟨rT,hT⟩,xD,uy⟩:=h;have XT:s.T.take s'.T.length=s'.T:=by rw[hT];simp
 have hlen:s'.H.length<=s.H.length:=by rw[hH];simp
 have gA:∀(i:Nat)(b:aA),s'.H[i]?=some b->s.H[i]?=some b:=by
  intro i b hb;have hi:=(aht.1 hb).1;rw[hH,ahB hi];exact hb
 have Ki:∀(t:Nat)(x:Nat×Nat),s'.T[t]?=some x->s.T[t]?=some x:=by
  intro t x hx;have hi:=(aht.1 hx).1;rw[hT,ahB hi];exact hx
 have rep:∀v c',bt L s.H.length s.T w v c'->Below s'.H.length s'.T.length v->bt L s'.H.length s'.T w v c':=by
  intro v c' hr hb;have:=hr.drop hb
  rwa [XT] at this
 refine⟨gL,fZ,⟨λi b hb=>?_,λi j hi hj=>c.nD.inj i j zO zO,λt u z ht=>c.nD.tok t u z (Ki _ _ ht),λt u z t' u' z' h1 h2=>c.nD.pG t u z t' u' z' (Ki _ _ h1) (Ki _ _ h2),
  λt u z i h1 h2 hi=>c.nD.kY t u z i (Ki _ _ h1) h2 zO,c.nD.mz,c.nD.gl⟩,c.size,c.defers,λt=>?_⟩
 ·have CY:=c.nD.box i b (gA i b hb)
  cases b with
  |cells vs=>
   obtain⟨cc,t,fr,h1,h2,h3,YX,h4,h5⟩:=CY;exact⟨cc,t,fr,h1,h2,h3,YX,λj hj bU=>rep _ _ (h4 j hj bU) (xD i _ hb _ (ah2 hj)),h5⟩
  |iter s0 pos=>exact CY
  |map es=>
   obtain⟨eg,h1,h2,h3,h4⟩:=CY;exact⟨eg,h1,h2,λj hj bU=>⟨(h3 j hj bU).1,(h3 j hj bU).2.1,rep _ _ (h3 j hj bU).2.2 (xD i _ hb _ (ahz.2 ⟨_,ah2 hj,rfl⟩))⟩,h4⟩
  |mX m n seen=>exact CY
  |Kt g p=>exact CY
 ·rcases uy t with h0|⟨h1,h2⟩
  ·rw[h0];exact .top _
  ·rcases h1 with h1|h1
   ·rw[h1] at h2 ⊢;exact rep _ _ (c.env t) h2
   ·rw[h1] at h2 ⊢;exact rep _ _ (c.env t).cL h2
def sW.ev {C s s' L w}(h:sW C s s'):Ev C.nb C.tb L s.H.length s.T w L s'.H.length s'.T w:=by
 obtain⟨gL,fZ,⟨rH,hH⟩,⟨rT,hT⟩,_,_⟩:=h;have Ki:∀(t:Nat)(x:Nat×Nat),s'.T[t]?=some x->s.T[t]?=some x:=by
  intro t x hx;have hi:=(aht.1 hx).1;rw[hT,ahB hi];exact hx
 refine⟨gL,λ_ _=>rfl,λt u z ht hx=>⟨u,?_,ahv _,λ_=>rfl⟩,fZ,λ_=>ahv _,λ_ _ _=>rfl,ahv _,λ_ _ _=>rfl,λb hb=>.inl ?_,rfl,rfl,rfl,λ_=>ahv _,rfl⟩
 ·rw[hT,ahB zO] at hx;exact hx
 ·rcases hb with⟨i,hi,e⟩|⟨t,u,z,h1,h2,e⟩
  ·exact .inl ⟨i,by rw[hH];simp;omega,e⟩
  ·exact .inr ⟨t,u,z,Ki _ _ h1,h2,e⟩
def aF {C c Q s}(s':St)(hw:sW C s s')(h:AW C c Q s'):AW C c Q s:=λL w a hc=>
 wp_mono (h L w a (hw.nD hc)) λ_ _ _ k=>cN.step hw.ev k
theorem aG {C c Q s}{X:Type}(st:X->St)(I:X->Prop)(μ:X->Nat)(x0:X)(h0:I x0)(hw:sW C s (st x0))
  (round:∀x,I x->AW C c (dK (λs'=>∃x',I x'/\μ x'<μ x/\sW C s' (st x')) Q) (st x)):AW C (.loop c) Q s:=by
 refine aF (st x0) hw ?_;intro L w a hc;refine wp_loop (λa' w'=>∃x L',I x/\eQ C (st x) L' w' a'/\Ev C.nb C.tb L (st x0).H.length (st x0).T w L' (st x).H.length (st x).T w')
  (λa' w'=>Classical.epsilon λn=>(∃x L',I x/\eQ C (st x) L' w' a'/\Ev C.nb C.tb L (st x0).H.length (st x0).T w L' (st x).H.length (st x).T w'/\μ x=n)/\
   ∀x L',I x->eQ C (st x) L' w' a'->Ev C.nb C.tb L (st x0).H.length (st x0).T w L' (st x).H.length (st x).T w'->n<=μ x) ⟨x0,L,h0,hc,Ev.refl hc.nb hc.tb⟩ ?_
 have least:∀a' w',(∃x L',I x/\eQ C (st x) L' w' a'/\Ev C.nb C.tb L (st x0).H.length (st x0).T w L' (st x).H.length (st x).T w')->
   ∃n,(∃x L',I x/\eQ C (st x) L' w' a'/\Ev C.nb C.tb L (st x0).H.length (st x0).T w L' (st x).H.length (st x).T w'/\μ x=n)/\
    ∀x L',I x->eQ C (st x) L' w' a'->Ev C.nb C.tb L (st x0).H.length (st x0).T w L' (st x).H.length (st x).T w'->n<=μ x:=by
  intro a' w' ⟨x,L',hI,uo,dI⟩;have key:∀n,∀x L',I x->eQ C (st x) L' w' a'->Ev C.nb C.tb L (st x0).H.length (st x0).T w L' (st x).H.length (st x).T w'->μ x=n->
    ∃n,(∃x L',I x/\eQ C (st x) L' w' a'/\Ev C.nb C.tb L (st x0).H.length (st x0).T w L' (st x).H.length (st x).T w'/\μ x=n)/\
    ∀x L',I x->eQ C (st x) L' w' a'->Ev C.nb C.tb L (st x0).H.length (st x0).T w L' (st x).H.length (st x).T w'->n<=μ x:=by
   intro n
   induction n using Nat.strongRecOn with
   |_ n ih=>
    intro x L' h1 h2 h3 h4
    by_cases hs:∃y X0,I y/\eQ C (st y) X0 w' a'/\Ev C.nb C.tb L (st x0).H.length (st x0).T w X0 (st y).H.length (st y).T w'/\μ y<n
    ·obtain⟨y,X0,g1,g2,g3,g4⟩:=hs;exact ih (μ y) g4 y X0 g1 g2 g3 rfl
    ·refine⟨n,⟨x,L',h1,h2,h3,h4⟩,λy X0 g1 g2 g3=>?_⟩;rcases ahD (μ y) n with g|g
     ·exact absurd ⟨y,X0,g1,g2,g3,g⟩ hs
     ·exact g
  exact key _ x L' hI uo dI rfl
 intro a1 w1 hI1;obtain⟨⟨x,L1,hI,uo,dI,hμ⟩,ae5⟩:=Classical.epsilon_spec (least a1 w1 hI1);refine wp_mono (round x hI L1 w1 a1 uo) λe a' w' ⟨s',L',q,c',ev⟩=>?_
 cases e with
 |normal=>
  obtain⟨x',VT,bp,Yq⟩:=q;have hP:I x'/\eQ C (st x') L' w' a'/\Ev C.nb C.tb L (st x0).H.length (st x0).T w L' (st x').H.length (st x').T w':=
   ⟨VT,Yq.nD c',(dI.trans ev).trans Yq.ev⟩
  refine⟨⟨x',L',hP⟩,?_⟩;obtain⟨_,Oj⟩:=Classical.epsilon_spec (least a' w' ⟨x',L',hP⟩);have h1:=Oj x' L' hP.1 hP.2.1 hP.2.2;rw[<-hμ];exact ajT h1 bp
 |_=>exact⟨s',L',q,c',dI.trans ev⟩
def kH (w:World)(o:Obj)(b:Nat)(h:b<w.heap.size):(w.alloc o).heap[b]?=w.heap[b]?:=by
 show (w.heap.push o)[b]?=_;rw[Array.getElem?_push,ahC zO]
def fQ (w:World)(o:Obj):(w.alloc o).heap[w.heap.size]?=some o:=by
 show (w.heap.push o)[w.heap.size]?=_;rw[Array.getElem?_push,ahF rfl]
def jz {w w':World}{b:Nat}(h:w'.heap[b]?=w.heap[b]?)(o:Nat):w'.cell? ⟨b,o,none⟩=w.cell? ⟨b,o,none⟩:=by
 unfold World.cell?;simp only[h]
def gI {w:World}{b:Nat}{c:Array Value}{e:TypeId}{fr:Nat×Nat}(h:w.heap[b]?=some (.cells c e fr))(o:Nat):w.cell? ⟨b,o,none⟩=c[o]?:=by
 unfold World.cell?;simp only[h];simp
def cz.drew {L:Lay}{H:List aA}{T:au}{w w':World}(h:cz L H T w)(hh:w'.heap=w.heap):cz L H T w':=by
 have kp:dh L H.length T w L H.length T w':=⟨ahv _,λ_ _=>rfl,λt u z h=>⟨u,h,ahv _,λ_=>rfl⟩,λ_=>ahv _,λb o _=>jz (by rw[hh]) o,rfl⟩
 refine⟨λi b hb=>?_,h.inj,λt u z ht=>?_,h.pG,h.kY,λb hb=>h.mz b (by rw[<-hh];exact hb),h.gl.keep kp.m kp.uh⟩
 ·exact(h.box i b hb).stay kp (aht.1 hb).1 (by rw[hh]) id
 ·obtain⟨h1,h2⟩:=h.tok t u z ht;exact⟨h1,λhs=>by rw[hh];exact h2 hs⟩
def Ev.drew {L:Lay}{H:List aA}{T:au}{w w':World}(hh:w'.heap=w.heap)(ho:w'.os=w.os)(ht:w'.tape=w.tape)(BE:w'.output=w.output)(qE:w.drawn<=w'.drawn) :
  Ev H.length T.length L H.length T w L H.length T w':=
 ⟨ahv _,λ_ _=>rfl,λt u z _ h=>⟨u,h,ahv _,λ_=>rfl⟩,ahv _,λ_=>ahv _,λb o _=>jz (by rw[hh]) o,by rw[hh];exact ahv _,
  λb _ _=>by rw[hh],λb hb=>.inl hb,ho,ht,BE,λ_=>qE,rfl⟩
def Lay.bZ (L:Lay)(b k:Nat):Lay:={ L with m:=λx=>if x=b then k else L.m x }
def Lay.dG (L:Lay)(i b:Nat):Lay:={ L with bW:=λx=>if x=i then b else L.bW x }
def Lay.bE (L:Lay)(t:Nat)(k:Tk):Lay:={ L with eF:=λx=>if x=t then k else L.eF x }
theorem Ev.alloc {L:Lay}{H:List aA}{T:au}{w:World}(h:cz L H T w)(o:Obj)(k:Nat) :
  Ev H.length T.length L H.length T w (L.bZ w.heap.size k) H.length T (w.alloc o):=by
 refine⟨ahv _,λ_ _=>rfl,λt u z _ h=>⟨u,h,ahv _,λ_=>rfl⟩,ahv _,λb=>?_,λb o' ho=>?_,zS,λb hb _=>kH w o b hb,
  λb hb=>.inl hb,rfl,rfl,rfl,λ_=>ahv _,rfl⟩
 ·show L.m b<=if b=w.heap.size then k else L.m b
  split
  ·rename_i e;rw[h.mz b zO];exact ahE _
  ·exact ahv _
 ·have hb:b<w.heap.size:=by
   rcases ahD b w.heap.size with h1|h1
   ·exact h1
   ·rw[h.mz b h1] at ho;omega
  exact jz (kH w o b hb) o'
theorem cz.alloc {L:Lay}{H:List aA}{T:au}{w:World}(h:cz L H T w)(o:Obj)(k:Nat):cz (L.bZ w.heap.size k) H T (w.alloc o):=by
 have kp:=(Ev.alloc h o k).keeps;refine⟨λi b hb=>?_,h.inj,λt u z ht=>?_,h.pG,h.kY,λb hb=>?_,h.gl.keep kp.m kp.uh⟩
 ·have bp:=(h.box i b hb).lt;refine(h.box i b hb).stay kp (aht.1 hb).1 (kH w o _ bp) λh5=>?_;show (if L.bW i=w.heap.size then k else L.m (L.bW i))=0;rw[ahC zO];exact h5
 ·obtain⟨h1,h2⟩:=h.tok t u z ht;refine⟨h1,λhs=>?_⟩;have bp:=h.G0 ht hs;obtain⟨c,e,fr,g1,g2,g3,g4⟩:=h2 hs;refine⟨c,e,fr,by show (w.alloc o).heap[(L.eF t).b]?=_;rw[kH w o _ bp];exact g1,g2,g3,?_⟩;show (if (L.eF t).b=w.heap.size then k else L.m (L.eF t).b)<=_;rw[ahC zO];exact g4
 ·have:w.heap.size+1<=b:=by simpa using hb
  show (if b=w.heap.size then k else L.m b)=0;rw[ahC zO];exact h.mz b zO
def cz.xx {L:Lay}{H:List aA}{T:au}{w:World}(h:cz L H T w){b:Nat}(hb:w.heap.size<=b):¬Wr L H.length T b:=λhw=>by
 have:=h.ZW hw;omega
def cz.sq {L:Lay}{H:List aA}{T:au}{w:World}(h:cz L H T w)(b:Nat)(hb:¬Wr L H.length T b)(pq:aA)(hz:w.heap.size<=b->False)
  (r8:ny (L.dG H.length b) (H.length+1) T w H.length pq):cz (L.dG H.length b) (H++[pq]) T w:=by
 have rE:∀i,i<H.length->(L.dG H.length b).bW i=L.bW i:=λi hi=>by simp only[Lay.dG];rw[ahC zO]
 have xb:(L.dG H.length b).bW H.length=b:=by simp[Lay.dG]
 have kp:dh L H.length T w (L.dG H.length b) (H++[pq]).length T w:=
  ⟨zS,λi hi=>rE i hi,λt u z h=>⟨u,h,ahv _,λ_=>rfl⟩,λ_=>ahv _,λ_ _ _=>rfl,rfl⟩
 have gL:∀i,i<H.length->L.bW i≠b:=λi hi e=>hb (.inl ⟨i,hi,e⟩);refine⟨λi x hx=>?_,λi j hi hj e=>?_,λt u z ht=>h.tok t u z ht,h.pG,λt u z i ht hs hi=>?_,h.mz,h.gl.keep kp.m kp.uh⟩
 ·rcases ahD i H.length with hi|hi
  ·rw[ahB hi] at hx;have:=(h.box i x hx).stay kp hi rfl id;exact this
  ·have jf:i=H.length:=by
    have:=(aht.1 hx).1;simp at this;omega
   subst jf;simp at hx;subst hx;simpa using r8
 ·simp at hi hj;rcases ahD i H.length with jf|jf<;>rcases ahD j H.length with bU|bU
  ·rw[rE i jf,rE j bU] at e;exact h.inj i j jf bU e
  ·have:j=H.length:=zO;subst this;rw[rE i jf,xb] at e;exact absurd e (gL i jf)
  ·have:i=H.length:=zO;subst this;rw[rE j bU,xb] at e;exact absurd e.symm (gL j bU)
  ·omega
 ·simp at hi;rcases ahD i H.length with jf|jf
  ·rw[rE i jf];exact h.kY t u z i ht hs jf
  ·have:i=H.length:=zO;subst this;rw[xb];intro e;exact hb (.inr ⟨t,u,z,ht,hs,e⟩)
def Ev.sq {L L1:Lay}{H:List aA}{T:au}{w w1:World}{b:Nat}(pq:aA)(h:Ev H.length T.length L H.length T w L1 H.length T w1)(hb:w.heap.size<=b) :
  Ev H.length T.length L H.length T w (L1.dG H.length b) (H++[pq]).length T w1:=by
 refine⟨zS,λi hi=>?_,h.tok,h.t,h.m,h.uh,h.size,h.frame,λx hx=>?_,h.os,h.tape,h.output,h.drawn,h.dr⟩
 ·simp only[Lay.dG];rw[ahC zO];exact h.bW i hi
 ·rcases hx with⟨i,hi,e⟩|⟨t,u,z,ht,hs,e⟩
  ·simp at hi;rcases ahD i H.length with jf|jf
   ·exact h.wr x (.inl ⟨i,jf,by simp only[Lay.dG] at e;rwa [ahC zO] at e⟩)
   ·have:i=H.length:=zO;subst this;simp[Lay.dG] at e;exact .inr zO
  ·exact h.wr x (.inr ⟨t,u,z,ht,hs,e⟩)
def cz.oQ {L:Lay}{H:List aA}{T:au}{w:World}(h:cz L H T w)(k:Tk)(u z:Nat)(hb:u<k.c*z->¬Wr L H.length T k.b)
  (je:Aj (L.bE T.length k) w T.length u z):cz (L.bE T.length k) H (T++[(u,z)]) w:=by
 have r7:∀t,t<T.length->(L.bE T.length k).eF t=L.eF t:=λt ht=>by simp only[Lay.bE];rw[ahC zO]
 have xb:(L.bE T.length k).eF T.length=k:=by simp[Lay.bE]
 have kp:dh L H.length T w (L.bE T.length k) H.length (T++[(u,z)]) w:=by
  refine⟨ahv _,λi hi=>rfl,λt u' z' ht=>?_,λ_=>ahv _,λ_ _ _=>rfl,rfl⟩;have bp:=(aht.1 ht).1;exact⟨u',by rw[ahB bp];exact ht,ahv _,λ_=>r7 t bp⟩
 have part:∀t u' z',(T++[(u,z)])[t]?=some (u',z')->(t<T.length/\T[t]?=some (u',z'))\/(t=T.length/\u'=u/\z'=z):=by
  intro t u' z' ht;rcases ahD t T.length with bp|oG
  ·rw[ahB bp] at ht;exact .inl ⟨bp,ht⟩
  ·have h1:=(aht.1 ht).1;simp at h1;have:t=T.length:=zO;subst this;simp at ht;exact .inr ⟨rfl,ht.1.symm,ht.2.symm⟩
 refine⟨λi b hb=>?_,h.inj,λt u' z' ht=>?_,λt u1 z1 t' u2 z2 h1 h2 s1 s2 e=>?_,λt u1 z1 i h1 s1 hi=>?_,h.mz,h.gl.keep kp.m kp.uh⟩
 ·exact(h.box i b hb).stay kp (aht.1 hb).1 rfl id
 ·rcases part t u' z' ht with⟨bp,ht⟩|⟨rfl,rfl,rfl⟩
  ·have:=h.tok t u' z' ht;unfold Aj at this ⊢;rw[r7 t bp];exact this
  ·exact je
 ·rcases part t u1 z1 h1 with⟨bp,g1⟩|⟨rfl,e1,e2⟩<;>rcases part t' u2 z2 h2 with⟨kZ,g2⟩|⟨rfl,e3,e4⟩
  ·rw[r7 _ bp] at s1 e;rw[r7 _ kZ] at s2 e;exact h.pG t u1 z1 t' u2 z2 g1 g2 s1 s2 e
  ·rw[r7 _ bp] at s1 e;rw[xb] at s2 e;rw[e3,e4] at s2;exact absurd (.inr ⟨t,u1,z1,g1,s1,e⟩) (hb s2)
  ·rw[r7 _ kZ] at s2 e;rw[xb] at s1 e;rw[e1,e2] at s1;exact absurd (.inr ⟨t',u2,z2,g2,s2,e.symm⟩) (hb s1)
  ·rfl
 ·rcases part t u1 z1 h1 with⟨bp,h1⟩|⟨rfl,rfl,rfl⟩
  ·rw[r7 _ bp] at s1 ⊢;exact h.kY t u1 z1 i h1 s1 hi
  ·rw[xb] at s1 ⊢;exact λe=>hb s1 (.inl ⟨i,hi,e.symm⟩)
def Ev.oQ {L L1:Lay}{H:List aA}{T:au}{w w1:World}{k:Tk}{u z:Nat}(h:Ev H.length T.length L H.length T w L1 H.length T w1)(hb:u<k.c*z->w.heap.size<=k.b\/Wr L H.length T k.b) :
  Ev H.length T.length L H.length T w (L1.bE T.length k) H.length (T++[(u,z)]) w1:=by
 refine⟨h.n,h.bW,λt u' z' ht hT=>?_,zS,h.m,h.uh,h.size,h.frame,λx hx=>?_,h.os,h.tape,h.output,h.drawn,h.dr⟩
 ·obtain⟨u1,h1,h2,h3⟩:=h.tok t u' z' ht hT;refine⟨u1,by rw[ahB ht];exact h1,h2,λe=>?_⟩;simp only[Lay.bE];rw[ahC zO];exact h3 e
 ·rcases hx with⟨i,hi,e⟩|⟨t,u1,z1,ht,hs,e⟩
  ·exact h.wr x (.inl ⟨i,hi,e⟩)
  ·rcases ahD t T.length with bp|oG
   ·rw[ahB bp] at ht;simp only[Lay.bE] at hs e;rw[ahC zO] at hs e;exact h.wr x (.inr ⟨t,u1,z1,ht,hs,e⟩)
   ·have h1:=(aht.1 ht).1;simp at h1;have:t=T.length:=zO;subst this;simp at ht;simp[Lay.bE] at hs e;obtain⟨rfl,rfl⟩:=ht;subst e;rcases hb hs with g|g
    ·exact .inr g
    ·exact .inl g
def pk (w:World)(b o:Nat)(v:Value){c:Array Value}{e:TypeId}{fr:Nat×Nat}(h:w.heap[b]?=some (.cells c e fr)) :
  (w.setCell ⟨b,o,none⟩ v).heap[b]?=some (.cells (c.setIfInBounds o v) e fr):=by
 show (w.heap.modify b _)[b]?=_;rw[ajG,ahF rfl,h];rfl
def gK (w:World)(b o:Nat)(v:Value)(x:Nat)(hx:x≠b):(w.setCell ⟨b,o,none⟩ v).heap[x]?=w.heap[x]?:=by
 simp only[World.setCell,ajG];rw[ahC (λe=>hx e.symm)]
theorem cz.setCell {L:Lay}{H:List aA}{T:au}{w:World}(h:cz L H T w){i o:Nat}{vs:List AV}(hi:H[i]?=some (.cells vs))(ho:o<vs.length){v:AV}{cv:Value}
  (hv:bt L H.length T w v cv) (h1:cv.oneCell'=true) :
  cz L (H.set i (.cells (vs.set o v))) T (w.setCell ⟨L.bW i,o,none⟩ cv)/\
   Ev H.length T.length L H.length T w L (H.set i (.cells (vs.set o v))).length T (w.setCell ⟨L.bW i,o,none⟩ cv):=by
 have eM:=(aht.1 hi).1;obtain⟨c,t,fr,g1,g2,g3,wC,g4,g5⟩:=h.box i _ hi;have sR:∀b o',o'<L.m b->(w.setCell ⟨L.bW i,o,none⟩ cv).cell? ⟨b,o',none⟩=w.cell? ⟨b,o',none⟩:=by
  intro b o' bp;refine jz (gK w _ _ _ _ ?_) o';rintro rfl;omega
 have kp:dh L H.length T w L H.length T (w.setCell ⟨L.bW i,o,none⟩ cv):=
  ⟨ahv _,λ_ _=>rfl,λt u z h=>⟨u,h,ahv _,λ_=>rfl⟩,λ_=>ahv _,sR,rfl⟩
 refine⟨⟨λj b hb=>?_,λa b ha hb=>h.inj a b (zU ha) (zU hb),λt u z ht=>?_,h.pG,λt u z j ht hs hj=>h.kY t u z j ht hs (zU hj),λb hb=>h.mz b (zU hb),h.gl.keep kp.m kp.uh⟩,
  by simp,λ_ _=>rfl,λt u z _ h=>⟨u,h,ahv _,λ_=>rfl⟩,ahv _,λ_=>ahv _,sR,zS,λb hb hn=>?_,λb hb=>.inl (zU hb),rfl,rfl,rfl,λ_=>ahv _,rfl⟩
 ·rw[aiR]
  by_cases rW:i=j
  ·subst rW;rw[ahZ eM] at hb
   cases hb
   refine⟨_,t,fr,pk w _ _ _ g1,λo' vY=>g2 o' (by simpa using vY),by simpa using g3,λj hj=>?_,λj hj bU=>?_,g5⟩
   ·by_cases XN:o=j
    ·subst XN;simpa using h1
    ·rw[Array.getElem_setIfInBounds_ne (zU hj) XN];exact wC j _
   ·by_cases XN:o=j
    ·subst XN;simpa using hv.keep kp
    ·rw[Array.getElem_setIfInBounds_ne (by simpa using bU) XN,List.getElem_set_ne XN];exact(g4 j (zU hj) (by simpa using bU)).keep kp
  ·rw[ail rW] at hb;have hx:=h.box j b hb;have ru:=(aht.1 hb).1;have dM:L.bW j≠L.bW i:=λe=>rW (h.inj j i ru eM e).symm;exact hx.stay kp ru (gK w _ _ _ _ dM) id
 ·obtain⟨k1,k2⟩:=h.tok t u z ht;refine⟨k1,λhs=>?_⟩;rw[gK _ _ _ _ _ (h.kY t u z i ht hs eM)];exact k2 hs
 ·exact gK w _ _ _ _ (λe=>hn (.inl ⟨i,eM,e.symm⟩))
def cz.setIter {L:Lay}{H:List aA}{T:au}{w:World}(h:cz L H T w){i pos pos':Nat}{s:List UInt8}(hi:H[i]?=some (.iter s pos)) :
  cz L (H.set i (.iter s pos')) T { w with heap:=w.heap.setIfInBounds (L.bW i) (.stringIter ⟨s.toArray⟩ pos') }/\
   Ev H.length T.length L H.length T w L (H.set i (.iter s pos')).length T { w with heap:=w.heap.setIfInBounds (L.bW i) (.stringIter ⟨s.toArray⟩ pos') }:=by
 have eM:=(aht.1 hi).1;have hx:w.heap[L.bW i]?=some (.stringIter ⟨s.toArray⟩ pos):=h.box i _ hi;have dM:∀x,x≠L.bW i->(w.heap.setIfInBounds (L.bW i) (.stringIter ⟨s.toArray⟩ pos'))[x]?=w.heap[x]?:=λx hx=>ajw (λe=>hx e.symm);have sR:∀b o',o'<L.m b->World.cell? { w with heap:=w.heap.setIfInBounds (L.bW i) (.stringIter ⟨s.toArray⟩ pos') } ⟨b,o',none⟩=w.cell? ⟨b,o',none⟩:=by
  intro b o' bp
  by_cases hb:b=L.bW i
  ·subst hb;have kZ:=h.mD eM;have h1:(w.heap.setIfInBounds (L.bW i) (.stringIter ⟨s.toArray⟩ pos'))[L.bW i]?=some (.stringIter ⟨s.toArray⟩ pos'):=by simp[kZ]
   unfold World.cell?;simp only[hx,h1]
  ·exact jz (dM b hb) o'
 have kp:dh L H.length T w L H.length T { w with heap:=w.heap.setIfInBounds (L.bW i) (.stringIter ⟨s.toArray⟩ pos') }:=
  ⟨ahv _,λ_ _=>rfl,λt u z h=>⟨u,h,ahv _,λ_=>rfl⟩,λ_=>ahv _,sR,rfl⟩
 refine⟨⟨λj b hb=>?_,λa b ha hb=>h.inj a b (zU ha) (zU hb),λt u z ht=>?_,h.pG,λt u z j ht hs hj=>h.kY t u z j ht hs (zU hj),λb hb=>h.mz b (zU hb),h.gl.keep kp.m kp.uh⟩,
  by simp,λ_ _=>rfl,λt u z _ h=>⟨u,h,ahv _,λ_=>rfl⟩,ahv _,λ_=>ahv _,sR,zS,λb hb hn=>?_,λb hb=>.inl (zU hb),rfl,rfl,rfl,λ_=>ahv _,rfl⟩
 ·rw[aiR]
  by_cases rW:i=j
  ·subst rW;rw[ahZ eM] at hb
   cases hb
   have:=h.mD eM;simp[ny,this]
  ·rw[ail rW] at hb;have hx:=h.box j b hb;have ru:=(aht.1 hb).1;have hnj:L.bW j≠L.bW i:=λe=>rW (h.inj j i ru eM e).symm;exact hx.stay kp ru (dM _ hnj) id
 ·obtain⟨k1,k2⟩:=h.tok t u z ht;refine⟨k1,λhs=>?_⟩;have:=dM _ (h.kY t u z i ht hs eM);simp only[this];exact k2 hs
 ·exact dM _ (λe=>hn (.inl ⟨i,eM,e.symm⟩))
def cz.grow {L:Lay}{H:List aA}{T:au}{w w':World}(h:cz L H T w){t u z k:Nat}(ht:T[t]?=some (u,z))(hk:0<k)(hs:u+k<=(L.eF t).c*z)
  {c c':Array Value} {e:TypeId} {fr:Nat×Nat} (hb:w.heap[(L.eF t).b]?=some (.cells c e fr)) (wZ:w'.heap[(L.eF t).b]?=some (.cells c' e fr)) (gj:c'.size=c.size)
  (hold:∀j,j<(L.eF t).o+u->c'[j]?=c[j]?) (dM:∀x,x≠(L.eF t).b->w'.heap[x]?=w.heap[x]?) (hz:w'.heap.size=w.heap.size) (ho:w'.os=w.os) (Yu:w'.tape=w.tape) (BE:w'.output=w.output) (qE:w.drawn<=w'.drawn) :
  cz (L.bZ (L.eF t).b ((L.eF t).o+u+k)) H (T.set t (u+k,z)) w'/\
   Ev H.length T.length L H.length T w (L.bZ (L.eF t).b ((L.eF t).o+u+k)) H.length (T.set t (u+k,z)) w':=by
 have sM:=(aht.1 ht).1;obtain⟨yY,uv⟩:=h.tok t u z ht;have Gu:u<(L.eF t).c*z:=zO;obtain⟨c0,e0,fr0,g1,g2,g3,g4⟩:=uv Gu;rw[hb] at g1
 cases g1
 have Sj:=h.G0 ht Gu;have sR:∀b o',o'<L.m b->w'.cell? ⟨b,o',none⟩=w.cell? ⟨b,o',none⟩:=by
  intro b o' bp
  by_cases Nh:b=(L.eF t).b
  ·subst Nh;rw[gI hb,gI wZ];exact hold o' zO
  ·exact jz (dM b Nh) o'
 have UT:∀b,L.m b<=(L.bZ (L.eF t).b ((L.eF t).o+u+k)).m b:=by
  intro b;show L.m b<=if b=(L.eF t).b then _ else L.m b
  split
  ·rename_i e;rw[e];omega
  ·exact ahv _
 have NP:∀(t' u' z':Nat),T[t']?=some (u',z')->∃u1:Nat,(T.set t (u+k,z))[t']?=some (u1,z')/\u'<=u1/\(u1=u'->(L.bZ (L.eF t).b ((L.eF t).o+u+k)).eF t'=L.eF t'):=by
  intro t' u' z' qD
  by_cases vX:t=t'
  ·subst vX;rw[ht] at qD
   cases qD
   exact⟨u+k,by rw[ahZ sM],zO,λ_=>rfl⟩
  ·exact⟨u',by rw[ail vX];exact qD,ahv _,λ_=>rfl⟩
 have kp:dh L H.length T w (L.bZ (L.eF t).b ((L.eF t).o+u+k)) H.length (T.set t (u+k,z)) w':=
  ⟨ahv _,λ_ _=>rfl,NP,UT,sR,rfl⟩
 have r8:∀i,i<H.length->L.bW i≠(L.eF t).b:=λi hi=>(h.kY t u z i ht Gu hi).symm;have back:∀(t' u' z':Nat),(T.set t (u+k,z))[t']?=some (u',z')->∃u0:Nat,T[t']?=some (u0,z')/\u0<=u':=by
  intro t' u' z' qD
  by_cases vX:t=t'
  ·subst vX;rw[ahZ sM] at qD
   cases qD
   exact⟨u,ht,zO⟩
  ·rw[ail vX] at qD;exact⟨u',qD,ahv _⟩
 refine⟨⟨λi b VP=>?_,h.inj,λt' u' z' qD=>?_,λt1 u1 z1 t2 u2 z2 h1 h2 s1 s2 e=>?_,λt1 u1 z1 i h1 s1 hi=>?_,λb hbz=>?_,h.gl.keep kp.m kp.uh⟩,
  ahv _,λ_ _=>rfl,λt' u' z' _ qD=>NP t' u' z' qD,zS,UT,sR,zO,λb vw hn=>?_,λb C8=>?_,ho,Yu,BE,λ_=>qE,rfl⟩
 ·have hx:=h.box i b VP;have eM:=(aht.1 VP).1;have hn:=r8 i eM;refine hx.stay kp eM (dM _ hn) λk5=>?_;show (if L.bW i=(L.eF t).b then _ else L.m (L.bW i))=0;rw[ahC hn];exact k5
 ·by_cases vX:t=t'
  ·subst vX;rw[ahZ sM] at qD
   cases qD
   refine⟨yY,λWj=>⟨c',e,fr,wZ,by rw[gj];exact g2,λo' h1 h2=>g3 o' (by simp only[Lay.bZ] at h1;omega) h2,?_⟩⟩;show (if (L.eF t).b=(L.eF t).b then _ else _)<=_;rw[ahF rfl];simp only[Lay.bZ];omega
  ·rw[ail vX] at qD;obtain⟨k1,k2⟩:=h.tok t' u' z' qD;refine⟨k1,λWj=>?_⟩;have hbn:(L.eF t').b≠(L.eF t).b:=λe=>vX (h.pG t' u' z' t u z qD ht Wj Gu e).symm;obtain⟨c1,e1,fr1,m1,m2,m3,m4⟩:=k2 Wj;refine⟨c1,e1,fr1,(dM _ hbn).trans m1,m2,m3,?_⟩;show (if (L.eF t').b=(L.eF t).b then _ else L.m (L.eF t').b)<=_;rw[ahC hbn];exact m4
 ·obtain⟨Vu,g1,l1⟩:=back t1 u1 z1 h1;obtain⟨u2',g2,l2⟩:=back t2 u2 z2 h2;have s1':Vu<(L.eF t1).c*z1:=ajT l1 s1;have s2':u2'<(L.eF t2).c*z2:=ajT l2 s2;exact h.pG t1 Vu z1 t2 u2' z2 g1 g2 s1' s2' e
 ·obtain⟨Vu,g1,l1⟩:=back t1 u1 z1 h1;have s1':Vu<(L.eF t1).c*z1:=ajT l1 s1;exact h.kY t1 Vu z1 i g1 s1' hi
 ·show (if b=(L.eF t).b then _ else L.m b)=0;rw[ahC zO];exact h.mz b zO
 ·exact dM b (λe=>hn (.inr ⟨t,u,z,ht,Gu,e.symm⟩))
 ·rcases C8 with⟨i,hi,e⟩|⟨t',u',z',qD,vp,e⟩
  ·exact .inl (.inl ⟨i,hi,e⟩)
  ·obtain⟨Vu,g1,l1⟩:=back t' u' z' qD;exact .inl (.inr ⟨t',Vu,z',g1,ajT l1 vp,e⟩)
def cz.G4 {L:Lay}{H:List aA}{T:au}{w:World}(h:cz L H T w){t u z u':Nat}(ht:T[t]?=some (u,z))(hu:u<u')(k:Tk)
  (hb:u'<k.c*z->¬Wr L H.length T k.b) (je:Aj (L.bE t k) w t u' z):cz (L.bE t k) H (T.set t (u',z)) w:=by
 have sM:=(aht.1 ht).1;have r7:∀t',t'≠t->(L.bE t k).eF t'=L.eF t':=λt' hn=>by simp only[Lay.bE];rw[ahC hn]
 have xb:(L.bE t k).eF t=k:=by simp[Lay.bE]
 have kp:dh L H.length T w (L.bE t k) H.length (T.set t (u',z)) w:=by
  refine⟨ahv _,λi hi=>rfl,λt' u1 z1 qD=>?_,λ_=>ahv _,λ_ _ _=>rfl,rfl⟩
  by_cases vX:t'=t
  ·subst vX;rw[ht] at qD
   cases qD
   exact⟨u',by rw[ahZ sM],zO,λe=>by omega⟩
  ·exact⟨u1,by rw[ail (λe=>vX e.symm)];exact qD,ahv _,λ_=>r7 t' vX⟩
 have part:∀(t' u1 z1:Nat),(T.set t (u',z))[t']?=some (u1,z1)->(t'≠t/\T[t']?=some (u1,z1))\/(t'=t/\u1=u'/\z1=z):=by
  intro t' u1 z1 h1
  by_cases vX:t'=t
  ·subst vX;rw[ahZ sM] at h1
   cases h1
   exact .inr ⟨rfl,rfl,rfl⟩
  ·rw[ail (λe=>vX e.symm)] at h1;exact .inl ⟨vX,h1⟩
 refine⟨λi b VP=>?_,h.inj,λt' u1 z1 h1=>?_,λt1 u1 z1 t2 u2 z2 h1 h2 s1 s2 e=>?_,λt1 u1 z1 i h1 s1 hi=>?_,h.mz,h.gl.keep kp.m kp.uh⟩
 ·exact(h.box i b VP).stay kp (aht.1 VP).1 rfl id
 ·rcases part t' u1 z1 h1 with⟨hn,g1⟩|⟨rfl,e1,e2⟩
  ·have:=h.tok t' u1 z1 g1;unfold Aj at this ⊢;rw[r7 t' hn];exact this
  ·rw[e1,e2];exact je
 ·rcases part t1 u1 z1 h1 with⟨Bq,g1⟩|⟨r1,e1,e2⟩<;>rcases part t2 u2 z2 h2 with⟨CR,g2⟩|⟨r2,e3,e4⟩
  ·rw[r7 _ Bq] at s1 e;rw[r7 _ CR] at s2 e;exact h.pG t1 u1 z1 t2 u2 z2 g1 g2 s1 s2 e
  ·rw[r7 _ Bq] at s1 e;rw[r2,xb] at s2 e;rw[e3,e4] at s2;exact absurd (.inr ⟨t1,u1,z1,g1,s1,e⟩) (hb s2)
  ·rw[r7 _ CR] at s2 e;rw[r1,xb] at s1 e;rw[e1,e2] at s1;exact absurd (.inr ⟨t2,u2,z2,g2,s2,e.symm⟩) (hb s1)
  ·rw[r1,r2]
 ·rcases part t1 u1 z1 h1 with⟨Bq,g1⟩|⟨r1,e1,e2⟩
  ·rw[r7 _ Bq] at s1 ⊢;exact h.kY t1 u1 z1 i g1 s1 hi
  ·rw[r1,xb] at s1 ⊢;rw[e1,e2] at s1;exact λe=>hb s1 (.inl ⟨i,hi,e.symm⟩)
def Ev.G4 {L L1:Lay}{H:List aA}{T:au}{w w1:World}{k:Tk}{t u z u':Nat}(h:Ev H.length T.length L H.length T w L1 H.length T w1)(ht:T[t]?=some (u,z))(hu:u<u')
  (hb:u'<k.c*z->w.heap.size<=k.b):Ev H.length T.length L H.length T w (L1.bE t k) H.length (T.set t (u',z)) w1:=by
 have sM:=(aht.1 ht).1;refine⟨h.n,h.bW,λt' u1 z1 bp hT=>?_,zS,h.m,h.uh,h.size,h.frame,λx hx=>?_,h.os,h.tape,h.output,h.drawn,h.dr⟩
 ·obtain⟨u2,h1,h2,h3⟩:=h.tok t' u1 z1 bp hT;rw[hT] at h1
  by_cases vX:t'=t
  ·subst vX;rw[ht] at hT
   cases hT
   exact⟨u',by rw[ahZ sM],zO,λe=>by omega⟩
  ·refine⟨u1,by rw[ail (λe=>vX e.symm)];exact hT,ahv _,λe=>?_⟩;simp only[Lay.bE];rw[ahC vX]
   cases h1
   exact h3 rfl
 ·rcases hx with⟨i,hi,e⟩|⟨t',u1,z1,h1,hs,e⟩
  ·exact h.wr x (.inl ⟨i,hi,e⟩)
  ·by_cases vX:t'=t
   ·subst vX;rw[ahZ sM] at h1
    cases h1
    simp[Lay.bE] at hs e;subst e;exact .inr (hb hs)
   ·rw[ail (λe=>vX e.symm)] at h1;simp only[Lay.bE] at hs e;rw[ahC vX] at hs e;exact h.wr x (.inr ⟨t',u1,z1,h1,hs,e⟩)
def y9:Value->AV
 |.bool b=>.bool b
 |.int k n=>.int k n
 |.string s=>.str s.data.toList
 |.pointer none=>.gq
 |.slice _ 0 0=>.sl 0 [] .full
 |.nilFunc=>.jD
 |.nilIface=>.nG
 |_=>.top
def RA:Value->AV
 |.agg cs=>if cs.all (·.oneCell') then .agg (cs.toList.map y9) else .top
 |v=>y9 v
def bV (e:Env):Operand->AV
 |.tmp t=>bO e t
 |.const v=>RA v
 |.func f=>.fn f [] []
 |.global _=>.top
def BP:AV->Bool
 |.top|.agg _|.dn _=>false
 |_=>true
section
variable {L : Lay} {N : Nat} {T : au} {w : World}
theorem bt.y9 (v:Value):bt L N T w (y9 v) v:=by
 unfold Am.y9
 split
 ·exact .bool _
 ·exact .int _ _
 ·rename_i s;exact .str s.data.toList
 ·exact .gq
 ·exact .zF .full _ 0 rfl
 ·exact .jD
 ·exact .nG
 ·exact .top _
theorem bt.RA (v:Value):bt L N T w (RA v) v:=by
 unfold Am.RA
 split
 ·rename_i cs
  split
  ·rename_i h;rw[Array.all_eq_true] at h;refine .agg _ cs zS (λj hj=>h j hj) (λj hj bU=>?_);simp only[aip,aiv];exact .y9 _
  ·exact .top _
 ·exact .y9 _
theorem fu.bV {e:Env}{a:Act}(h:fu L N T w e a)(x:Operand):bt L N T w (bV e x) (a.eval x):=by
 cases x with
 |tmp t=>exact h t
 |const v=>exact .RA v
 |func f=>exact .fn f [] [] #[] #[] rfl rfl (λj hj=>by simp at hj) (λj hj=>by simp at hj)
 |global g=>exact .top _
def bt.eh {k:IntKind}{n:Int}{c:Value}(h:bt L N T w (.int k n) c):c=.int k n:=by cases h;rfl
def bt.jS {b:Bool}{c:Value}(h:bt L N T w (.bool b) c):c=.bool b:=by cases h;rfl
def bt.jb {s:List UInt8}{c:Value}(h:bt L N T w (.str s) c):c=.string ⟨s.toArray⟩:=by cases h;rfl
def bt.EB {c:Value}(h:bt L N T w .nG c):c=.nilIface:=by cases h;rfl
def bt.Jx {c:Value}(h:bt L N T w .Bm c):∃t v,c=.iface t v:=by cases h;exact⟨_,_,rfl⟩
def bt.oS {i o:Nat}{c:Value}(h:bt L N T w (.ptr i o) c):c=.pointer (some ⟨L.bW i,o,none⟩)/\i<N:=by cases h;exact⟨rfl,‹_›⟩
def bt.cell {v:AV}{c:Value}(h:bt L N T w v c)(hc:BP v=true):c.oneCell'=true:=by
 cases h<;>simp[BP] at hc<;>rfl
end
def Good (P:Program)(x:Sem Next)(H:List aA)(T:au)(L:Lay)(w:World)(r:AV)(H':List aA)(T':au):Prop:=
 ∃n cv w' L',x.run P w=.ok n w'/\(n=.value cv\/(n=.skip/\cv=undef))/\cz L' H' T' w'/\bt L' H'.length T' w' r cv/\Ev H.length T.length L H.length T w L' H'.length T' w'
def Good.now {P:Program}{x:Sem Next}{H:List aA}{T:au}{L:Lay}{w:World}{r:AV}{cv:Value}(hc:cz L H T w)(hx:x.run P w=.ok (.value cv) w)(hr:bt L H.length T w r cv):Good P x H T L w r H T:=
 ⟨_,cv,w,L,hx,.inl rfl,hc,hr,Ev.refl (ahv _) (ahv _)⟩
def SB (op : BinOp) (k : IntKind) (a b : Int) : Option AV :=
  match op with
  | .add => some (.int k (k.wrap (a + b)))
  | .sub => some (.int k (k.wrap (a - b)))
  | .mul => some (.int k (k.wrap (a * b)))
  | .quo => if b = 0 then none else some (.int k (k.wrap (a.tdiv b)))
  | .rem => if b = 0 then none else some (.int k (a.tmod b))
  | .and => some (.int k (bits .and k a b))
  | .or => some (.int k (bits .or k a b))
  | .xor => some (.int k (bits .xor k a b))
  | .andNot => some (.int k (bits .andNot k a b))
  | .eql => some (.bool (a == b))
  | .neq => some (.bool (a != b))
  | .lss => some (.bool (decide (a < b)))
  | .leq => some (.bool (decide (a <= b)))
  | .gtr => some (.bool (decide (a > b)))
  | .geq => some (.bool (decide (a ≥ b)))
  | _ => none
def Sy (op:BinOp)(a b:List UInt8):Option AV:=
 match op with
 |.add=>if a.length+b.length<=9223372036854775807 then some (.str (a++b)) else none
 |.eql=>some (.bool (a==b))
 |.neq=>some (.bool (!(a==b)))
 |.lss=>some (.bool (Op.bytesLess a b))
 |.leq=>some (.bool (Op.bytesLess a b||a==b))
 |.gtr=>some (.bool (!(Op.bytesLess a b||a==b)))
 |.geq=>some (.bool (!Op.bytesLess a b))
 |_=>none
def SC (op:BinOp)(x y:AV):Option AV:=
 match x,y with
 |.int k a,.int k' b=>
  match op with
  |.shl=>if 0<=b then some (.int k (k.wrap (a*2 ^ min b.toNat k.bits))) else none
  |.shr=>if 0<=b then some (.int k (a.fdiv (2 ^ min b.toNat k.bits))) else none
  |op=>if k=k' then SB op k a b else none
 |.str a,.str b=>Sy op a b
 |.bool a,.bool b=>match op with
  |.eql=>some (.bool (a==b))
  |.neq=>some (.bool (!(a==b)))
  |_=>none
 |.gq,.gq=>match op with|.eql=>some (.bool true)|.neq=>some (.bool false)|_=>none
 |.ptr _ _,.gq|.eB _ _,.gq|.gq,.ptr _ _|.gq,.eB _ _=>match op with|.eql=>some (.bool false)|.neq=>some (.bool true)|_=>none
 |_,_=>none
def aun (op:UnOp)(x:AV):Option AV:=
 match op,x with
 |.neg,.int k n=>some (.int k (k.wrap (0-n)))
 |.xor,.int k n=>some (.int k (bits .xor k (if k.signed then -1 else k.max) n))
 |.not,.bool b=>some (.bool (!b))
 |_,_=>none
section
variable {P : Program} {w : World}
theorem PE {op : BinOp} {k : IntKind} {a b : Int} {r : AV} (h : SB op k a b = some r) (t : TypeId) (h1 : op ≠ .shl) (h2 : op ≠ .shr) :
    ∃ cv, (binOp op t (.int k a) (.int k b)).run P w = .ok cv w /\ ∀ (L : Lay) (N : Nat) (T : au) (w' : World), bt L N T w' r cv := by
  cases op <;> simp only [SB, Option.some.injEq, reduceCtorEq] at h
  case quo =>
    split at h
    · cases h
    · rename_i hb
      cases h
      exact ⟨_, by simp [binOp, Op.intDiv, hb], λ_ _ _ _ => .int _ _⟩
  case rem =>
    split at h
    · cases h
    · rename_i hb
      cases h
      exact ⟨_, by simp [binOp, Op.intDiv, hb], λ_ _ _ _ => .int _ _⟩
  all_goals
    subst h
    first
      | exact ⟨_, by simp [binOp, Op.intArith]; rfl, λ_ _ _ _ => .int _ _⟩
      | exact ⟨_, by simp [binOp, Op.intCmp], λ_ _ _ _ => .bool _⟩
      | exact ⟨_, by simp [binOp, Op.intBits]; rfl, λ_ _ _ _ => .int _ _⟩
def toList_mk (s:List UInt8):(⟨s.toArray⟩:ByteArray).toList=s:=by
 rw[show (⟨s.toArray⟩:ByteArray).toList=(⟨s.toArray⟩:ByteArray).data.toList from ByteArray.toList_eq _]
def LY (a b:List UInt8):(⟨a.toArray⟩:ByteArray)++⟨b.toArray⟩=⟨(a++b).toArray⟩:=by
 apply ByteArray.ext;simp
def PA {op:BinOp}{a b:List UInt8}{r:AV}(h:Sy op a b=some r)(t:TypeId) :
  ∃cv,(binOp op t (.string ⟨a.toArray⟩) (.string ⟨b.toArray⟩)).run P w=.ok cv w/\∀(L:Lay)(N:Nat)(T:au)(w':World),bt L N T w' r cv:=by
 have hi:IntKind.i64.max=9223372036854775807:=zD
 cases op<;>simp only[Sy,Option.some.injEq,reduceCtorEq] at h
 case add=>
  split at h
  ·rename_i hb
   cases h
   refine⟨.string ⟨(a++b).toArray⟩,?_,λ_ _ _ _=>.str _⟩;have:¬((a.length+b.length:Nat):Int)>IntKind.i64.max:=by rw[hi];omega
   simp only[binOp,Op.stringOp];rw[ahC (by simpa[ByteArray.size] using this),LY];rfl
  ·cases h
 all_goals
  subst h;exact⟨_,by simp only[binOp,Op.stringOp,toList_mk];rfl,λ_ _ _ _=>.bool _⟩
def pj (op:BinOp)(t:TypeId)(x y:Operand)(a b:Value)(h:(∀cs,a≠.agg cs)/\a≠.nilIface):(eqGuard op t x y a b).run P w=.ok () w:=by
 unfold eqGuard
 cases a<;>first|exact absurd rfl h.2|exact absurd rfl (h.1 _)|(cases op<;>simp)
def S5 {op:UnOp}{x r:AV}{c:Value}{L:Lay}{N:Nat}{T:au}(h:aun op x=some r)(hx:bt L N T w x c) :
  ∃cv,(Op.unary op c).run P w=.ok cv w/\∀(L:Lay)(N:Nat)(T:au)(w':World),bt L N T w' r cv:=by
 unfold aun at h
 split at h
 ·cases h;rw[hx.eh];exact⟨_,rfl,λ_ _ _ _=>.int _ _⟩
 ·cases h;rw[hx.eh];exact⟨_,rfl,λ_ _ _ _=>.int _ _⟩
 ·cases h;rw[hx.jS];exact⟨_,rfl,λ_ _ _ _=>.bool _⟩
 ·cases h
def uF (P:Program)(t:TypeId)(x:AV):Bool:=
 match P.underlying t,x with
 |some .bool,.bool _=>true
 |some (.pointer _),.gq|some (.pointer _),.ptr _ _|some (.pointer _),.eB _ _=>true
 |some _,.int _ _|some _,.str _=>true
 |_,_=>false
def lV (t:TypeId)(x y:Value)(b:Bool)(op:BinOp)(ho:op=.eql\/op=.neq)(hb:binOp .eql t x y=(do pure (.bool (<-Op.equal t x y))))(wZ:binOp .neq t x y=(do pure (.bool (!(<-Op.equal t x y)))))
  (h:∀d:Nat,(Op.equalIn (d+1) t x y).run P w=.ok b w):(binOp op t x y).run P w=.ok (.bool (if op=.eql then b else !b)) w:=by
 have h1:(Op.equal t x y).run P w=.ok b w:=h 9999;rcases ho with rfl|rfl
 ·rw[hb];simp only[Sem.run_bind,h1,Result.andThen_ok];rfl
 ·rw[wZ];simp only[Sem.run_bind,h1,Result.andThen_ok];rfl
theorem PG {op : BinOp} {x y r : AV} {cx cy : Value} {L : Lay} {N : Nat} {T : au} (t : TypeId) (h : SC op x y = some r) (ht : uF P t x = true) (hx : bt L N T w x cx) (hy : bt L N T w y cy) (ox oy : Operand) :
    ∃ cv, (eqGuard op t ox oy cx cy >>= λ_ => binOp op t cx cy).run P w = .ok cv w /\ ∀ (L : Lay) (N : Nat) (T : au) (w' : World), bt L N T w' r cv := by
  have hg : (∀ cs, cx ≠ .agg cs) /\ cx ≠ .nilIface := by
    cases hx <;> first | (exfalso; simp [uF] at ht; done) | exact ⟨λ_ e => (by cases e), λe => (by cases e)⟩
  simp only [Sem.run_bind, pj op t ox oy cx cy hg, Result.andThen_ok];unfold SC at h
  split at h
  · rw [hx.eh, hy.eh]
    split at h
    · split at h
      · rename_i hb
        cases h
        refine ⟨_, ?_, λ_ _ _ _ => .int _ _⟩;simp only [binOp, Op.shift];rw [ahC (by omega)];rfl
      · cases h
    · split at h
      · rename_i hb
        cases h
        refine ⟨_, ?_, λ_ _ _ _ => .int _ _⟩;simp only [binOp, Op.shift];rw [ahC (by omega)];rfl
      · cases h
    · split at h
      · rename_i hk;subst hk;exact PE h t ‹_› ‹_›
      · cases h
  · rw [hx.jb, hy.jb];exact PA h t
  · rename_i a b;rw [hx.jS, hy.jS];have hu : P.underlying t = some .bool := by
      unfold uF at ht; split at ht <;> simp_all
    have he : ∀ d : Nat, (Op.equalIn (d + 1) t (.bool a) (.bool b)).run P w = .ok (a == b) w := λd => by simp [Op.equalIn, run_underlying hu]
    split at h <;> cases h
    · exact ⟨_, lV t _ _ _ .eql (.inl rfl) rfl rfl he, λ_ _ _ _ => .bool _⟩
    · exact ⟨_, lV t _ _ _ .neq (.inr rfl) rfl rfl he, λ_ _ _ _ => .bool _⟩
  all_goals first
    | (have hu : ∃ e, P.underlying t = some (.pointer e) := by
        unfold uF at ht; split at ht <;> simp_all
       obtain ⟨e, hu⟩ := hu
       cases hx
       cases hy
       split at h <;> cases h
       · exact ⟨_, lV t _ _ _ .eql (.inl rfl) rfl rfl (λd => by simp only [Op.equalIn, Sem.run_bind, run_underlying hu, Result.andThen_ok]; rfl), λ_ _ _ _ => .bool _⟩
       · exact ⟨_, lV t _ _ _ .neq (.inr rfl) rfl rfl (λd => by simp only [Op.equalIn, Sem.run_bind, run_underlying hu, Result.andThen_ok]; rfl), λ_ _ _ _ => .bool _⟩)
    | cases h
end
def fm (b o j:Nat):(⟨b,o,none⟩:Addr).add j=⟨b,o+j,none⟩:=by
 unfold Addr.add
 split
 ·rename_i h;subst h;rfl
 ·rfl
def cS (L:Lay)(N:Nat)(T:au)(w:World)(vs:List AV)(c:List Value):Prop:=
 c.length=vs.length/\(∀(j:Nat)(h':j<c.length),(c[j]'h').oneCell'=true)/\∀(j:Nat)(h:j<vs.length)(h':j<c.length),bt L N T w (vs[j]'h) (c[j]'h')
section
variable {L : Lay} {N : Nat} {T : au} {w : World}
def cS.nil:cS L N T w [] []:=⟨rfl,λ_ h=>by simp at h,λ_ h=>by simp at h⟩
def cS.one {v:AV}{c:Value}(h:bt L N T w v c)(h1:c.oneCell'=true):cS L N T w [v] [c]:=
 ⟨rfl,λj hj=>by simp at hj;subst hj;exact h1,λj hj _=>by simp at hj;subst hj;exact h⟩
def cS.append {a b:List AV}{c d:List Value}(h:cS L N T w a c)(k:cS L N T w b d):cS L N T w (a++b) (c++d):=by
 refine⟨by simp[h.1,k.1],λj hj=>?_,λj hj bU=>?_⟩
 ·rw[ajA]
  split
  ·exact h.2.1 _ _
  ·exact k.2.1 _ _
 ·rw[ajA,ajA]
  by_cases bp:j<a.length
  ·rw[akf bp,akf (by rw[h.1];exact bp)];exact h.2.2 _ _ _
  ·rw[akg bp,akg (by rw[h.1];exact bp)];have:=k.2.2 (j-a.length) (by simp at hj;omega) (by simp at bU;rw[h.1] at bU;omega);simpa[h.1] using this
theorem cS.drop {a:List AV}{c:List Value}(h:cS L N T w a c)(k:Nat):cS L N T w (a.drop k) (c.drop k):=by
 refine⟨by simp[h.1],λj hj=>?_,λj hj bU=>?_⟩
 ·rw[List.getElem_drop];exact h.2.1 _ _
 ·rw[List.getElem_drop,List.getElem_drop];exact h.2.2 _ _ _
theorem cS.take {a:List AV}{c:List Value}(h:cS L N T w a c)(k:Nat):cS L N T w (a.take k) (c.take k):=by
 refine⟨by simp[h.1],λj hj=>?_,λj hj bU=>?_⟩
 ·rw[ajK];exact h.2.1 _ _
 ·rw[ajK,ajK];exact h.2.2 _ _ _
theorem cS.keep {L':Lay}{N':Nat}{T':au}{w':World}{a:List AV}{c:List Value}(k:dh L N T w L' N' T' w')(h:cS L N T w a c):cS L' N' T' w' a c:=
 ⟨h.1,h.2.1,λj hj bU=>(h.2.2 j hj bU).keep k⟩
theorem cS.set {a:List AV}{c:List Value}(h:cS L N T w a c)(i:Nat){v:AV}{x:Value}(hv:bt L N T w v x)(h1:x.oneCell'=true):cS L N T w (a.set i v) (c.set i x):=by
 refine⟨by simp[h.1],λj hj=>?_,λj hj bU=>?_⟩
 ·rw[getElem_set]
  split
  ·exact h1
  ·exact h.2.1 _ _
 ·rw[getElem_set,getElem_set]
  split
  ·exact hv
  ·exact h.2.2 _ _ _
theorem cS.agg {a:List AV}{c:List Value}(h:cS L N T w a c):bt L N T w (.agg a) (.agg c.toArray):=
 .agg a c.toArray (zU h.1) (λj hj=>by simpa using h.2.1 j (zU hj)) (λj hj bU=>by simpa using h.2.2 j hj (by simpa using bU))
theorem cS.BM {a:List AV}{c:Array Value}(h:bt L N T w (.agg a) (.agg c)):cS L N T w a c.toList:=by
 cases h with
 |agg _ _ h1 h2 hr=>exact⟨by simpa using h1,λj hj=>by simpa using h2 j (zU hj),λj hj bU=>by simpa using hr j hj (by simpa using bU)⟩
end
def VX (v:AV):Option (List AV):=
 match v with
 |.agg cs=>some cs
 |v=>if BP v then some [v] else none
theorem Cr {L:Lay}{N:Nat}{T:au}{w:World}{v:AV}{c:Value}{xs:List AV}(h:VX v=some xs)(hv:bt L N T w v c):cS L N T w xs c.cells.toList:=by
 unfold VX at h
 split at h
 ·cases h
  cases hv with
  |agg _ _ h1 h2 hr=>exact cS.BM (.agg _ _ h1 h2 hr)
 ·rename_i hn
  split at h
  ·rename_i hc
   cases h
   have h1:=hv.cell hc;have:c.cells=#[c]:=by cases c<;>first|rfl|(simp[Value.oneCell'] at h1)
   rw[this];exact cS.one hv h1
  ·cases h
def kh (P:Program)(t:TypeId):Option Bool:=
 match P.underlying t with
 |some (.struct _)|some (.array _ _)=>some true
 |some _=>some false
 |none=>none
def ma {P:Program}{t:TypeId}{b:Bool}(h:kh P t=some b)(w:World):(isAgg t).run P w=.ok b w:=by
 unfold kh at h
 split at h<;>cases h
 ·rename_i hu;simp[isAgg,run_underlying hu]
 ·rename_i hu;simp[isAgg,run_underlying hu]
 ·rename_i d Bq CR hu;simp only[isAgg,Sem.run_bind,run_underlying hu,Result.andThen_ok]
  cases d<;>first|rfl|exact absurd rfl (Bq _)|exact absurd rfl (CR _ _)
def TP {P:Program}{t:TypeId}{d:TypeDesc}(h:P.underlying t=some d):∃i,P.info? t=some i:=info_of_underlying h
def cW {P:Program}{t:TypeId}{d:TypeDesc}(h:P.underlying t=some d)(w:World):(sizeOf t).run P w=.ok (P.cellsOf t) w:=by
 obtain⟨i,hi⟩:=TP h;exact run_sizeOf w hi
def N6 (H:List aA)(p:AV):Option (List AV×Nat):=
 match p with
 |.ptr i o=>match H[i]? with
  |some (.cells vs)=>some (vs,o)
  |_=>none
 |.eB cs o=>some (cs,o)
 |_=>none
def ny.at {L:Lay}{N:Nat}{T:au}{w:World}{i:Nat}{vs:List AV}(h:ny L N T w i (.cells vs)) :
  ∃c:Array Value,cS L N T w vs c.toList/\∀j,w.cell? ⟨L.bW i,j,none⟩=c[j]?:=by
 obtain⟨c,t,fr,h1,h2,h3,YX,h4,h5⟩:=h;exact⟨c,⟨by simpa using h3,λj hj=>by simpa using YX j (zU hj),λj hj bU=>by simpa using h4 j hj (by simpa using bU)⟩,λj=>gI h1 j⟩
theorem yI {L:Lay}{H:List aA}{T:au}{w:World}{p:AV}{c:Value}{vs:List AV}{o:Nat}(hc:cz L H T w)(hp:bt L H.length T w p c)(h:N6 H p=some (vs,o)) :
  ∃(b base:Nat) (cv:List Value),c=.pointer (some ⟨b,base+o,none⟩)/\cS L H.length T w vs cv/\∀j,j<vs.length->w.cell? ⟨b,base+j,none⟩=cv[j]?:=by
 unfold N6 at h
 split at h
 ·rename_i i o'
  split at h
  ·rename_i vs' hi
   cases h
   cases hp with
   |ptr _ _ bp=>
    obtain⟨c,h1,h2⟩:=(hc.box i _ hi).at;exact⟨L.bW i,0,c.toList,zS,h1,λj _=>by simpa using h2 j⟩
  ·cases h
 ·cases h
  cases hp with
  |eB _ _ b base f hm mB h1 hr=>
   refine⟨b,base,(List.range vs.length).map f,rfl,⟨zS,λj hj=>by simpa using h1 j (zU hj),λj hj bU=>by simpa using hr j hj⟩,λj hj=>?_⟩;rw[mB j hj];simp[hj]
 ·cases h
def rO (P:Program)(t:TypeId)(vs:List AV)(o:Nat):Option AV:=
 match kh P t with
 |some true=>if o+P.cellsOf t<=vs.length then some (.agg ((vs.drop o).take (P.cellsOf t))) else none
 |some false=>if o<vs.length then some (vs.getD o .top) else none
 |none=>none
theorem vJ {P:Program}{t:TypeId}{L:Lay}{N:Nat}{T:au}{w:World}{vs:List AV}{o b base:Nat}{cv:List Value}{r:AV}(hr:cS L N T w vs cv)
  (hc:∀j,j<vs.length->w.cell? ⟨b,base+j,none⟩=cv[j]?) (h:rO P t vs o=some r):∃c,(loadVar t ⟨b,base+o,none⟩).run P w=.ok c w/\bt L N T w r c:=by
 unfold rO at h
 split at h
 ·rename_i C9
  split at h
  ·rename_i hle
   cases h
   have hu:∃d,P.underlying t=some d:=by
    unfold kh at C9
    cases hx:P.underlying t with
    |none=>simp[hx] at C9
    |some d=>exact⟨d,rfl⟩
   obtain⟨d,hu⟩:=hu;have Rm:cv.length=vs.length:=hr.1;refine⟨.agg ((cv.drop o).take (P.cellsOf t)).toArray,?_,((hr.drop o).take _).agg⟩;have hl:=run_loadCells (P:=P) w ⟨b,base+o,none⟩ (P.cellsOf t) (λj=>(cv[o+j]?).getD undef) (λj hj=>by
    rw[fm,show base+o+j=base+(o+j) by omega,hc _ zO];have:o+j<cv.length:=zO;simp[this])
   simp only[loadVar,Sem.run_bind,ma C9,Result.andThen_ok,ajc,cW hu,hl];show Result.ok _ _=Result.ok _ _
   congr 3
   apply ajq
   ·simp;omega
   ·intro j h1 h2;simp at h1;have:o+j<cv.length:=zO;simp[this]
  ·cases h
 ·rename_i C9
  split at h
  ·rename_i bp;have Rm:o<cv.length:=by rw[hr.1];exact bp
   refine⟨cv[o],?_,?_⟩
   ·have mB:=hc o bp;rw[ahu Rm] at mB;simp only[loadVar,Sem.run_bind,ma C9,Result.andThen_ok,aiu,aje,run_load,mB]
   ·have:=hr.2.2 o bp Rm
    cases h
    simpa[bp] using this
  ·cases h
 ·cases h
def setMany:List AV->Nat->List AV->List AV
 |vs,_,[]=>vs
 |vs,o,x::r=>setMany (vs.set o x) (o+1) r
theorem nN {P:Program}{L:Lay}{T:au}(i:Nat)(o:Nat):∀(xs:List AV)(cs:List Value)(k:Nat)(H:List aA)(w:World)(vs:List AV),cz L H T w->cS L H.length T w xs cs->
  H[i]?=some (.cells vs)->o+k+xs.length<=vs.length->
  ∃w',(storeCells ⟨L.bW i,o,none⟩ cs k).run P w=.ok () w'/\cz L (H.set i (.cells (setMany vs (o+k) xs))) T w'/\
   Ev H.length T.length L H.length T w L (H.set i (.cells (setMany vs (o+k) xs))).length T w':=by
 intro xs
 induction xs with
 |nil=>
  intro cs k H w vs hc hr hi hle;have y7:cs=[]:=ah5 (zU hr.1);subst y7;have hH:H.set i (.cells (setMany vs (o+k) []))=H:=by
   have bp:=(aht.1 hi)
   simp only[setMany];apply ajn;intro j
   by_cases hj:i=j
   ·subst hj;rw[ahZ bp.1,hi]
   ·rw[ail hj]
  refine⟨w,rfl,by rw[hH];exact hc,by rw[hH];exact Ev.refl (ahv _) (ahv _)⟩
 |cons x r ih=>
  intro cs k H w vs hc hr hi hle
  match cs,hr with
  |c::cr,hr=>
   have eM:=(aht.1 hi).1;have h0:bt L H.length T w x c:=hr.2.2 0 zS zS;have h1:c.oneCell'=true:=hr.2.1 0 zS;have Nx:cS L H.length T w r cr:=by simpa using hr.drop 1
   obtain⟨cc,t,fr,g1,g2,g3,wC,g4,g5⟩:=hc.box i _ hi;have bp:o+k<vs.length:=by simp at hle;omega
   obtain⟨IJ,he1⟩:=hc.setCell hi bp h0 h1;have fe:(store ((⟨L.bW i,o,none⟩:Addr).add k) c).run P w=.ok () (w.setCell ⟨L.bW i,o+k,none⟩ c):=by
    rw[fm,run_store P w _ c _ h1,gI g1];have hk:o+k<cc.size:=zO;have hfz:w.frozen? ⟨L.bW i,o+k,none⟩=false:=by
     unfold World.frozen?;simp only[g1];exact g2 _ hk
    simp[hk,hfz]
   have hlen:(H.set i (.cells (vs.set (o+k) x))).length=H.length:=zS;obtain⟨w',dj,pn,wY⟩:=ih cr (k+1) (H.set i (.cells (vs.set (o+k) x))) (w.setCell ⟨L.bW i,o+k,none⟩ c) (vs.set (o+k) x) IJ (by rw[hlen];exact Nx.keep (by simpa[hlen] using he1.keeps))
    (ahZ eM) (by simp at hle ⊢;omega)
   rw[List.set_set] at pn wY;refine⟨w',?_,?_,?_⟩
   ·simp only[storeCells,Sem.run_bind,fe,Result.andThen_ok,dj]
   ·simpa[setMany,add_assoc] using pn
   ·rw[hlen] at wY;have:=he1.trans (by rw[hlen];exact wY);simpa[setMany,add_assoc] using this
  |[],hr=>simp[cS] at hr
def cz.si {L:Lay}{H:List aA}{T:au}{w:World}(h:cz L H T w)(c:Array Value)(ty:TypeId){vs:List AV}(hr:cS L H.length T w vs c.toList) :
  ∃L',cz L' (H++[aA.cells vs]) T (w.alloc (.cells c ty))/\Ev H.length T.length L H.length T w L' (H++[aA.cells vs]).length T (w.alloc (.cells c ty))/\L'.bW H.length=w.heap.size:=by
 have h1:=h.alloc (.cells c ty) 0;have e1:=Ev.alloc h (.cells c ty) 0;have II:¬Wr (L.bZ w.heap.size 0) H.length T w.heap.size:=h.xx (ahv _);have e2:=Ev.sq (b:=w.heap.size) (aA.cells vs) e1 (ahv _);refine⟨(L.bZ w.heap.size 0).dG H.length w.heap.size,h1.sq w.heap.size II (aA.cells vs) (λhle=>by simp at hle;omega) ?_,e2,by simp[Lay.dG]⟩;have rE:((L.bZ w.heap.size 0).dG H.length w.heap.size).bW H.length=w.heap.size:=by simp[Lay.dG]
 have VF:=hr.keep e2.keeps;have hl:(H++[aA.cells vs]).length=H.length+1:=zS;rw[hl] at VF;refine⟨c,ty,(0,0),by rw[rE];exact fQ w _,λo ho=>by simp,by simpa using hr.1,λj hj=>?_,λj hj bU=>?_,?_⟩
 ·have:=hr.2.1 j (zU hj);rwa [aiv] at this
 ·have:=VF.2.2 j hj (by simpa using bU);rwa [aiv] at this
 ·rw[rE];simp[Lay.dG,Lay.bZ]
def cz.newRow {L:Lay}{H:List aA}{T:au}{w:World}(h:cz L H T w)(c:Array Value)(ty:TypeId)(fr:Nat×Nat){vs:List AV}(k:Nat)(hk:vs.length<=k)(hr:cS L H.length T w vs (c.toList.take vs.length))(n cap:Nat)(hn:n<=cap)(tg:Tag)(ht:tg=.none\/(tg=.full/\cap=n)) :
  cz (L.bZ w.heap.size k) H T (w.alloc (.cells c ty fr))/\Ev H.length T.length L H.length T w (L.bZ w.heap.size k) H.length T (w.alloc (.cells c ty fr))/\
   bt (L.bZ w.heap.size k) H.length T (w.alloc (.cells c ty fr)) (.sl n vs tg) (.slice (some ⟨w.heap.size,0,none⟩) n cap):=by
 have e1:=Ev.alloc h (.cells c ty fr) k;refine⟨h.alloc (.cells c ty fr) k,e1,?_⟩;have VF:=hr.keep e1.keeps;have hlen:(c.toList.take vs.length).length=vs.length:=hr.1;have gj:vs.length<=c.size:=by simp at hlen;omega
 refine .QY n vs tg w.heap.size 0 cap (λj=>c.getD j undef) hn (by simp[Lay.bZ];omega) (λj hj=>?_) (λj hj=>?_) (λj hj=>?_) ?_
 ·rw[gI (fQ w _)];have:j<c.size:=zO;simp[this]
 ·have:=VF.2.1 j (by rw[hlen];exact hj);have vu:j<c.size:=zO;simpa[vu] using this
 ·have:=VF.2.2 j hj (by rw[hlen];exact hj);have vu:j<c.size:=zO;simpa[vu] using this
 ·rcases ht with rfl|⟨rfl,rfl⟩
  ·trivial
  ·rfl
section
variable {P : Program} {L : Lay} {N : Nat} {T : au} {w : World}
theorem bt.fN {n:Nat}{cs:List AV}{tg:Tag}{c:Value}(h:bt L N T w (.sl n cs tg) c) :
  ∃a cap,c=.slice a n cap/\n<=cap/\mv L T tg n cs.length a cap/\((cs=[]/\n=0)\/∃(b base:Nat) (cv:List Value),a=some ⟨b,base,none⟩/\base+cs.length<=L.m b/\cS L N T w cs cv/\
   ∀j,j<cs.length->w.cell? ⟨b,base+j,none⟩=cv[j]?):=by
 cases h with
 |zF _ a cap ht=>exact⟨a,cap,rfl,ahE _,ht,.inl ⟨rfl,rfl⟩⟩
 |QY _ _ _ b base cap f cK hm hc h1 hr ht=>
  refine⟨_,cap,rfl,cK,ht,.inr ⟨b,base,(List.range cs.length).map f,rfl,hm,⟨zS,λj hj=>by simpa using h1 j (zU hj),λj hj bU=>by simpa using hr j hj⟩,λj hj=>?_⟩⟩;rw[hc j hj];simp[hj]
def bt.SV {cs:List AV}{b base:Nat}{cv:List Value}(o:Nat)(hm:base+cs.length<=L.m b)(hr:cS L N T w cs cv)(hc:∀j,j<cs.length->w.cell? ⟨b,base+j,none⟩=cv[j]?) :
  bt L N T w (.eB cs o) (.pointer (some ⟨b,base+o,none⟩)):=by
 refine .eB cs o b base (λj=>cv.getD j undef) hm (λj hj=>?_) (λj hj=>?_) (λj hj=>?_)
 ·have:j<cv.length:=by rw[hr.1];exact hj
  rw[hc j hj];simp[this]
 ·have:j<cv.length:=by rw[hr.1];exact hj
  simpa[this] using hr.2.1 j this
 ·have:j<cv.length:=by rw[hr.1];exact hj
  simpa[this] using hr.2.2 j hj this
def bt.nr {n cap:Nat}{cs:List AV}{tg:Tag}{b base:Nat}{cv:List Value}(cK:n<=cap)(hm:base+cs.length<=L.m b)(hr:cS L N T w cs cv)(hc:∀j,j<cs.length->w.cell? ⟨b,base+j,none⟩=cv[j]?)
  (ht:mv L T tg n cs.length (some ⟨b,base,none⟩) cap):bt L N T w (.sl n cs tg) (.slice (some ⟨b,base,none⟩) n cap):=by
 refine .QY n cs tg b base cap (λj=>cv.getD j undef) cK hm (λj hj=>?_) (λj hj=>?_) (λj hj=>?_) ht
 ·have:j<cv.length:=by rw[hr.1];exact hj
  rw[hc j hj];simp[this]
 ·have:j<cv.length:=by rw[hr.1];exact hj
  simpa[this] using hr.2.1 j this
 ·have:j<cv.length:=by rw[hr.1];exact hj
  simpa[this] using hr.2.2 j hj this
def bt.iI {i n cap:Nat}{c:Value}(h:bt L N T w (.bQ i n cap) c):c=.slice (some ⟨L.bW i,0,none⟩) n cap/\n<=cap/\i<N:=by
 cases h with|bQ _ _ _ hi cK=>exact⟨rfl,cK,hi⟩
def bt.kD {i o n:Nat}{c:Value}(h:bt L N T w (.cV i o n) c):∃cap,c=.slice (some ⟨L.bW i,o,none⟩) n cap/\n<=cap/\i<N:=by
 cases h with|cV _ _ _ cap hi cK=>exact⟨cap,rfl,cK,hi⟩
def vD (p:AV)(d:Nat):Option AV:=
 match p with
 |.ptr i o=>some (.ptr i (o+d))
 |.eB cs o=>some (.eB cs (o+d))
 |_=>none
theorem bt.vD {p q:AV}{c:Value}{d:Nat}(h:bt L N T w p c)(hq:Am.vD p d=some q):∃a:Addr,c=.pointer (some a)/\bt L N T w q (.pointer (some (a.add d))):=by
 unfold Am.vD at hq
 split at hq
 ·cases hq;cases h with|ptr _ _ hi=>exact⟨_,rfl,by rw[fm];exact .ptr _ _ hi⟩
 ·cases hq;cases h with|eB _ _ b base f hm hc h1 hr=>exact⟨_,rfl,by rw[fm,add_assoc];exact .eB _ _ b base f hm hc h1 hr⟩
 ·cases hq
def o6 (P:Program)(s:TypeId)(p:AV)(f:Nat):Option AV:=
 match P.underlying s with
 |some (.struct fs)=>match fs[f]? with
  |some fd=>if (P.underlying fd.type).isSome&&0<P.cellsOf fd.type then vD p fd.offset else none
  |none=>none
 |_=>none
def FM {s:TypeId}{p q:AV}{f:Nat}{c:Value}(h:o6 P s p f=some q)(hp:bt L N T w p c):∃cv,(Instr.fieldAt s c f).run P w=.ok cv w/\bt L N T w q cv:=by
 unfold o6 at h
 split at h
 ·rename_i fs hu
  split at h
  ·rename_i fd hf
   split at h
   ·rename_i hz;simp only[ahG,ahH] at hz;obtain⟨d,hd⟩:=aia.1 hz.1;obtain⟨a,rfl,hr⟩:=hp.vD h;refine⟨_,?_,hr⟩;have:¬P.cellsOf fd.type=0:=zO;simp[Instr.fieldAt,run_underlying hu,hf,Instr.sureAddr,fieldPlace,cW hd,this]
   ·cases h
  ·cases h
 ·cases h
def o5 (P:Program)(t:TypeId)(x ix:AV):Option AV:=
 match P.underlying t,x,ix with
 |some (.slice e),.sl n cs _,.int _ i=>if 0<=i/\i<n then (if (P.underlying e).isSome then some (.eB cs (i.toNat*P.cellsOf e)) else none) else none
 |some (.slice e),.cV b o n,.int _ i=>if 0<=i/\i<n then (if (P.underlying e).isSome then some (.ptr b (o+i.toNat*P.cellsOf e)) else none) else none
 |some (.slice e),.bQ b n _,.int _ i=>if 0<=i/\i<n then (if (P.underlying e).isSome then some (.ptr b (0+i.toNat*P.cellsOf e)) else none) else none
 |some (.array len e),p,.int _ i=>if 0<=i/\i<len then (if (P.underlying e).isSome then vD p (i.toNat*P.cellsOf e) else none) else none
 |_,_,_=>none
def FL {t:TypeId}{x ix q:AV}{cx ci:Value}(h:o5 P t x ix=some q)(hx:bt L N T w x cx)(hi:bt L N T w ix ci):∃cv,(Instr.indexAt t cx ci).run P w=.ok cv w/\bt L N T w q cv:=by
 unfold o5 at h
 split at h
 ·rename_i e n cs tg k i hu
  split at h
  ·rename_i hb
   split at h
   ·rename_i he;obtain⟨d,hd⟩:=aia.1 he
    cases h
    rw[hi.eh];obtain⟨a,cap,rfl,cK,_,h0|⟨b,base,cv,rfl,hm,hr,hc⟩⟩:=hx.fN
    ·omega
    ·refine⟨_,?_,bt.SV (i.toNat*P.cellsOf e) hm hr hc⟩;simp[Instr.indexAt,run_underlying hu,asIntOf,hb,cW hd,fm]
   ·cases h
  ·cases h
 ·rename_i e b o n k i hu
  split at h
  ·rename_i hb
   split at h
   ·rename_i he;obtain⟨d,hd⟩:=aia.1 he
    cases h
    rw[hi.eh];obtain⟨cap,rfl,cK,bp⟩:=hx.kD;refine⟨_,?_,bt.ptr b (o+i.toNat*P.cellsOf e) bp⟩;simp[Instr.indexAt,run_underlying hu,asIntOf,hb,cW hd,fm]
   ·cases h
  ·cases h
 ·rename_i e b n cap k i hu
  split at h
  ·rename_i hb
   split at h
   ·rename_i he;obtain⟨d,hd⟩:=aia.1 he
    cases h
    rw[hi.eh];obtain⟨rfl,cK,bp⟩:=hx.iI;refine⟨_,?_,bt.ptr b (0+i.toNat*P.cellsOf e) bp⟩;simp[Instr.indexAt,run_underlying hu,asIntOf,hb,cW hd,fm]
   ·cases h
  ·cases h
 ·rename_i len e p k i hu
  split at h
  ·rename_i hb
   split at h
   ·rename_i he;obtain⟨d,hd⟩:=aia.1 he;rw[hi.eh];obtain⟨a,rfl,hr⟩:=hx.vD h;refine⟨_,?_,hr⟩;simp[Instr.indexAt,run_underlying hu,asIntOf,hb,cW hd,Instr.sureAddr]
   ·cases h
  ·cases h
 ·cases h
def BS (P:Program)(t:TypeId)(x ix:AV):Option AV:=
 match P.underlying t,x,ix with
 |some .string,.str s,.int _ i=>if 0<=i/\i<s.length then some (.int .u8 ((s.getD i.toNat 0).toNat:Int)) else none
 |some (.array len e),.agg cs,.int _ i=>if 0<=i/\i<len then rO P e cs (i.toNat*P.cellsOf e) else none
 |_,_,_=>none
theorem Eh {t:TypeId}{cs:List AV}{o:Nat}{r:AV}{c:Array Value}(hr:bt L N T w (.agg cs) (.agg c))(h:rO P t cs o=some r):∃cv,(part t c o).run P w=.ok cv w/\bt L N T w r cv:=by
 have VE:=cS.BM hr;unfold rO at h
 split at h
 ·rename_i C9
  split at h
  ·rename_i hle
   cases h
   have hu:∃d,P.underlying t=some d:=by
    unfold kh at C9
    cases hx:P.underlying t with
    |none=>simp[hx] at C9
    |some d=>exact⟨d,rfl⟩
   obtain⟨d,hu⟩:=hu;refine⟨_,by simp only[part,Sem.run_bind,ma C9,Result.andThen_ok,ajc,cW hu];rfl,?_⟩;have:=((VE.drop o).take (P.cellsOf t)).agg;have e:(c.extract o (o+P.cellsOf t))=((c.toList.drop o).take (P.cellsOf t)).toArray:=by
    apply Array.ext';simp
   rw[e];exact this
  ·cases h
 ·rename_i C9
  split at h
  ·rename_i bp
   cases h
   have Rm:o<c.toList.length:=by rw[VE.1];exact bp
   have jH:o<c.size:=by simpa using Rm
   have h3:=VE.2.2 o bp Rm;refine⟨c[o],?_,by simpa[bp] using h3⟩;simp only[part,Sem.run_bind,ma C9,Result.andThen_ok,aiu,aje,ajj jH];rfl
  ·cases h
 ·cases h
theorem Lw {t:TypeId}{x ix r:AV}{cx ci:Value}(h:BS P t x ix=some r)(hx:bt L N T w x cx)(hi:bt L N T w ix ci):∃cv,(Instr.index t cx ci).run P w=.ok cv w/\bt L N T w r cv:=by
 unfold BS at h
 split at h
 ·rename_i s k i hu
  split at h
  ·rename_i hb
   cases h
   rw[hi.eh,hx.jb];have bp:i.toNat<s.length:=zO;have e:(⟨s.toArray⟩:ByteArray)[i.toNat]?=some (s.getD i.toNat 0):=by
    rw[ByteArray.getElem?_lt' _ _ (by simpa[ByteArray.size] using bp)];simp[bp];rfl
   refine⟨_,?_,.int _ _⟩;simp[Instr.index,run_underlying hu,asIntOf,hb.1,e]
  ·cases h
 ·rename_i len e cs k i hu
  split at h
  ·rename_i hb;rw[hi.eh];have hd:∃d,P.underlying e=some d:=by
    unfold rO kh at h
    cases hx:P.underlying e with
    |none=>simp[hx] at h
    |some d=>exact⟨d,rfl⟩
   obtain⟨d,hd⟩:=hd
   cases hx with
   |agg _ c h1 h2 hr=>
    obtain⟨cv,h3,h4⟩:=Eh (.agg cs c h1 h2 hr) h;refine⟨cv,?_,h4⟩;simp[Instr.index,run_underlying hu,asIntOf,hb,cW hd,h3]
  ·cases h
 ·cases h
def BT (P:Program)(t:TypeId)(x:AV)(f:Nat):Option AV:=
 match P.underlying t,x with
 |some (.struct fs),.agg cs=>match fs[f]? with
  |some fd=>rO P fd.type cs fd.offset
  |none=>none
 |_,_=>none
theorem Lx {t:TypeId}{x r:AV}{f:Nat}{cx:Value}(h:BT P t x f=some r)(hx:bt L N T w x cx):∃cv,(Instr.field t cx f).run P w=.ok cv w/\bt L N T w r cv:=by
 unfold BT at h
 split at h
 ·rename_i fs cs hu
  split at h
  ·rename_i fd hf
   cases hx with
   |agg _ c h1 h2 hr=>
    obtain⟨cv,h3,h4⟩:=Eh (.agg cs c h1 h2 hr) h;refine⟨cv,?_,h4⟩;simp[Instr.field,run_underlying hu,hf,asAgg,h3]
  ·cases h
 ·cases h
def fV (x:Option AV)(afG:Nat):Option Nat:=
 match x with
 |none=>some afG
 |some (.int _ i)=>if 0<=i then some i.toNat else none
 |_=>none
def BR (P:Program)(t:TypeId)(x:AV)(lo hi mx:Option AV):Option AV:=
 match P.underlying t,x,mx with
 |some .string,.str s,none=>
  match fV lo 0,fV hi s.length with
  |some l,some h=>if l<=h/\h<=s.length then some (.str ((s.drop l).take (h-l))) else none
  |_,_=>none
 |some (.slice e),.sl n cs _,none=>
  match fV lo 0,fV hi n with
  |some l,some h=>if l<=h/\h<=n/\l*P.cellsOf e<=cs.length then (if (P.underlying e).isSome then some (.sl (h-l) ((cs.drop (l*P.cellsOf e)).take ((h-l)*P.cellsOf e)) .none) else none) else none
  |_,_=>none
 |some (.slice e),.sl n cs _,some m=>
  match fV lo 0,fV hi n,fV (some m) 0 with
  |some l,some h,some m=>if l<=h/\h<=m/\m<=n/\hi.isSome/\l*P.cellsOf e<=cs.length then (if (P.underlying e).isSome then some (.sl (h-l) ((cs.drop (l*P.cellsOf e)).take ((h-l)*P.cellsOf e)) (if h=m then .full else .none)) else none) else none
  |_,_,_=>none
 |some (.slice e),.cV i o n,none=>
  match fV lo 0,fV hi n with
  |some l,some h=>if l<=h/\h<=n/\(l<n\/l=0) then (if (P.underlying e).isSome then some (.cV i (o+l*P.cellsOf e) (h-l)) else none) else if l=n/\h=n/\(P.underlying e).isSome then some (.sl 0 [] .none) else none
  |_,_=>none
 |some (.array n e),.ptr i o,none=>
  match fV lo 0,fV hi n with
  |some l,some h=>if l<=h/\h<=n/\(l<n\/l=0) then (if (P.underlying e).isSome then some (.cV i (o+l*P.cellsOf e) (h-l)) else none) else none
  |_,_=>none
 |_,_,_=>none
theorem mV {x:Option AV}{d n:Nat}{c:Option Value}(h:fV x d=some n)(hc:∀v cv,x=some v->c=some cv->bt L N T w v cv)(hs:x.isSome=c.isSome) :
  (x=none/\c=none/\n=d)\/(∃k,c=some (.int k (n:Int))/\x.isSome=true):=by
 cases x with
 |none=>
  cases c with
  |none=>simp[fV] at h;exact .inl ⟨rfl,rfl,h.symm⟩
  |some c=>simp at hs
 |some v=>
  cases c with
  |none=>simp at hs
  |some cv=>
   have hr:=hc v cv rfl rfl
   cases v<;>simp only[fV,reduceCtorEq] at h
   rename_i k i
   split at h
   ·rename_i hi
    cases h
    right
    rw[hr.eh];exact⟨k,by rw[Int.toNat_of_nonneg hi],rfl⟩
   ·cases h
def iK {k:IntKind}{n y:Nat}(h:n<=y)(code:BoundsCode):(Instr.sliceBound (.int k (n:Int)) y code).run P w=.ok n w:=by
 have:(0:Int)<=(n:Int)/\(n:Int)<=(y:Int):=zO;simp[Instr.sliceBound,asIntOf];intro hh;omega
def mO {isS:Bool}{len cap l h:Nat}{lo hi:Option AV}{cl ch:Option Value}(hl:fV lo 0=some l)(hh:fV hi len=some h)(h1:l<=h)(h2:h<=len)(h3:len<=cap)
  (rl:∀v cv,lo=some v->cl=some cv->bt L N T w v cv) (rh:∀v cv,hi=some v->ch=some cv->bt L N T w v cv) (sl:lo.isSome=cl.isSome) (sh:hi.isSome=ch.isSome) :
  (Instr.sliceBounds isS len cap cl ch none).run P w=.ok (l,h,cap) w:=by
 rcases mV hl rl sl with⟨_,e1,e2⟩|⟨k,e1,_⟩<;>rcases mV hh rh sh with⟨_,e3,e4⟩|⟨k',e3,_⟩<;>subst e1<;>subst e3
 ·subst e2;subst e4;simp[Instr.sliceBounds]
 ·subst e2;simp[Instr.sliceBounds,iK (w:=w) (P:=P) (k:=k') (n:=h) (y:=cap) zO]
 ·subst e4;simp[Instr.sliceBounds,iK (w:=w) (P:=P) (k:=k) (n:=l) (y:=h) h1]
 ·simp[Instr.sliceBounds,iK (w:=w) (P:=P) (k:=k') (n:=h) (y:=cap) zO,iK (w:=w) (P:=P) (k:=k) (n:=l) (y:=h) h1]
def FN {len cap l h m:Nat}{lo hi:Option AV}{x:AV}{cl ch:Option Value}{cm:Value}(hl:fV lo 0=some l)(hh:fV hi len=some h)(hm:fV (some x) 0=some m)(h1:l<=h)(h2:h<=m)(h4:m<=cap)(his:hi.isSome=true)
  (rl:∀v cv,lo=some v->cl=some cv->bt L N T w v cv) (rh:∀v cv,hi=some v->ch=some cv->bt L N T w v cv) (rm:bt L N T w x cm) (sl:lo.isSome=cl.isSome) (sh:hi.isSome=ch.isSome) :
  (Instr.sliceBounds true len cap cl ch (some cm)).run P w=.ok (l,h,m) w:=by
 have em:∃k,cm=.int k (m:Int):=by
  rcases mV (c:=some cm) hm (λv cv e1 e2=>by cases e1;cases e2;exact rm) rfl with⟨e,_⟩|⟨k,e,_⟩
  ·cases e
  ·exact⟨k,by cases e;rfl⟩
 obtain⟨km,rfl⟩:=em;rcases mV hh rh sh with⟨e,_⟩|⟨k',e3,_⟩
 ·subst e;simp at his
 subst e3;rcases mV hl rl sl with⟨_,e1,e2⟩|⟨k,e1,_⟩<;>subst e1
 ·subst e2;simp[Instr.sliceBounds,iK (w:=w) (P:=P) (k:=km) (n:=m) (y:=cap) h4,iK (w:=w) (P:=P) (k:=k') (n:=h) (y:=m) h2]
 ·simp[Instr.sliceBounds,iK (w:=w) (P:=P) (k:=km) (n:=m) (y:=cap) h4,iK (w:=w) (P:=P) (k:=k') (n:=h) (y:=m) h2,iK (w:=w) (P:=P) (k:=k) (n:=l) (y:=h) h1]
def bt.sub {n:Nat}{cs:List AV}{tg:Tag}{a:Option Addr}{cap:Nat}(hx:bt L N T w (.sl n cs tg) (.slice a n cap))(l h m z:Nat)(h1:l<=h)(h2:h<=n)(h3:h<=m)(hlen:l*z<=cs.length)(Rz:Tag)(ht:Rz=.none\/(Rz=.full/\h=m)) :
  bt L N T w (.sl (h-l) ((cs.drop (l*z)).take ((h-l)*z)) Rz) (.slice (if m=l then a else a.map (·.add (l*z))) (h-l) (m-l)):=by
 obtain⟨a',lQ,e,cK,_,h0⟩:=hx.fN
 cases e
 have tok:∀a'',mv L T Rz (h-l) ((cs.drop (l*z)).take ((h-l)*z)).length a'' (m-l):=by
  intro a'';rcases ht with rfl|⟨rfl,rfl⟩
  ·trivial
  ·rfl
 rcases h0 with⟨rfl,rfl⟩|⟨b,base,cv,rfl,hm,hr,hc⟩
 ·have:h-l=0:=zO;have e2:=tok (if m=l then a else a.map (·.add (l*z)));rw[this] at e2 ⊢;simp at e2 ⊢;exact .zF _ _ _ e2
 ·by_cases jU:m=l
  ·have:h-l=0:=zO;have e2:=tok (if m=l then some ⟨b,base,none⟩ else (some (⟨b,base,none⟩:Addr)).map (·.add (l*z)));rw[this] at e2 ⊢;simp at e2 ⊢;exact .zF _ _ _ e2
  ·rw[ahC jU];simp only[ajf,fm];have Nx:=(hr.drop (l*z)).take ((h-l)*z);have e2:=tok (some ⟨b,base+l*z,none⟩);refine bt.nr zO ?_ Nx (λj hj=>?_) e2
   ·simp;omega
   ·have y5:j<(h-l)*z/\j<cs.length-l*z:=by simpa[Nat.lt_min] using hj
    rw[add_assoc,hc _ zO];simp[y5.1]
def Lu {t:TypeId}{x r:AV}{lo hi mx:Option AV}{cx:Value}{cl ch cm:Option Value}(h:BR P t x lo hi mx=some r)(hx:bt L N T w x cx)
  (rl:∀v cv,lo=some v->cl=some cv->bt L N T w v cv) (rh:∀v cv,hi=some v->ch=some cv->bt L N T w v cv) (rm:∀v cv,mx=some v->cm=some cv->bt L N T w v cv)
  (sl:lo.isSome=cl.isSome) (sh:hi.isSome=ch.isSome) (sm:mx.isSome=cm.isSome):∃cv,(Instr.sliceAt t cx cl ch cm).run P w=.ok cv w/\bt L N T w r cv:=by
 unfold BR at h
 split at h
 ·rename_i s hu
  cases cm with|some _=>simp at sm|none=>
  split at h
  ·rename_i l hh e1 e2
   split at h
   ·rename_i hb
    cases h
    have wB:=mO (P:=P) (isS:=false) (cap:=s.length) e1 e2 hb.1 hb.2 (ahv _) rl rh sl sh;rw[hx.jb];refine⟨_,?_,.str _⟩;simp only[Instr.sliceAt,Sem.run_bind,run_underlying hu,Result.andThen_ok,Instr.slice];have gj:(⟨s.toArray⟩:ByteArray).size=s.length:=by simp[ByteArray.size]
    simp only[gj,wB,Sem.run_bind,Result.andThen_ok,Option.isSome_none,aiu,aje,ByteArray.extract_mk];rfl
   ·cases h
  ·cases h
 ·rename_i e n cs tg hu
  cases cm with|some _=>simp at sm|none=>
  split at h
  ·rename_i l hh e1 e2
   split at h
   ·rename_i hb
    split at h
    ·rename_i he;obtain⟨d,hd⟩:=aia.1 he
     cases h
     obtain⟨a,cap,rfl,cK,_,_⟩:=hx.fN;have wB:=mO (P:=P) (isS:=true) (cap:=cap) e1 e2 hb.1 hb.2.1 cK rl rh sl sh;refine⟨_,?_,hx.sub l hh cap (P.cellsOf e) hb.1 hb.2.1 zO hb.2.2 .none (.inl rfl)⟩;simp only[Instr.sliceAt,Sem.run_bind,run_underlying hu,Result.andThen_ok,Instr.slice,wB,cW hd];rfl
    ·cases h
   ·cases h
  ·cases h
 ·rename_i e n cs tg m hu
  cases cm with|none=>simp at sm|some cm=>
  split at h
  ·rename_i l hh mm e1 e2 e3
   split at h
   ·rename_i hb
    split at h
    ·rename_i he;obtain⟨d,hd⟩:=aia.1 he
     cases h
     obtain⟨a,cap,rfl,cK,_,_⟩:=hx.fN;have wB:=FN (P:=P) (cap:=cap) e1 e2 e3 hb.1 hb.2.1 zO hb.2.2.2.1 rl rh (rm _ _ rfl rfl) sl sh;refine⟨_,?_,hx.sub l hh mm (P.cellsOf e) hb.1 zO hb.2.1 hb.2.2.2.2 (if hh=mm then .full else .none) ?_⟩
     ·simp only[Instr.sliceAt,Sem.run_bind,run_underlying hu,Result.andThen_ok,Instr.slice,wB,cW hd];rfl
     ·split
      ·exact .inr ⟨rfl,‹_›⟩
      ·exact .inl rfl
    ·cases h
   ·cases h
  ·cases h
 ·rename_i e i o n hu
  cases cm with|some _=>simp at sm|none=>
  split at h
  ·rename_i l hh e1 e2
   split at h
   ·rename_i hb
    split at h
    ·rename_i he;obtain⟨d,hd⟩:=aia.1 he
     cases h
     obtain⟨cap,rfl,cK,bp⟩:=hx.kD;have wB:=mO (P:=P) (isS:=true) (cap:=cap) e1 e2 hb.1 hb.2.1 cK rl rh sl sh;refine⟨.slice (some ⟨L.bW i,o+l*P.cellsOf e,none⟩) (hh-l) (cap-l),?_,.cV _ _ _ _ bp zO⟩;simp only[Instr.sliceAt,Sem.run_bind,run_underlying hu,Result.andThen_ok,Instr.slice,wB,cW hd]
     by_cases gg:cap=l
     ·have Br:l=0:=zO;subst Br;subst gg;simp
     ·rw[ahC gg];simp[fm]
    ·cases h
   ·split at h
    ·rename_i hb;obtain⟨q1,q2,he⟩:=hb;subst q2;subst q1;obtain⟨d,hd⟩:=aia.1 he
     cases h
     obtain⟨cap,rfl,cK,bp⟩:=hx.kD;have wB:=mO (P:=P) (isS:=true) (cap:=cap) e1 e2 (ahv _) (ahv _) cK rl rh sl sh;refine⟨.slice (if cap=l then some ⟨L.bW i,o,none⟩ else some ⟨L.bW i,o+l*P.cellsOf e,none⟩) 0 (cap-l),?_,.zF _ _ _ trivial⟩;simp only[Instr.sliceAt,Sem.run_bind,run_underlying hu,Result.andThen_ok,Instr.slice,wB,cW hd]
     by_cases gg:cap=l
     ·rw[ahF gg,ahF gg];simp
     ·rw[ahC gg,ahC gg];simp[fm]
    ·cases h
  ·cases h
 ·rename_i n e i o hu
  cases cm with|some _=>simp at sm|none=>
  split at h
  ·rename_i l hh e1 e2
   split at h
   ·rename_i hb
    split at h
    ·rename_i he;obtain⟨d,hd⟩:=aia.1 he
     cases h
     obtain⟨rfl,bp⟩:=hx.oS;have wB:=mO (P:=P) (isS:=false) (cap:=n) e1 e2 hb.1 hb.2.1 (ahv _) rl rh sl sh;refine⟨.slice (some ⟨L.bW i,o+l*P.cellsOf e,none⟩) (hh-l) (n-l),?_,.cV _ _ _ _ bp zO⟩;simp only[Instr.sliceAt,Sem.run_bind,run_underlying hu,Result.andThen_ok,Instr.sureAddr,wB,cW hd,Sem.run_pure]
     by_cases gg:n=l
     ·have Br:l=0:=zO;subst Br;subst gg;simp
     ·rw[ahC gg];simp[fm]
    ·cases h
   ·cases h
  ·cases h
 ·cases h
end
def sU (s:List UInt8):List AV:=s.map λb=>.int .u8 (b.toNat:Int)
def NL:AV->Option UInt8
 |.int .u8 n=>some (UInt8.ofNat n.toNat)
 |_=>none
def bytesOf (cs:List AV):Option (List UInt8):=cs.mapM NL
theorem CL (s:List UInt8):bytesOf (sU s)=some s:=by
 induction s with
 |nil=>rfl
 |cons b r ih=>
  unfold bytesOf sU at ih ⊢;simp only[aih,mapM_cons,ih];simp[NL]
def ic (H:List aA)(z:Nat)(x:AV):Option (Nat×List AV):=
 match x with
 |.sl m cs _=>if cs.length=m*z then some (m,cs) else none
 |.cV i o m=>match H[i]? with
  |some (.cells vs)=>if o+m*z<=vs.length then some (m,(vs.drop o).take (m*z)) else none
  |_=>none
 |.str s=>if z=1 then some (s.length,sU s) else none
 |_=>none
section
variable {P : Program} {L : Lay} {H : List aA} {T : au} {w : World}
def EX (s:List UInt8):cS L H.length T w (sU s) (s.map λb=>Value.int .u8 (b.toNat:Int)):=by
 refine⟨by simp[sU],λj hj=>by simp[Value.oneCell'],λj hj bU=>?_⟩;simp only[sU,aip];exact .int _ _
theorem eO {z:Nat}{x:AV}{c:Value}{m:Nat}{ys:List AV}(hc:cz L H T w)(hx:bt L H.length T w x c)(h:ic H z x=some (m,ys)) :
  ∃cv:List Value,ys.length=m*z/\cS L H.length T w ys cv/\(Builtin.lenOf c).run P w=.ok m w/\(Builtin.firstCells z m c).run P w=.ok cv.toArray w:=by
 unfold ic at h
 split at h
 ·rename_i m' cs tg
  split at h
  ·rename_i hl
   cases h
   obtain⟨a,cap,rfl,cK,_,⟨rfl,rfl⟩|⟨b,base,cv,rfl,hm,hr,mB⟩⟩:=hx.fN
   ·refine⟨[],hl,cS.nil,rfl,?_⟩
    cases a with
    |none=>rfl
    |some a=>simp[Builtin.firstCells,loadCells,loadCellsFrom]
   ·have Rm:=hr.1;refine⟨cv,hl,hr,rfl,?_⟩;have:=run_loadCells_list (P:=P) w ⟨b,base,none⟩ cv (λj v hj=>by
     have bp:=(aht.1 hj).1;rw[fm,mB j zO];exact hj)
    simp only[Builtin.firstCells];rw[<-hl,<-Rm];exact this
  ·cases h
 ·rename_i i o m'
  split at h
  ·rename_i vs hi
   split at h
   ·rename_i hl
    cases h
    obtain⟨cap,rfl,cK,bp⟩:=hx.kD;obtain⟨c,hr,mB⟩:=(hc.box i _ hi).at;refine⟨(c.toList.drop o).take (m*z),?_,(hr.drop o).take _,rfl,?_⟩
    ·simp;omega
    ·have hlen:((c.toList.drop o).take (m*z)).length=m*z:=by have:=hr.1;simp at this ⊢;omega
     have:=run_loadCells_list (P:=P) w ⟨L.bW i,o,none⟩ ((c.toList.drop o).take (m*z)) (λj v hj=>by
      have bp:=(aht.1 hj).1;have kZ:j<m*z:=zO;rw[aim,ahF kZ,aja] at hj;rw[fm,mB];simpa using hj)
     simp only[Builtin.firstCells];rw[hlen] at this;exact this
   ·cases h
  ·cases h
 ·rename_i s
  split at h
  ·rename_i hz
   cases h
   rw[hx.jb];refine⟨s.map λb=>Value.int .u8 (b.toNat:Int),by simp[sU,hz],EX s,by simp[Builtin.lenOf,ByteArray.size],?_⟩;have e:(⟨s.toArray⟩:ByteArray).extract 0 s.length=⟨s.toArray⟩:=by rw[ByteArray.extract_mk];simp
   simp[Builtin.firstCells,e]
  ·cases h
 ·cases h
theorem Gc {N:Nat}:∀{cs:List AV} {cv:List Value} {s:List UInt8},cS L N T w cs cv->bytesOf cs=some s->∃ns:List Int,cv=ns.map (Value.int .u8)/\s=ns.map λn=>UInt8.ofNat n.toNat:=by
 intro cs
 induction cs with
 |nil=>intro cv s hr h;cases h;exact⟨[],ah5 hr.1,rfl⟩
 |cons x r ih=>
  intro cv s hr h
  match cv,hr with
  |c::cr,hr=>
   have h0:bt L N T w x c:=hr.2.2 0 zS zS;have Nx:cS L N T w r cr:=by simpa using hr.drop 1
   unfold bytesOf at h;rw[mapM_cons] at h
   cases hx:NL x with
   |none=>rw[hx] at h;cases h
   |some b=>
    cases hy:r.mapM NL with
    |none=>rw[hx,hy] at h;cases h
    |some bs=>
     rw[hx,hy] at h
     cases h
     obtain⟨ns,e1,e2⟩:=ih Nx hy;unfold NL at hx
     split at hx
     ·rename_i nn hh
      cases hx
      rw[h0.eh];exact⟨nn::ns,by simp[e1],by simp[e2]⟩
     ·cases hx
  |[],hr=>simp[cS] at hr
def V9:AV->Bool
 |.sl _ _ _|.cV _ _ _=>true
 |_=>false
def I2 (P:Program)(H:List aA)(src dst:TypeId)(x:AV):Option AV:=
 match P.underlying src,P.underlying dst,x with
 |some _,some (.int k),.int _ n=>some (.int k (k.wrap n))
 |some _,some .string,.int _ n=>some (.str (Utf8.encode n).data.toList)
 |some _,some .string,.str s=>some (.str s)
 |some (.slice e),some .string,x=>
  match P.underlying e with
  |some (.int .u8)=>if V9 x then (match ic H 1 x with
   |some (_,cs)=>(bytesOf cs).map .str
   |none=>none) else none
  |_=>none
 |_,_,_=>none
theorem Pz {src dst:TypeId}{x r:AV}{c:Value}(hc:cz L H T w)(h:I2 P H src dst x=some r)(hx:bt L H.length T w x c):∃cv,(convert src dst c).run P w=.ok cv w/\bt L H.length T w r cv:=by
 unfold I2 at h
 split at h
 ·rename_i d k k' n h1 h2
  cases h
  rw[hx.eh];exact⟨_,by simp only[convert,Sem.run_bind,run_underlying h1,run_underlying h2,Result.andThen_ok];cases d<;>rfl,.int _ _⟩
 ·rename_i d k' n h1 h2
  cases h
  rw[hx.eh];exact⟨.string ⟨(Utf8.encode n).data.toList.toArray⟩,by simp only[convert,Sem.run_bind,run_underlying h1,run_underlying h2,Result.andThen_ok];cases d<;>rfl,.str _⟩
 ·rename_i d s h1 h2
  cases h
  rw[hx.jb];exact⟨_,by simp only[convert,Sem.run_bind,run_underlying h1,run_underlying h2,Result.andThen_ok];cases d<;>rfl,.str _⟩
 ·rename_i e _ _ h1 h2 _ _
  split at h
  ·rename_i he
   split at h
   ·rename_i aeT
    split at h
    ·rename_i m cs hs
     cases hb:bytesOf cs with
     |none=>rw[hb] at h;cases h
     |some s=>
      rw[hb] at h
      cases h
      obtain⟨cv,hl,hr,hlen,iu⟩:=eO (P:=P) hc hx hs;obtain⟨ns,e1,e2⟩:=Gc hr hb;have XC:∃a n cap,c=.slice a n cap:=by
       cases hx<;>first|exact⟨_,_,_,rfl⟩|(simp[V9] at aeT;done)
      obtain⟨a,n,cap,rfl⟩:=XC;have hn:n=m:=by
       simp[Builtin.lenOf] at hlen;exact hlen
      subst hn;refine⟨.string ⟨s.toArray⟩,?_,.str s⟩;rw[run_convert_bytes_string w src dst _ a n cap h1 he h2]
      cases a with
      |none=>
       simp[Builtin.firstCells] at iu;subst iu
       cases ns with
       |nil=>subst e2;rfl
       |cons _ _=>cases e1
      |some a=>
       simp only[Builtin.firstCells,Nat.mul_one] at iu;rw[e1] at iu;rw[run_bytesToString w a n cap ns iu,foldl_push_bytes];subst e2;simp
    ·cases h
   ·cases h
  ·cases h
 ·cases h
def LA {src dst e:TypeId}{s:List UInt8}{c:Value}(hc:cz L H T w)(h1:P.underlying src=some .string)(h2:P.underlying dst=some (.slice e))(h3:P.underlying e=some (.int .u8))(hx:bt L H.length T w (.str s) c) :
  ∃cv w' L',(convert src dst c).run P w=.ok cv w'/\cz L' H T w'/\bt L' H.length T w' (.sl s.length (sU s) .none) cv/\Ev H.length T.length L H.length T w L' H.length T w':=by
 rw[hx.jb];have gj:(⟨s.toArray⟩:ByteArray).size=s.length:=by simp[ByteArray.size]
 obtain⟨cap,cK,hle⟩:∃cap,(Question.appendCap s.length 0 e).cut (w.tape w.drawn (.appendCap s.length 0 e))=cap/\s.length<=cap:=⟨_,rfl,by simp[Question.cut]⟩
 let cells:Array Value:=(s.map λb=>Value.int .u8 (b.toNat:Int)).toArray++Array.replicate (cap-s.length) (.int .u8 0)
 have y7:cells.size=cap:=by simp[cells];omega
 have hd:cz L H T w.drew:=hc.drew rfl;have ed:Ev H.length T.length L H.length T w L H.length T w.drew:=Ev.drew rfl rfl rfl rfl (air _);obtain⟨k1,k2,k3⟩:=hd.newRow cells e (cap,cap+1) (vs:=sU s) (sU s).length (ahv _) (by
  have:(cells.toList.take (sU s).length)=s.map λb=>Value.int .u8 (b.toNat:Int):=by
   simp[cells,sU]
  rw[this];exact EX s) s.length cap hle .none (.inl rfl)
 refine⟨_,_,_,?_,k1,k3,ed.trans k2⟩;simp only[convert,Sem.run_bind,run_underlying h1,run_underlying h2,run_underlying h3,Result.andThen_ok,Conv.stringToBytes,gj,run_choose,Question.forced,aiu,aje,cK];have Sh:(⟨s.toArray⟩:ByteArray).data.map (λb=>Value.int .u8 (b.toNat:Int))=(s.map λb=>Value.int .u8 (b.toNat:Int)).toArray:=zS;simp only[Sh,newRow,Sem.run_bind,run_newObj,Result.andThen_ok,Sem.run_pure,markStringish,run_shape,run_freeze];have hsh:World.shape? { w.drew with heap:=w.heap.push (.cells cells e) } w.heap.size=some (e,cap):=by
  simp[World.shape?,y7]
 show (Result.andThen _ _)=_;simp only[World.drew] at hsh ⊢;rw[hsh];simp only[run_freeze,Result.andThen_ok,Sem.run_pure]
 congr 1
 simp only[World.freeze,World.alloc,Nat.one_ne_zero,aje]
 congr 1
 apply Array.ext_getElem?;intro i;rw[ajG,Array.getElem?_push,Array.getElem?_push]
 by_cases hi:w.heap.size=i
 ·subst hi;simp[cells]
 ·rw[ahC hi,ahC (λe=>hi e.symm),ahC (λe=>hi e.symm)]
end
section
variable {P : Program} {L : Lay} {H : List aA} {T : au} {w : World}
theorem cS.setMany {N:Nat}:∀{xs:List AV} {xc:List Value} {vs:List AV} {c:Array Value} (o:Nat),cS L N T w vs c.toList->cS L N T w xs xc->o+xs.length<=vs.length->
  cS L N T w (setMany vs o xs) ((xc.zipIdx.foldl (λcs (x:Value×Nat)=>cs.setIfInBounds (o+x.2) x.1) c)).toList:=by
 intro xs;have key:∀(xs:List AV)(xc:List Value)(vs:List AV)(c:Array Value)(o k:Nat),cS L N T w vs c.toList->cS L N T w xs xc->o+k+xs.length<=vs.length->
   cS L N T w (Am.setMany vs (o+k) xs) (((xc.zipIdx k).foldl (λcs (x:Value×Nat)=>cs.setIfInBounds (o+x.2) x.1) c)).toList:=by
  intro xs
  induction xs with
  |nil=>
   intro xc vs c o k h1 h2 h3;have:xc=[]:=ah5 h2.1;subst this;exact h1
  |cons x r ih=>
   intro xc vs c o k h1 h2 h3
   match xc,h2 with
   |y::yr,h2=>
    have h0:bt L N T w x y:=h2.2.2 0 zS zS;have VU:y.oneCell'=true:=h2.2.1 0 zS;have Nx:cS L N T w r yr:=by simpa using h2.drop 1
    simp only[List.zipIdx_cons,ajb,Am.setMany];have:=ih yr (vs.set (o+k) x) (c.setIfInBounds (o+k) y) o (k+1) (by rw[Array.toList_setIfInBounds];exact h1.set _ h0 VU) Nx (by simp at h3 ⊢;omega);rw[show o+k+1=o+(k+1) by omega];exact this
   |[],h2=>simp[cS] at h2
 intro xc vs c o h1 h2 h3;exact key xs xc vs c o 0 h1 h2 h3
def Vh:List TypeId:=[33]
def se (t:TypeId)(v:AV):AV:=if Vh.contains t=true then v else cL v
theorem bt.se {N:Nat}{v:AV}{c:Value}(t:TypeId)(h:bt L N T w v c):bt L N T w (Am.se t v) c:=by
 unfold Am.se
 split
 ·exact h
 ·exact h.cL
def pX (u:AV->AV)(place:Nat->Option (Nat×Nat))(cells:List AV):List (Nat×AV)->Option (List AV)
 |[]=>some cells
 |(i,v)::rest=>
  match place i,VX (u v) with
  |some (off,size),some xs=>if xs.length=size/\off+size<=cells.length then pX u place (setMany cells off xs) rest else none
  |_,_=>none
theorem tI {N:Nat}{u:AV->AV}(hu:∀v c,bt L N T w v c->bt L N T w (u v) c)(place:Nat->Option (Nat×Nat)):∀(parts:List (Nat×AV)) (pc:List (Nat×Value)) (cells:List AV) (c:Array Value) (r:List AV),cS L N T w cells c.toList->pc.length=parts.length->
  (∀(j:Nat)(h:j<parts.length)(h':j<pc.length),(parts[j]'h).1=(pc[j]'h').1/\bt L N T w (parts[j]'h).2 (pc[j]'h').2)->pX u place cells parts=some r->
  ∃c',Instr.fill place c pc=some c'/\cS L N T w r c'.toList:=by
 intro parts
 induction parts with
 |nil=>
  intro pc cells c r hr hl hp h;have:pc=[]:=ah5 hl;subst this
  cases h
  exact⟨c,rfl,hr⟩
 |cons x rest ih=>
  intro pc cells c r hr hl hp h
  match pc,hl,hp with
  |y::yr,hl,hp=>
   obtain⟨i,v⟩:=x;obtain⟨i',u⟩:=y;obtain⟨e,hv⟩:=hp 0 zS zS;simp only[aix] at e hv;subst e;simp only[pX] at h
   split at h
   ·rename_i off size xs e1 e2
    split at h
    ·rename_i hb;have hx:=Cr e2 (hu _ _ hv);have hlen:u.cells.size=size:=by have:=hx.1;simp at this;omega
     obtain⟨c',h1,h2⟩:=ih yr (Am.setMany cells off xs) (u.cells.toList.zipIdx.foldl (λcs (x:Value×Nat)=>cs.setIfInBounds (off+x.2) x.1) c) r (hr.setMany off hx zO) (zU hl)
      (λj hj bU=>by have:=hp (j+1) (zU hj) (by simpa using bU);simpa using this) h
     refine⟨c',?_,h2⟩;simp only[Instr.fill,e1];have gj:c.size=cells.length:=by have:=hr.1;simpa using this
     rw[ahC (by simp;omega)];rw[<-h1]
     congr 1
     rw[<-Array.foldl_toList];simp
    ·cases h
   ·cases h
  |[],hl,hp=>simp at hl
def bz (P:Program)(t:TypeId):Option (List AV):=
 match P.info? t with
 |some i=>match i.zero with
  |some z=>if z.cells.all (·.oneCell')&&z.cells.size==i.size then some (z.cells.toList.map y9) else none
  |none=>none
 |none=>none
def eJ {N:Nat}{t:TypeId}{zs:List AV}(h:bz P t=some zs):∃i z,P.info? t=some i/\i.zero=some z/\cS L N T w zs z.cells.toList/\z.cells.size=P.cellsOf t:=by
 unfold bz at h
 split at h
 ·rename_i i hi
  split at h
  ·rename_i z hz
   split at h
   ·rename_i ha
    cases h
    simp only[ahG,ajl] at ha;have ha1:=ha.1;rw[Array.all_eq_true] at ha1;refine⟨i,z,hi,hz,⟨zS,λj hj=>by simpa using ha1 j (zU hj),λj hj bU=>?_⟩,by rw[ha.2];simp[Program.cellsOf,hi]⟩;simp only[aip];exact .y9 _
   ·cases h
  ·cases h
 ·cases h
def kP {t:TypeId}{i:TypeInfo}{z:Value}(hi:P.info? t=some i)(hz:i.zero=some z)(w:World):(zeroValue t).run P w=.ok z w:=by
 simp[zeroValue,run_typeInfo w hi,hz]
def BU (P:Program)(t:TypeId)(parts:List (Nat×AV)):Option AV:=
 match bz P t,P.underlying t with
 |some zs,some (.struct fs)=>if fs.toList.all (λf=>(P.underlying f.type).isSome) then (pX (se t) (λi=>(fs[i]?).map λf=>(f.offset,P.cellsOf f.type)) zs parts).map .agg else none
 |some zs,some (.array _ e)=>if (P.underlying e).isSome then (pX cL (λi=>some (i*P.cellsOf e,P.cellsOf e)) zs parts).map .agg else none
 |_,_=>none
theorem run_places (fs:Array Field)(hf:∀f∈fs,(P.underlying f.type).isSome=true)(w:World) :
  (fs.mapM λf=>do pure (f.offset,<-sizeOf f.type):Sem (Array (Nat×Nat))).run P w=.ok (fs.map λf=>(f.offset,P.cellsOf f.type)) w:=by
 rw[Array.mapM_eq_mapM_toList];have key:∀l:List Field,(∀f∈l,(P.underlying f.type).isSome=true)->(l.mapM λf=>do pure (f.offset,<-sizeOf f.type):Sem (List (Nat×Nat))).run P w=.ok (l.map λf=>(f.offset,P.cellsOf f.type)) w:=by
  intro l
  induction l with
  |nil=>intro _;simp
  |cons f r ih=>
   intro h;obtain⟨d,hd⟩:=aia.1 (h f zS);have:=ih (λg hg=>h g (by simp[hg]));simp only[mapM_cons,Sem.run_bind,cW hd,Result.andThen_ok,Sem.run_pure,this,aih]
 have:=key fs.toList (λf RN=>hf f (zU RN));simp only[Sem.run_map,this,Result.andThen_ok]
 congr 1
 apply Array.ext';simp
theorem run_build {t:TypeId}{parts:List (Nat×AV)}{pc:Array (Nat×Value)}{r:AV}(h:BU P t parts=some r)(hl:pc.size=parts.length)
  (hp:∀(j:Nat)(h:j<parts.length)(h':j<pc.toList.length),(parts[j]'h).1=(pc.toList[j]'h').1/\bt L H.length T w (parts[j]'h).2 (pc.toList[j]'h').2) :
  ∃cv,(Instr.build t pc).run P w=.ok cv w/\bt L H.length T w r cv:=by
 unfold BU at h
 split at h
 ·rename_i zs fs hz hu
  split at h
  ·rename_i hf;obtain⟨i,z,hi,vo,hr,_⟩:=eJ (L:=L) (N:=H.length) (T:=T) (w:=w) hz
   cases sK:pX (se t) (λi=>(fs[i]?).map λf=>(f.offset,P.cellsOf f.type)) zs parts with
   |none=>rw[sK] at h;cases h
   |some cs=>
    rw[sK] at h
    cases h
    obtain⟨c',h1,h2⟩:=tI (λ_ _ h=>h.se t) _ parts pc.toList zs z.cells cs hr (zU hl) hp sK;have zM:=run_places (P:=P) fs (λf hm=>ah3.1 hf f (Array.mem_def.1 hm)) w;refine⟨.agg c',?_,by simpa using h2.agg⟩;have e:(fun(x:Nat)=>(fs.map fun(f:Field)=>(f.offset,P.cellsOf f.type))[x]?)=fun(i:Nat)=>(fs[i]?).map fun(f:Field)=>(f.offset,P.cellsOf f.type):=by
     funext x;simp
    simp only[Instr.build,Sem.run_bind,kP hi vo,Result.andThen_ok,run_underlying hu,zM,e,h1];rfl
  ·cases h
 ·rename_i zs n e hz hu
  split at h
  ·rename_i he;obtain⟨d,hd⟩:=aia.1 he;obtain⟨i,z,hi,vo,hr,_⟩:=eJ (L:=L) (N:=H.length) (T:=T) (w:=w) hz
   cases sK:pX cL (λi=>some (i*P.cellsOf e,P.cellsOf e)) zs parts with
   |none=>rw[sK] at h;cases h
   |some cs=>
    rw[sK] at h
    cases h
    obtain⟨c',h1,h2⟩:=tI (λ_ _ h=>h.cL) _ parts pc.toList zs z.cells cs hr (zU hl) hp sK;refine⟨.agg c',?_,by simpa using h2.agg⟩;simp only[Instr.build,Sem.run_bind,kP hi vo,Result.andThen_ok,run_underlying hu,cW hd,h1];rfl
  ·cases h
 ·cases h
def iq (zs:List AV)(n:Nat):List AV:=(List.range n).map λi=>zs.getD (i % zs.length) .top
def rn {N n:Nat}{zs:List AV}{z:Array Value}(hr:cS L N T w zs z.toList)(h0:0<zs.length\/n=0):cS L N T w (iq zs n) (madeCells z n).toList:=by
 have hz:z.size=zs.length:=by have:=hr.1;simpa using this
 refine⟨by simp[iq,madeCells],λj hj=>?_,λj hj bU=>?_⟩
 ·have y5:j<n:=by simpa[madeCells] using hj
  have bp:j % zs.length<z.size:=by rw[hz];exact ajJ _ zO
  have:=hr.2.1 (j % zs.length) (zU bp);simp only[madeCells,Array.toList_map,Array.toList_range,aip,aj0];rw[ajv z _ (show j % z.size<z.size from ajJ _ zO)];have e':j % z.size=j % zs.length:=by rw[hz]
  simp only[e'];simpa using this
 ·have y5:j<n:=by simpa[madeCells] using bU
  have bp:j % zs.length<z.size:=by rw[hz];exact ajJ _ zO
  have GP:j % zs.length<zs.length:=by rw[hz] at bp;exact bp
  have:=hr.2.2 (j % zs.length) GP (zU bp);simp only[madeCells,iq,Array.toList_map,Array.toList_range,aip,aj0];rw[ajv z _ (show j % z.size<z.size from ajJ _ zO)];have e':j % z.size=j % zs.length:=by rw[hz]
  simp only[e'];have e:zs.getD (j % zs.length) .top=zs[j % zs.length]'GP:=by
   rw[ahs,ahu GP];rfl
  rw[e];simpa using this
def M3 (v:AV)(n:Nat):iq [v] n=List.replicate n v:=by
 unfold iq;apply ajq
 ·simp
 ·intro i h1 h2;simp[Nat.mod_one]
def nB (P:Program)(t:TypeId)(len:Nat)(parts:List (Nat×AV)):Option AV:=
 match P.underlying t with
 |some (.slice e)=>match bz P e with
  |some zs=>if len*P.cellsOf e<=16777216/\0<P.cellsOf e/\zs.length=P.cellsOf e then (pX cL (λi=>some (i*P.cellsOf e,P.cellsOf e)) (iq zs (len*P.cellsOf e)) parts).map λcs=>.sl len cs .full else none
  |none=>none
 |_=>none
theorem yN {t:TypeId}{len:Nat}{parts:List (Nat×AV)}{pc:Array (Nat×Value)}{r:AV}(hc:cz L H T w)(h:nB P t len parts=some r)(hl:pc.size=parts.length)
  (hp:∀(j:Nat)(h:j<parts.length)(h':j<pc.toList.length),(parts[j]'h).1=(pc.toList[j]'h').1/\bt L H.length T w (parts[j]'h).2 (pc.toList[j]'h').2) :
  ∃cv w' L',(Instr.buildSlice t len pc).run P w=.ok cv w'/\cz L' H T w'/\bt L' H.length T w' r cv/\Ev H.length T.length L H.length T w L' H.length T w':=by
 unfold nB at h
 split at h
 ·rename_i e hu
  split at h
  ·rename_i zs hz
   split at h
   ·rename_i hb;obtain⟨i,z,hi,vo,hr,rq⟩:=eJ (L:=L) (N:=H.length) (T:=T) (w:=w) hz
    cases sK:pX cL (λi=>some (i*P.cellsOf e,P.cellsOf e)) (iq zs (len*P.cellsOf e)) parts with
    |none=>rw[sK] at h;cases h
    |some cs=>
     rw[sK] at h
     cases h
     obtain⟨c',h1,h2⟩:=tI (λ_ _ h=>h.cL) _ parts pc.toList _ (madeCells z.cells (len*P.cellsOf e)) cs (rn hr (.inl zO)) (zU hl) hp sK;have hlen:c'.toList.length=cs.length:=h2.1;obtain⟨k1,k2,k3⟩:=hc.newRow c' e (0,0) (vs:=cs) cs.length (ahv _) (by rw[ajh zO];exact h2) len len (ahv _) .full (.inr ⟨rfl,rfl⟩);refine⟨_,_,_,?_,k1,k3,k2⟩;have gj:=run_sizeOf w hi;have n1:¬len*P.cellsOf e>2 ^ 24:=zO
     by_cases h0:len*P.cellsOf e=0
     ·have hm:madeCells z.cells (len*P.cellsOf e)=(Array.range 0).map ((#[]:Array Value)[· % (#[]:Array Value).size]!):=by rw[h0];simp[madeCells]
      rw[hm] at h1;have n2:¬0>2 ^ 24:=zO;simp only[Instr.buildSlice,Sem.run_bind,run_underlying hu,Result.andThen_ok,gj,h0,n2,aje,ajc,pure_bind,h1,Sem.run_pure];rfl
     ·simp only[Instr.buildSlice,Sem.run_bind,run_underlying hu,Result.andThen_ok,gj,h0,n1,aje,pure_bind,bind_pure_comp,Sem.run_map,kP hi vo];have VU:=h1;unfold madeCells at VU;simp only[VU];rfl
   ·cases h
  ·cases h
 ·cases h
def oF (P:Program)(t:TypeId)(len:Nat)(parts:List (Nat×AV)):Option (List AV):=
 match P.underlying t with
 |some (.slice e)=>match bz P e with
  |some zs=>if len*P.cellsOf e<=16777216/\0<P.cellsOf e/\zs.length=P.cellsOf e then pX cL (λi=>some (i*P.cellsOf e,P.cellsOf e)) (iq zs (len*P.cellsOf e)) parts else none
  |none=>none
 |_=>none
def CB {t:TypeId}{len:Nat}{parts:List (Nat×AV)}{pc:Array (Nat×Value)}{cs:List AV}(hc:cz L H T w)(h:oF P t len parts=some cs)(hl:pc.size=parts.length)
  (hp:∀(j:Nat)(h:j<parts.length)(h':j<pc.toList.length),(parts[j]'h).1=(pc.toList[j]'h').1/\bt L H.length T w (parts[j]'h).2 (pc.toList[j]'h').2) :
  ∃cv w' L',(Instr.buildSlice t len pc).run P w=.ok cv w'/\cz L' (H++[.cells cs]) T w'/\bt L' (H++[aA.cells cs]).length T w' (.cV H.length 0 len) cv/\Ev H.length T.length L H.length T w L' (H++[aA.cells cs]).length T w':=by
 unfold oF at h
 split at h
 ·rename_i e hu
  split at h
  ·rename_i zs hz
   split at h
   ·rename_i hb;obtain⟨i,z,hi,vo,hr,rq⟩:=eJ (L:=L) (N:=H.length) (T:=T) (w:=w) hz;obtain⟨c',h1,h2⟩:=tI (λ_ _ h=>h.cL) _ parts pc.toList _ (madeCells z.cells (len*P.cellsOf e)) cs (rn hr (.inl zO)) (zU hl) hp h;obtain⟨L',k1,k2,k3⟩:=hc.si c' e h2;refine⟨.slice (some ⟨w.heap.size,0,none⟩) len len,_,L',?_,k1,?_,k2⟩
    ·have gj:=run_sizeOf w hi;have n1:¬len*P.cellsOf e>2 ^ 24:=zO
     by_cases h0:len*P.cellsOf e=0
     ·have hm:madeCells z.cells (len*P.cellsOf e)=(Array.range 0).map ((#[]:Array Value)[· % (#[]:Array Value).size]!):=by rw[h0];simp[madeCells]
      rw[hm] at h1;have n2:¬0>2 ^ 24:=zO;simp only[Instr.buildSlice,Sem.run_bind,run_underlying hu,Result.andThen_ok,gj,h0,n2,aje,ajc,pure_bind,h1,Sem.run_pure];rfl
     ·simp only[Instr.buildSlice,Sem.run_bind,run_underlying hu,Result.andThen_ok,gj,h0,n1,aje,pure_bind,bind_pure_comp,Sem.run_map,kP hi vo];have VU:=h1;unfold madeCells at VU;simp only[VU];rfl
    ·rw[<-k3];exact .cV _ _ _ _ zS (ahv _)
   ·cases h
  ·cases h
 ·cases h
end
section
variable {P : Program} {L : Lay} {H : List aA} {T : au} {w : World}
def FK {t e:TypeId}{zs:List AV}(hc:cz L H T w)(hu:P.underlying t=some (.slice e))(hz:bz P e=some zs)(zH:0<zs.length)(kl kc:IntKind)(n:Nat)(hb:n*P.bytesOf e<=281474976710656)(hn:n<=9223372036854775807) :
  ∃cv w' L',(Instr.makeSlice t (.int kl (n:Int)) (.int kc (n:Int))).run P w=.ok cv w'/\cz L' (H++[.cells (iq zs (n*P.cellsOf e))]) T w'/\bt L' (H++[aA.cells (iq zs (n*P.cellsOf e))]).length T w' (.bQ H.length n n) cv/\
   Ev H.length T.length L H.length T w L' (H++[aA.cells (iq zs (n*P.cellsOf e))]).length T w':=by
 obtain⟨i,z,hi,vo,hr,rq⟩:=eJ (L:=L) (N:=H.length) (T:=T) (w:=w) hz;have rv:P.bytesOf e=i.bytes:=by simp[Program.bytesOf,hi]
 have gj:P.cellsOf e=i.size:=by simp[Program.cellsOf,hi]
 have wZ:(i.bytes:Int)*(n:Int)<=281474976710656:=by
  rw[rv] at hb;have:((n*i.bytes:Nat):Int)<=281474976710656:=zO;rw[Int.natCast_mul,Int.mul_comm] at this;exact this
 have hm:=run_make (P:=P) w t e i z hu hi vo kl kc n n zO (Int.le_refl _) wZ zO;obtain⟨L',h1,h2,h3⟩:=hc.si (madeCells z.cells (n*P.cellsOf e)) e (rn (n:=n*P.cellsOf e) hr (.inl zH));refine⟨_,_,L',by rw[hm];simp only[Int.toNat_natCast,<-gj];rfl,h1,?_,h2⟩;rw[<-h3];exact .bQ H.length n n zS (ahv _)
def FJ {t e:TypeId}{zs:List AV}(hc:cz L H T w)(hu:P.underlying t=some (.slice e))(hz:bz P e=some zs)(zH:0<P.cellsOf e)(kl kc:IntKind)(n:Nat)(hb:n*P.bytesOf e<=281474976710656)(hn:n<=9223372036854775807) :
  ∃cv w' L',(Instr.makeSlice t (.int kl 0) (.int kc (n:Int))).run P w=.ok cv w'/\cz L' H (T++[(0,P.cellsOf e)]) w'/\bt L' H.length (T++[(0,P.cellsOf e)]) w' (.sl 0 [] (.own T.length)) cv/\
   Ev H.length T.length L H.length T w L' H.length (T++[(0,P.cellsOf e)]) w':=by
 obtain⟨i,z,hi,vo,hr,rq⟩:=eJ (L:=L) (N:=H.length) (T:=T) (w:=w) hz;have rv:P.bytesOf e=i.bytes:=by simp[Program.bytesOf,hi]
 have gj:P.cellsOf e=i.size:=by simp[Program.cellsOf,hi]
 have wZ:(i.bytes:Int)*(n:Int)<=281474976710656:=by
  rw[rv] at hb;have:((n*i.bytes:Nat):Int)<=281474976710656:=zO;rw[Int.natCast_mul,Int.mul_comm] at this;exact this
 have hm:=run_make (P:=P) w t e i z hu hi vo kl kc 0 n (Int.le_refl _) zO wZ zO;have c1:=hc.alloc (.cells (madeCells z.cells (n*P.cellsOf e)) e) 0;have e1:=Ev.alloc hc (.cells (madeCells z.cells (n*P.cellsOf e)) e) 0;have II:¬Wr (L.bZ w.heap.size 0) H.length T w.heap.size:=hc.xx (ahv _)
 let k:Tk:=⟨w.heap.size,0,n⟩
 have hk:((L.bZ w.heap.size 0).bE T.length k).eF T.length=k:=by simp[Lay.bE]
 refine⟨_,_,(L.bZ w.heap.size 0).bE T.length k,by rw[hm];simp only[Int.toNat_natCast,<-gj];rfl,c1.oQ k 0 (P.cellsOf e) (λ_=>II) ?_,?_,e1.oQ (λ_=>.inl (ahv _))⟩
 ·refine⟨zH,λ_=>?_⟩;rw[hk];refine⟨_,e,(0,0),fQ w _,by simp[k,size_madeCells],λo _ _=>by simp,?_⟩;simp[k,Lay.bE,Lay.bZ]
 ·refine .zF (.own T.length) _ _ ⟨0,P.cellsOf e,zS,ahv _,λ_=>.inr ?_⟩;rw[hk];simp[k]
def pY:Array Value->Nat->List Value->Array Value
 |c,_,[]=>c
 |c,o,v::r=>pY (c.setIfInBounds o v) (o+1) r
theorem FG:∀(vs:List Value)(c:Array Value)(o:Nat),(pY c o vs).size=c.size:=by
 intro vs
 induction vs with
 |nil=>intro c o;rfl
 |cons v r ih=>intro c o;simp[pY,ih]
theorem AD:∀(vs:List Value)(c:Array Value)(o j:Nat),j<o->(pY c o vs)[j]?=c[j]?:=by
 intro vs
 induction vs with
 |nil=>intro c o j _;rfl
 |cons v r ih=>
  intro c o j hj;rw[pY,ih _ _ _ zO,ajw zO]
theorem Lr:∀(vs:List Value)(c:Array Value)(o j:Nat),o+vs.length<=c.size->j<vs.length->(pY c o vs)[o+j]?=vs[j]?:=by
 intro vs
 induction vs with
 |nil=>intro c o j _ h;simp at h
 |cons v r ih=>
  intro c o j hle hj;rw[pY]
  cases j with
  |zero=>
   rw[AD _ _ _ _ zO];simp at hle;have:o<c.size:=zO;simp[this]
  |succ j=>
   have:=ih (c.setIfInBounds o v) (o+1) j (by simp at hle ⊢;omega) (zU hj);rw[show o+(j+1)=o+1+j by omega,this];simp
theorem zp:∀(vs:List Value)(w:World)(b o:Nat)(c:Array Value)(e:TypeId)(fr:Nat×Nat),w.heap[b]?=some (.cells c e fr)->
  (w.setCells b o vs).heap[b]?=some (.cells (pY c o vs) e fr)/\(∀x,x≠b->(w.setCells b o vs).heap[x]?=w.heap[x]?)/\(w.setCells b o vs).heap.size=w.heap.size/\
   (w.setCells b o vs).os=w.os/\(w.setCells b o vs).tape=w.tape/\(w.setCells b o vs).output=w.output/\(w.setCells b o vs).drawn=w.drawn:=by
 intro vs
 induction vs with
 |nil=>intro w b o c e fr h;exact⟨h,λ_ _=>rfl,rfl,rfl,rfl,rfl,rfl⟩
 |cons v r ih=>
  intro w b o c e fr h;have h1:=pk w b o v h;obtain⟨g1,g2,g3,g4,g5,g6,g7⟩:=ih (w.setCell ⟨b,o,none⟩ v) b (o+1) _ e fr h1;exact⟨g1,λx hx=>(g2 x hx).trans (gK w b o v x hx),by rw[World.setCells,g3];simp,g4,g5,g6,g7⟩
def ke (P:Program)(t:TypeId):Bool:=
 match P.underlying t with
 |some (.int _)=>false
 |some _=>true
 |none=>false
def HI {t:TypeId}(h:ke P t=true):∃d,P.underlying t=some d/\(∀k,d≠.int k):=by
 unfold ke at h
 split at h
 ·cases h
 ·rename_i d hn hu;exact⟨d,hu,λk e=>by subst e;exact hn k rfl⟩
 ·cases h
theorem fY {t t2 ty e:TypeId}{i:TypeInfo}{zv:Value}(hu:P.underlying t=some (.slice e))(h2:ke P t2=true)(hi:P.info? e=some i)(hz:i.zero=some zv)
  {a:Option Addr} {n cap m:Nat} {x:Value} {Zh new Zi:List Value} (hlen:(Builtin.lenOf x).run P w=.ok m w) (aak:(Builtin.firstCells i.size m x).run P w=.ok new.toArray w)
  (aaj:(Builtin.firstCells i.size m x).run P w.drew=.ok Zi.toArray w.drew) (aai:(Builtin.firstCells i.size n (.slice a n cap)).run P w.drew=.ok Zh.toArray w.drew) (hb:(n+m)*i.bytes<=140737488355328) (hm:n+m<=9223372036854775807) :
  (n+m<=cap->(Builtin.append_ #[t,t2] ty #[.slice a n cap,x]).run P w=((match a with|some a=>storeCells (a.add (n*i.size)) new|none=>pure ()).run P w).andThen λ_ w'=>.ok (.slice a (n+m) cap) w')/\
  (cap<n+m->∃nc,n+m<=nc/\(Builtin.append_ #[t,t2] ty #[.slice a n cap,x]).run P w =
   .ok (.slice (some ⟨w.heap.size,0,none⟩) (n+m) nc) (w.drew.alloc (.cells (Zh.toArray++Zi.toArray++Builtin.zeroCells zv.cells (nc-(n+m))) e))):=by
 obtain⟨d2,ug,CR⟩:=HI h2;have age:(d2 matches .int _)=false:=by
  cases d2<;>first|rfl|exact absurd rfl (CR _)
 have gj:=run_sizeOf w hi;have y7:P.cellsOf e=i.size:=by simp[Program.cellsOf,hi]
 constructor
 ·intro hle;simp only[Builtin.append_,ahQ,akc,List.getElem?_cons_succ,Sem.run_bind,run_underlying hu,run_underlying ug,Result.andThen_ok,gj,Sem.run_pure,y7];simp only[aiu,aje,hlen,Result.andThen_ok,Sem.run_bind,hle,ajc,ajU,aak]
  cases a with
  |none=>rfl
  |some a=>simp only[Sem.run_bind];rfl
 ·intro bp;obtain⟨nc,lY,hle⟩:∃nc,(Question.appendCap (n+m) cap e).cut (w.tape w.drawn (.appendCap (n+m) cap e))=nc/\n+m<=nc:=⟨_,rfl,by simp[Question.cut]⟩
  refine⟨nc,hle,?_⟩;have g1:¬n+m<=cap:=zO;have g2:¬(((n+m:Nat):Int)>IntKind.i64.max/\(False\/i.bytes=0)):=by
   have:IntKind.i64.max=9223372036854775807:=zD;rw[this];omega
  have g3:¬Builtin.nextslicecap (n+m) cap*i.bytes>2 ^ 48:=by
   have:=growslice_fits bp hb;omega
  simp only[Builtin.append_,ahQ,akc,List.getElem?_cons_succ,Sem.run_bind,run_underlying hu,run_underlying ug,Result.andThen_ok,gj,Sem.run_pure,y7];simp only[aiu,aje,hlen,Result.andThen_ok,Sem.run_bind,g1,run_typeInfo w hi,g2,g3,ajU,ajc];simp only[run_choose,Question.forced,aiu,aje,lY,Result.andThen_ok,run_askRoom,World.drew_eq,run_typeInfo w.drew hi,aai,aaj,kP hi hz,newRow,Sem.run_bind,run_newObj,Sem.run_pure];rfl
def tB (P:Program)(H:List aA)(T:au)(t t2:TypeId)(s x:AV):Option (AV×au):=
 match P.underlying t,s with
 |some (.slice e),.sl n cs tg=>
  match ic H (P.cellsOf e) x with
  |some (m,ys)=>
   if cs.length=n*P.cellsOf e/\0<P.cellsOf e/\(n+m)*P.bytesOf e<=140737488355328/\n+m<=9223372036854775807/\ke P t2=true/\(bz P e).isSome=true then
    match tg with
    |.full=>some (.sl (n+m) (cs++ys) (.own T.length),T++[((n+m)*P.cellsOf e,P.cellsOf e)])
    |.own k=>if T[k]?=some (cs.length,P.cellsOf e) then some (.sl (n+m) (cs++ys) (.own k),T.set k ((n+m)*P.cellsOf e,P.cellsOf e)) else none
    |.none=>none
   else none
  |none=>none
 |_,_=>none
def HP {t t2 ty:TypeId}{s x r:AV}{cs cx:Value}{T':au}(hc:cz L H T w)(h:tB P H T t t2 s x=some (r,T'))(hs:bt L H.length T w s cs)(hx:bt L H.length T w x cx) :
  ∃cv w' L',(Builtin.append_ #[t,t2] ty #[cs,cx]).run P w=.ok cv w'/\cz L' H T' w'/\bt L' H.length T' w' r cv/\Ev H.length T.length L H.length T w L' H.length T' w':=by
 unfold tB at h
 split at h
 ·rename_i e n cl tg hu
  split at h
  ·rename_i m ys nI
   split at h
   ·rename_i hb;obtain⟨gg,yY,rv,ux,uk,rq⟩:=hb;obtain⟨zs,rq⟩:=aia.1 rq;obtain⟨i,z,hi,vo,Q5,Dk⟩:=eJ (L:=L) (N:=H.length) (T:=T) (w:=w) rq;have vZ:P.cellsOf e=i.size:=by simp[Program.cellsOf,hi]
    have Nh:P.bytesOf e=i.bytes:=by simp[Program.bytesOf,hi]
    rw[Nh] at rv;obtain⟨new,Gr,pf,hlen,iu⟩:=eO (P:=P) hc hx nI;have y8:cz L H T w.drew:=hc.drew rfl;have kd:dh L H.length T w L H.length T w.drew:=(Ev.drew (H:=H) (T:=T) (L:=L) (w:=w) (w':=w.drew) rfl rfl rfl rfl (air _)).keeps;obtain⟨ml,_,oN,_,jO⟩:=eO (P:=P) y8 (hx.keep kd) nI;obtain⟨a,cap,rfl,cK,GN,xD⟩:=hs.fN;have CP:=hs.keep kd;have j6:ic H (P.cellsOf e) (.sl n cl tg)=some (n,cl):=by simp[ic,gg]
    obtain⟨vV,_,te,_,pg⟩:=eO (P:=P) y8 CP j6;have h2:=fY (P:=P) (w:=w) (ty:=ty) hu uk hi vo (a:=a) (n:=n) (cap:=cap) (m:=m) hlen (vZ▸iu) (vZ▸jO) (vZ▸pg) rv ux;rw[<-vZ] at h2;have grow:cap<n+m->∀(k:Nat)(Tn:au),((k=T.length/\Tn=T++[((n+m)*P.cellsOf e,P.cellsOf e)])\/(∃u,T[k]?=some (u,P.cellsOf e)/\u<(n+m)*P.cellsOf e/\Tn=T.set k ((n+m)*P.cellsOf e,P.cellsOf e)))->
      ∃cv w' L',(Builtin.append_ #[t,t2] ty #[.slice a n cap,cx]).run P w=.ok cv w'/\cz L' H Tn w'/\bt L' H.length Tn w' (.sl (n+m) (cl++ys) (.own k)) cv/\Ev H.length T.length L H.length T w L' H.length Tn w':=by
     intro bp k Tn hk;obtain⟨nc,lY,dj⟩:=h2.2 bp;have NY:=te.append oN;have U7:(vV++ml).length=(cl++ys).length:=NY.1;have wh:(cl++ys).length=(n+m)*P.cellsOf e:=by rw[ahw,gg,Gr,aiM]
     have Z8:((vV.toArray++ml.toArray++Builtin.zeroCells z.cells (nc-(n+m))).toList.take (cl++ys).length)=vV++ml:=by
      have e1:(vV.toArray++ml.toArray++Builtin.zeroCells z.cells (nc-(n+m))).toList=(vV++ml)++(Builtin.zeroCells z.cells (nc-(n+m))).toList:=zS;rw[e1,<-U7,aiy rfl]
     obtain⟨k1,k2,k3⟩:=y8.newRow (vV.toArray++ml.toArray++Builtin.zeroCells z.cells (nc-(n+m))) e (0,0) (vs:=cl++ys) (cl++ys).length (ahv _) (by rw[Z8];exact NY) (n+m) nc lY .none (.inl rfl);have ed:Ev H.length T.length L H.length T w L H.length T w.drew:=Ev.drew rfl rfl rfl rfl (air _);have II:¬Wr (L.bZ w.heap.size (cl++ys).length) H.length T w.heap.size:=hc.xx (ahv _)
     let tk:Tk:=⟨w.heap.size,0,nc⟩
     have aae:(vV.toArray++ml.toArray++Builtin.zeroCells z.cells (nc-(n+m))).size=nc*P.cellsOf e:=by
      have h1:(vV++ml).length=(n+m)*P.cellsOf e:=by rw[U7,wh]
      have h3:nc*P.cellsOf e=(n+m)*P.cellsOf e+(nc-(n+m))*P.cellsOf e:=by rw[<-add_mul];congr 1;omega
      simp only[Array.size_append,List.size_toArray,size_zeroCells,Dk,h3];rw[<-h1];simp
     have NP:∀k',Aj ((L.bZ w.heap.size (cl++ys).length).bE k' tk) (w.drew.alloc (.cells (vV.toArray++ml.toArray++Builtin.zeroCells z.cells (nc-(n+m))) e)) k' ((n+m)*P.cellsOf e) (P.cellsOf e):=by
      intro k';have nV:((L.bZ w.heap.size (cl++ys).length).bE k' tk).eF k'=tk:=by simp[Lay.bE]
      refine⟨yY,λ_=>?_⟩;rw[nV];refine⟨_,e,(0,0),fQ w.drew _,by rw[aae];simp[tk],λo _ _=>by simp,?_⟩;show (if tk.b=w.heap.size then (cl++ys).length else L.m tk.b)<=_;rw[ahF rfl,wh];exact Nat.le_add_left _ _
     have dO:∀Y7,(∀t' u z',T[t']?=some (u,z')->∃u',Y7[t']?=some (u',z')/\u<=u'/\(u'=u->t'≠k))->Y7[k]?=some ((n+m)*P.cellsOf e,P.cellsOf e)->
       bt ((L.bZ w.heap.size (cl++ys).length).bE k tk) H.length Y7 (w.drew.alloc (.cells (vV.toArray++ml.toArray++Builtin.zeroCells z.cells (nc-(n+m))) e)) (.sl (n+m) (cl++ys) (.own k)) (.slice (some ⟨w.heap.size,0,none⟩) (n+m) nc):=by
      intro Y7 hT J9;have kp:dh (L.bZ w.heap.size (cl++ys).length) H.length T (w.drew.alloc (.cells (vV.toArray++ml.toArray++Builtin.zeroCells z.cells (nc-(n+m))) e)) ((L.bZ w.heap.size (cl++ys).length).bE k tk) H.length Y7 (w.drew.alloc (.cells (vV.toArray++ml.toArray++Builtin.zeroCells z.cells (nc-(n+m))) e)):=by
       refine⟨ahv _,λ_ _=>rfl,λt' u z' qD=>?_,λ_=>ahv _,λ_ _ _=>rfl,rfl⟩;obtain⟨u',h1,h3,h4⟩:=hT t' u z' qD;refine⟨u',h1,h3,λe=>?_⟩;simp only[Lay.bE];rw[ahC (h4 e)]
      have:=k3.keep kp;obtain⟨a',lQ,e1,jH,_,Nu⟩:=this.fN
      cases e1
      have gu:0<(cl++ys).length:=by
       rw[wh];exact Nat.mul_pos zO yY
      rcases Nu with⟨e2,_⟩|⟨b,base,cv,e2,g1,g2,g3⟩
      ·rw[e2] at gu;simp at gu
      ·cases e2
       refine bt.nr jH g1 g2 g3 ⟨_,_,J9,by rw[wh];exact ahv _,λ_=>.inr ?_⟩;simp[Lay.bE,tk]
     rcases hk with⟨rfl,rfl⟩|⟨u,J9,kZ,rfl⟩
     ·refine⟨_,_,_,dj,k1.oQ tk _ _ (λ_=>II) (NP _),dO _ (λt' u z' qD=>?_) zS,(ed.trans k2).oQ (λ_=>.inl (ahv _))⟩;have GP:=(aht.1 qD).1;exact⟨u,by rw[ahB GP];exact qD,ahv _,λ_=>by omega⟩
     ·have gy:=(aht.1 J9).1;refine⟨_,_,_,dj,k1.G4 J9 kZ tk (λ_=>II) (NP _),dO _ (λt' u' z' qD=>?_) (by rw[ahZ gy]),(ed.trans k2).G4 J9 kZ (λ_=>ahv _)⟩
      by_cases gV:t'=k
      ·subst gV;rw[J9] at qD
       cases qD
       exact⟨_,by rw[ahZ gy],zO,λe=>by omega⟩
      ·exact⟨u',by rw[ail (λe=>gV e.symm)];exact qD,ahv _,λ_=>gV⟩
    have zero:m=0->(Builtin.append_ #[t,t2] ty #[.slice a n cap,cx]).run P w=.ok (.slice a n cap) w/\ys=[]:=by
     intro hm;subst hm;have CS:new=[]:=ah5 (by rw[pf.1];simpa using Gr);have hy0:ys=[]:=ah5 (zU Gr);have:=h2.1 zO;rw[CS] at this;refine⟨?_,hy0⟩;rw[this]
     cases a<;>rfl
    split at h
    ·cases h
     rcases ah0 m with hm|hm
     ·obtain⟨g1,g2⟩:=zero hm;subst hm;subst g2;refine⟨_,w,L.bE T.length ⟨0,0,0⟩,g1,hc.oQ ⟨0,0,0⟩ _ _ (λh=>by simp at h) ⟨yY,λh=>by simp[Lay.bE] at h⟩,?_,
       (Ev.refl (ahv _) (ahv _)).oQ (λh=>by simp at h)⟩
      have kp:dh L H.length T w (L.bE T.length ⟨0,0,0⟩) H.length (T++[((n+0)*P.cellsOf e,P.cellsOf e)]) w:=by
       refine⟨ahv _,λ_ _=>rfl,λt' u z' qD=>?_,λ_=>ahv _,λ_ _ _=>rfl,rfl⟩;have GP:=(aht.1 qD).1;exact⟨u,by rw[ahB GP];exact qD,ahv _,λ_=>by simp only[Lay.bE];rw[ahC zO]⟩
      have vp:=(hs.cL).keep kp;simp only[Am.cL] at vp;have tok:∀a',mv (L.bE T.length ⟨0,0,0⟩) (T++[((n+0)*P.cellsOf e,P.cellsOf e)]) (.own T.length) n cl.length a' cap:=λa'=>⟨(n+0)*P.cellsOf e,P.cellsOf e,zS,by rw[gg];simp,λ_=>.inl GN⟩
      obtain⟨a',lQ,e1,jH,_,Nu⟩:=vp.fN
      cases e1
      rcases Nu with⟨e2,e3⟩|⟨b,base,cv,e2,q1,q2,q3⟩
      ·subst e2;subst e3;simp only[ahS,ajW];exact .zF _ _ _ (tok _)
      ·subst e2;simp only[ahS,ajW];exact bt.nr jH q1 q2 q3 (tok _)
     ·have uo:cap=n:=GN;exact grow zO T.length _ (.inl ⟨rfl,rfl⟩)
    ·rename_i k
     split at h
     ·rename_i J9
      cases h
      have gy:=(aht.1 J9).1;rcases ah0 m with hm|hm
      ·obtain⟨g1,g2⟩:=zero hm;subst hm;subst g2;have hT:T.set k ((n+0)*P.cellsOf e,P.cellsOf e)=T:=by
        apply ajn;intro j
        by_cases hj:k=j
        ·subst hj;rw[ahZ gy,J9,gg];simp
        ·rw[ail hj]
       rw[hT];refine⟨_,w,L,g1,hc,by simpa using hs,Ev.refl (ahv _) (ahv _)⟩
      ·rcases ahD cap (n+m) with bp|oG
       ·exact grow bp k _ (.inr ⟨cl.length,J9,by rw[gg];exact Nat.mul_lt_mul_of_pos_right zO yY,rfl⟩)
       ·
        obtain⟨u0,z0,hT0,ahh,himp⟩:=GN;rw[J9] at hT0
        cases hT0
        rcases himp rfl with h0|⟨ha,Om⟩
        ·omega
        ·have dj:=h2.1 oG;have Gu:cl.length<(L.eF k).c*P.cellsOf e:=by
          rw[<-Om,gg];exact Nat.mul_lt_mul_of_pos_right zO yY
         obtain⟨_,uv⟩:=hc.tok k _ _ J9;obtain⟨cc,ee,fr,g1,g2,g3,g4⟩:=uv Gu;have hmz:cl.length+m*P.cellsOf e<=(L.eF k).c*P.cellsOf e:=by
          rw[<-Om,gg,<-add_mul];exact aiz _ oG
         have agP:new.length=m*P.cellsOf e:=by rw[pf.1,Gr]
         have fe:=run_storeCells_cells (P:=P) (L.eF k).b ((L.eF k).o+cl.length) new 0 w
          (λj hj=>by
           rw[gI g1];rw[ajj (show (L.eF k).o+cl.length+0+j<cc.size by omega)];rfl)
          (λj hj=>by
           unfold World.frozen?;simp only[g1];exact g3 _ zO zO)
          (λv hv=>by
           obtain⟨j,hj,e1⟩:=ahN.1 hv;rw[<-e1];exact pf.2.1 j hj)
         obtain⟨s1,s2,s3,s4,s5,s6,s7⟩:=zp new w (L.eF k).b ((L.eF k).o+cl.length) cc ee fr g1;have wh:cl.length+m*P.cellsOf e=(n+m)*P.cellsOf e:=by rw[gg,aiM]
         obtain⟨c1,e1⟩:=hc.grow J9 (k:=m*P.cellsOf e) (Nat.mul_pos hm yY) hmz g1 s1 (FG _ _ _) (λj hj=>AD _ _ _ _ hj) s2 s3 s4 s5 s6 (Nat.le_of_eq s7.symm);rw[wh] at c1 e1;refine⟨.slice a (n+m) cap,_,_,?_,c1,?_,e1⟩
         ·rw[dj,ha];simp only[fm,<-gg];rw[fe];rfl
         ·have hsk:=hs.keep e1.keeps;obtain⟨a',lQ,e3,jH,We,Nu⟩:=hsk.fN
          cases e3
          have NY:cS ((L.bZ (L.eF k).b ((L.eF k).o+cl.length+m*P.cellsOf e))) H.length (T.set k ((n+m)*P.cellsOf e,P.cellsOf e)) (w.setCells (L.eF k).b ((L.eF k).o+cl.length) new) ys new:=pf.keep e1.keeps;have tok:mv (L.bZ (L.eF k).b ((L.eF k).o+cl.length+m*P.cellsOf e)) (T.set k ((n+m)*P.cellsOf e,P.cellsOf e)) (.own k) (n+m) (cl++ys).length (some ⟨(L.eF k).b,(L.eF k).o,none⟩) cap:=
           ⟨_,_,by rw[ahZ gy],by rw[ahw,Gr,wh];exact ahv _,λ_=>.inr ⟨rfl,Om⟩⟩
          have U5:(L.eF k).o+(cl++ys).length<=(L.bZ (L.eF k).b ((L.eF k).o+cl.length+m*P.cellsOf e)).m (L.eF k).b:=by
           simp only[Lay.bZ,ajc,ahw,Gr];omega
          subst ha;have US:∀j,j<ys.length->(w.setCells (L.eF k).b ((L.eF k).o+cl.length) new).cell? ⟨(L.eF k).b,(L.eF k).o+cl.length+j,none⟩=new[j]?:=by
           intro j hj;rw[gI s1,Lr _ _ _ _ zO zO]
          rcases Nu with⟨e2,e3⟩|⟨b,base,cv,e2,q1,q2,q3⟩
          ·subst e2;subst e3;refine bt.nr (cv:=new) oG U5 (zU NY) (λj hj=>?_) tok;have:=US j (zU hj);simpa using this
          ·cases e2
           refine bt.nr (cv:=cv++new) oG U5 (q2.append NY) (λj hj=>?_) tok;have Rm:cv.length=cl.length:=q2.1;rcases ahD j cl.length with XO|XO
           ·rw[q3 j XO,ahB zO]
           ·have:=US (j-cl.length) (by simp at hj;omega);rw[ahP zO,Rm,<-this]
            congr 2
            omega
     ·cases h
    ·cases h
   ·cases h
  ·cases h
 ·cases h
def oW (P:Program)(H:List aA)(t t2:TypeId)(s x:AV):Option (Nat×List AV):=
 match P.underlying t,s with
 |some (.slice e),.sl 0 [] .full=>
  match ic H (P.cellsOf e) x with
  |some (m,ys)=>if 0<m/\0<P.cellsOf e/\m*P.bytesOf e<=140737488355328/\m<=9223372036854775807/\ke P t2=true/\(bz P e).isSome=true then some (m,ys) else none
  |none=>none
 |_,_=>none
def nL {z:Array Value}{n:Nat}{v:Value}(h:v∈(Builtin.zeroCells z n).toList):v∈z.toList:=by
 unfold Builtin.zeroCells at h;simp only[Array.toList_map,Array.toList_range,ahz,ahV] at h;obtain⟨i,hi,rfl⟩:=h;have hz:0<z.size:=by
  rcases ah0 z.size with h0|h0
  ·rw[h0] at hi;simp at hi
  ·exact h0
 have bp:i % z.size<z.size:=ajJ _ hz;rw[ajv z _ bp];simp
def cS.VZ {N:Nat}{T:au}(l:List Value)(h:∀v∈l,v.oneCell'=true):cS L N T w (List.replicate l.length .top) l:=by
 refine⟨zS,λj hj=>h _ (ah2 hj),λj hj bU=>?_⟩;rw[List.getElem_replicate];exact .top _
def HQ {t t2 ty:TypeId}{s x:AV}{cs cx:Value}{m:Nat}{ys:List AV}(hc:cz L H T w)(h:oW P H t t2 s x=some (m,ys))(hs:bt L H.length T w s cs)(hx:bt L H.length T w x cx) :
  ∃k cv w' L',(Builtin.append_ #[t,t2] ty #[cs,cx]).run P w=.ok cv w'/\cz L' (H++[.cells (ys++List.replicate k .top)]) T w'/\bt L' (H++[aA.cells (ys++List.replicate k .top)]).length T w' (.cV H.length 0 m) cv/\
   Ev H.length T.length L H.length T w L' (H++[aA.cells (ys++List.replicate k .top)]).length T w':=by
 unfold oW at h
 split at h
 ·rename_i e hu
  split at h
  ·rename_i m' ys' nI
   split at h
   ·rename_i hb
    cases h
    obtain⟨hm,yY,rv,ux,uk,rq⟩:=hb;obtain⟨zs,rq⟩:=aia.1 rq;obtain⟨i,z,hi,vo,Q5,Dk⟩:=eJ (L:=L) (N:=H.length) (T:=T) (w:=w) rq;have vZ:P.cellsOf e=i.size:=by simp[Program.cellsOf,hi]
    have Nh:P.bytesOf e=i.bytes:=by simp[Program.bytesOf,hi]
    rw[Nh] at rv;obtain⟨new,Gr,pf,hlen,iu⟩:=eO (P:=P) hc hx nI;have y8:cz L H T w.drew:=hc.drew rfl;have kd:dh L H.length T w L H.length T w.drew:=(Ev.drew (H:=H) (T:=T) (L:=L) (w:=w) (w':=w.drew) rfl rfl rfl rfl (air _)).keeps;obtain⟨ml,_,oN,_,jO⟩:=eO (P:=P) y8 (hx.keep kd) nI;obtain⟨a,cap,rfl,cK,GN,xD⟩:=hs.fN;have CP:=hs.keep kd;have j6:ic H (P.cellsOf e) (.sl 0 [] .full)=some (0,[]):=by simp[ic]
    obtain⟨vV,_,te,_,pg⟩:=eO (P:=P) y8 CP j6;have hold:vV=[]:=ah5 (by rw[te.1];rfl);subst hold;have h2:=fY (P:=P) (w:=w) (ty:=ty) hu uk hi vo (a:=a) (n:=0) (cap:=cap) (m:=m) hlen (vZ▸iu) (vZ▸jO) (vZ▸pg) (zU rv) (zU ux);have aav:cap=0:=GN;obtain⟨nc,lY,dj⟩:=h2.2 zO;have DB:∀v∈(Builtin.zeroCells z.cells (nc-(0+m))).toList,v.oneCell'=true:=by
     intro v hv;obtain⟨j,hj,e1⟩:=ahN.1 (nL hv);rw[<-e1];exact Q5.2.1 j hj
    have r8:cS L H.length T w.drew (ys++List.replicate (Builtin.zeroCells z.cells (nc-(0+m))).toList.length .top) (([]:List Value).toArray++ml.toArray++Builtin.zeroCells z.cells (nc-(0+m))).toList:=by
     have:=oN.append (cS.VZ (L:=L) (N:=H.length) (T:=T) (w:=w.drew) _ DB);simpa using this
    obtain⟨L',g1,g2,g3⟩:=y8.si _ e r8;have ed:Ev H.length T.length L H.length T w L H.length T w.drew:=Ev.drew rfl rfl rfl rfl (air _);refine⟨_,_,_,L',dj,g1,?_,ed.trans g2⟩;have:=bt.cV (L:=L') (T:=T) (w:=w.drew.alloc (.cells (([]:List Value).toArray++ml.toArray++Builtin.zeroCells z.cells (nc-(0+m))) e)) H.length 0 m nc
     (show H.length<(H++[aA.cells (ys++List.replicate (Builtin.zeroCells z.cells (nc-(0+m))).toList.length .top)]).length by simp) zO
    rw[g3] at this;simpa using this
   ·cases h
  ·cases h
 ·cases h
def I4 (P:Program)(H:List aA)(t t2:TypeId)(s x:AV):Option AV:=
 match s with
 |.cV i o n=>match P.underlying t with
  |some (.slice e)=>match ic H (P.cellsOf e) (.cV i o n),ic H (P.cellsOf e) x with
   |some _,some (0,_)=>if n*P.bytesOf e<=140737488355328/\n<=9223372036854775807/\ke P t2=true/\(bz P e).isSome=true then some (.cV i o n) else none
   |_,_=>none
  |_=>none
 |_=>none
def PB {t t2 ty:TypeId}{s x r:AV}{cs cx:Value}(hc:cz L H T w)(h:I4 P H t t2 s x=some r)(hs:bt L H.length T w s cs)(hx:bt L H.length T w x cx) :
  ∃cv,(Builtin.append_ #[t,t2] ty #[cs,cx]).run P w=.ok cv w/\bt L H.length T w r cv:=by
 unfold I4 at h
 split at h
 ·rename_i i o n
  split at h
  ·rename_i e hu
   split at h
   ·rename_i p ys j6 nI
    split at h
    ·rename_i hb
     cases h
     obtain⟨rv,ux,uk,rq⟩:=hb;obtain⟨zs,rq⟩:=aia.1 rq;obtain⟨i',z,hi,vo,Q5,Dk⟩:=eJ (L:=L) (N:=H.length) (T:=T) (w:=w) rq;have vZ:P.cellsOf e=i'.size:=by simp[Program.cellsOf,hi]
     have Nh:P.bytesOf e=i'.bytes:=by simp[Program.bytesOf,hi]
     rw[Nh] at rv;obtain⟨new,Gr,pf,hlen,iu⟩:=eO (P:=P) hc hx nI;have y8:cz L H T w.drew:=hc.drew rfl;have kd:dh L H.length T w L H.length T w.drew:=(Ev.drew (H:=H) (T:=T) (L:=L) (w:=w) (w':=w.drew) rfl rfl rfl rfl (air _)).keeps;obtain⟨ml,_,oN,_,jO⟩:=eO (P:=P) y8 (hx.keep kd) nI;obtain⟨cap,rfl,cK,eM⟩:=hs.kD;have CP:=hs.keep kd;have hpn:p.1=n:=by
      unfold ic at j6;simp only at j6
      split at j6
      ·split at j6
       ·cases j6;rfl
       ·cases j6
      ·cases j6
     obtain⟨pm,pys⟩:=p;simp only at hpn;subst hpn;obtain⟨vV,_,te,_,pg⟩:=eO (P:=P) y8 CP j6;have h2:=fY (P:=P) (w:=w) (ty:=ty) hu uk hi vo (a:=some ⟨L.bW i,o,none⟩) (n:=pm) (cap:=cap) (m:=0) hlen (vZ▸iu) (vZ▸jO) (vZ▸pg) (zU rv) (zU ux);have CS:new=[]:=ah5 (by rw[pf.1];simpa using Gr);have:=h2.1 zO;rw[CS] at this;refine⟨_,?_,hs⟩;rw[this];rfl
    ·cases h
   ·cases h
  ·cases h
 ·cases h
theorem HG (xs:List AV):∀(vs:List AV)(o:Nat),o+xs.length<=vs.length->setMany vs o xs=vs.take o++xs++vs.drop (o+xs.length):=by
 induction xs with
 |nil=>intro vs o h;simp[setMany]
 |cons x r ih=>
  intro vs o h;rw[ahY] at h;rw[setMany,ih _ _ (by simp;omega)];have h1:(vs.set o x).take (o+1)=vs.take o++[x]:=by
   rw[aiS (by simp;omega),List.getElem_set_self]
   congr 1
   apply ajn;intro j;rw[aim,aim]
   split
   ·rw[ail zO]
   ·rfl
  have h2:(vs.set o x).drop (o+1+r.length)=vs.drop (o+(r.length+1)):=by
   rw[List.drop_set_of_lt zO]
   congr 1
   omega
  rw[h1,h2];simp
def Ej {t t2 ty e:TypeId}{i n cap m:Nat}{vs xs:List AV}{x:AV}{cs cx:Value}(hc:cz L H T w)(hs:bt L H.length T w (.bQ i n cap) cs)(hx:bt L H.length T w x cx)
  (hu:P.underlying t=some (.slice e)) (hH:H[i]?=some (.cells vs)) (Nd:vs.length=cap*P.cellsOf e) (nI:ic H (P.cellsOf e) x=some (m,xs)) (rv:(n+m)*P.bytesOf e<=140737488355328) (ux:n+m<=9223372036854775807)
  (uk:ke P t2=true) (rq:(bz P e).isSome=true) :
  (n+m<=cap/\∃cv w' L',(Builtin.append_ #[t,t2] ty #[cs,cx]).run P w=.ok cv w'/\cz L' (H.set i (.cells (vs.take (n*P.cellsOf e)++xs++vs.drop ((n+m)*P.cellsOf e)))) T w'/\
   bt L' (H.set i (.cells (vs.take (n*P.cellsOf e)++xs++vs.drop ((n+m)*P.cellsOf e)))).length T w' (.bQ i (n+m) cap) cv/\
   Ev H.length T.length L H.length T w L' (H.set i (.cells (vs.take (n*P.cellsOf e)++xs++vs.drop ((n+m)*P.cellsOf e)))).length T w')\/
  (cap<n+m/\∃nc,n+m<=nc/\∃cv w' L',(Builtin.append_ #[t,t2] ty #[cs,cx]).run P w=.ok cv w'/\cz L' (H++[.cells (vs.take (n*P.cellsOf e)++xs++List.replicate ((nc-(n+m))*P.cellsOf e) .top)]) T w'/\
   bt L' (H++[aA.cells (vs.take (n*P.cellsOf e)++xs++List.replicate ((nc-(n+m))*P.cellsOf e) .top)]).length T w' (.bQ H.length (n+m) nc) cv/\
   Ev H.length T.length L H.length T w L' (H++[aA.cells (vs.take (n*P.cellsOf e)++xs++List.replicate ((nc-(n+m))*P.cellsOf e) .top)]).length T w'):=by
 obtain⟨zs,rq⟩:=aia.1 rq;obtain⟨ti,z,hi,vo,Q5,Dk⟩:=eJ (L:=L) (N:=H.length) (T:=T) (w:=w) rq;have vZ:P.cellsOf e=ti.size:=by simp[Program.cellsOf,hi]
 have Nh:P.bytesOf e=ti.bytes:=by simp[Program.bytesOf,hi]
 rw[Nh] at rv;obtain⟨new,Gr,pf,hlen,iu⟩:=eO (P:=P) hc hx nI;have y8:cz L H T w.drew:=hc.drew rfl;have ed:Ev H.length T.length L H.length T w L H.length T w.drew:=Ev.drew rfl rfl rfl rfl (air _);have kd:dh L H.length T w L H.length T w.drew:=ed.keeps;obtain⟨ml,_,oN,_,jO⟩:=eO (P:=P) y8 (hx.keep kd) nI;obtain⟨rfl,cK,eM⟩:=hs.iI;have hnz:n*P.cellsOf e<=vs.length:=by rw[Nd];exact aiz _ cK
 have CP:bt L H.length T w.drew (.cV i 0 n) (.slice (some ⟨L.bW i,0,none⟩) n cap):=.cV i 0 n cap eM cK;have j6:ic H (P.cellsOf e) (.cV i 0 n)=some (n,vs.take (n*P.cellsOf e)):=by simp[ic,hH,hnz]
 obtain⟨vV,_,te,_,pg⟩:=eO (P:=P) y8 CP j6;have h2:=fY (P:=P) (w:=w) (ty:=ty) hu uk hi vo (a:=some ⟨L.bW i,0,none⟩) (n:=n) (cap:=cap) (m:=m) hlen (vZ▸iu) (vZ▸jO) (vZ▸pg) rv ux;rw[<-vZ] at h2;rcases ahD cap (n+m) with bp|hle
 ·refine .inr ⟨bp,?_⟩;obtain⟨nc,lY,dj⟩:=h2.2 bp;have DB:∀v∈(Builtin.zeroCells z.cells (nc-(n+m))).toList,v.oneCell'=true:=by
   intro v hv;obtain⟨j,hj,e1⟩:=ahN.1 (nL hv);rw[<-e1];exact Q5.2.1 j hj
  have zH:(Builtin.zeroCells z.cells (nc-(n+m))).toList.length=(nc-(n+m))*P.cellsOf e:=by
   rw[Array.length_toList,size_zeroCells,Dk]
  have DD:=cS.VZ (L:=L) (N:=H.length) (T:=T) (w:=w.drew) _ DB;rw[zH] at DD;have r8:cS L H.length T w.drew (vs.take (n*P.cellsOf e)++xs++List.replicate ((nc-(n+m))*P.cellsOf e) .top) (vV.toArray++ml.toArray++Builtin.zeroCells z.cells (nc-(n+m))).toList:=by
   have:=(te.append oN).append DD;simpa using this
  obtain⟨L',g1,g2,g3⟩:=y8.si _ e r8;refine⟨nc,lY,_,_,L',dj,g1,?_,ed.trans g2⟩;have:=bt.bQ (L:=L') (T:=T) (w:=w.drew.alloc (.cells (vV.toArray++ml.toArray++Builtin.zeroCells z.cells (nc-(n+m))) e)) H.length (n+m) nc
   (show H.length<(H++[aA.cells (vs.take (n*P.cellsOf e)++xs++List.replicate ((nc-(n+m))*P.cellsOf e) .top)]).length by simp) lY
  rw[g3] at this;exact this
 ·refine .inl ⟨hle,?_⟩;have dj:=h2.1 hle;have Kn:n*P.cellsOf e+0+xs.length<=vs.length:=by
   rw[Nd,Gr,ajW,<-add_mul];exact aiz _ hle
  obtain⟨w',fe,pn,dI⟩:=nN (P:=P) i (n*P.cellsOf e) xs new 0 H w vs hc pf hH Kn;have VB:setMany vs (n*P.cellsOf e+0) xs=vs.take (n*P.cellsOf e)++xs++vs.drop ((n+m)*P.cellsOf e):=by
   rw[HG _ _ _ (zU Kn),Gr,ajW,<-add_mul]
  rw[VB] at pn dI;refine⟨.slice (some ⟨L.bW i,0,none⟩) (n+m) cap,w',L,?_,pn,?_,dI⟩
  ·rw[dj];simp only[fm,aiH,fe,Result.andThen_ok]
  ·exact .bQ i (n+m) cap (zU eM) hle
def FO {t t2 ty e:TypeId}{s x:AV}{cs cx:Value}{m:Nat}{ys:List AV}(hc:cz L H T w)(h:oW P H t t2 s x=some (m,ys))(hu:P.underlying t=some (.slice e))(hs:bt L H.length T w s cs)(hx:bt L H.length T w x cx) :
  ∃nc,m<=nc/\∃cv w' L',(Builtin.append_ #[t,t2] ty #[cs,cx]).run P w=.ok cv w'/\cz L' (H++[.cells (ys++List.replicate ((nc-m)*P.cellsOf e) .top)]) T w'/\bt L' (H++[aA.cells (ys++List.replicate ((nc-m)*P.cellsOf e) .top)]).length T w' (.bQ H.length m nc) cv/\
   Ev H.length T.length L H.length T w L' (H++[aA.cells (ys++List.replicate ((nc-m)*P.cellsOf e) .top)]).length T w':=by
 unfold oW at h
 split at h
 ·rename_i e' hu';rw[hu] at hu'
  cases hu'
  split at h
  ·rename_i m' ys' nI
   split at h
   ·rename_i hb
    cases h
    obtain⟨hm,yY,rv,ux,uk,rq⟩:=hb;obtain⟨zs,rq⟩:=aia.1 rq;obtain⟨i,z,hi,vo,Q5,Dk⟩:=eJ (L:=L) (N:=H.length) (T:=T) (w:=w) rq;have vZ:P.cellsOf e=i.size:=by simp[Program.cellsOf,hi]
    have Nh:P.bytesOf e=i.bytes:=by simp[Program.bytesOf,hi]
    rw[Nh] at rv;obtain⟨new,Gr,pf,hlen,iu⟩:=eO (P:=P) hc hx nI;have y8:cz L H T w.drew:=hc.drew rfl;have kd:dh L H.length T w L H.length T w.drew:=(Ev.drew (H:=H) (T:=T) (L:=L) (w:=w) (w':=w.drew) rfl rfl rfl rfl (air _)).keeps;obtain⟨ml,_,oN,_,jO⟩:=eO (P:=P) y8 (hx.keep kd) nI;obtain⟨a,cap,rfl,cK,GN,xD⟩:=hs.fN;have CP:=hs.keep kd;have j6:ic H (P.cellsOf e) (.sl 0 [] .full)=some (0,[]):=by simp[ic]
    obtain⟨vV,_,te,_,pg⟩:=eO (P:=P) y8 CP j6;have hold:vV=[]:=ah5 (by rw[te.1];rfl);subst hold;have h2:=fY (P:=P) (w:=w) (ty:=ty) hu uk hi vo (a:=a) (n:=0) (cap:=cap) (m:=m) hlen (vZ▸iu) (vZ▸jO) (vZ▸pg) (zU rv) (zU ux);have aav:cap=0:=GN;obtain⟨nc,lY,dj⟩:=h2.2 zO;rw[aiH] at lY dj;have DB:∀v∈(Builtin.zeroCells z.cells (nc-m)).toList,v.oneCell'=true:=by
     intro v hv;obtain⟨j,hj,e1⟩:=ahN.1 (nL hv);rw[<-e1];exact Q5.2.1 j hj
    have zH:(Builtin.zeroCells z.cells (nc-m)).toList.length=(nc-m)*P.cellsOf e:=by
     rw[Array.length_toList,size_zeroCells,Dk]
    have DD:=cS.VZ (L:=L) (N:=H.length) (T:=T) (w:=w.drew) _ DB;rw[zH] at DD;have r8:cS L H.length T w.drew (ys++List.replicate ((nc-m)*P.cellsOf e) .top) (([]:List Value).toArray++ml.toArray++Builtin.zeroCells z.cells (nc-m)).toList:=by
     have:=oN.append DD;simpa using this
    obtain⟨L',g1,g2,g3⟩:=y8.si _ e r8;have ed:Ev H.length T.length L H.length T w L H.length T w.drew:=Ev.drew rfl rfl rfl rfl (air _);refine⟨nc,lY,_,_,L',dj,g1,?_,ed.trans g2⟩;have:=bt.bQ (L:=L') (T:=T) (w:=w.drew.alloc (.cells (([]:List Value).toArray++ml.toArray++Builtin.zeroCells z.cells (nc-m)) e)) H.length m nc
     (show H.length<(H++[aA.cells (ys++List.replicate ((nc-m)*P.cellsOf e) .top)]).length by simp) lY
    rw[g3] at this;exact this
   ·cases h
  ·cases h
 ·cases h
end
@[simp] def KC.av:KC->AV
 |.int k n=>.int k n
 |.str s=>.str s
 |.bool b=>.bool b
@[simp] def cZ.av:cZ->AV
 |.one c=>c.av
 |.agg cs=>.agg (cs.map KC.av)
@[simp] def Sf:AV->Option KC
 |.int k n=>some (.int k n)
 |.str s=>some (.str s)
 |.bool b=>some (.bool b)
 |_=>none
@[simp] def DA:List AV->Option (List KC)
 |[]=>some []
 |v::r=>match Sf v,DA r with
  |some c,some cs=>some (c::cs)
  |_,_=>none
@[simp] def IQ:AV->Option cZ
 |.agg cs=>(DA cs).map .agg
 |v=>(Sf v).map .one
@[simp] def v8:List (cZ×AV)->cZ->Option AV
 |[],_=>none
 |(k',v)::r,k=>if k'=k then some v else v8 r k
@[simp] def lK:List (cZ×AV)->cZ->AV->List (cZ×AV)
 |[],k,v=>[(k,v)]
 |(k',u)::r,k,v=>if k'=k then (k,v)::r else (k',u)::lK r k v
def ju (es:List (cZ×AV))(k:cZ)(z:AV)(ok:Bool):AV:=
 if ok then .dn [(v8 es k).getD z,.bool (v8 es k).isSome] else (v8 es k).getD z
def V8 (P:Program)(k:TypeId):Bool:=
 match P.underlying k with
 |some .bool|some (.int _)|some .string=>true
 |some (.array _ _)|some (.struct _)=>P.keyTypeAt 3 k&&P.tiled 3 k
 |_=>false
def wa (P:Program)(t:TypeId):Option (TypeId×TypeId):=
 match P.underlying t with
 |some (.map k e)=>if V8 P k then some (k,e) else none
 |_=>none
def nu (P:Program)(kt:TypeId)(k:cZ):Bool:=(keyOf P kt k.val).isSome
def dz (P:Program)(kt:TypeId)(es:List (cZ×AV)):Bool:=es.all λe=>nu P kt e.1
def qb (P:Program)(t:TypeId):Option AV:=(P.info? t).bind λi=>i.zero.map RA
theorem qx {P:Program}{kt:TypeId}{es:List (cZ×AV)}{k:cZ}{v:AV}(h:dz P kt es=true)(hk:nu P kt k=true):dz P kt (lK es k v)=true:=by
 induction es with
 |nil=>simp[dz,hk]
 |cons x r ih=>
  obtain⟨k',u⟩:=x;simp only[dz,all_cons,ahG] at h ih ⊢;simp only[lK]
  split
  ·simp only[all_cons,ahG];exact⟨hk,h.2⟩
  ·simp only[all_cons,ahG];exact⟨h.1,ih h.2⟩
theorem qU {es:List (cZ×AV)}{k:cZ}(h:∀e∈es,e.1≠k):v8 es k=none:=by
 induction es with
 |nil=>rfl
 |cons x r ih=>simp only[v8,ahC (h x zS)];exact ih λe he=>h e (by simp[he])
theorem ou {es:List (cZ×AV)}{k:cZ}{v:AV}(h:∀e∈es,e.1≠k):lK es k v=es++[(k,v)]:=by
 induction es with
 |nil=>rfl
 |cons x r ih=>
  simp only[lK,ahC (h x zS),ajI];rw[ih λe he=>h e (by simp[he])]
theorem wI {es:List (cZ×AV)}{k:cZ}(hn:(es.map (·.1)).Nodup):∀{j:Nat} (hj:j<es.length),(es[j]).1=k->v8 es k=some (es[j]).2:=by
 induction es with
 |nil=>intro j hj;simp at hj
 |cons x r ih=>
  intro j hj he;simp only[aih,ajM] at hn
  cases j with
  |zero=>simp only[aix] at he ⊢;simp[v8,he]
  |succ j=>
   simp only[ajx] at he ⊢;have:x.1≠k:=λe=>hn.1 (by rw[e,<-he];exact ahz.2 ⟨_,ah2 _,rfl⟩);simp only[v8,ahC this];exact ih hn.2 _ he
theorem B6 {es:List (cZ×AV)}{k:cZ}{v:AV}(hn:(es.map (·.1)).Nodup):∀{j:Nat} (hj:j<es.length),(es[j]).1=k->lK es k v=es.set j (k,v):=by
 induction es with
 |nil=>intro j hj;simp at hj
 |cons x r ih=>
  intro j hj he;simp only[aih,ajM] at hn
  cases j with
  |zero=>simp only[aix] at he;simp[lK,he]
  |succ j=>
   simp only[ajx] at he;have:x.1≠k:=λe=>hn.1 (by rw[e,<-he];exact ahz.2 ⟨_,ah2 _,rfl⟩);simp only[lK,ahC this,List.set_cons_succ];rw[ih hn.2 _ he]
def KC.val_inj {a b:KC}(h:a.val=b.val):a=b:=by
 cases a<;>cases b<;>simp[KC.val] at h<;>simp_all
theorem Jq:∀{a b:List KC},a.map KC.val=b.map KC.val->a=b
 |[],[],_=>rfl
 |[],_::_,h=>by simp at h
 |_::_,[],h=>by simp at h
 |x::r,y::s,h=>by
  simp only[aih,List.cons.injEq] at h;rw[KC.val_inj h.1,Jq h.2]
theorem cZ.val_inj {a b:cZ}(h:a.val=b.val):a=b:=by
 cases a with
 |one a=>cases b with
  |one b=>rw[KC.val_inj (a:=a) (b:=b) (by simpa[cZ.val] using h)]
  |agg b=>cases a<;>simp[cZ.val,KC.val] at h
 |agg a=>cases b with
  |one b=>cases b<;>simp[cZ.val,KC.val] at h
  |agg b=>simp only[cZ.val,Value.agg.injEq] at h;rw[Jq (a:=a) (b:=b) (zU (congrArg Array.toList h))]
section
variable {P : Program} {L : Lay} {H : List aA} {T : au} {w : World}
theorem KC.rep {N:Nat}(k:KC):bt L N T w k.av k.val:=by
 cases k with
 |int k n=>exact .int _ _
 |str s=>exact .str _
 |bool b=>exact .bool _
theorem cZ.rep {N:Nat}(k:cZ):bt L N T w k.av k.val:=by
 cases k with
 |one c=>exact c.rep
 |agg cs=>
  refine .agg _ _ zS (λj hj=>?_) (λj hj bU=>?_)
  ·simp only[akb,aip];generalize cs[j]'_=c
   cases c<;>rfl
  ·simp only[akb,aip];exact KC.rep _
def EJ {N:Nat}{v:AV}{c:Value}{k:KC}(h:Sf v=some k)(hr:bt L N T w v c):c=k.val:=by
 cases v<;>simp only[Sf,reduceCtorEq,Option.some.injEq] at h<;>subst h
 ·rw[hr.jS];rfl
 ·rw[hr.eh];rfl
 ·rw[hr.jb];rfl
theorem AX {N:Nat}:∀{vs:List AV} {cs:List Value} {ks:List KC},DA vs=some ks->cs.length=vs.length->(∀(j:Nat)(h:j<vs.length)(h':j<cs.length),bt L N T w (vs[j]'h) (cs[j]'h'))->cs=ks.map KC.val
 |[],cs,ks,h,hl,_=>by
  have:cs=[]:=ah5 (zU hl);simp only[DA,Option.some.injEq] at h;subst h;rw[this];rfl
 |v::vs,c::cs,ks,h,hl,hr=>by
  simp only[DA] at h
  split at h
  ·rename_i k ks' h1 h2
   cases h
   have h0:=hr 0 zS zS;simp only[aix] at h0;have:=AX (cs:=cs) h2 (zU hl) (λj hj bU=>by have:=hr (j+1) (zU hj) (by simpa using bU);simpa using this);rw[this,EJ h1 h0];rfl
  ·cases h
theorem AU {N:Nat}{v:AV}{c:Value}{k:cZ}(h:IQ v=some k)(hr:bt L N T w v c):c=k.val:=by
 unfold IQ at h
 split at h
 ·rename_i cs;obtain⟨ks,h1,rfl⟩:=aji.1 h
  cases hr with
  |agg _ cv h2 h3 h4=>
   have:=AX (cs:=cv.toList) h1 (zU h2) (λj hj bU=>by simpa using h4 j hj (by simpa using bU));show Value.agg cv=.agg (ks.map KC.val).toArray;rw[<-this]
 ·obtain⟨c',h1,rfl⟩:=aji.1 h;exact EJ h1 hr
def H7 {k:TypeId}(h:V8 P k=true):Maps.Keyed P k:=by
 unfold V8 at h
 split at h
 ·rename_i hu;exact Maps.bool_keyed hu
 ·rename_i hu;exact Maps.int_keyed hu
 ·rename_i hu;exact Maps.string_keyed hu
 ·rename_i hu;simp only[ahG] at h;exact Maps.Keyed.of_law (deep_law (m:=3) zO h.1 h.2 (by simp[hu]))
 ·rename_i hu;simp only[ahG] at h;exact Maps.Keyed.of_law (deep_law (m:=3) zO h.1 h.2 (by simp[hu]))
 ·cases h
def xW {t kt el:TypeId}(h:wa P t=some (kt,el)):P.underlying t=some (.map kt el)/\Maps.Keyed P kt:=by
 unfold wa at h
 split at h
 ·rename_i k e hu
  split at h
  ·rename_i hk
   cases h
   exact⟨hu,H7 hk⟩
  ·cases h
 ·cases h
def IB {t:TypeId}{z:AV}{N:Nat}(h:qb P t=some z):∃c,(zeroValue t).run P w=.ok c w/\bt L N T w z c:=by
 unfold qb at h;obtain⟨i,hi,h2⟩:=Option.bind_eq_some_iff.1 h;obtain⟨c,hc,rfl⟩:=aji.1 h2;exact⟨c,kP hi hc w,.RA c⟩
def bt.xU {N:Nat}{i:Nat}{c:Value}(h:bt L N T w (.aP i) c):c=.map (some (L.bW i))/\i<N:=by cases h;exact⟨rfl,‹_›⟩
def cz.OD {w':World}(h:cz L H T w){i:Nat}{b b':aA}(hi:H[i]?=some b)(hm:L.m (L.bW i)=0)(dM:∀x,x≠L.bW i->w'.heap[x]?=w.heap[x]?)(hz:w'.heap.size=w.heap.size)
  (ho:w'.os=w.os) (Yu:w'.tape=w.tape) (BE:w'.output=w.output) (qE:w.drawn<=w'.drawn) (wZ:dh L H.length T w L H.length T w'->ny L H.length T w' i b') :
  cz L (H.set i b') T w'/\Ev H.length T.length L H.length T w L (H.set i b').length T w':=by
 have eM:=(aht.1 hi).1;have sR:∀b o',o'<L.m b->w'.cell? ⟨b,o',none⟩=w.cell? ⟨b,o',none⟩:=by
  intro b o' bp;refine jz (dM _ ?_) o';rintro rfl;omega
 have kp:dh L H.length T w L H.length T w':=
  ⟨ahv _,λ_ _=>rfl,λt u z h=>⟨u,h,ahv _,λ_=>rfl⟩,λ_=>ahv _,sR,rfl⟩
 refine⟨⟨λj b hb=>?_,λa b ha hb=>h.inj a b (zU ha) (zU hb),λt u z ht=>?_,h.pG,λt u z j ht hs hj=>h.kY t u z j ht hs (zU hj),λb hb=>h.mz b zO,h.gl.keep kp.m kp.uh⟩,
  by simp,λ_ _=>rfl,λt u z _ h=>⟨u,h,ahv _,λ_=>rfl⟩,ahv _,λ_=>ahv _,sR,zO,λb hb hn=>?_,λb hb=>.inl (zU hb),ho,Yu,BE,λ_=>qE,rfl⟩
 ·rw[aiR]
  by_cases rW:i=j
  ·subst rW;rw[ahZ eM] at hb
   cases hb
   exact wZ kp
  ·rw[ail rW] at hb;have ru:=(aht.1 hb).1;exact(h.box j b hb).stay kp ru (dM _ λe=>rW (h.inj j i ru eM e).symm) id
 ·obtain⟨k1,k2⟩:=h.tok t u z ht;refine⟨k1,λhs=>?_⟩;rw[dM _ (h.kY t u z i ht hs eM)];exact k2 hs
 ·exact dM _ (λe=>hn (.inl ⟨i,eM,e.symm⟩))
def cz.OK (h:cz L H T w)(o:Obj)(b:aA)(hb:∀L',dh L H.length T w L' (H.length+1) T (w.alloc o)->L'.bW H.length=w.heap.size->L'.m w.heap.size=0->ny L' (H.length+1) T (w.alloc o) H.length b) :
  ∃L',cz L' (H++[b]) T (w.alloc o)/\Ev H.length T.length L H.length T w L' (H++[b]).length T (w.alloc o)/\L'.bW H.length=w.heap.size:=by
 have h1:=h.alloc o 0;have e1:=Ev.alloc h o 0;have II:¬Wr (L.bZ w.heap.size 0) H.length T w.heap.size:=h.xx (ahv _);have e2:=Ev.sq (b:=w.heap.size) b e1 (ahv _);have rE:((L.bZ w.heap.size 0).dG H.length w.heap.size).bW H.length=w.heap.size:=by simp[Lay.dG]
 have kp:=e2.keeps;have hl:(H++[b]).length=H.length+1:=zS;rw[hl] at kp;exact⟨(L.bZ w.heap.size 0).dG H.length w.heap.size,h1.sq w.heap.size II b (λhle=>by simp at hle;omega) (hb _ kp rE (by simp[Lay.dG,Lay.bZ])),e2,rE⟩
def run_makeMap (hc:cz L H T w)(t:TypeId):∃cv w' L',(Instr.makeMap t none).run P w=.ok cv w'/\cz L' (H++[.map []]) T w'/\bt L' (H++[aA.map []]).length T w' (.aP H.length) cv/\Ev H.length T.length L H.length T w L' (H++[aA.map []]).length T w':=by
 obtain⟨L',h1,h2,h3⟩:=hc.OK (.map #[] 0) (.map []) (λL' kp hp hm=>⟨#[],by rw[hp];exact fQ w _,rfl,λj hj=>by simp at hj,zS,by rw[hp];exact hm⟩);refine⟨.map (some w.heap.size),_,L',rfl,h1,?_,h2⟩;rw[<-h3];exact .aP _ zS
def Ei (kt:TypeId)(K:Maps.Keyed P kt){N:Nat}{es:List (cZ×AV)}{eg:Array MapEntry}{k:cZ}(gj:eg.size=es.length)
  (hr:∀(j:Nat)(h:j<es.length)(h':j<eg.size),(eg[j]'h').key=(es[j]'h).1.val/\(eg[j]'h').born=j/\bt L N T w (es[j]'h).2 (eg[j]'h').val) (hk:nu P kt k=true) (Gz:dz P kt es=true) :
  ((Instr.findKey kt k.val eg.toList).run P w=.ok none w/\∀e∈es,e.1≠k)\/∃(j:Nat) (h:j<es.length) (h':j<eg.size),(Instr.findKey kt k.val eg.toList).run P w=.ok (some (j,(eg[j]'h').val)) w/\(es[j]'h).1=k:=by
 obtain⟨l,hl⟩:=aia.1 hk;have fC:∀e∈eg.toList,∃l,keyOf P kt e.key=some l:=by
  intro e he;obtain⟨j,hj,rfl⟩:=ahN.1 he;have bU:j<eg.size:=by simpa using hj
  have y5:j<es.length:=zO;have:=(hr j y5 bU).1;rw[aiv,this];have h2:=ah3.1 Gz _ (ah2 y5);exact aia.1 h2
 rcases K.find w hl eg.toList fC with⟨h1,h2⟩|⟨j,e,h1,h2,h3⟩
 ·refine .inl ⟨h1,λe he zV=>?_⟩;obtain⟨j,hj,rfl⟩:=ahN.1 he;have bU:j<eg.size:=zO;refine h2 eg[j] zS ?_;rw[(hr j hj bU).1,zV]
 ·obtain⟨hj,rfl⟩:=aht.1 h2;have bU:j<eg.size:=by simpa using hj
  have y5:j<es.length:=zO;rw[aiv] at h1 h3;exact .inr ⟨j,y5,bU,h1,cZ.val_inj (by rw[<-(hr j y5 bU).1];exact h3)⟩
theorem HM (hc:cz L H T w){t kt el:TypeId}{m:Nat}{es:List (cZ×AV)}{k:cZ}{z:AV}(ok:Bool)(hT:wa P t=some (kt,el))(hi:H[m]?=some (.map es))(hz:qb P el=some z)
  (hk:nu P kt k=true) (Gz:dz P kt es=true):∃cv,(Instr.lookup t (.map (some (L.bW m))) k.val ok).run P w=.ok cv w/\bt L H.length T w (ju es k z ok) cv:=by
 obtain⟨hu,K⟩:=xW hT;obtain⟨eg,g1,g2,g3,g4,_⟩:=hc.box m _ hi;obtain⟨l,hl⟩:=aia.1 hk;have fin:∀(v:AV)(c:Value)(b:Bool),bt L H.length T w v c->bt L H.length T w (if ok then .dn [v,.bool b] else v) (if ok then .tuple #[c,.bool b] else c):=by
  intro v c b hv
  cases ok
  ·exact hv
  ·refine .dn _ _ rfl (λj hj bU=>?_)
   match j,hj with
   |0,_=>exact hv
   |1,_=>exact .bool _
 rcases Ei kt K g2 g3 hk Gz with⟨h1,h2⟩|⟨j,hj,bU,h1,h2⟩
 ·obtain⟨c,c1,c2⟩:=IB (P:=P) (L:=L) (N:=H.length) (T:=T) (w:=w) hz;refine⟨if ok then .tuple #[c,.bool false] else c,?_,?_⟩
  ·simp only[Instr.lookup,Sem.run_bind,run_underlying hu,Result.andThen_ok,MapKept.run_getObj_map g1,K.check w _ hl,h1,c1,Sem.run_pure]
  ·have:=fin z c false c2;simpa only[ju,qU h2,Option.getD_none,Option.isSome_none] using this
 ·refine⟨if ok then .tuple #[eg[j].val,.bool true] else eg[j].val,?_,?_⟩
  ·simp only[Instr.lookup,Sem.run_bind,run_underlying hu,Result.andThen_ok,MapKept.run_getObj_map g1,K.check w _ hl,h1,Sem.run_pure]
  ·have:=fin _ _ true (g3 j hj bU).2.2;simpa only[ju,wI g4 hj h2,ai5,Option.isSome_some] using this
def zq (hc:cz L H T w){t kt el:TypeId}{m:Nat}{es:List (cZ×AV)}{k:cZ}{v:AV}{c:Value}(hT:wa P t=some (kt,el))(hi:H[m]?=some (.map es))(hv:bt L H.length T w v c)
  (hk:nu P kt k=true) (Gz:dz P kt es=true):∃w',(Instr.mapUpdate t (.map (some (L.bW m))) k.val c).run P w=.ok () w'/\cz L (H.set m (.map (lK es k v))) T w'/\Ev H.length T.length L H.length T w L (H.set m (.map (lK es k v))).length T w':=by
 obtain⟨hu,K⟩:=xW hT;obtain⟨eg,g1,g2,g3,g4,g5⟩:=hc.box m _ hi;obtain⟨l,hl⟩:=aia.1 hk;have jU:=(aht.1 hi).1;have bp:=hc.mD jU;have put:∀(o:Obj),(dh L H.length T w L H.length T { w with heap:=w.heap.setIfInBounds (L.bW m) o }->ny L H.length T { w with heap:=w.heap.setIfInBounds (L.bW m) o } m (.map (lK es k v)))->
   cz L (H.set m (.map (lK es k v))) T { w with heap:=w.heap.setIfInBounds (L.bW m) o }/\Ev H.length T.length L H.length T w L (H.set m (.map (lK es k v))).length T { w with heap:=w.heap.setIfInBounds (L.bW m) o }:=λo hb=>
  hc.OD hi g5 (λx hx=>ajw (λe=>hx e.symm)) zS rfl rfl rfl (ahv _) hb
 have new:∀o:Obj,(w.heap.setIfInBounds (L.bW m) o)[L.bW m]?=some o:=λo=>by simp[bp]
 rcases Ei kt K g2 g3 hk Gz with⟨h1,h2⟩|⟨j,hj,bU,h1,h2⟩
 ·refine⟨_,?_,put (.map (eg.push { key:=k.val,val:=c,born:=es.length }) (es.length+1)) λkp=>?_⟩
  ·simp only[Instr.mapUpdate,Sem.run_bind,run_underlying hu,Result.andThen_ok,MapKept.run_getObj_map g1,K.check w _ hl,h1,MapKept.run_setObj_map _ g1]
  ·have e:=ou (v:=v) h2;refine⟨eg.push { key:=k.val,val:=c,born:=es.length },by rw[new,e];simp,by rw[e];simp[g2],λj hj bU=>?_,?_,g5⟩
   ·rcases ahD j es.length with ru|ru
    ·have Rg:j<eg.size:=zO;have:=g3 j ru Rg;simp only[e,aiL ru,Array.getElem_push_lt Rg];exact⟨this.1,this.2.1,this.2.2.keep kp⟩
    ·have:j=es.length:=by simp[e] at hj;omega
     subst this;have e2:(eg.push { key:=k.val,val:=c,born:=es.length })[es.length]'bU={ key:=k.val,val:=c,born:=es.length }:=by simp[<-g2]
     simp only[e,e2,ajB (ahv _),aiT,aix];exact⟨trivial,trivial,hv.keep kp⟩
   ·rw[e,ahJ,aif];refine⟨g4,zS,λa ha b hb=>?_⟩;obtain⟨x,hx,rfl⟩:=ahz.1 ha;simp at hb;rw[hb];exact h2 x hx
 ·have lO:=(g3 j hj bU).1;rw[h2] at lO;have fe:(Instr.keyThatStays k.val k.val).run P w=.ok k.val w:=K.stays w hl;refine⟨_,?_,put (.map (eg.modify j λe=>{ e with key:=k.val,val:=c }) es.length) λkp=>?_⟩
  ·have e0:((eg[j]?.map (·.key)).getD k.val)=k.val:=by rw[ajj bU];exact lO
   simp only[Instr.mapUpdate,Sem.run_bind,run_underlying hu,Result.andThen_ok,MapKept.run_getObj_map g1,K.check w _ hl,h1,e0,fe,MapKept.run_setObj_map _ g1]
  ·have e:=B6 (v:=v) g4 hj h2;refine⟨eg.modify j λe=>{ e with key:=k.val,val:=c },by rw[new,e];simp,by rw[e];simp[g2],λi jf zR=>?_,?_,g5⟩
   ·have eM:i<es.length:=by simpa[e] using jf
    have yV:i<eg.size:=zO;have:=g3 i eM yV;simp only[e,Array.getElem_modify,getElem_set]
    by_cases jV:j=i
    ·subst jV;simp only[ajc];exact⟨trivial,this.2.1,hv.keep kp⟩
    ·simp only[ahC jV];exact⟨this.1,this.2.1,this.2.2.keep kp⟩
   ·rw[e,List.map_set];have:(es.map (·.1)).set j k=es.map (·.1):=by
     apply ajq zS;intro i h3 h4;rw[getElem_set]
     split
     ·rename_i jV;subst jV;simp[h2]
     ·rfl
    rw[this];exact g4
def HJ (hc:cz L H T w){t kt el:TypeId}{m:Nat}{es:List (cZ×AV)}(hT:wa P t=some (kt,el))(hi:H[m]?=some (.map es)) :
  ∃cv w' L',(Instr.range t (.map (some (L.bW m)))).run P w=.ok cv w'/\cz L' (H++[.mX m es.length []]) T w'/\bt L' (H++[aA.mX m es.length []]).length T w' (.ptr H.length 0) cv/\Ev H.length T.length L H.length T w L' (H++[aA.mX m es.length []]).length T w':=by
 obtain⟨hu,K⟩:=xW hT;obtain⟨eg,g1,g2,g3,g4,g5⟩:=hc.box m _ hi;have jU:=(aht.1 hi).1;obtain⟨L',h1,h2,h3⟩:=hc.OK (.mapIter (some (L.bW m)) es.length #[] es.length) (.mX m es.length [])
  (λL' kp hp hm=>⟨by rw[hp,kp.bW m jU];exact fQ w _,jU,by rw[hp];exact hm⟩)
 refine⟨.pointer (some ⟨w.heap.size,0,none⟩),_,L',run_range_map w t kt el _ eg es.length hu g1,h1,?_,h2⟩;rw[<-h3];exact .ptr _ _ zS
theorem Lv (hc:cz L H T w)(ty:TypeId){i m:Nat}{es:List (cZ×AV)}{seen:List Nat}(hi:H[i]?=some (.mX m es.length seen))(hm:H[m]?=some (.map es)) :
  ((∀j,j<es.length->j∈seen)/\(Instr.next (.pointer (some ⟨L.bW i,0,none⟩)) false ty).run P w=.ok (.tuple #[.bool false]) w)\/
  ∃(j:Nat) (hj:j<es.length) (cv:Value) (w':World),j∉seen/\(Instr.next (.pointer (some ⟨L.bW i,0,none⟩)) false ty).run P w=.ok cv w'/\cz L (H.set i (.mX m es.length (seen++[j]))) T w'/\
   bt L (H.set i (.mX m es.length (seen++[j]))).length T w' (.dn [.bool true,(es[j]).1.av,(es[j]).2]) cv/\Ev H.length T.length L H.length T w L (H.set i (.mX m es.length (seen++[j]))).length T w':=by
 obtain⟨eg,g1,g2,g3,g4,g5⟩:=hc.box m _ hm;obtain⟨k1,k2,k3⟩:=hc.box i _ hi;have eM:=(aht.1 hi).1;have bp:=hc.mD eM;have born:∀x∈eg.toList,x.born<es.length:=by
  intro x hx;obtain⟨j,hj,rfl⟩:=ahN.1 hx;have bU:j<eg.size:=by simpa using hj
  rw[aiv,(g3 j zO bU).2.1];omega
 rcases run_next_at (P:=P) w ty (L.bW i) (L.bW m) es.length es.length seen.toArray eg es.length k1 g1 born (ahv _) with⟨h1,h2⟩|⟨e,he,w1,hw,h2⟩
 ·refine .inl ⟨λj hj=>?_,h2⟩;have bU:j<eg.size:=zO;have h0:leftOf eg seen.toArray=#[]:=ajC h1;unfold leftOf at h0;rw[Array.filter_eq_empty_iff] at h0;have:=h0 eg[j] zS;rw[(g3 j hj bU).2.1] at this;simpa using this
 ·unfold leftOf at he;simp only[Array.toList_filter,ahU] at he;obtain⟨hem,Gz⟩:=he;obtain⟨j,hj,rfl⟩:=ahN.1 hem;have bU:j<eg.size:=by simpa using hj
  have ru:j<es.length:=zO;obtain⟨b1,b2,b3⟩:=g3 j ru bU;simp only[aiv] at h2 Gz;rw[b2] at h2 Gz;have XG:j∉seen:=by simpa using Gz
  have hh:w1.heap=w.heap:=by rcases hw with rfl|rfl<;>rfl
  have ho:w1.os=w.os/\w1.tape=w.tape/\w1.output=w.output/\w.drawn<=w1.drawn:=by rcases hw with rfl|rfl<;>exact⟨rfl,rfl,rfl,by first|exact ahv _|exact air _⟩
  have hb:∀o:Obj,(ChangeMaps.setBlock w1 (L.bW i) o).heap=w.heap.setIfInBounds (L.bW i) o:=λo=>by simp[ChangeMaps.setBlock,hh]
  obtain⟨c1,c2⟩:=hc.OD (w':=ChangeMaps.setBlock w1 (L.bW i) (.mapIter (some (L.bW m)) es.length (seen.toArray.push j) es.length)) (b':=.mX m es.length (seen++[j])) hi k3
   (λx hx=>by rw[hb];exact ajw (λe=>hx e.symm)) (by rw[hb];simp) ho.1 ho.2.1 ho.2.2.1 ho.2.2.2 (λkp=>⟨by rw[hb];simp[bp],k2,k3⟩)
  refine .inr ⟨j,ru,_,_,XG,h2,c1,?_,c2⟩;refine .dn _ _ rfl (λj' XO y5=>?_)
  match j',XO with
  |0,_=>exact .bool _
  |1,_=>simp only[akb,ajx,aix,b1];exact cZ.rep _
  |2,_=>
   have:=b3.keep (zU c2.keeps);simpa using this
theorem HK (hc:cz L H T w){i m j:Nat}{es:List (cZ×AV)}{seen:List Nat}(hi:H[i]?=some (.mX m es.length (seen++[j])))(hm:H[m]?=some (.map es))(hj:j<es.length) :
  ∃cv,(Instr.entry (.pointer (some ⟨L.bW i,0,none⟩))).run P w=.ok cv w/\bt L H.length T w (.dn [(es[j]).1.av,(es[j]).2]) cv:=by
 obtain⟨eg,g1,g2,g3,g4,g5⟩:=hc.box m _ hm;obtain⟨k1,k2,k3⟩:=hc.box i _ hi;have bU:j<eg.size:=zO;obtain⟨b1,b2,b3⟩:=g3 j hj bU;have hn:(eg.toList.map (·.born)).Nodup:=by
  have:eg.toList.map (·.born)=List.range eg.size:=by
   apply ajq zS;intro x h1 h2;simp only[aip,aiv,aj0];exact(g3 x (by simp at h1;omega) (zU h1)).2.1
  rw[this];exact List.nodup_range
 refine⟨_,run_entry_at (P:=P) w (L.bW i) (L.bW m) es.length seen.toArray eg es.length eg[j] (by rw[b2,k1];simp) g1 zS hn,?_⟩;refine .dn _ _ rfl (λj' XO y5=>?_)
 match j',XO with
 |0,_=>simp only[akb,aix,b1];exact cZ.rep _
 |1,_=>exact b3
end
end Go.Am
