/- The abstract machine: abstract values, their representation in a world of the model, and the evolution of worlds. Rules for the structured code over abstract states: sequence, condition, block, loop, region, region that draws its order; contracts of calls. Steps of the world that keep what is represented: a new row, a new box, a new token, a store into a box. Steps of the world that keep what is represented, continued: a store into a box; a row that grows in place or anew. Operations that neither read nor write memory, over abstract values, and that they are what the model does. Operations that read memory or make new variables, over abstract values, and that they are what the model does. Indexing, slicing, fields, conversions and making of values, over abstract values; they are what the model does. Conversions, composite values, new slices, and append, over abstract values; they are what the model does. Composite values, make, append, iterators over strings; they are what the model does. make, append, iterators over strings; they are what the model does. Maps over abstract values: their keys, and the operations on them; they are what the model does.
  Conditions: as the theorems say. -/
import Derived.WalkKit
import Derived.Orders
import Derived.ChangeKeysEq
import Derived.Maps.RangeRun
import Derived.Maps.Keyed
set_option linter.all false
open Nat (add_mul add_assoc)
open List (getElem_set mapM_cons all_cons)
def ahg:=@List.getD_eq_getElem?_getD
def ahh:=@List.getElem?_eq_some_iff
def ahi:=@List.getElem?_eq_getElem
def ahj:=@Nat.le_refl
def ahk:=@List.length_append
def ahl:=@List.mem_map
def ahm:=@decide_eq_true
def ahn:=@decide_eq_false
def aho:=@Nat.le_trans
def ahp:=@List.getElem?_append_left
def ahq:=@if_neg
def ahr:=@Nat.lt_or_ge
def ahs:=@if_pos
def aht:=@Bool.and_eq_true
def ahu:=@Nat.zero_le
def ahv:=@decide_eq_true_eq
def ahw:=@List.mem_append
def ahx:=@List.map_append
def ahy:=@List.flatMap_cons
def ahz:=@List.length_map
def ahA:=@List.append_assoc
def ahB:=@List.mem_iff_getElem
def ahC:=@List.getElem?_append_right
def ahD:=@List.getElem?_toArray
def ahE:=@List.take_length
def ahF:=@List.mem_filter
def ahG:=@List.mem_append_left
def ahH:=@List.append_nil
def ahI:=@List.mem_range
def ahJ:=@List.length_take
def ahK:=@List.getElem?_set_self
def ahL:=@List.mem_cons
def ahM:=@List.take_append_drop
def ahN:=@List.pairwise_iff_getElem
def ahO:=@Nat.not_lt_zero
def ahP:=@List.getElem_mem
def ahQ:=@List.all_eq_true
def ahR:=@Nat.eq_zero_or_pos
def ahS:=@List.length_cons
def ahT:=@List.eq_nil_of_length_eq_zero
def ahU:=@List.length_filter_le
def ahV:=@Option.isSome_iff_exists
def ahW:=@List.map_congr_left
def ahX:=@List.map_cons
def ahY:=@List.pairwise_map
def ahZ:=@List.flatMap_append
def ah0:=@List.mem_singleton
def ah1:=@List.mem_flatMap
def ah2:=@List.nodup_append
def ah3:=@List.length_eq_zero_iff
def ah4:=@List.length_drop
def ah5:=@beq_eq_false_iff_ne
def ah6:=@List.perm_append_singleton
def ah7:=@List.getElem?_set_ne
def ah8:=@List.filter_append
def ah9:=@List.getElem?_take
def aia:=@List.getElem_map
def aib:=@List.length_singleton
def aic:=@Bool.or_eq_true
def aid:=@Nat.le_succ
def aie:=@List.pairwise_cons
def aif:=@Array.getElem_toList
def aih:=@List.sublist_cons_self
def aii:=@List.getElem_cons_zero
def aij:=@List.take_left'
def aik:=@Bool.false_eq_true
def ail:=@Nat.mul_le_mul_right
def aim:=@List.drop_length
def ain:=@List.map_map
def aio:=@Nat.lt_of_lt_of_le
def aip:=@List.getElem?_map
def aiq:=@List.filter_cons_of_neg
def air:=@List.take_append_of_le_length
def ais:=@Bool.true_and
def ait:=@List.length_pos_iff
def aiu:=@List.mem_of_find?_eq_some
def aiv:=@Nat.zero_add
def aiw:=@List.filter_cons_of_pos
def aix:=@List.flatMap_map
def aiy:=@List.find?_eq_none
def aiz:=@List.getElem_append_left
def aiA:=@Nat.add_mul
def aiB:=@List.length_nil
def aiC:=@List.mem_of_getElem?
def aiD:=@decide_eq_false_iff_not
def aiE:=@List.length_set
def aiF:=@List.mem_cons_of_mem
def aiG:=@List.take_succ_eq_append_getElem
def aiH:=@Nat.sub_self
def aiI:=@List.getElem?_eq_none
def aiJ:=@List.eq_nil_iff_forall_not_mem
def aiK:=@List.drop_eq_getElem_cons
def aiL:=@List.exists_mem_of_ne_nil
def aiM:=@Nat.lt_trichotomy
def aiN:=@Array.mem_toList_iff
def aiO:=@Array.getElem?_eq_none
def aiP:=@Nat.add_sub_cancel
def aiQ:=@List.nil_append
def aiR:=@List.foldl_cons
def aiS:=@List.set_append_right
def aiT:=@List.filter_eq_self
def aiU:=@Option.getD_some
def aiV:=@List.take_of_length_le
def aiW:=@List.filter_eq_nil_iff
def aiX:=@List.getElem?_drop
def aiY:=@List.any_eq_true
def aiZ:=@List.contains_iff_mem
def ai0:=@List.foldl_append
def ai1:=@if_true
def ai2:=@Bool.false_or
def ai3:=@List.pairwise_append
def ai4:=@Option.map_some
def ai5:=@if_false
def ai6:=@Option.map_eq_some_iff
def ai7:=@Array.getElem?_eq_getElem
def ai8:=@List.filter_sublist
def ai9:=@List.any_eq_false
def aja:=@List.ext_getElem?
def ajb:=@beq_iff_eq
def ajc:=@List.pairwise_mergeSort
def ajd:=@List.ext_getElem
def aje:=@Array.mem_append
def ajf:=@Array.toList_inj
def ajg:=@List.map_nil
def ajh:=@getElem!_pos
def aji:=@Array.getElem?_setIfInBounds_ne
def ajj:=@List.getElem_cons_succ
def ajk:=@of_decide_eq_true
def ajl:=@List.mergeSort_perm
def ajm:=@List.getElem_append
def ajn:=@List.getElem_append_right
def ajo:=@Array.eq_empty_of_size_eq_zero
def ajp:=@List.mem_append_right
def ajq:=@List.length_mergeSort
def ajr:=@List.pairwise_flatMap
def ajs:=@Array.getElem?_modify
def ajt:=@Nat.lt_of_sub_eq_succ
def aju:=@List.drop_append_of_le_length
def ajv:=@List.cons_append
def ajw:=@List.mem_of_mem_take
def ajx:=@Nat.mod_lt
def ajy:=@List.getElem_take
def ajz:=@List.nodup_cons
def ajA:=@List.find?_some
def ajB:=@List.drop_of_length_le
def ajC:=@List.perm_middle
def ajD:=@Bool.and_eq_false_iff
def ajE:=@Bool.not_false
def ajF:=@List.append_of_mem
def ajG:=@List.drop_drop
def ajH:=@Nat.lt_of_le_of_lt
def ajI:=@Bool.or_eq_false_iff
def ajJ:=@Nat.add_zero
def ajK:=@Nat.mul_comm
def ajL:=@Nat.div_lt_of_lt_mul
def ajM:=@Bool.not_eq_true'
def ajN:=@List.mem_reverse
def ajO:=@List.getElem_range
def ajP:=@Array.getD_eq_getD_getElem?
def ajQ:=@Nat.min_eq_left
def ajR:=@Nat.le_div_iff_mul_le
def ajS:=@List.range_succ
def ajT:=@Bool.eq_iff_iff
def ajU:=@List.length_replicate
def ajV:=@List.filter_congr
def ajW:=@List.getElem?_set
def ajX:=@Nat.le_succ_of_le
def ajY:=@List.getLast?_eq_getElem?
def ajZ:=@List.getElem_toArray
def aj0:=@List.getElem?_cons_zero
def aj1:=@and_true
def aj2:=@or_false
def aj3:=@dif_pos
def aj4:=@dif_neg
namespace Go.Am
open Go
inductive Tag where
 |none
 |full
 |own (t:Nat)
inductive KC where
 |int (k:IntKind) (n:Int)
 |str (s:List UInt8)
 |bool (b:Bool)
 deriving DecidableEq
inductive cQ where
 |one (c:KC)
 |agg (cs:List KC)
 deriving DecidableEq
def KC.val:KC->Value
 |.int k n=>.int k n
 |.str s=>.string ⟨s.toArray⟩
 |.bool b=>.bool b
def cQ.val:cQ->Value
 |.one c=>c.val
 |.agg cs=>.agg (cs.map KC.val).toArray
inductive AV where
 |top
 |bool (b:Bool)
 |int (k:IntKind) (n:Int)
 |str (s:List UInt8)
 |gn
 |ptr (i o:Nat)
 |eh (cs:List AV) (o:Nat)
 |sl (n:Nat) (cs:List AV) (tg:Tag)
 |cK (i o n:Nat)
 |bG (i n cap:Nat)
 |aP (i:Nat)
 |fn (f:FuncId) (first bY:List AV)
 |jr
 |mY
 |A8
 |agg (cs:List AV)
 |df (cs:List AV)
abbrev au:=List (Nat×Nat)
abbrev Env:=List (Nat×AV)
inductive az where
 |cells (vs:List AV)
 |iter (s:List UInt8) (pos:Nat)
 |map (es:List (cQ×AV))
 |mF (m n:Nat) (seen:List Nat)
 |KB (g:Nat) (p:Obj->Prop)
@[simp] def az.Be:az->List AV
 |.cells vs=>vs
 |.map es=>es.map (·.2)
 |.iter _ _=>[]
 |.mF _ _ _=>[]
 |.KB _ _=>[]
structure Tk where
 b:Nat
 o:Nat
 c:Nat
structure Lay where
 bO:Nat->Nat
 ew:Nat->Tk
 m:Nat->Nat
 dr:Bool
def lY (L:Lay)(T:au)(tg:Tag)(n u:Nat)(a:Option Addr)(cap:Nat):Prop:=
 match tg with
 |.none=>True
 |.full=>cap=n
 |.own t=>∃u0 z,T[t]?=some (u0,z)/\u<=u0/\(u0=u->cap=n\/(a=some ⟨(L.ew t).b,(L.ew t).o,none⟩/\cap=(L.ew t).c))
inductive aY (L:Lay) (N:Nat) (T:au) (w:World):AV->Value->Prop
 |top (v:Value):aY L N T w .top v
 |bool (b:Bool):aY L N T w (.bool b) (.bool b)
 |int (k:IntKind) (n:Int):aY L N T w (.int k n) (.int k n)
 |str (s:List UInt8):aY L N T w (.str s) (.string ⟨s.toArray⟩)
 |gn:aY L N T w .gn (.pointer none)
 |ptr (i o:Nat) (h:i<N):aY L N T w (.ptr i o) (.pointer (some ⟨L.bO i,o,none⟩))
 |eh (cs:List AV) (o b base:Nat) (f:Nat->Value) (hm:base+cs.length<=L.m b)
   (hc:∀j,j<cs.length->w.cell? ⟨b,base+j,none⟩=some (f j)) (h1:∀j,j<cs.length->(f j).oneCell'=true)
   (hr:∀(j:Nat)(h:j<cs.length),aY L N T w (cs[j]'h) (f j)) :
   aY L N T w (.eh cs o) (.pointer (some ⟨b,base+o,none⟩))
 |zj (tg:Tag) (a:Option Addr) (cap:Nat) (ht:lY L T tg 0 0 a cap):aY L N T w (.sl 0 [] tg) (.slice a 0 cap)
 |Ra (n:Nat) (cs:List AV) (tg:Tag) (b base cap:Nat) (f:Nat->Value) (hcap:n<=cap) (hm:base+cs.length<=L.m b)
   (hc:∀j,j<cs.length->w.cell? ⟨b,base+j,none⟩=some (f j)) (h1:∀j,j<cs.length->(f j).oneCell'=true)
   (hr:∀(j:Nat)(h:j<cs.length),aY L N T w (cs[j]'h) (f j))
   (ht:lY L T tg n cs.length (some ⟨b,base,none⟩) cap) :
   aY L N T w (.sl n cs tg) (.slice (some ⟨b,base,none⟩) n cap)
 |cK (i o n cap:Nat) (h:i<N) (hcap:n<=cap):aY L N T w (.cK i o n) (.slice (some ⟨L.bO i,o,none⟩) n cap)
 |bG (i n cap:Nat) (h:i<N) (hcap:n<=cap):aY L N T w (.bG i n cap) (.slice (some ⟨L.bO i,0,none⟩) n cap)
 |aP (i:Nat) (h:i<N):aY L N T w (.aP i) (.map (some (L.bO i)))
 |fn (f:FuncId) (first bY:List AV) (fv cv:Array Value) (h1:fv.size=first.length) (h2:cv.size=bY.length)
   (yJ:∀(j:Nat)(h:j<first.length)(h':j<fv.size),aY L N T w (first[j]'h) (fv[j]'h'))
   (oS:∀(j:Nat)(h:j<bY.length)(h':j<cv.size),aY L N T w (bY[j]'h) (cv[j]'h')) :
   aY L N T w (.fn f first bY) (.func (.func f) fv cv)
 |jr:aY L N T w .jr .nilFunc
 |mY:aY L N T w .mY .nilIface
 |A8 (t:TypeId) (v:Value):aY L N T w .A8 (.iface t v)
 |agg (cs:List AV) (cv:Array Value) (h1:cv.size=cs.length) (h2:∀(j:Nat)(h':j<cv.size),(cv[j]'h').oneCell'=true)
   (hr:∀(j:Nat)(h:j<cs.length)(h':j<cv.size),aY L N T w (cs[j]'h) (cv[j]'h')):aY L N T w (.agg cs) (.agg cv)
 |df (cs:List AV) (cv:Array Value) (h1:cv.size=cs.length)
   (hr:∀(j:Nat)(h:j<cs.length)(h':j<cv.size),aY L N T w (cs[j]'h) (cv[j]'h')):aY L N T w (.df cs) (.tuple cv)
structure cX (L:Lay)(N:Nat)(T:au)(w:World)(L':Lay)(N':Nat)(T':au)(w':World):Prop where
 n:N<=N'
 bO:∀i,i<N->L'.bO i=L.bO i
 tok:∀t u z,T[t]?=some (u,z)->∃u',T'[t]?=some (u',z)/\u<=u'/\(u'=u->L'.ew t=L.ew t)
 m:∀b,L.m b<=L'.m b
 tS:∀b o,o<L.m b->w'.cell? ⟨b,o,none⟩=w.cell? ⟨b,o,none⟩
 dr:L'.dr=L.dr
def cX.refl (L:Lay)(N:Nat)(T:au)(w:World):cX L N T w L N T w:=
 ⟨ahj _,λ_ _=>rfl,λ_ u _ h=>⟨u,h,ahj _,λ_=>rfl⟩,λ_=>ahj _,λ_ _ _=>rfl,rfl⟩
theorem cX.trans {L N T w L1 N1 T1 w1 L2 N2 T2 w2}(h:cX L N T w L1 N1 T1 w1)(k:cX L1 N1 T1 w1 L2 N2 T2 w2):cX L N T w L2 N2 T2 w2:=by
 refine⟨aho h.n k.n,λi hi=>?_,λt u z ht=>?_,λb=>aho (h.m b) (k.m b),λb o ho=>?_,k.dr.trans h.dr⟩
 ·rw[k.bO i (aio hi h.n),h.bO i hi]
 ·obtain⟨u1,h1,hle,he⟩:=h.tok t u z ht;obtain⟨u2,h2,hle2,yM⟩:=k.tok t u1 z h1;refine⟨u2,h2,aho hle hle2,λe=>?_⟩;rw[yM (by omega),he (by omega)]
 ·rw[k.tS b o (aio ho (h.m b)),h.tS b o ho]
theorem lY.keep {L N T w L' N' T' w' tg n u a cap}(k:cX L N T w L' N' T' w')(h:lY L T tg n u a cap):lY L' T' tg n u a cap:=by
 cases tg with
 |none=>trivial
 |full=>exact h
 |own t=>
  obtain⟨u0,z,h0,hle,he⟩:=h;obtain⟨u1,h1,hle1,he1⟩:=k.tok t u0 z h0;refine⟨u1,z,h1,by omega,λe=>?_⟩;rw[he1 (by omega)];exact he (by omega)
theorem aY.keep {L N T w L' N' T' w' v c}(k:cX L N T w L' N' T' w')(h:aY L N T w v c):aY L' N' T' w' v c:=by
 induction h with
 |top v=>exact .top v
 |bool b=>exact .bool b
 |int k n=>exact .int k n
 |str s=>exact .str s
 |gn=>exact .gn
 |ptr i o h=>rw[<-k.bO i h];exact .ptr i o (aio h k.n)
 |eh cs o b base f hm hc h1 hr ih=>
  exact .eh cs o b base f (aho hm (k.m b)) (λj hj=>by rw[k.tS _ _ (by omega)];exact hc j hj) h1 ih
 |zj tg a cap ht=>exact .zj tg a cap (ht.keep k)
 |Ra n cs tg b base cap f hcap hm hc h1 hr ht ih=>
  exact .Ra n cs tg b base cap f hcap (aho hm (k.m b)) (λj hj=>by rw[k.tS _ _ (by omega)];exact hc j hj) h1 ih (ht.keep k)
 |cK i o n cap h hcap=>rw[<-k.bO i h];exact .cK i o n cap (aio h k.n) hcap
 |bG i n cap h hcap=>rw[<-k.bO i h];exact .bG i n cap (aio h k.n) hcap
 |aP i h=>rw[<-k.bO i h];exact .aP i (aio h k.n)
 |fn f first bY fv cv h1 h2 yJ oS ih1 ih2=>exact .fn f first bY fv cv h1 h2 ih1 ih2
 |jr=>exact .jr
 |mY=>exact .mY
 |A8 t v=>exact .A8 t v
 |agg cs cv h1 h2 hr ih=>exact .agg cs cv h1 h2 ih
 |df cs cv h1 hr ih=>exact .df cs cv h1 ih
def Wr (L:Lay)(N:Nat)(T:au)(b:Nat):Prop:=
 (∃i,i<N/\L.bO i=b)\/(∃t u z,T[t]?=some (u,z)/\u<(L.ew t).c*z/\(L.ew t).b=b)
structure Ev (nb tb:Nat)(L:Lay)(N:Nat)(T:au)(w:World)(L':Lay)(N':Nat)(T':au)(w':World):Prop where
 n:nb<=N'
 bO:∀i,i<nb->L'.bO i=L.bO i
 tok:∀t u z,t<tb->T[t]?=some (u,z)->∃u',T'[t]?=some (u',z)/\u<=u'/\(u'=u->L'.ew t=L.ew t)
 t:tb<=T'.length
 m:∀b,L.m b<=L'.m b
 tS:∀b o,o<L.m b->w'.cell? ⟨b,o,none⟩=w.cell? ⟨b,o,none⟩
 size:w.heap.size<=w'.heap.size
 frame:∀b,b<w.heap.size->¬Wr L N T b->w'.heap[b]?=w.heap[b]?
 wr:∀b,Wr L' N' T' b->Wr L N T b\/w.heap.size<=b
 os:w'.os=w.os
 tape:w'.tape=w.tape
 output:w'.output=w.output
 drawn:L.dr=true->w.drawn<=w'.drawn
 dr:L'.dr=L.dr
def Ev.refl {nb tb L N T w}(h:nb<=N)(h':tb<=T.length):Ev nb tb L N T w L N T w:=
 ⟨h,λ_ _=>rfl,λ_ u _ _ h=>⟨u,h,ahj _,λ_=>rfl⟩,h',λ_=>ahj _,λ_ _ _=>rfl,ahj _,λ_ _ _=>rfl,
  λ_ h=>.inl h,rfl,rfl,rfl,λ_=>ahj _,rfl⟩
theorem Ev.trans {nb tb L N T w L1 N1 T1 w1 L2 N2 T2 w2}(h:Ev nb tb L N T w L1 N1 T1 w1)(k:Ev nb tb L1 N1 T1 w1 L2 N2 T2 w2):Ev nb tb L N T w L2 N2 T2 w2:=by
 refine⟨k.n,λi hi=>?_,λt u z ht hT=>?_,k.t,λb=>aho (h.m b) (k.m b),λb o ho=>?_,aho h.size k.size,λb hb hn=>?_,λb hb=>?_,
  k.os.trans h.os,k.tape.trans h.tape,k.output.trans h.output,λe=>aho (h.drawn e) (k.drawn (by rw[h.dr];exact e)),k.dr.trans h.dr⟩
 ·rw[k.bO i hi,h.bO i hi]
 ·obtain⟨u1,h1,hle,he⟩:=h.tok t u z ht hT;obtain⟨u2,h2,hle2,yM⟩:=k.tok t u1 z ht h1;refine⟨u2,h2,aho hle hle2,λe=>?_⟩;rw[yM (by omega),he (by omega)]
 ·rw[k.tS b o (aio ho (h.m b)),h.tS b o ho]
 ·rw[k.frame b (aio hb h.size) (λhw=>?_),h.frame b hb hn];rcases h.wr b hw with h'|h'
  ·exact hn h'
  ·omega
 ·rcases k.wr b hb with h'|h'
  ·exact h.wr b h'
  ·exact .inr (aho h.size h')
def Ev.mono {nb tb nb' tb' L N T w L' N' T' w'}(h:Ev nb tb L N T w L' N' T' w')(hn:nb'<=nb)(ht:tb'<=tb):Ev nb' tb' L N T w L' N' T' w':=
 ⟨aho hn h.n,λi hi=>h.bO i (aio hi hn),λt u z hlt=>h.tok t u z (aio hlt ht),aho ht h.t,h.m,h.tS,h.size,h.frame,h.wr,h.os,h.tape,h.output,h.drawn,h.dr⟩
def Ev.keeps {L N T w L' N' T' w'}(h:Ev N T.length L N T w L' N' T' w'):cX L N T w L' N' T' w':=
 ⟨h.n,h.bO,λt u z hT=>h.tok t u z ((ahh.1 hT).1) hT,h.m,h.tS,h.dr⟩
def mP (L:Lay)(N:Nat)(T:au)(w:World)(i:Nat):az->Prop
 |.cells vs=>∃c t fr,w.heap[L.bO i]?=some (.cells c t fr)/\(∀o,o<c.size->(fr.1<=o&&o<fr.2)=false)/\c.size=vs.length/\
   (∀(j:Nat)(h':j<c.size),(c[j]'h').oneCell'=true)/\
   (∀(j:Nat)(h:j<vs.length)(h':j<c.size),aY L N T w (vs[j]'h) (c[j]'h'))/\L.m (L.bO i)=0
 |.iter s pos=>w.heap[L.bO i]?=some (.stringIter ⟨s.toArray⟩ pos)
 |.map es=>∃dS:Array MapEntry,w.heap[L.bO i]?=some (.map dS es.length)/\dS.size=es.length/\
   (∀(j:Nat)(h:j<es.length)(h':j<dS.size),(dS[j]'h').key=(es[j]'h).1.val/\(dS[j]'h').born=j/\aY L N T w (es[j]'h).2 (dS[j]'h').val)/\(es.map (·.1)).Nodup/\L.m (L.bO i)=0
 |.mF m n seen=>w.heap[L.bO i]?=some (.mapIter (some (L.bO m)) n seen.toArray n)/\m<i/\L.m (L.bO i)=0
 |.KB g p=>L.bO i=g/\L.dr=false/\∃o,w.heap[g]?=some o/\p o
theorem mP.stay {L N T w L' N' T' w' i b}(k:cX L N T w L' N' T' w')(h:mP L N T w i b)(hi:i<N)(hh:w'.heap[L.bO i]?=w.heap[L.bO i]?)(hm:L.m (L.bO i)=0->L'.m (L.bO i)=0):mP L' N' T' w' i b:=by
 have e:=k.bO i hi
 cases b with
 |cells vs=>
  obtain⟨c,t,fr,h1,h2,h3,YR,h4,h5⟩:=h;exact⟨c,t,fr,by rw[e,hh];exact h1,h2,h3,YR,λj a b=>(h4 j a b).keep k,by rw[e];exact hm h5⟩
 |iter s pos=>show w'.heap[_]?=_;rw[e,hh];exact h
 |map es=>
  obtain⟨dS,h1,h2,h3,hn,h4⟩:=h;exact⟨dS,by rw[e,hh];exact h1,h2,λj a b=>⟨(h3 j a b).1,(h3 j a b).2.1,(h3 j a b).2.2.keep k⟩,hn,by rw[e];exact hm h4⟩
 |mF m n seen=>
  obtain⟨h1,h2,h4⟩:=h;exact⟨by rw[e,hh,k.bO m (by omega)];exact h1,h2,by rw[e];exact hm h4⟩
 |KB g p=>
  obtain⟨h1,h4,o,h2,h3⟩:=h;exact⟨by rw[e,h1],by rw[k.dr,h4],o,by rw[<-h1,hh,h1];exact h2,h3⟩
def zP (L:Lay)(w:World)(t u z:Nat):Prop:=
 0<z/\(u<(L.ew t).c*z->∃c e fr,w.heap[(L.ew t).b]?=some (.cells c e fr)/\(L.ew t).o+(L.ew t).c*z<=c.size/\
  (∀o,(L.ew t).o+u<=o->o<(L.ew t).o+(L.ew t).c*z->(fr.1<=o&&o<fr.2)=false)/\L.m (L.ew t).b<=(L.ew t).o+u)
def zN:List (Nat×Nat):=[]
def GOk (L:Lay)(w:World):Prop:=∀x∈zN,x.2<L.m x.1/\∃m,w.cell? ⟨x.1,x.2,none⟩=some (.int .i64 m)
def GOk.keep {L L':Lay}{w w':World}(h:GOk L w)(hm:∀b,L.m b<=L'.m b)(hc:∀b o,o<L.m b->w'.cell? ⟨b,o,none⟩=w.cell? ⟨b,o,none⟩):GOk L' w':=λx hx=>by
 obtain⟨h1,m,h2⟩:=h x hx;exact⟨aio h1 (hm _),m,by rw[hc _ _ h1];exact h2⟩
structure bW (L:Lay)(H:List az)(T:au)(w:World):Prop where
 box:∀i b,H[i]?=some b->mP L H.length T w i b
 inj:∀i j,i<H.length->j<H.length->L.bO i=L.bO j->i=j
 tok:∀t u z,T[t]?=some (u,z)->zP L w t u z
 po:∀t u z t' u' z',T[t]?=some (u,z)->T[t']?=some (u',z')->u<(L.ew t).c*z->u'<(L.ew t').c*z'->(L.ew t).b=(L.ew t').b->t=t'
 kD:∀t u z i,T[t]?=some (u,z)->u<(L.ew t).c*z->i<H.length->(L.ew t).b≠L.bO i
 mz:∀b,w.heap.size<=b->L.m b=0
 gl:GOk L w
theorem mP.lt {L N T w i b}(h:mP L N T w i b):L.bO i<w.heap.size:=by
 rcases ahr (L.bO i) w.heap.size with h1|h1
 ·exact h1
 ·exfalso
  cases b with
  |cells vs=>obtain⟨c,t,fr,hh,_⟩:=h;rw[aiO h1] at hh;cases hh
  |iter s pos=>unfold mP at h;rw[aiO h1] at h;cases h
  |map es=>obtain⟨dS,hh,_⟩:=h;rw[aiO h1] at hh;cases hh
  |mF m n seen=>obtain⟨hh,_⟩:=h;rw[aiO h1] at hh;cases hh
  |KB g p=>obtain⟨e,_,o,hh,_⟩:=h;rw[<-e,aiO h1] at hh;cases hh
def bW.me {L H T w}(h:bW L H T w){i:Nat}(hi:i<H.length):L.bO i<w.heap.size:=
 (h.box i _ (ahi hi)).lt
def bW.GP {L H T w}(h:bW L H T w){t u z:Nat}(ht:T[t]?=some (u,z))(hs:u<(L.ew t).c*z):(L.ew t).b<w.heap.size:=by
 obtain⟨_,h2⟩:=h.tok t u z ht;obtain⟨c,e,fr,hh,_⟩:=h2 hs;rcases ahr (L.ew t).b w.heap.size with h1|h1
 ·exact h1
 ·rw[aiO h1] at hh;cases hh
def bW.ZQ {L H T w}(h:bW L H T w){b:Nat}(hb:Wr L H.length T b):b<w.heap.size:=by
 rcases hb with⟨i,hi,rfl⟩|⟨t,u,z,ht,hs,rfl⟩
 ·exact h.me hi
 ·exact h.GP ht hs
def bE:Env->Nat->AV
 |[],_=>.top
 |(s,v)::r,t=>if s=t then v else bE r t
def lW:Env->Nat->AV->Env
 |[],t,v=>[(t,v)]
 |(s,u)::r,t,v=>if s=t then (t,v)::r else (s,u)::lW r t v
theorem cI (e:Env)(t:Nat)(v:AV):bE (lW e t v) t=v:=by
 induction e with
 |nil=>simp[lW,bE]
 |cons x r ih=>
  obtain⟨s,u⟩:=x
  by_cases h:s=t
  ·simp[lW,bE,h]
  ·simp[lW,bE,h,ih]
theorem bB (e:Env)(t t':Nat)(v:AV)(hne:t≠t'):bE (lW e t v) t'=bE e t':=by
 induction e with
 |nil=>simp[lW,bE,hne]
 |cons x r ih=>
  obtain⟨s,u⟩:=x
  by_cases h:s=t
  ·subst h;simp[lW,bE,hne]
  ·by_cases h2:s=t'
   ·subst h2;simp[lW,bE,h]
   ·simp[lW,bE,h,h2,ih]
def fD (L:Lay)(N:Nat)(T:au)(w:World)(e:Env)(a:Act):Prop:=
 ∀t,aY L N T w (bE e t) (a.tmps.getD t undef)
theorem fD.keep {L N T w L' N' T' w' e a}(k:cX L N T w L' N' T' w')(h:fD L N T w e a):fD L' N' T' w' e a:=λt=>(h t).keep k
def jE (a:Act)(d t:Nat)(v:Value)(hd:d<a.tmps.size):(a.put (some d) v).tmps.getD t undef=if d=t then v else a.tmps.getD t undef:=by
 simp only[Act.put,ajP]
 by_cases h:d=t
 ·subst h;simp[hd]
 ·simp[aji h,h]
theorem fD.put {L N T w e a d v c}(h:fD L N T w e a)(hd:d<a.tmps.size)(hv:aY L N T w v c):fD L N T w (lW e d v) (a.put (some d) c):=by
 intro t;rw[jE a d t c hd]
 by_cases XN:d=t
 ·subst XN;rw[cI];simpa using hv
 ·rw[bB _ _ _ _ XN,ahq XN];exact h t
structure St where
 e:Env
 H:List az
 T:au
structure Cx where
 P:Program
 nt:Nat
 nv:Nat
 nb:Nat
 tb:Nat
 bx:List Nat
structure eQ (C:Cx)(s:St)(L:Lay)(w:World)(a:Act):Prop where
 nb:C.nb<=s.H.length
 tb:C.tb<=s.T.length
 mV:bW L s.H s.T w
 size:a.tmps.size=C.nt
 defers:a.defers=[]
 env:fD L s.H.length s.T w s.e a
def cL (C:Cx)(Q:Exit->St->Prop)(L:Lay)(s:St)(w:World)(e:Exit)(a':Act)(w':World):Prop:=
 ∃s' L',Q e s'/\eQ C s' L' w' a'/\Ev C.nb C.tb L s.H.length s.T w L' s'.H.length s'.T w'
def AW (C:Cx)(c:Code)(Q:Exit->St->Prop)(s:St):Prop:=
 ∀L w a,eQ C s L w a->c.wp C.P (cL C Q L s w) a w
def cL.step {C Q L s w L1 s1 w1 e a' w'}(h:Ev C.nb C.tb L s.H.length s.T w L1 s1.H.length s1.T w1)(k:cL C Q L1 s1 w1 e a' w'):cL C Q L s w e a' w':=by
 obtain⟨s',L',q,c,ev⟩:=k;exact⟨s',L',q,c,h.trans ev⟩
def AW.mono {C c Q Q' s}(h:AW C c Q s)(hq:∀e s,Q e s->Q' e s):AW C c Q' s:=λL w a hc=>
 wp_mono (h L w a hc) λ_ _ _ ⟨s',L',q,r⟩=>⟨s',L',hq _ _ q,r⟩
def dH (K:St->Prop)(Q:Exit->St->Prop):Exit->St->Prop
 |.normal,s=>K s
 |e,s=>Q e s
def aq {C Q s}(h:Q .normal s):AW C .skip Q s:=λL w a hc=>wp_skip ⟨s,L,h,hc,Ev.refl hc.nb hc.tb⟩
def aF {C Q s id}(h:Q (.exit id) s):AW C (.exit id) Q s:=λL w a hc=>wp_exit ⟨s,L,h,hc,Ev.refl hc.nb hc.tb⟩
def ay {C Q s}(h:Q .ret s):AW C .ret Q s:=λL w a hc=>wp_ret ⟨s,L,h,hc,Ev.refl hc.nb hc.tb⟩
theorem xq {C x y Q s}(h:∀K:St->Prop,(∀s,AW C y Q s->K s)->AW C x (dH K Q) s):AW C (.seq x y) Q s:=λL w a hc=>
 wp_seq (wp_mono (h _ (λ_ h=>h) L w a hc) λe a' w' ⟨s',L',q,c,ev⟩=>by
  cases e with
  |normal=>exact wp_mono (q L' w' a' c) λ_ _ _ k=>cL.step ev k
  |_=>exact⟨s',L',q,c,ev⟩)
def Hd (id:Nat)(Q:Exit->St->Prop):Exit->St->Prop
 |.exit id',s=>if id'=id then Q .normal s else Q (.exit id') s
 |e,s=>Q e s
theorem aj {C id x Q s}(h:AW C x (Hd id Q) s):AW C (.block id x) Q s:=λL w a hc=>
 wp_block (wp_mono (h L w a hc) λe a' w' ⟨s',L',q,c,ev⟩=>by
  cases e with
  |exit id'=>
   simp only[Hd] at q;simp only[Exit.inBlock]
   split
   ·rename_i Gb;rw[ahs Gb] at q;exact⟨s',L',q,c,ev⟩
   ·rename_i Gb;rw[ahq Gb] at q;exact⟨s',L',q,c,ev⟩
  |_=>exact⟨s',L',q,c,ev⟩)
inductive Below (n t:Nat):AV->Prop
 |top:Below n t .top
 |bool (b:Bool):Below n t (.bool b)
 |int (k:IntKind) (x:Int):Below n t (.int k x)
 |str (s:List UInt8):Below n t (.str s)
 |gn:Below n t .gn
 |ptr (i o:Nat) (h:i<n):Below n t (.ptr i o)
 |eh (cs:List AV) (o:Nat) (h:∀c∈cs,Below n t c):Below n t (.eh cs o)
 |sl (m:Nat) (cs:List AV) (tg:Tag) (h:∀c∈cs,Below n t c) (ht:∀x,tg=.own x->x<t):Below n t (.sl m cs tg)
 |cK (i o m:Nat) (h:i<n):Below n t (.cK i o m)
 |bG (i m cap:Nat) (h:i<n):Below n t (.bG i m cap)
 |aP (i:Nat) (h:i<n):Below n t (.aP i)
 |fn (f:FuncId) (first bY:List AV) (h1:∀c∈first,Below n t c) (h2:∀c∈bY,Below n t c):Below n t (.fn f first bY)
 |jr:Below n t .jr
 |mY:Below n t .mY
 |A8:Below n t .A8
 |agg (cs:List AV) (h:∀c∈cs,Below n t c):Below n t (.agg cs)
 |df (cs:List AV) (h:∀c∈cs,Below n t c):Below n t (.df cs)
theorem aY.drop {L:Lay}{N n t:Nat}{T:au}{w:World}{v:AV}{c:Value}(h:aY L N T w v c)(hb:Below n t v):aY L n (T.take t) w v c:=by
 have tag:∀(tg:Tag)(m u:Nat)(a:Option Addr)(cap:Nat),(∀x,tg=.own x->x<t)->lY L T tg m u a cap->lY L (T.take t) tg m u a cap:=by
  intro tg m u a cap hx ht
  cases tg with
  |none=>trivial
  |full=>exact ht
  |own x=>
   obtain⟨u0,z,h0,r⟩:=ht;exact⟨u0,z,by rw[ah9,ahs (hx x rfl)];exact h0,r⟩
 induction h with
 |top v=>exact .top v
 |bool b=>exact .bool b
 |int k x=>exact .int k x
 |str s=>exact .str s
 |gn=>exact .gn
 |ptr i o h=>cases hb with|ptr _ _ h'=>exact .ptr i o h'
 |eh cs o b base f hm hc h1 hr ih=>cases hb with|eh _ _ hx=>exact .eh cs o b base f hm hc h1 (λj hj=>ih j hj (hx _ (ahP hj)))
 |zj tg a cap ht=>cases hb with|sl _ _ _ hx hy=>exact .zj tg a cap (tag _ _ _ _ _ hy ht)
 |Ra m cs tg b base cap f hcap hm hc h1 hr ht ih=>
  cases hb with|sl _ _ _ hx hy=>exact .Ra m cs tg b base cap f hcap hm hc h1 (λj hj=>ih j hj (hx _ (ahP hj))) (tag _ _ _ _ _ hy ht)
 |cK i o m cap h hcap=>cases hb with|cK _ _ _ h'=>exact .cK i o m cap h' hcap
 |bG i m cap h hcap=>cases hb with|bG _ _ _ h'=>exact .bG i m cap h' hcap
 |aP i h=>cases hb with|aP _ h'=>exact .aP i h'
 |fn f first bY fv cv h1 h2 yJ oS ih1 ih2=>
  cases hb with|fn _ _ _ hx hy=>exact .fn f first bY fv cv h1 h2 (λj hj hj'=>ih1 j hj hj' (hx _ (ahP hj))) (λj hj hj'=>ih2 j hj hj' (hy _ (ahP hj)))
 |jr=>exact .jr
 |mY=>exact .mY
 |A8 t v=>exact .A8 t v
 |agg cs cv h1 h2 hr ih=>cases hb with|agg _ hx=>exact .agg cs cv h1 h2 (λj hj hj'=>ih j hj hj' (hx _ (ahP hj)))
 |df cs cv h1 hr ih=>cases hb with|df _ hx=>exact .df cs cv h1 (λj hj hj'=>ih j hj hj' (hx _ (ahP hj)))
def cG:AV->AV
 |.sl n cs _=>.sl n cs .none
 |.bG i n _=>.cK i 0 n
 |v=>v
theorem aY.cG {L:Lay}{N:Nat}{T:au}{w:World}{v:AV}{c:Value}(h:aY L N T w v c):aY L N T w (cG v) c:=by
 cases h with
 |zj tg a cap ht=>exact .zj .none a cap trivial
 |Ra n cs tg b base cap f hcap hm hc h1 hr ht=>exact .Ra n cs .none b base cap f hcap hm hc h1 hr trivial
 |top _=>exact .top _
 |bool b=>exact .bool b
 |int k x=>exact .int k x
 |str s=>exact .str s
 |gn=>exact .gn
 |ptr i o h=>exact .ptr i o h
 |eh cs o b base f hm hc h1 hr=>exact .eh cs o b base f hm hc h1 hr
 |cK i o m cap h hcap=>exact .cK i o m cap h hcap
 |bG i m cap h hcap=>exact .cK i 0 m cap h hcap
 |aP i h=>exact .aP i h
 |fn f first bY fv cv h1 h2 yJ oS=>exact .fn f first bY fv cv h1 h2 yJ oS
 |jr=>exact .jr
 |mY=>exact .mY
 |A8 t v=>exact .A8 t v
 |agg cs cv h1 h2 hr=>exact .agg cs cv h1 h2 hr
 |df cs cv h1 hr=>exact .df cs cv h1 hr
theorem Below.cG {n t:Nat}{v:AV}(h:Below n t v):Below n t (cG v):=by
 cases h with
 |sl m cs tg h ht=>exact .sl m cs .none h (λx hx=>by cases hx)
 |top=>exact .top
 |bool b=>exact .bool b
 |int k x=>exact .int k x
 |str s=>exact .str s
 |gn=>exact .gn
 |ptr i o h=>exact .ptr i o h
 |eh cs o h=>exact .eh cs o h
 |cK i o m h=>exact .cK i o m h
 |bG i m cap h=>exact .cK i 0 m h
 |aP i h=>exact .aP i h
 |fn f a b h1 h2=>exact .fn f a b h1 h2
 |jr=>exact .jr
 |mY=>exact .mY
 |A8=>exact .A8
 |agg cs h=>exact .agg cs h
 |df cs h=>exact .df cs h
structure ui (C:Cx)(s s':St):Prop where
 nb:C.nb<=s'.H.length
 tb:C.tb<=s'.T.length
 H:∃r,s.H=s'.H++r
 T:∃r,s.T=s'.T++r
 cells:∀(i:Nat)(b:az),s'.H[i]?=some b->∀v∈b.Be,Below s'.H.length s'.T.length v
 env:∀t,bE s'.e t=.top\/((bE s'.e t=bE s.e t\/bE s'.e t=cG (bE s.e t))/\Below s'.H.length s'.T.length (bE s'.e t))
theorem ui.mV {C s s' L w a}(h:ui C s s')(c:eQ C s L w a):eQ C s' L w a:=by
 obtain⟨gG,fY,⟨rH,hH⟩,⟨rT,hT⟩,xo,uc⟩:=h;have XP:s.T.take s'.T.length=s'.T:=by rw[hT];simp
 have hlen:s'.H.length<=s.H.length:=by rw[hH];simp
 have jv:∀(i:Nat)(b:az),s'.H[i]?=some b->s.H[i]?=some b:=by
  intro i b hb;have hi:=(ahh.1 hb).1;rw[hH,ahp hi];exact hb
 have Ks:∀(t:Nat)(x:Nat×Nat),s'.T[t]?=some x->s.T[t]?=some x:=by
  intro t x hx;have hi:=(ahh.1 hx).1;rw[hT,ahp hi];exact hx
 have rep:∀v c',aY L s.H.length s.T w v c'->Below s'.H.length s'.T.length v->aY L s'.H.length s'.T w v c':=by
  intro v c' hr hb;have:=hr.drop hb
  rwa [XP] at this
 refine⟨gG,fY,⟨λi b hb=>?_,λi j hi hj=>c.mV.inj i j (by omega) (by omega),λt u z ht=>c.mV.tok t u z (Ks _ _ ht),λt u z t' u' z' h1 h2=>c.mV.po t u z t' u' z' (Ks _ _ h1) (Ks _ _ h2),
  λt u z i h1 h2 hi=>c.mV.kD t u z i (Ks _ _ h1) h2 (by omega),c.mV.mz,c.mV.gl⟩,c.size,c.defers,λt=>?_⟩
 ·have CH:=c.mV.box i b (jv i b hb)
  cases b with
  |cells vs=>
   obtain⟨cc,t,fr,h1,h2,h3,YR,h4,h5⟩:=CH;exact⟨cc,t,fr,h1,h2,h3,YR,λj hj hj'=>rep _ _ (h4 j hj hj') (xo i _ hb _ (ahP hj)),h5⟩
  |iter s0 pos=>exact CH
  |map es=>
   obtain⟨dS,h1,h2,h3,h4⟩:=CH;exact⟨dS,h1,h2,λj hj hj'=>⟨(h3 j hj hj').1,(h3 j hj hj').2.1,rep _ _ (h3 j hj hj').2.2 (xo i _ hb _ (ahl.2 ⟨_,ahP hj,rfl⟩))⟩,h4⟩
  |mF m n seen=>exact CH
  |KB g p=>exact CH
 ·rcases uc t with h0|⟨h1,h2⟩
  ·rw[h0];exact .top _
  ·rcases h1 with h1|h1
   ·rw[h1] at h2 ⊢;exact rep _ _ (c.env t) h2
   ·rw[h1] at h2 ⊢;exact rep _ _ (c.env t).cG h2
def ui.ev {C s s' L w}(h:ui C s s'):Ev C.nb C.tb L s.H.length s.T w L s'.H.length s'.T w:=by
 obtain⟨gG,fY,⟨rH,hH⟩,⟨rT,hT⟩,_,_⟩:=h;have Ks:∀(t:Nat)(x:Nat×Nat),s'.T[t]?=some x->s.T[t]?=some x:=by
  intro t x hx;have hi:=(ahh.1 hx).1;rw[hT,ahp hi];exact hx
 refine⟨gG,λ_ _=>rfl,λt u z ht hx=>⟨u,?_,ahj _,λ_=>rfl⟩,fY,λ_=>ahj _,λ_ _ _=>rfl,ahj _,λ_ _ _=>rfl,λb hb=>.inl ?_,rfl,rfl,rfl,λ_=>ahj _,rfl⟩
 ·rw[hT,ahp (by omega)] at hx;exact hx
 ·rcases hb with⟨i,hi,e⟩|⟨t,u,z,h1,h2,e⟩
  ·exact .inl ⟨i,by rw[hH];simp;omega,e⟩
  ·exact .inr ⟨t,u,z,Ks _ _ h1,h2,e⟩
def aH {C c Q s}(s':St)(hw:ui C s s')(h:AW C c Q s'):AW C c Q s:=λL w a hc=>
 wp_mono (h L w a (hw.mV hc)) λ_ _ _ k=>cL.step hw.ev k
theorem aI {C c Q s}{X:Type}(st:X->St)(I:X->Prop)(μ:X->Nat)(x0:X)(h0:I x0)(hw:ui C s (st x0))
  (round:∀x,I x->AW C c (dH (λs'=>∃x',I x'/\μ x'<μ x/\ui C s' (st x')) Q) (st x)):AW C (.loop c) Q s:=by
 refine aH (st x0) hw ?_;intro L w a hc;refine wp_loop (λa' w'=>∃x L',I x/\eQ C (st x) L' w' a'/\Ev C.nb C.tb L (st x0).H.length (st x0).T w L' (st x).H.length (st x).T w')
  (λa' w'=>Classical.epsilon λn=>(∃x L',I x/\eQ C (st x) L' w' a'/\Ev C.nb C.tb L (st x0).H.length (st x0).T w L' (st x).H.length (st x).T w'/\μ x=n)/\
   ∀x L',I x->eQ C (st x) L' w' a'->Ev C.nb C.tb L (st x0).H.length (st x0).T w L' (st x).H.length (st x).T w'->n<=μ x) ⟨x0,L,h0,hc,Ev.refl hc.nb hc.tb⟩ ?_
 have least:∀a' w',(∃x L',I x/\eQ C (st x) L' w' a'/\Ev C.nb C.tb L (st x0).H.length (st x0).T w L' (st x).H.length (st x).T w')->
   ∃n,(∃x L',I x/\eQ C (st x) L' w' a'/\Ev C.nb C.tb L (st x0).H.length (st x0).T w L' (st x).H.length (st x).T w'/\μ x=n)/\
    ∀x L',I x->eQ C (st x) L' w' a'->Ev C.nb C.tb L (st x0).H.length (st x0).T w L' (st x).H.length (st x).T w'->n<=μ x:=by
  intro a' w' ⟨x,L',hI,yO,dD⟩;have key:∀n,∀x L',I x->eQ C (st x) L' w' a'->Ev C.nb C.tb L (st x0).H.length (st x0).T w L' (st x).H.length (st x).T w'->μ x=n->
    ∃n,(∃x L',I x/\eQ C (st x) L' w' a'/\Ev C.nb C.tb L (st x0).H.length (st x0).T w L' (st x).H.length (st x).T w'/\μ x=n)/\
    ∀x L',I x->eQ C (st x) L' w' a'->Ev C.nb C.tb L (st x0).H.length (st x0).T w L' (st x).H.length (st x).T w'->n<=μ x:=by
   intro n
   induction n using Nat.strongRecOn with
   |_ n ih=>
    intro x L' h1 h2 h3 h4
    by_cases hs:∃y XX,I y/\eQ C (st y) XX w' a'/\Ev C.nb C.tb L (st x0).H.length (st x0).T w XX (st y).H.length (st y).T w'/\μ y<n
    ·obtain⟨y,XX,g1,g2,g3,g4⟩:=hs;exact ih (μ y) g4 y XX g1 g2 g3 rfl
    ·refine⟨n,⟨x,L',h1,h2,h3,h4⟩,λy XX g1 g2 g3=>?_⟩;rcases ahr (μ y) n with g|g
     ·exact absurd ⟨y,XX,g1,g2,g3,g⟩ hs
     ·exact g
  exact key _ x L' hI yO dD rfl
 intro a1 w1 hI1;obtain⟨⟨x,L1,hI,yO,dD,hμ⟩,ae0⟩:=Classical.epsilon_spec (least a1 w1 hI1);refine wp_mono (round x hI L1 w1 a1 yO) λe a' w' ⟨s',L',q,c',ev⟩=>?_
 cases e with
 |normal=>
  obtain⟨x',hI',hlt,Yo⟩:=q;have hP:I x'/\eQ C (st x') L' w' a'/\Ev C.nb C.tb L (st x0).H.length (st x0).T w L' (st x').H.length (st x').T w':=
   ⟨hI',Yo.mV c',(dD.trans ev).trans Yo.ev⟩
  refine⟨⟨x',L',hP⟩,?_⟩;obtain⟨_,Ou⟩:=Classical.epsilon_spec (least a' w' ⟨x',L',hP⟩);have h1:=Ou x' L' hP.1 hP.2.1 hP.2.2;rw[<-hμ];exact ajH h1 hlt
 |_=>exact⟨s',L',q,c',dD.trans ev⟩
def j9 (w:World)(o:Obj)(b:Nat)(h:b<w.heap.size):(w.alloc o).heap[b]?=w.heap[b]?:=by
 show (w.heap.push o)[b]?=_;rw[Array.getElem?_push,ahq (by omega)]
def fP (w:World)(o:Obj):(w.alloc o).heap[w.heap.size]?=some o:=by
 show (w.heap.push o)[w.heap.size]?=_;rw[Array.getElem?_push,ahs rfl]
def jl {w w':World}{b:Nat}(h:w'.heap[b]?=w.heap[b]?)(o:Nat):w'.cell? ⟨b,o,none⟩=w.cell? ⟨b,o,none⟩:=by
 unfold World.cell?;simp only[h]
def gE {w:World}{b:Nat}{c:Array Value}{e:TypeId}{fr:Nat×Nat}(h:w.heap[b]?=some (.cells c e fr))(o:Nat):w.cell? ⟨b,o,none⟩=c[o]?:=by
 unfold World.cell?;simp only[h];simp
def bW.drew {L:Lay}{H:List az}{T:au}{w w':World}(h:bW L H T w)(hh:w'.heap=w.heap):bW L H T w':=by
 have kp:cX L H.length T w L H.length T w':=⟨ahj _,λ_ _=>rfl,λt u z h=>⟨u,h,ahj _,λ_=>rfl⟩,λ_=>ahj _,λb o _=>jl (by rw[hh]) o,rfl⟩
 refine⟨λi b hb=>?_,h.inj,λt u z ht=>?_,h.po,h.kD,λb hb=>h.mz b (by rw[<-hh];exact hb),h.gl.keep kp.m kp.tS⟩
 ·exact(h.box i b hb).stay kp (ahh.1 hb).1 (by rw[hh]) id
 ·obtain⟨h1,h2⟩:=h.tok t u z ht;exact⟨h1,λhs=>by rw[hh];exact h2 hs⟩
def Ev.drew {L:Lay}{H:List az}{T:au}{w w':World}(hh:w'.heap=w.heap)(ho:w'.os=w.os)(ht:w'.tape=w.tape)(Bl:w'.output=w.output)(hdr:w.drawn<=w'.drawn) :
  Ev H.length T.length L H.length T w L H.length T w':=
 ⟨ahj _,λ_ _=>rfl,λt u z _ h=>⟨u,h,ahj _,λ_=>rfl⟩,ahj _,λ_=>ahj _,λb o _=>jl (by rw[hh]) o,by rw[hh];exact ahj _,
  λb _ _=>by rw[hh],λb hb=>.inl hb,ho,ht,Bl,λ_=>hdr,rfl⟩
def Lay.bS (L:Lay)(b k:Nat):Lay:={ L with m:=λx=>if x=b then k else L.m x }
def Lay.dB (L:Lay)(i b:Nat):Lay:={ L with bO:=λx=>if x=i then b else L.bO x }
def Lay.bp (L:Lay)(t:Nat)(k:Tk):Lay:={ L with ew:=λx=>if x=t then k else L.ew x }
theorem Ev.alloc {L:Lay}{H:List az}{T:au}{w:World}(h:bW L H T w)(o:Obj)(k:Nat) :
  Ev H.length T.length L H.length T w (L.bS w.heap.size k) H.length T (w.alloc o):=by
 refine⟨ahj _,λ_ _=>rfl,λt u z _ h=>⟨u,h,ahj _,λ_=>rfl⟩,ahj _,λb=>?_,λb o' ho=>?_,by simp,λb hb _=>j9 w o b hb,
  λb hb=>.inl hb,rfl,rfl,rfl,λ_=>ahj _,rfl⟩
 ·show L.m b<=if b=w.heap.size then k else L.m b
  split
  ·rename_i e;rw[h.mz b (by omega)];exact ahu _
  ·exact ahj _
 ·have hb:b<w.heap.size:=by
   rcases ahr b w.heap.size with h1|h1
   ·exact h1
   ·rw[h.mz b h1] at ho;omega
  exact jl (j9 w o b hb) o'
theorem bW.alloc {L:Lay}{H:List az}{T:au}{w:World}(h:bW L H T w)(o:Obj)(k:Nat):bW (L.bS w.heap.size k) H T (w.alloc o):=by
 have kp:=(Ev.alloc h o k).keeps;refine⟨λi b hb=>?_,h.inj,λt u z ht=>?_,h.po,h.kD,λb hb=>?_,h.gl.keep kp.m kp.tS⟩
 ·have hlt:=(h.box i b hb).lt;refine(h.box i b hb).stay kp (ahh.1 hb).1 (j9 w o _ hlt) λh5=>?_;show (if L.bO i=w.heap.size then k else L.m (L.bO i))=0;rw[ahq (by omega)];exact h5
 ·obtain⟨h1,h2⟩:=h.tok t u z ht;refine⟨h1,λhs=>?_⟩;have hlt:=h.GP ht hs;obtain⟨c,e,fr,g1,g2,g3,g4⟩:=h2 hs;refine⟨c,e,fr,by show (w.alloc o).heap[(L.ew t).b]?=_;rw[j9 w o _ hlt];exact g1,g2,g3,?_⟩;show (if (L.ew t).b=w.heap.size then k else L.m (L.ew t).b)<=_;rw[ahq (by omega)];exact g4
 ·have:w.heap.size+1<=b:=by simpa using hb
  show (if b=w.heap.size then k else L.m b)=0;rw[ahq (by omega)];exact h.mz b (by omega)
def bW.xh {L:Lay}{H:List az}{T:au}{w:World}(h:bW L H T w){b:Nat}(hb:w.heap.size<=b):¬Wr L H.length T b:=λhw=>by
 have:=h.ZQ hw;omega
def bW.rQ {L:Lay}{H:List az}{T:au}{w:World}(h:bW L H T w)(b:Nat)(hb:¬Wr L H.length T b)(blk:az)(hz:w.heap.size<=b->False)
  (rG:mP (L.dB H.length b) (H.length+1) T w H.length blk):bW (L.dB H.length b) (H++[blk]) T w:=by
 have qU:∀i,i<H.length->(L.dB H.length b).bO i=L.bO i:=λi hi=>by simp only[Lay.dB];rw[ahq (by omega)]
 have wR:(L.dB H.length b).bO H.length=b:=by simp[Lay.dB]
 have kp:cX L H.length T w (L.dB H.length b) (H++[blk]).length T w:=
  ⟨by simp,λi hi=>qU i hi,λt u z h=>⟨u,h,ahj _,λ_=>rfl⟩,λ_=>ahj _,λ_ _ _=>rfl,rfl⟩
 have gG:∀i,i<H.length->L.bO i≠b:=λi hi e=>hb (.inl ⟨i,hi,e⟩);refine⟨λi x hx=>?_,λi j hi hj e=>?_,λt u z ht=>h.tok t u z ht,h.po,λt u z i ht hs hi=>?_,h.mz,h.gl.keep kp.m kp.tS⟩
 ·rcases ahr i H.length with hi|hi
  ·rw[ahp hi] at hx;have:=(h.box i x hx).stay kp hi rfl id;exact this
  ·have iV:i=H.length:=by
    have:=(ahh.1 hx).1;simp at this;omega
   subst iV;simp at hx;subst hx;simpa using rG
 ·simp at hi hj;rcases ahr i H.length with iV|iV<;>rcases ahr j H.length with hj'|hj'
  ·rw[qU i iV,qU j hj'] at e;exact h.inj i j iV hj' e
  ·have:j=H.length:=by omega
   subst this;rw[qU i iV,wR] at e;exact absurd e (gG i iV)
  ·have:i=H.length:=by omega
   subst this;rw[qU j hj',wR] at e;exact absurd e.symm (gG j hj')
  ·omega
 ·simp at hi;rcases ahr i H.length with iV|iV
  ·rw[qU i iV];exact h.kD t u z i ht hs iV
  ·have:i=H.length:=by omega
   subst this;rw[wR];intro e;exact hb (.inr ⟨t,u,z,ht,hs,e⟩)
def Ev.rQ {L L1:Lay}{H:List az}{T:au}{w w1:World}{b:Nat}(blk:az)(h:Ev H.length T.length L H.length T w L1 H.length T w1)(hb:w.heap.size<=b) :
  Ev H.length T.length L H.length T w (L1.dB H.length b) (H++[blk]).length T w1:=by
 refine⟨by simp,λi hi=>?_,h.tok,h.t,h.m,h.tS,h.size,h.frame,λx hx=>?_,h.os,h.tape,h.output,h.drawn,h.dr⟩
 ·simp only[Lay.dB];rw[ahq (by omega)];exact h.bO i hi
 ·rcases hx with⟨i,hi,e⟩|⟨t,u,z,ht,hs,e⟩
  ·simp at hi;rcases ahr i H.length with iV|iV
   ·exact h.wr x (.inl ⟨i,iV,by simp only[Lay.dB] at e;rwa [ahq (by omega)] at e⟩)
   ·have:i=H.length:=by omega
    subst this;simp[Lay.dB] at e;exact .inr (by omega)
  ·exact h.wr x (.inr ⟨t,u,z,ht,hs,e⟩)
def bW.oD {L:Lay}{H:List az}{T:au}{w:World}(h:bW L H T w)(k:Tk)(u z:Nat)(hb:u<k.c*z->¬Wr L H.length T k.b)
  (jK:zP (L.bp T.length k) w T.length u z):bW (L.bp T.length k) H (T++[(u,z)]) w:=by
 have rF:∀t,t<T.length->(L.bp T.length k).ew t=L.ew t:=λt ht=>by simp only[Lay.bp];rw[ahq (by omega)]
 have wR:(L.bp T.length k).ew T.length=k:=by simp[Lay.bp]
 have kp:cX L H.length T w (L.bp T.length k) H.length (T++[(u,z)]) w:=by
  refine⟨ahj _,λi hi=>rfl,λt u' z' ht=>?_,λ_=>ahj _,λ_ _ _=>rfl,rfl⟩;have hlt:=(ahh.1 ht).1;exact⟨u',by rw[ahp hlt];exact ht,ahj _,λ_=>rF t hlt⟩
 have part:∀t u' z',(T++[(u,z)])[t]?=some (u',z')->(t<T.length/\T[t]?=some (u',z'))\/(t=T.length/\u'=u/\z'=z):=by
  intro t u' z' ht;rcases ahr t T.length with hlt|hge
  ·rw[ahp hlt] at ht;exact .inl ⟨hlt,ht⟩
  ·have h1:=(ahh.1 ht).1;simp at h1;have:t=T.length:=by omega
   subst this;simp at ht;exact .inr ⟨rfl,ht.1.symm,ht.2.symm⟩
 refine⟨λi b hb=>?_,h.inj,λt u' z' ht=>?_,λt u1 z1 t' u2 z2 h1 h2 s1 s2 e=>?_,λt u1 z1 i h1 s1 hi=>?_,h.mz,h.gl.keep kp.m kp.tS⟩
 ·exact(h.box i b hb).stay kp (ahh.1 hb).1 rfl id
 ·rcases part t u' z' ht with⟨hlt,ht⟩|⟨rfl,rfl,rfl⟩
  ·have:=h.tok t u' z' ht;unfold zP at this ⊢;rw[rF t hlt];exact this
  ·exact jK
 ·rcases part t u1 z1 h1 with⟨hlt,g1⟩|⟨rfl,e1,e2⟩<;>rcases part t' u2 z2 h2 with⟨kE,g2⟩|⟨rfl,e3,e4⟩
  ·rw[rF _ hlt] at s1 e;rw[rF _ kE] at s2 e;exact h.po t u1 z1 t' u2 z2 g1 g2 s1 s2 e
  ·rw[rF _ hlt] at s1 e;rw[wR] at s2 e;rw[e3,e4] at s2;exact absurd (.inr ⟨t,u1,z1,g1,s1,e⟩) (hb s2)
  ·rw[rF _ kE] at s2 e;rw[wR] at s1 e;rw[e1,e2] at s1;exact absurd (.inr ⟨t',u2,z2,g2,s2,e.symm⟩) (hb s1)
  ·rfl
 ·rcases part t u1 z1 h1 with⟨hlt,h1⟩|⟨rfl,rfl,rfl⟩
  ·rw[rF _ hlt] at s1 ⊢;exact h.kD t u1 z1 i h1 s1 hi
  ·rw[wR] at s1 ⊢;exact λe=>hb s1 (.inl ⟨i,hi,e.symm⟩)
def Ev.oD {L L1:Lay}{H:List az}{T:au}{w w1:World}{k:Tk}{u z:Nat}(h:Ev H.length T.length L H.length T w L1 H.length T w1)(hb:u<k.c*z->w.heap.size<=k.b\/Wr L H.length T k.b) :
  Ev H.length T.length L H.length T w (L1.bp T.length k) H.length (T++[(u,z)]) w1:=by
 refine⟨h.n,h.bO,λt u' z' ht hT=>?_,by simp,h.m,h.tS,h.size,h.frame,λx hx=>?_,h.os,h.tape,h.output,h.drawn,h.dr⟩
 ·obtain⟨u1,h1,h2,h3⟩:=h.tok t u' z' ht hT;refine⟨u1,by rw[ahp ht];exact h1,h2,λe=>?_⟩;simp only[Lay.bp];rw[ahq (by omega)];exact h3 e
 ·rcases hx with⟨i,hi,e⟩|⟨t,u1,z1,ht,hs,e⟩
  ·exact h.wr x (.inl ⟨i,hi,e⟩)
  ·rcases ahr t T.length with hlt|hge
   ·rw[ahp hlt] at ht;simp only[Lay.bp] at hs e;rw[ahq (by omega)] at hs e;exact h.wr x (.inr ⟨t,u1,z1,ht,hs,e⟩)
   ·have h1:=(ahh.1 ht).1;simp at h1;have:t=T.length:=by omega
    subst this;simp at ht;simp[Lay.bp] at hs e;obtain⟨rfl,rfl⟩:=ht;subst e;rcases hb hs with g|g
    ·exact .inr g
    ·exact .inl g
def oX (w:World)(b o:Nat)(v:Value){c:Array Value}{e:TypeId}{fr:Nat×Nat}(h:w.heap[b]?=some (.cells c e fr)) :
  (w.setCell ⟨b,o,none⟩ v).heap[b]?=some (.cells (c.setIfInBounds o v) e fr):=by
 show (w.heap.modify b _)[b]?=_;rw[ajs,ahs rfl,h];rfl
def gF (w:World)(b o:Nat)(v:Value)(x:Nat)(hx:x≠b):(w.setCell ⟨b,o,none⟩ v).heap[x]?=w.heap[x]?:=by
 simp only[World.setCell,ajs];rw[ahq (λe=>hx e.symm)]
theorem bW.setCell {L:Lay}{H:List az}{T:au}{w:World}(h:bW L H T w){i o:Nat}{vs:List AV}(hi:H[i]?=some (.cells vs))(ho:o<vs.length){v:AV}{cv:Value}
  (hv:aY L H.length T w v cv) (h1:cv.oneCell'=true) :
  bW L (H.set i (.cells (vs.set o v))) T (w.setCell ⟨L.bO i,o,none⟩ cv)/\
   Ev H.length T.length L H.length T w L (H.set i (.cells (vs.set o v))).length T (w.setCell ⟨L.bO i,o,none⟩ cv):=by
 have eN:=(ahh.1 hi).1;obtain⟨c,t,fr,g1,g2,g3,wg,g4,g5⟩:=h.box i _ hi;have sD:∀b o',o'<L.m b->(w.setCell ⟨L.bO i,o,none⟩ cv).cell? ⟨b,o',none⟩=w.cell? ⟨b,o',none⟩:=by
  intro b o' hlt;refine jl (gF w _ _ _ _ ?_) o';rintro rfl;omega
 have kp:cX L H.length T w L H.length T (w.setCell ⟨L.bO i,o,none⟩ cv):=
  ⟨ahj _,λ_ _=>rfl,λt u z h=>⟨u,h,ahj _,λ_=>rfl⟩,λ_=>ahj _,sD,rfl⟩
 refine⟨⟨λj b hb=>?_,λa b ha hb=>h.inj a b (by simpa using ha) (by simpa using hb),λt u z ht=>?_,h.po,λt u z j ht hs hj=>h.kD t u z j ht hs (by simpa using hj),λb hb=>h.mz b (by simpa using hb),h.gl.keep kp.m kp.tS⟩,
  by simp,λ_ _=>rfl,λt u z _ h=>⟨u,h,ahj _,λ_=>rfl⟩,ahj _,λ_=>ahj _,sD,by simp,λb hb hn=>?_,λb hb=>.inl (by simpa using hb),rfl,rfl,rfl,λ_=>ahj _,rfl⟩
 ·rw[aiE]
  by_cases hji:i=j
  ·subst hji;rw[ahK eN] at hb
   cases hb
   refine⟨_,t,fr,oX w _ _ _ g1,λo' vM=>g2 o' (by simpa using vM),by simpa using g3,λj hj=>?_,λj hj hj'=>?_,g5⟩
   ·by_cases XL:o=j
    ·subst XL;simpa using h1
    ·rw[Array.getElem_setIfInBounds_ne (by simpa using hj) XL];exact wg j _
   ·by_cases XL:o=j
    ·subst XL;simpa using hv.keep kp
    ·rw[Array.getElem_setIfInBounds_ne (by simpa using hj') XL,List.getElem_set_ne XL];exact(g4 j (by simpa using hj) (by simpa using hj')).keep kp
  ·rw[ah7 hji] at hb;have hx:=h.box j b hb;have qN:=(ahh.1 hb).1;have hne:L.bO j≠L.bO i:=λe=>hji (h.inj j i qN eN e).symm;exact hx.stay kp qN (gF w _ _ _ _ hne) id
 ·obtain⟨k1,k2⟩:=h.tok t u z ht;refine⟨k1,λhs=>?_⟩;rw[gF _ _ _ _ _ (h.kD t u z i ht hs eN)];exact k2 hs
 ·exact gF w _ _ _ _ (λe=>hn (.inl ⟨i,eN,e.symm⟩))
def bW.setIter {L:Lay}{H:List az}{T:au}{w:World}(h:bW L H T w){i pos pos':Nat}{s:List UInt8}(hi:H[i]?=some (.iter s pos)) :
  bW L (H.set i (.iter s pos')) T { w with heap:=w.heap.setIfInBounds (L.bO i) (.stringIter ⟨s.toArray⟩ pos') }/\
   Ev H.length T.length L H.length T w L (H.set i (.iter s pos')).length T { w with heap:=w.heap.setIfInBounds (L.bO i) (.stringIter ⟨s.toArray⟩ pos') }:=by
 have eN:=(ahh.1 hi).1;have hx:w.heap[L.bO i]?=some (.stringIter ⟨s.toArray⟩ pos):=h.box i _ hi;have hne:∀x,x≠L.bO i->(w.heap.setIfInBounds (L.bO i) (.stringIter ⟨s.toArray⟩ pos'))[x]?=w.heap[x]?:=λx hx=>aji (λe=>hx e.symm);have sD:∀b o',o'<L.m b->World.cell? { w with heap:=w.heap.setIfInBounds (L.bO i) (.stringIter ⟨s.toArray⟩ pos') } ⟨b,o',none⟩=w.cell? ⟨b,o',none⟩:=by
  intro b o' hlt
  by_cases hb:b=L.bO i
  ·subst hb;have kE:=h.me eN;have h1:(w.heap.setIfInBounds (L.bO i) (.stringIter ⟨s.toArray⟩ pos'))[L.bO i]?=some (.stringIter ⟨s.toArray⟩ pos'):=by simp[kE]
   unfold World.cell?;simp only[hx,h1]
  ·exact jl (hne b hb) o'
 have kp:cX L H.length T w L H.length T { w with heap:=w.heap.setIfInBounds (L.bO i) (.stringIter ⟨s.toArray⟩ pos') }:=
  ⟨ahj _,λ_ _=>rfl,λt u z h=>⟨u,h,ahj _,λ_=>rfl⟩,λ_=>ahj _,sD,rfl⟩
 refine⟨⟨λj b hb=>?_,λa b ha hb=>h.inj a b (by simpa using ha) (by simpa using hb),λt u z ht=>?_,h.po,λt u z j ht hs hj=>h.kD t u z j ht hs (by simpa using hj),λb hb=>h.mz b (by simpa using hb),h.gl.keep kp.m kp.tS⟩,
  by simp,λ_ _=>rfl,λt u z _ h=>⟨u,h,ahj _,λ_=>rfl⟩,ahj _,λ_=>ahj _,sD,by simp,λb hb hn=>?_,λb hb=>.inl (by simpa using hb),rfl,rfl,rfl,λ_=>ahj _,rfl⟩
 ·rw[aiE]
  by_cases hji:i=j
  ·subst hji;rw[ahK eN] at hb
   cases hb
   have:=h.me eN;simp[mP,this]
  ·rw[ah7 hji] at hb;have hx:=h.box j b hb;have qN:=(ahh.1 hb).1;have hnj:L.bO j≠L.bO i:=λe=>hji (h.inj j i qN eN e).symm;exact hx.stay kp qN (hne _ hnj) id
 ·obtain⟨k1,k2⟩:=h.tok t u z ht;refine⟨k1,λhs=>?_⟩;have:=hne _ (h.kD t u z i ht hs eN);simp only[this];exact k2 hs
 ·exact hne _ (λe=>hn (.inl ⟨i,eN,e.symm⟩))
def bW.grow {L:Lay}{H:List az}{T:au}{w w':World}(h:bW L H T w){t u z k:Nat}(ht:T[t]?=some (u,z))(hk:0<k)(hs:u+k<=(L.ew t).c*z)
  {c c':Array Value} {e:TypeId} {fr:Nat×Nat} (hb:w.heap[(L.ew t).b]?=some (.cells c e fr)) (hb':w'.heap[(L.ew t).b]?=some (.cells c' e fr)) (hsz:c'.size=c.size)
  (hold:∀j,j<(L.ew t).o+u->c'[j]?=c[j]?) (hne:∀x,x≠(L.ew t).b->w'.heap[x]?=w.heap[x]?) (hz:w'.heap.size=w.heap.size) (ho:w'.os=w.os) (Ys:w'.tape=w.tape) (Bl:w'.output=w.output) (hdr:w.drawn<=w'.drawn) :
  bW (L.bS (L.ew t).b ((L.ew t).o+u+k)) H (T.set t (u+k,z)) w'/\
   Ev H.length T.length L H.length T w (L.bS (L.ew t).b ((L.ew t).o+u+k)) H.length (T.set t (u+k,z)) w':=by
 have vL:=(ahh.1 ht).1;obtain⟨tU,ua⟩:=h.tok t u z ht;have Gm:u<(L.ew t).c*z:=by omega
 obtain⟨c0,e0,fr0,g1,g2,g3,g4⟩:=ua Gm;rw[hb] at g1
 cases g1
 have Sl:=h.GP ht Gm;have sD:∀b o',o'<L.m b->w'.cell? ⟨b,o',none⟩=w.cell? ⟨b,o',none⟩:=by
  intro b o' hlt
  by_cases Nr:b=(L.ew t).b
  ·subst Nr;rw[gE hb,gE hb'];exact hold o' (by omega)
  ·exact jl (hne b Nr) o'
 have Vc:∀b,L.m b<=(L.bS (L.ew t).b ((L.ew t).o+u+k)).m b:=by
  intro b;show L.m b<=if b=(L.ew t).b then _ else L.m b
  split
  ·rename_i e;rw[e];omega
  ·exact ahj _
 have NU:∀(t' u' z':Nat),T[t']?=some (u',z')->∃u1:Nat,(T.set t (u+k,z))[t']?=some (u1,z')/\u'<=u1/\(u1=u'->(L.bS (L.ew t).b ((L.ew t).o+u+k)).ew t'=L.ew t'):=by
  intro t' u' z' qf
  by_cases vK:t=t'
  ·subst vK;rw[ht] at qf
   cases qf
   exact⟨u+k,by rw[ahK vL],by omega,λ_=>rfl⟩
  ·exact⟨u',by rw[ah7 vK];exact qf,ahj _,λ_=>rfl⟩
 have kp:cX L H.length T w (L.bS (L.ew t).b ((L.ew t).o+u+k)) H.length (T.set t (u+k,z)) w':=
  ⟨ahj _,λ_ _=>rfl,NU,Vc,sD,rfl⟩
 have rG:∀i,i<H.length->L.bO i≠(L.ew t).b:=λi hi=>(h.kD t u z i ht Gm hi).symm;have back:∀(t' u' z':Nat),(T.set t (u+k,z))[t']?=some (u',z')->∃u0:Nat,T[t']?=some (u0,z')/\u0<=u':=by
  intro t' u' z' qf
  by_cases vK:t=t'
  ·subst vK;rw[ahK vL] at qf
   cases qf
   exact⟨u,ht,by omega⟩
  ·rw[ah7 vK] at qf;exact⟨u',qf,ahj _⟩
 refine⟨⟨λi b VV=>?_,h.inj,λt' u' z' qf=>?_,λt1 u1 z1 t2 u2 z2 h1 h2 s1 s2 e=>?_,λt1 u1 z1 i h1 s1 hi=>?_,λb hbz=>?_,h.gl.keep kp.m kp.tS⟩,
  ahj _,λ_ _=>rfl,λt' u' z' _ qf=>NU t' u' z' qf,by simp,Vc,sD,by omega,λb vO hn=>?_,λb yQ=>?_,ho,Ys,Bl,λ_=>hdr,rfl⟩
 ·have hx:=h.box i b VV;have eN:=(ahh.1 VV).1;have hn:=rG i eN;refine hx.stay kp eN (hne _ hn) λk5=>?_;show (if L.bO i=(L.ew t).b then _ else L.m (L.bO i))=0;rw[ahq hn];exact k5
 ·by_cases vK:t=t'
  ·subst vK;rw[ahK vL] at qf
   cases qf
   refine⟨tU,λWl=>⟨c',e,fr,hb',by rw[hsz];exact g2,λo' h1 h2=>g3 o' (by simp only[Lay.bS] at h1;omega) h2,?_⟩⟩;show (if (L.ew t).b=(L.ew t).b then _ else _)<=_;rw[ahs rfl];simp only[Lay.bS];omega
  ·rw[ah7 vK] at qf;obtain⟨k1,k2⟩:=h.tok t' u' z' qf;refine⟨k1,λWl=>?_⟩;have hbn:(L.ew t').b≠(L.ew t).b:=λe=>vK (h.po t' u' z' t u z qf ht Wl Gm e).symm;obtain⟨c1,e1,fr1,m1,m2,m3,m4⟩:=k2 Wl;refine⟨c1,e1,fr1,(hne _ hbn).trans m1,m2,m3,?_⟩;show (if (L.ew t').b=(L.ew t).b then _ else L.m (L.ew t').b)<=_;rw[ahq hbn];exact m4
 ·obtain⟨VH,g1,l1⟩:=back t1 u1 z1 h1;obtain⟨u2',g2,l2⟩:=back t2 u2 z2 h2;have s1':VH<(L.ew t1).c*z1:=ajH l1 s1;have s2':u2'<(L.ew t2).c*z2:=ajH l2 s2;exact h.po t1 VH z1 t2 u2' z2 g1 g2 s1' s2' e
 ·obtain⟨VH,g1,l1⟩:=back t1 u1 z1 h1;have s1':VH<(L.ew t1).c*z1:=ajH l1 s1;exact h.kD t1 VH z1 i g1 s1' hi
 ·show (if b=(L.ew t).b then _ else L.m b)=0;rw[ahq (by omega)];exact h.mz b (by omega)
 ·exact hne b (λe=>hn (.inr ⟨t,u,z,ht,Gm,e.symm⟩))
 ·rcases yQ with⟨i,hi,e⟩|⟨t',u',z',qf,hs',e⟩
  ·exact .inl (.inl ⟨i,hi,e⟩)
  ·obtain⟨VH,g1,l1⟩:=back t' u' z' qf;exact .inl (.inr ⟨t',VH,z',g1,ajH l1 hs',e⟩)
def bW.GQ {L:Lay}{H:List az}{T:au}{w:World}(h:bW L H T w){t u z u':Nat}(ht:T[t]?=some (u,z))(hu:u<u')(k:Tk)
  (hb:u'<k.c*z->¬Wr L H.length T k.b) (jK:zP (L.bp t k) w t u' z):bW (L.bp t k) H (T.set t (u',z)) w:=by
 have vL:=(ahh.1 ht).1;have rF:∀t',t'≠t->(L.bp t k).ew t'=L.ew t':=λt' hn=>by simp only[Lay.bp];rw[ahq hn]
 have wR:(L.bp t k).ew t=k:=by simp[Lay.bp]
 have kp:cX L H.length T w (L.bp t k) H.length (T.set t (u',z)) w:=by
  refine⟨ahj _,λi hi=>rfl,λt' u1 z1 qf=>?_,λ_=>ahj _,λ_ _ _=>rfl,rfl⟩
  by_cases vK:t'=t
  ·subst vK;rw[ht] at qf
   cases qf
   exact⟨u',by rw[ahK vL],by omega,λe=>by omega⟩
  ·exact⟨u1,by rw[ah7 (λe=>vK e.symm)];exact qf,ahj _,λ_=>rF t' vK⟩
 have part:∀(t' u1 z1:Nat),(T.set t (u',z))[t']?=some (u1,z1)->(t'≠t/\T[t']?=some (u1,z1))\/(t'=t/\u1=u'/\z1=z):=by
  intro t' u1 z1 h1
  by_cases vK:t'=t
  ·subst vK;rw[ahK vL] at h1
   cases h1
   exact .inr ⟨rfl,rfl,rfl⟩
  ·rw[ah7 (λe=>vK e.symm)] at h1;exact .inl ⟨vK,h1⟩
 refine⟨λi b VV=>?_,h.inj,λt' u1 z1 h1=>?_,λt1 u1 z1 t2 u2 z2 h1 h2 s1 s2 e=>?_,λt1 u1 z1 i h1 s1 hi=>?_,h.mz,h.gl.keep kp.m kp.tS⟩
 ·exact(h.box i b VV).stay kp (ahh.1 VV).1 rfl id
 ·rcases part t' u1 z1 h1 with⟨hn,g1⟩|⟨rfl,e1,e2⟩
  ·have:=h.tok t' u1 z1 g1;unfold zP at this ⊢;rw[rF t' hn];exact this
  ·rw[e1,e2];exact jK
 ·rcases part t1 u1 z1 h1 with⟨Ba,g1⟩|⟨r1,e1,e2⟩<;>rcases part t2 u2 z2 h2 with⟨CD,g2⟩|⟨r2,e3,e4⟩
  ·rw[rF _ Ba] at s1 e;rw[rF _ CD] at s2 e;exact h.po t1 u1 z1 t2 u2 z2 g1 g2 s1 s2 e
  ·rw[rF _ Ba] at s1 e;rw[r2,wR] at s2 e;rw[e3,e4] at s2;exact absurd (.inr ⟨t1,u1,z1,g1,s1,e⟩) (hb s2)
  ·rw[rF _ CD] at s2 e;rw[r1,wR] at s1 e;rw[e1,e2] at s1;exact absurd (.inr ⟨t2,u2,z2,g2,s2,e.symm⟩) (hb s1)
  ·rw[r1,r2]
 ·rcases part t1 u1 z1 h1 with⟨Ba,g1⟩|⟨r1,e1,e2⟩
  ·rw[rF _ Ba] at s1 ⊢;exact h.kD t1 u1 z1 i g1 s1 hi
  ·rw[r1,wR] at s1 ⊢;rw[e1,e2] at s1;exact λe=>hb s1 (.inl ⟨i,hi,e.symm⟩)
def Ev.GQ {L L1:Lay}{H:List az}{T:au}{w w1:World}{k:Tk}{t u z u':Nat}(h:Ev H.length T.length L H.length T w L1 H.length T w1)(ht:T[t]?=some (u,z))(hu:u<u')
  (hb:u'<k.c*z->w.heap.size<=k.b):Ev H.length T.length L H.length T w (L1.bp t k) H.length (T.set t (u',z)) w1:=by
 have vL:=(ahh.1 ht).1;refine⟨h.n,h.bO,λt' u1 z1 hlt hT=>?_,by simp,h.m,h.tS,h.size,h.frame,λx hx=>?_,h.os,h.tape,h.output,h.drawn,h.dr⟩
 ·obtain⟨u2,h1,h2,h3⟩:=h.tok t' u1 z1 hlt hT;rw[hT] at h1
  by_cases vK:t'=t
  ·subst vK;rw[ht] at hT
   cases hT
   exact⟨u',by rw[ahK vL],by omega,λe=>by omega⟩
  ·refine⟨u1,by rw[ah7 (λe=>vK e.symm)];exact hT,ahj _,λe=>?_⟩;simp only[Lay.bp];rw[ahq vK]
   cases h1
   exact h3 rfl
 ·rcases hx with⟨i,hi,e⟩|⟨t',u1,z1,h1,hs,e⟩
  ·exact h.wr x (.inl ⟨i,hi,e⟩)
  ·by_cases vK:t'=t
   ·subst vK;rw[ahK vL] at h1
    cases h1
    simp[Lay.bp] at hs e;subst e;exact .inr (hb hs)
   ·rw[ah7 (λe=>vK e.symm)] at h1;simp only[Lay.bp] at hs e;rw[ahq vK] at hs e;exact h.wr x (.inr ⟨t',u1,z1,h1,hs,e⟩)
def yR:Value->AV
 |.bool b=>.bool b
 |.int k n=>.int k n
 |.string s=>.str s.data.toList
 |.pointer none=>.gn
 |.slice _ 0 0=>.sl 0 [] .full
 |.nilFunc=>.jr
 |.nilIface=>.mY
 |_=>.top
def RJ:Value->AV
 |.agg cs=>if cs.all (·.oneCell') then .agg (cs.toList.map yR) else .top
 |v=>yR v
def bN (e:Env):Operand->AV
 |.tmp t=>bE e t
 |.const v=>RJ v
 |.func f=>.fn f [] []
 |.global _=>.top
def Bv:AV->Bool
 |.top|.agg _|.df _=>false
 |_=>true
section
variable {L : Lay} {N : Nat} {T : au} {w : World}
theorem aY.yR (v:Value):aY L N T w (yR v) v:=by
 unfold Am.yR
 split
 ·exact .bool _
 ·exact .int _ _
 ·rename_i s;exact .str s.data.toList
 ·exact .gn
 ·exact .zj .full _ 0 rfl
 ·exact .jr
 ·exact .mY
 ·exact .top _
theorem aY.RJ (v:Value):aY L N T w (RJ v) v:=by
 unfold Am.RJ
 split
 ·rename_i cs
  split
  ·rename_i h;rw[Array.all_eq_true] at h;refine .agg _ cs (by simp) (λj hj=>h j hj) (λj hj hj'=>?_);simp only[aia,aif];exact .yR _
  ·exact .top _
 ·exact .yR _
theorem fD.bN {e:Env}{a:Act}(h:fD L N T w e a)(x:Operand):aY L N T w (bN e x) (a.eval x):=by
 cases x with
 |tmp t=>exact h t
 |const v=>exact .RJ v
 |func f=>exact .fn f [] [] #[] #[] rfl rfl (λj hj=>by simp at hj) (λj hj=>by simp at hj)
 |global g=>exact .top _
def aY.dU {k:IntKind}{n:Int}{c:Value}(h:aY L N T w (.int k n) c):c=.int k n:=by cases h;rfl
def aY.jG {b:Bool}{c:Value}(h:aY L N T w (.bool b) c):c=.bool b:=by cases h;rfl
def aY.iT {s:List UInt8}{c:Value}(h:aY L N T w (.str s) c):c=.string ⟨s.toArray⟩:=by cases h;rfl
def aY.Ek {c:Value}(h:aY L N T w .mY c):c=.nilIface:=by cases h;rfl
def aY.JM {c:Value}(h:aY L N T w .A8 c):∃t v,c=.iface t v:=by cases h;exact⟨_,_,rfl⟩
def aY.oF {i o:Nat}{c:Value}(h:aY L N T w (.ptr i o) c):c=.pointer (some ⟨L.bO i,o,none⟩)/\i<N:=by cases h;exact⟨rfl,‹_›⟩
def aY.cell {v:AV}{c:Value}(h:aY L N T w v c)(hc:Bv v=true):c.oneCell'=true:=by
 cases h<;>simp[Bv] at hc<;>rfl
end
def Good (P:Program)(x:Sem Next)(H:List az)(T:au)(L:Lay)(w:World)(r:AV)(H':List az)(T':au):Prop:=
 ∃n cv w' L',x.run P w=.ok n w'/\(n=.value cv\/(n=.skip/\cv=undef))/\bW L' H' T' w'/\aY L' H'.length T' w' r cv/\Ev H.length T.length L H.length T w L' H'.length T' w'
def Good.now {P:Program}{x:Sem Next}{H:List az}{T:au}{L:Lay}{w:World}{r:AV}{cv:Value}(hc:bW L H T w)(hx:x.run P w=.ok (.value cv) w)(hr:aY L H.length T w r cv):Good P x H T L w r H T:=
 ⟨_,cv,w,L,hx,.inl rfl,hc,hr,Ev.refl (ahj _) (ahj _)⟩
def SE (op : BinOp) (k : IntKind) (a b : Int) : Option AV :=
  match op with
  | .add => some (.int k (k.wrap (a + b)))
  | .sub => some (.int k (k.wrap (a - b)))
  | .mul => some (.int k (k.wrap (a * b)))
  | .quo => if b = 0 then none else some (.int k (k.wrap (a.tdiv b)))
  | .rem => if b = 0 then none else some (.int k (a.tmod b))
  | .and => some (.int k (bits .and k a b))
  | .or => some (.int k (bits .or k a b))
  | .xor => some (.int k (bits .xor k a b))
  | .andNot => some (.int k (bits .andNot k a b))
  | .eql => some (.bool (a == b))
  | .neq => some (.bool (a != b))
  | .lss => some (.bool (decide (a < b)))
  | .leq => some (.bool (decide (a <= b)))
  | .gtr => some (.bool (decide (a > b)))
  | .geq => some (.bool (decide (a ≥ b)))
  | _ => none
def SA (op:BinOp)(a b:List UInt8):Option AV:=
 match op with
 |.add=>if a.length+b.length<=9223372036854775807 then some (.str (a++b)) else none
 |.eql=>some (.bool (a==b))
 |.neq=>some (.bool (!(a==b)))
 |.lss=>some (.bool (Op.bytesLess a b))
 |.leq=>some (.bool (Op.bytesLess a b||a==b))
 |.gtr=>some (.bool (!(Op.bytesLess a b||a==b)))
 |.geq=>some (.bool (!Op.bytesLess a b))
 |_=>none
def SF (op:BinOp)(x y:AV):Option AV:=
 match x,y with
 |.int k a,.int k' b=>
  match op with
  |.shl=>if 0<=b then some (.int k (k.wrap (a*2 ^ min b.toNat k.bits))) else none
  |.shr=>if 0<=b then some (.int k (a.fdiv (2 ^ min b.toNat k.bits))) else none
  |op=>if k=k' then SE op k a b else none
 |.str a,.str b=>SA op a b
 |.bool a,.bool b=>match op with
  |.eql=>some (.bool (a==b))
  |.neq=>some (.bool (!(a==b)))
  |_=>none
 |.gn,.gn=>match op with|.eql=>some (.bool true)|.neq=>some (.bool false)|_=>none
 |.ptr _ _,.gn|.eh _ _,.gn|.gn,.ptr _ _|.gn,.eh _ _=>match op with|.eql=>some (.bool false)|.neq=>some (.bool true)|_=>none
 |_,_=>none
def aun (op:UnOp)(x:AV):Option AV:=
 match op,x with
 |.neg,.int k n=>some (.int k (k.wrap (0-n)))
 |.xor,.int k n=>some (.int k (bits .xor k (if k.signed then -1 else k.max) n))
 |.not,.bool b=>some (.bool (!b))
 |_,_=>none
section
variable {P : Program} {w : World}
theorem PS {op : BinOp} {k : IntKind} {a b : Int} {r : AV} (h : SE op k a b = some r) (t : TypeId) (h1 : op ≠ .shl) (h2 : op ≠ .shr) :
    ∃ cv, (binOp op t (.int k a) (.int k b)).run P w = .ok cv w /\ ∀ (L : Lay) (N : Nat) (T : au) (w' : World), aY L N T w' r cv := by
  cases op <;> simp only [SE, Option.some.injEq, reduceCtorEq] at h
  case quo =>
    split at h
    · cases h
    · rename_i hb
      cases h
      exact ⟨_, by simp [binOp, Op.intDiv, hb], λ_ _ _ _ => .int _ _⟩
  case rem =>
    split at h
    · cases h
    · rename_i hb
      cases h
      exact ⟨_, by simp [binOp, Op.intDiv, hb], λ_ _ _ _ => .int _ _⟩
  all_goals
    subst h
    first
      | exact ⟨_, by simp [binOp, Op.intArith]; rfl, λ_ _ _ _ => .int _ _⟩
      | exact ⟨_, by simp [binOp, Op.intCmp], λ_ _ _ _ => .bool _⟩
      | exact ⟨_, by simp [binOp, Op.intBits]; rfl, λ_ _ _ _ => .int _ _⟩
def toList_mk (s:List UInt8):(⟨s.toArray⟩:ByteArray).toList=s:=by
 rw[show (⟨s.toArray⟩:ByteArray).toList=(⟨s.toArray⟩:ByteArray).data.toList from ByteArray.toList_eq _]
def Mb (a b:List UInt8):(⟨a.toArray⟩:ByteArray)++⟨b.toArray⟩=⟨(a++b).toArray⟩:=by
 apply ByteArray.ext;simp
def PN {op:BinOp}{a b:List UInt8}{r:AV}(h:SA op a b=some r)(t:TypeId) :
  ∃cv,(binOp op t (.string ⟨a.toArray⟩) (.string ⟨b.toArray⟩)).run P w=.ok cv w/\∀(L:Lay)(N:Nat)(T:au)(w':World),aY L N T w' r cv:=by
 have hi:IntKind.i64.max=9223372036854775807:=by decide
 cases op<;>simp only[SA,Option.some.injEq,reduceCtorEq] at h
 case add=>
  split at h
  ·rename_i hb
   cases h
   refine⟨.string ⟨(a++b).toArray⟩,?_,λ_ _ _ _=>.str _⟩;have:¬((a.length+b.length:Nat):Int)>IntKind.i64.max:=by rw[hi];omega
   simp only[binOp,Op.stringOp];rw[ahq (by simpa[ByteArray.size] using this),Mb];rfl
  ·cases h
 all_goals
  subst h;exact⟨_,by simp only[binOp,Op.stringOp,toList_mk];rfl,λ_ _ _ _=>.bool _⟩
def oW (op:BinOp)(t:TypeId)(x y:Operand)(a b:Value)(h:(∀cs,a≠.agg cs)/\a≠.nilIface):(eqGuard op t x y a b).run P w=.ok () w:=by
 unfold eqGuard
 cases a<;>first|exact absurd rfl h.2|exact absurd rfl (h.1 _)|(cases op<;>simp)
def Tl {op:UnOp}{x r:AV}{c:Value}{L:Lay}{N:Nat}{T:au}(h:aun op x=some r)(hx:aY L N T w x c) :
  ∃cv,(Op.unary op c).run P w=.ok cv w/\∀(L:Lay)(N:Nat)(T:au)(w':World),aY L N T w' r cv:=by
 unfold aun at h
 split at h
 ·cases h;rw[hx.dU];exact⟨_,rfl,λ_ _ _ _=>.int _ _⟩
 ·cases h;rw[hx.dU];exact⟨_,rfl,λ_ _ _ _=>.int _ _⟩
 ·cases h;rw[hx.jG];exact⟨_,rfl,λ_ _ _ _=>.bool _⟩
 ·cases h
def uu (P:Program)(t:TypeId)(x:AV):Bool:=
 match P.underlying t,x with
 |some .bool,.bool _=>true
 |some (.pointer _),.gn|some (.pointer _),.ptr _ _|some (.pointer _),.eh _ _=>true
 |some _,.int _ _|some _,.str _=>true
 |_,_=>false
def lu (t:TypeId)(x y:Value)(b:Bool)(op:BinOp)(ho:op=.eql\/op=.neq)(hb:binOp .eql t x y=(do pure (.bool (<-Op.equal t x y))))(hb':binOp .neq t x y=(do pure (.bool (!(<-Op.equal t x y)))))
  (h:∀d:Nat,(Op.equalIn (d+1) t x y).run P w=.ok b w):(binOp op t x y).run P w=.ok (.bool (if op=.eql then b else !b)) w:=by
 have h1:(Op.equal t x y).run P w=.ok b w:=h 9999;rcases ho with rfl|rfl
 ·rw[hb];simp only[Sem.run_bind,h1,Result.andThen_ok];rfl
 ·rw[hb'];simp only[Sem.run_bind,h1,Result.andThen_ok];rfl
theorem PU {op : BinOp} {x y r : AV} {cx cy : Value} {L : Lay} {N : Nat} {T : au} (t : TypeId) (h : SF op x y = some r) (ht : uu P t x = true) (hx : aY L N T w x cx) (hy : aY L N T w y cy) (ox oy : Operand) :
    ∃ cv, (eqGuard op t ox oy cx cy >>= λ_ => binOp op t cx cy).run P w = .ok cv w /\ ∀ (L : Lay) (N : Nat) (T : au) (w' : World), aY L N T w' r cv := by
  have hg : (∀ cs, cx ≠ .agg cs) /\ cx ≠ .nilIface := by
    cases hx <;> first | (exfalso; simp [uu] at ht; done) | exact ⟨λ_ e => (by cases e), λe => (by cases e)⟩
  simp only [Sem.run_bind, oW op t ox oy cx cy hg, Result.andThen_ok];unfold SF at h
  split at h
  · rw [hx.dU, hy.dU]
    split at h
    · split at h
      · rename_i hb
        cases h
        refine ⟨_, ?_, λ_ _ _ _ => .int _ _⟩;simp only [binOp, Op.shift];rw [ahq (by omega)];rfl
      · cases h
    · split at h
      · rename_i hb
        cases h
        refine ⟨_, ?_, λ_ _ _ _ => .int _ _⟩;simp only [binOp, Op.shift];rw [ahq (by omega)];rfl
      · cases h
    · split at h
      · rename_i hk;subst hk;exact PS h t ‹_› ‹_›
      · cases h
  · rw [hx.iT, hy.iT];exact PN h t
  · rename_i a b;rw [hx.jG, hy.jG];have hu : P.underlying t = some .bool := by
      unfold uu at ht; split at ht <;> simp_all
    have he : ∀ d : Nat, (Op.equalIn (d + 1) t (.bool a) (.bool b)).run P w = .ok (a == b) w := λd => by simp [Op.equalIn, run_underlying hu]
    split at h <;> cases h
    · exact ⟨_, lu t _ _ _ .eql (.inl rfl) rfl rfl he, λ_ _ _ _ => .bool _⟩
    · exact ⟨_, lu t _ _ _ .neq (.inr rfl) rfl rfl he, λ_ _ _ _ => .bool _⟩
  all_goals first
    | (have hu : ∃ e, P.underlying t = some (.pointer e) := by
        unfold uu at ht; split at ht <;> simp_all
       obtain ⟨e, hu⟩ := hu
       cases hx
       cases hy
       split at h <;> cases h
       · exact ⟨_, lu t _ _ _ .eql (.inl rfl) rfl rfl (λd => by simp only [Op.equalIn, Sem.run_bind, run_underlying hu, Result.andThen_ok]; rfl), λ_ _ _ _ => .bool _⟩
       · exact ⟨_, lu t _ _ _ .neq (.inr rfl) rfl rfl (λd => by simp only [Op.equalIn, Sem.run_bind, run_underlying hu, Result.andThen_ok]; rfl), λ_ _ _ _ => .bool _⟩)
    | cases h
end
def fo (b o j:Nat):(⟨b,o,none⟩:Addr).add j=⟨b,o+j,none⟩:=by
 unfold Addr.add
 split
 ·rename_i h;subst h;rfl
 ·rfl
def cF (L:Lay)(N:Nat)(T:au)(w:World)(vs:List AV)(c:List Value):Prop:=
 c.length=vs.length/\(∀(j:Nat)(h':j<c.length),(c[j]'h').oneCell'=true)/\∀(j:Nat)(h:j<vs.length)(h':j<c.length),aY L N T w (vs[j]'h) (c[j]'h')
section
variable {L : Lay} {N : Nat} {T : au} {w : World}
def cF.nil:cF L N T w [] []:=⟨rfl,λ_ h=>by simp at h,λ_ h=>by simp at h⟩
def cF.one {v:AV}{c:Value}(h:aY L N T w v c)(h1:c.oneCell'=true):cF L N T w [v] [c]:=
 ⟨rfl,λj hj=>by simp at hj;subst hj;exact h1,λj hj _=>by simp at hj;subst hj;exact h⟩
def cF.append {a b:List AV}{c d:List Value}(h:cF L N T w a c)(k:cF L N T w b d):cF L N T w (a++b) (c++d):=by
 refine⟨by simp[h.1,k.1],λj hj=>?_,λj hj hj'=>?_⟩
 ·rw[ajm]
  split
  ·exact h.2.1 _ _
  ·exact k.2.1 _ _
 ·rw[ajm,ajm]
  by_cases hlt:j<a.length
  ·rw[aj3 hlt,aj3 (by rw[h.1];exact hlt)];exact h.2.2 _ _ _
  ·rw[aj4 hlt,aj4 (by rw[h.1];exact hlt)];have:=k.2.2 (j-a.length) (by simp at hj;omega) (by simp at hj';rw[h.1] at hj';omega);simpa[h.1] using this
theorem cF.drop {a:List AV}{c:List Value}(h:cF L N T w a c)(k:Nat):cF L N T w (a.drop k) (c.drop k):=by
 refine⟨by simp[h.1],λj hj=>?_,λj hj hj'=>?_⟩
 ·rw[List.getElem_drop];exact h.2.1 _ _
 ·rw[List.getElem_drop,List.getElem_drop];exact h.2.2 _ _ _
theorem cF.take {a:List AV}{c:List Value}(h:cF L N T w a c)(k:Nat):cF L N T w (a.take k) (c.take k):=by
 refine⟨by simp[h.1],λj hj=>?_,λj hj hj'=>?_⟩
 ·rw[ajy];exact h.2.1 _ _
 ·rw[ajy,ajy];exact h.2.2 _ _ _
theorem cF.keep {L':Lay}{N':Nat}{T':au}{w':World}{a:List AV}{c:List Value}(k:cX L N T w L' N' T' w')(h:cF L N T w a c):cF L' N' T' w' a c:=
 ⟨h.1,h.2.1,λj hj hj'=>(h.2.2 j hj hj').keep k⟩
theorem cF.set {a:List AV}{c:List Value}(h:cF L N T w a c)(i:Nat){v:AV}{x:Value}(hv:aY L N T w v x)(h1:x.oneCell'=true):cF L N T w (a.set i v) (c.set i x):=by
 refine⟨by simp[h.1],λj hj=>?_,λj hj hj'=>?_⟩
 ·rw[getElem_set]
  split
  ·exact h1
  ·exact h.2.1 _ _
 ·rw[getElem_set,getElem_set]
  split
  ·exact hv
  ·exact h.2.2 _ _ _
theorem cF.agg {a:List AV}{c:List Value}(h:cF L N T w a c):aY L N T w (.agg a) (.agg c.toArray):=
 .agg a c.toArray (by simpa using h.1) (λj hj=>by simpa using h.2.1 j (by simpa using hj)) (λj hj hj'=>by simpa using h.2.2 j hj (by simpa using hj'))
theorem cF.Bt {a:List AV}{c:Array Value}(h:aY L N T w (.agg a) (.agg c)):cF L N T w a c.toList:=by
 cases h with
 |agg _ _ h1 h2 hr=>exact⟨by simpa using h1,λj hj=>by simpa using h2 j (by simpa using hj),λj hj hj'=>by simpa using hr j hj (by simpa using hj')⟩
end
def V0 (v:AV):Option (List AV):=
 match v with
 |.agg cs=>some cs
 |v=>if Bv v then some [v] else none
theorem Cd {L:Lay}{N:Nat}{T:au}{w:World}{v:AV}{c:Value}{xs:List AV}(h:V0 v=some xs)(hv:aY L N T w v c):cF L N T w xs c.cells.toList:=by
 unfold V0 at h
 split at h
 ·cases h
  cases hv with
  |agg _ _ h1 h2 hr=>exact cF.Bt (.agg _ _ h1 h2 hr)
 ·rename_i hn
  split at h
  ·rename_i hc
   cases h
   have h1:=hv.cell hc;have:c.cells=#[c]:=by cases c<;>first|rfl|(simp[Value.oneCell'] at h1)
   rw[this];exact cF.one hv h1
  ·cases h
def jV (P:Program)(t:TypeId):Option Bool:=
 match P.underlying t with
 |some (.struct _)|some (.array _ _)=>some true
 |some _=>some false
 |none=>none
def lG {P:Program}{t:TypeId}{b:Bool}(h:jV P t=some b)(w:World):(isAgg t).run P w=.ok b w:=by
 unfold jV at h
 split at h<;>cases h
 ·rename_i hu;simp[isAgg,run_underlying hu]
 ·rename_i hu;simp[isAgg,run_underlying hu]
 ·rename_i d Ba CD hu;simp only[isAgg,Sem.run_bind,run_underlying hu,Result.andThen_ok]
  cases d<;>first|rfl|exact absurd rfl (Ba _)|exact absurd rfl (CD _ _)
def T5 {P:Program}{t:TypeId}{d:TypeDesc}(h:P.underlying t=some d):∃i,P.info? t=some i:=info_of_underlying h
def cM {P:Program}{t:TypeId}{d:TypeDesc}(h:P.underlying t=some d)(w:World):(sizeOf t).run P w=.ok (P.cellsOf t) w:=by
 obtain⟨i,hi⟩:=T5 h;exact run_sizeOf w hi
def Oe (H:List az)(p:AV):Option (List AV×Nat):=
 match p with
 |.ptr i o=>match H[i]? with
  |some (.cells vs)=>some (vs,o)
  |_=>none
 |.eh cs o=>some (cs,o)
 |_=>none
def mP.at {L:Lay}{N:Nat}{T:au}{w:World}{i:Nat}{vs:List AV}(h:mP L N T w i (.cells vs)) :
  ∃c:Array Value,cF L N T w vs c.toList/\∀j,w.cell? ⟨L.bO i,j,none⟩=c[j]?:=by
 obtain⟨c,t,fr,h1,h2,h3,YR,h4,h5⟩:=h;exact⟨c,⟨by simpa using h3,λj hj=>by simpa using YR j (by simpa using hj),λj hj hj'=>by simpa using h4 j hj (by simpa using hj')⟩,λj=>gE h1 j⟩
theorem yx {L:Lay}{H:List az}{T:au}{w:World}{p:AV}{c:Value}{vs:List AV}{o:Nat}(hc:bW L H T w)(hp:aY L H.length T w p c)(h:Oe H p=some (vs,o)) :
  ∃(b base:Nat) (cv:List Value),c=.pointer (some ⟨b,base+o,none⟩)/\cF L H.length T w vs cv/\∀j,j<vs.length->w.cell? ⟨b,base+j,none⟩=cv[j]?:=by
 unfold Oe at h
 split at h
 ·rename_i i o'
  split at h
  ·rename_i vs' hi
   cases h
   cases hp with
   |ptr _ _ hlt=>
    obtain⟨c,h1,h2⟩:=(hc.box i _ hi).at;exact⟨L.bO i,0,c.toList,by simp,h1,λj _=>by simpa using h2 j⟩
  ·cases h
 ·cases h
  cases hp with
  |eh _ _ b base f hm mb h1 hr=>
   refine⟨b,base,(List.range vs.length).map f,rfl,⟨by simp,λj hj=>by simpa using h1 j (by simpa using hj),λj hj hj'=>by simpa using hr j hj⟩,λj hj=>?_⟩;rw[mb j hj];simp[hj]
 ·cases h
def rj (P:Program)(t:TypeId)(vs:List AV)(o:Nat):Option AV:=
 match jV P t with
 |some true=>if o+P.cellsOf t<=vs.length then some (.agg ((vs.drop o).take (P.cellsOf t))) else none
 |some false=>if o<vs.length then some (vs.getD o .top) else none
 |none=>none
theorem vx {P:Program}{t:TypeId}{L:Lay}{N:Nat}{T:au}{w:World}{vs:List AV}{o b base:Nat}{cv:List Value}{r:AV}(hr:cF L N T w vs cv)
  (hc:∀j,j<vs.length->w.cell? ⟨b,base+j,none⟩=cv[j]?) (h:rj P t vs o=some r):∃c,(loadVar t ⟨b,base+o,none⟩).run P w=.ok c w/\aY L N T w r c:=by
 unfold rj at h
 split at h
 ·rename_i CU
  split at h
  ·rename_i hle
   cases h
   have hu:∃d,P.underlying t=some d:=by
    unfold jV at CU
    cases hx:P.underlying t with
    |none=>simp[hx] at CU
    |some d=>exact⟨d,rfl⟩
   obtain⟨d,hu⟩:=hu;have Rt:cv.length=vs.length:=hr.1;refine⟨.agg ((cv.drop o).take (P.cellsOf t)).toArray,?_,((hr.drop o).take _).agg⟩;have hl:=run_loadCells (P:=P) w ⟨b,base+o,none⟩ (P.cellsOf t) (λj=>(cv[o+j]?).getD undef) (λj hj=>by
    rw[fo,show base+o+j=base+(o+j) by omega,hc _ (by omega)];have:o+j<cv.length:=by omega
    simp[this])
   simp only[loadVar,Sem.run_bind,lG CU,Result.andThen_ok,ai1,cM hu,hl];show Result.ok _ _=Result.ok _ _
   congr 3
   apply ajd
   ·simp;omega
   ·intro j h1 h2;simp at h1;have:o+j<cv.length:=by omega
    simp[this]
  ·cases h
 ·rename_i CU
  split at h
  ·rename_i hlt;have Rt:o<cv.length:=by rw[hr.1];exact hlt
   refine⟨cv[o],?_,?_⟩
   ·have mb:=hc o hlt;rw[ahi Rt] at mb;simp only[loadVar,Sem.run_bind,lG CU,Result.andThen_ok,aik,ai5,run_load,mb]
   ·have:=hr.2.2 o hlt Rt
    cases h
    simpa[hlt] using this
  ·cases h
 ·cases h
def setMany:List AV->Nat->List AV->List AV
 |vs,_,[]=>vs
 |vs,o,x::r=>setMany (vs.set o x) (o+1) r
theorem nm {P:Program}{L:Lay}{T:au}(i:Nat)(o:Nat):∀(xs:List AV)(cs:List Value)(k:Nat)(H:List az)(w:World)(vs:List AV),bW L H T w->cF L H.length T w xs cs->
  H[i]?=some (.cells vs)->o+k+xs.length<=vs.length->
  ∃w',(storeCells ⟨L.bO i,o,none⟩ cs k).run P w=.ok () w'/\bW L (H.set i (.cells (setMany vs (o+k) xs))) T w'/\
   Ev H.length T.length L H.length T w L (H.set i (.cells (setMany vs (o+k) xs))).length T w':=by
 intro xs
 induction xs with
 |nil=>
  intro cs k H w vs hc hr hi hle;have yN:cs=[]:=ahT (by simpa using hr.1);subst yN;have hH:H.set i (.cells (setMany vs (o+k) []))=H:=by
   have hlt:=(ahh.1 hi)
   simp only[setMany];apply aja;intro j
   by_cases hj:i=j
   ·subst hj;rw[ahK hlt.1,hi]
   ·rw[ah7 hj]
  refine⟨w,rfl,by rw[hH];exact hc,by rw[hH];exact Ev.refl (ahj _) (ahj _)⟩
 |cons x r ih=>
  intro cs k H w vs hc hr hi hle
  match cs,hr with
  |c::cr,hr=>
   have eN:=(ahh.1 hi).1;have h0:aY L H.length T w x c:=hr.2.2 0 (by simp) (by simp);have h1:c.oneCell'=true:=hr.2.1 0 (by simp);have NG:cF L H.length T w r cr:=by simpa using hr.drop 1
   obtain⟨cc,t,fr,g1,g2,g3,wg,g4,g5⟩:=hc.box i _ hi;have hlt:o+k<vs.length:=by simp at hle;omega
   obtain⟨hc1,he1⟩:=hc.setCell hi hlt h0 h1;have hst:(store ((⟨L.bO i,o,none⟩:Addr).add k) c).run P w=.ok () (w.setCell ⟨L.bO i,o+k,none⟩ c):=by
    rw[fo,run_store P w _ c _ h1,gE g1];have hk:o+k<cc.size:=by omega
    have hfz:w.frozen? ⟨L.bO i,o+k,none⟩=false:=by
     unfold World.frozen?;simp only[g1];exact g2 _ hk
    simp[hk,hfz]
   have hlen:(H.set i (.cells (vs.set (o+k) x))).length=H.length:=by simp
   obtain⟨w',cY,hc2,yM⟩:=ih cr (k+1) (H.set i (.cells (vs.set (o+k) x))) (w.setCell ⟨L.bO i,o+k,none⟩ c) (vs.set (o+k) x) hc1 (by rw[hlen];exact NG.keep (by simpa[hlen] using he1.keeps))
    (ahK eN) (by simp at hle ⊢;omega)
   rw[List.set_set] at hc2 yM;refine⟨w',?_,?_,?_⟩
   ·simp only[storeCells,Sem.run_bind,hst,Result.andThen_ok,cY]
   ·simpa[setMany,add_assoc] using hc2
   ·rw[hlen] at yM;have:=he1.trans (by rw[hlen];exact yM);simpa[setMany,add_assoc] using this
  |[],hr=>simp[cF] at hr
def bW.rN {L:Lay}{H:List az}{T:au}{w:World}(h:bW L H T w)(c:Array Value)(ty:TypeId){vs:List AV}(hr:cF L H.length T w vs c.toList) :
  ∃L',bW L' (H++[az.cells vs]) T (w.alloc (.cells c ty))/\Ev H.length T.length L H.length T w L' (H++[az.cells vs]).length T (w.alloc (.cells c ty))/\L'.bO H.length=w.heap.size:=by
 have h1:=h.alloc (.cells c ty) 0;have e1:=Ev.alloc h (.cells c ty) 0;have I3:¬Wr (L.bS w.heap.size 0) H.length T w.heap.size:=h.xh (ahj _);have e2:=Ev.rQ (b:=w.heap.size) (az.cells vs) e1 (ahj _);refine⟨(L.bS w.heap.size 0).dB H.length w.heap.size,h1.rQ w.heap.size I3 (az.cells vs) (λhle=>by simp at hle;omega) ?_,e2,by simp[Lay.dB]⟩;have qU:((L.bS w.heap.size 0).dB H.length w.heap.size).bO H.length=w.heap.size:=by simp[Lay.dB]
 have VN:=hr.keep e2.keeps;have hl:(H++[az.cells vs]).length=H.length+1:=by simp
 rw[hl] at VN;refine⟨c,ty,(0,0),by rw[qU];exact fP w _,λo ho=>by simp,by simpa using hr.1,λj hj=>?_,λj hj hj'=>?_,?_⟩
 ·have:=hr.2.1 j (by simpa using hj);rwa [aif] at this
 ·have:=VN.2.2 j hj (by simpa using hj');rwa [aif] at this
 ·rw[qU];simp[Lay.dB,Lay.bS]
def bW.newRow {L:Lay}{H:List az}{T:au}{w:World}(h:bW L H T w)(c:Array Value)(ty:TypeId)(fr:Nat×Nat){vs:List AV}(k:Nat)(hk:vs.length<=k)(hr:cF L H.length T w vs (c.toList.take vs.length))(n cap:Nat)(hn:n<=cap)(tg:Tag)(ht:tg=.none\/(tg=.full/\cap=n)) :
  bW (L.bS w.heap.size k) H T (w.alloc (.cells c ty fr))/\Ev H.length T.length L H.length T w (L.bS w.heap.size k) H.length T (w.alloc (.cells c ty fr))/\
   aY (L.bS w.heap.size k) H.length T (w.alloc (.cells c ty fr)) (.sl n vs tg) (.slice (some ⟨w.heap.size,0,none⟩) n cap):=by
 have e1:=Ev.alloc h (.cells c ty fr) k;refine⟨h.alloc (.cells c ty fr) k,e1,?_⟩;have VN:=hr.keep e1.keeps;have hlen:(c.toList.take vs.length).length=vs.length:=hr.1;have hsz:vs.length<=c.size:=by simp at hlen;omega
 refine .Ra n vs tg w.heap.size 0 cap (λj=>c.getD j undef) hn (by simp[Lay.bS];omega) (λj hj=>?_) (λj hj=>?_) (λj hj=>?_) ?_
 ·rw[gE (fP w _)];have:j<c.size:=by omega
  simp[this]
 ·have:=VN.2.1 j (by rw[hlen];exact hj);have u9:j<c.size:=by omega
  simpa[u9] using this
 ·have:=VN.2.2 j hj (by rw[hlen];exact hj);have u9:j<c.size:=by omega
  simpa[u9] using this
 ·rcases ht with rfl|⟨rfl,rfl⟩
  ·trivial
  ·rfl
section
variable {P : Program} {L : Lay} {N : Nat} {T : au} {w : World}
theorem aY.fM {n:Nat}{cs:List AV}{tg:Tag}{c:Value}(h:aY L N T w (.sl n cs tg) c) :
  ∃a cap,c=.slice a n cap/\n<=cap/\lY L T tg n cs.length a cap/\((cs=[]/\n=0)\/∃(b base:Nat) (cv:List Value),a=some ⟨b,base,none⟩/\base+cs.length<=L.m b/\cF L N T w cs cv/\
   ∀j,j<cs.length->w.cell? ⟨b,base+j,none⟩=cv[j]?):=by
 cases h with
 |zj _ a cap ht=>exact⟨a,cap,rfl,ahu _,ht,.inl ⟨rfl,rfl⟩⟩
 |Ra _ _ _ b base cap f hcap hm hc h1 hr ht=>
  refine⟨_,cap,rfl,hcap,ht,.inr ⟨b,base,(List.range cs.length).map f,rfl,hm,⟨by simp,λj hj=>by simpa using h1 j (by simpa using hj),λj hj hj'=>by simpa using hr j hj⟩,λj hj=>?_⟩⟩;rw[hc j hj];simp[hj]
def aY.S8 {cs:List AV}{b base:Nat}{cv:List Value}(o:Nat)(hm:base+cs.length<=L.m b)(hr:cF L N T w cs cv)(hc:∀j,j<cs.length->w.cell? ⟨b,base+j,none⟩=cv[j]?) :
  aY L N T w (.eh cs o) (.pointer (some ⟨b,base+o,none⟩)):=by
 refine .eh cs o b base (λj=>cv.getD j undef) hm (λj hj=>?_) (λj hj=>?_) (λj hj=>?_)
 ·have:j<cv.length:=by rw[hr.1];exact hj
  rw[hc j hj];simp[this]
 ·have:j<cv.length:=by rw[hr.1];exact hj
  simpa[this] using hr.2.1 j this
 ·have:j<cv.length:=by rw[hr.1];exact hj
  simpa[this] using hr.2.2 j hj this
def aY.mM {n cap:Nat}{cs:List AV}{tg:Tag}{b base:Nat}{cv:List Value}(hcap:n<=cap)(hm:base+cs.length<=L.m b)(hr:cF L N T w cs cv)(hc:∀j,j<cs.length->w.cell? ⟨b,base+j,none⟩=cv[j]?)
  (ht:lY L T tg n cs.length (some ⟨b,base,none⟩) cap):aY L N T w (.sl n cs tg) (.slice (some ⟨b,base,none⟩) n cap):=by
 refine .Ra n cs tg b base cap (λj=>cv.getD j undef) hcap hm (λj hj=>?_) (λj hj=>?_) (λj hj=>?_) ht
 ·have:j<cv.length:=by rw[hr.1];exact hj
  rw[hc j hj];simp[this]
 ·have:j<cv.length:=by rw[hr.1];exact hj
  simpa[this] using hr.2.1 j this
 ·have:j<cv.length:=by rw[hr.1];exact hj
  simpa[this] using hr.2.2 j hj this
def aY.iv {i n cap:Nat}{c:Value}(h:aY L N T w (.bG i n cap) c):c=.slice (some ⟨L.bO i,0,none⟩) n cap/\n<=cap/\i<N:=by
 cases h with|bG _ _ _ hi hcap=>exact⟨rfl,hcap,hi⟩
def aY.j6 {i o n:Nat}{c:Value}(h:aY L N T w (.cK i o n) c):∃cap,c=.slice (some ⟨L.bO i,o,none⟩) n cap/\n<=cap/\i<N:=by
 cases h with|cK _ _ _ cap hi hcap=>exact⟨cap,rfl,hcap,hi⟩
def vo (p:AV)(d:Nat):Option AV:=
 match p with
 |.ptr i o=>some (.ptr i (o+d))
 |.eh cs o=>some (.eh cs (o+d))
 |_=>none
theorem aY.vo {p q:AV}{c:Value}{d:Nat}(h:aY L N T w p c)(hq:Am.vo p d=some q):∃a:Addr,c=.pointer (some a)/\aY L N T w q (.pointer (some (a.add d))):=by
 unfold Am.vo at hq
 split at hq
 ·cases hq;cases h with|ptr _ _ hi=>exact⟨_,rfl,by rw[fo];exact .ptr _ _ hi⟩
 ·cases hq;cases h with|eh _ _ b base f hm hc h1 hr=>exact⟨_,rfl,by rw[fo,add_assoc];exact .eh _ _ b base f hm hc h1 hr⟩
 ·cases hq
def oP (P:Program)(s:TypeId)(p:AV)(f:Nat):Option AV:=
 match P.underlying s with
 |some (.struct fs)=>match fs[f]? with
  |some fd=>if (P.underlying fd.type).isSome&&0<P.cellsOf fd.type then vo p fd.offset else none
  |none=>none
 |_=>none
def FA {s:TypeId}{p q:AV}{f:Nat}{c:Value}(h:oP P s p f=some q)(hp:aY L N T w p c):∃cv,(Instr.fieldAt s c f).run P w=.ok cv w/\aY L N T w q cv:=by
 unfold oP at h
 split at h
 ·rename_i fs hu
  split at h
  ·rename_i fd hf
   split at h
   ·rename_i hz;simp only[aht,ahv] at hz;obtain⟨d,hd⟩:=ahV.1 hz.1;obtain⟨a,rfl,hr⟩:=hp.vo h;refine⟨_,?_,hr⟩;have:¬P.cellsOf fd.type=0:=by omega
    simp[Instr.fieldAt,run_underlying hu,hf,Instr.sureAddr,fieldPlace,cM hd,this]
   ·cases h
  ·cases h
 ·cases h
def oO (P:Program)(t:TypeId)(x ix:AV):Option AV:=
 match P.underlying t,x,ix with
 |some (.slice e),.sl n cs _,.int _ i=>if 0<=i/\i<n then (if (P.underlying e).isSome then some (.eh cs (i.toNat*P.cellsOf e)) else none) else none
 |some (.slice e),.cK b o n,.int _ i=>if 0<=i/\i<n then (if (P.underlying e).isSome then some (.ptr b (o+i.toNat*P.cellsOf e)) else none) else none
 |some (.slice e),.bG b n _,.int _ i=>if 0<=i/\i<n then (if (P.underlying e).isSome then some (.ptr b (0+i.toNat*P.cellsOf e)) else none) else none
 |some (.array len e),p,.int _ i=>if 0<=i/\i<len then (if (P.underlying e).isSome then vo p (i.toNat*P.cellsOf e) else none) else none
 |_,_,_=>none
def Fz {t:TypeId}{x ix q:AV}{cx ci:Value}(h:oO P t x ix=some q)(hx:aY L N T w x cx)(hi:aY L N T w ix ci):∃cv,(Instr.indexAt t cx ci).run P w=.ok cv w/\aY L N T w q cv:=by
 unfold oO at h
 split at h
 ·rename_i e n cs tg k i hu
  split at h
  ·rename_i hb
   split at h
   ·rename_i he;obtain⟨d,hd⟩:=ahV.1 he
    cases h
    rw[hi.dU];obtain⟨a,cap,rfl,hcap,_,h0|⟨b,base,cv,rfl,hm,hr,hc⟩⟩:=hx.fM
    ·omega
    ·refine⟨_,?_,aY.S8 (i.toNat*P.cellsOf e) hm hr hc⟩;simp[Instr.indexAt,run_underlying hu,asIntOf,hb,cM hd,fo]
   ·cases h
  ·cases h
 ·rename_i e b o n k i hu
  split at h
  ·rename_i hb
   split at h
   ·rename_i he;obtain⟨d,hd⟩:=ahV.1 he
    cases h
    rw[hi.dU];obtain⟨cap,rfl,hcap,hlt⟩:=hx.j6;refine⟨_,?_,aY.ptr b (o+i.toNat*P.cellsOf e) hlt⟩;simp[Instr.indexAt,run_underlying hu,asIntOf,hb,cM hd,fo]
   ·cases h
  ·cases h
 ·rename_i e b n cap k i hu
  split at h
  ·rename_i hb
   split at h
   ·rename_i he;obtain⟨d,hd⟩:=ahV.1 he
    cases h
    rw[hi.dU];obtain⟨rfl,hcap,hlt⟩:=hx.iv;refine⟨_,?_,aY.ptr b (0+i.toNat*P.cellsOf e) hlt⟩;simp[Instr.indexAt,run_underlying hu,asIntOf,hb,cM hd,fo]
   ·cases h
  ·cases h
 ·rename_i len e p k i hu
  split at h
  ·rename_i hb
   split at h
   ·rename_i he;obtain⟨d,hd⟩:=ahV.1 he;rw[hi.dU];obtain⟨a,rfl,hr⟩:=hx.vo h;refine⟨_,?_,hr⟩;simp[Instr.indexAt,run_underlying hu,asIntOf,hb,cM hd,Instr.sureAddr]
   ·cases h
  ·cases h
 ·cases h
def Bx (P:Program)(t:TypeId)(x ix:AV):Option AV:=
 match P.underlying t,x,ix with
 |some .string,.str s,.int _ i=>if 0<=i/\i<s.length then some (.int .u8 ((s.getD i.toNat 0).toNat:Int)) else none
 |some (.array len e),.agg cs,.int _ i=>if 0<=i/\i<len then rj P e cs (i.toNat*P.cellsOf e) else none
 |_,_,_=>none
theorem DZ {t:TypeId}{cs:List AV}{o:Nat}{r:AV}{c:Array Value}(hr:aY L N T w (.agg cs) (.agg c))(h:rj P t cs o=some r):∃cv,(part t c o).run P w=.ok cv w/\aY L N T w r cv:=by
 have VM:=cF.Bt hr;unfold rj at h
 split at h
 ·rename_i CU
  split at h
  ·rename_i hle
   cases h
   have hu:∃d,P.underlying t=some d:=by
    unfold jV at CU
    cases hx:P.underlying t with
    |none=>simp[hx] at CU
    |some d=>exact⟨d,rfl⟩
   obtain⟨d,hu⟩:=hu;refine⟨_,by simp only[part,Sem.run_bind,lG CU,Result.andThen_ok,ai1,cM hu];rfl,?_⟩;have:=((VM.drop o).take (P.cellsOf t)).agg;have e:(c.extract o (o+P.cellsOf t))=((c.toList.drop o).take (P.cellsOf t)).toArray:=by
    apply Array.ext';simp
   rw[e];exact this
  ·cases h
 ·rename_i CU
  split at h
  ·rename_i hlt
   cases h
   have Rt:o<c.toList.length:=by rw[VM.1];exact hlt
   have jt:o<c.size:=by simpa using Rt
   have h3:=VM.2.2 o hlt Rt;refine⟨c[o],?_,by simpa[hlt] using h3⟩;simp only[part,Sem.run_bind,lG CU,Result.andThen_ok,aik,ai5,ai7 jt];rfl
  ·cases h
 ·cases h
theorem LG {t:TypeId}{x ix r:AV}{cx ci:Value}(h:Bx P t x ix=some r)(hx:aY L N T w x cx)(hi:aY L N T w ix ci):∃cv,(Instr.index t cx ci).run P w=.ok cv w/\aY L N T w r cv:=by
 unfold Bx at h
 split at h
 ·rename_i s k i hu
  split at h
  ·rename_i hb
   cases h
   rw[hi.dU,hx.iT];have hlt:i.toNat<s.length:=by omega
   have e:(⟨s.toArray⟩:ByteArray)[i.toNat]?=some (s.getD i.toNat 0):=by
    rw[ByteArray.getElem?_lt' _ _ (by simpa[ByteArray.size] using hlt)];simp[hlt];rfl
   refine⟨_,?_,.int _ _⟩;simp[Instr.index,run_underlying hu,asIntOf,hb.1,e]
  ·cases h
 ·rename_i len e cs k i hu
  split at h
  ·rename_i hb;rw[hi.dU];have hd:∃d,P.underlying e=some d:=by
    unfold rj jV at h
    cases hx:P.underlying e with
    |none=>simp[hx] at h
    |some d=>exact⟨d,rfl⟩
   obtain⟨d,hd⟩:=hd
   cases hx with
   |agg _ c h1 h2 hr=>
    obtain⟨cv,h3,h4⟩:=DZ (.agg cs c h1 h2 hr) h;refine⟨cv,?_,h4⟩;simp[Instr.index,run_underlying hu,asIntOf,hb,cM hd,h3]
  ·cases h
 ·cases h
def Bz (P:Program)(t:TypeId)(x:AV)(f:Nat):Option AV:=
 match P.underlying t,x with
 |some (.struct fs),.agg cs=>match fs[f]? with
  |some fd=>rj P fd.type cs fd.offset
  |none=>none
 |_,_=>none
theorem LH {t:TypeId}{x r:AV}{f:Nat}{cx:Value}(h:Bz P t x f=some r)(hx:aY L N T w x cx):∃cv,(Instr.field t cx f).run P w=.ok cv w/\aY L N T w r cv:=by
 unfold Bz at h
 split at h
 ·rename_i fs cs hu
  split at h
  ·rename_i fd hf
   cases hx with
   |agg _ c h1 h2 hr=>
    obtain⟨cv,h3,h4⟩:=DZ (.agg cs c h1 h2 hr) h;refine⟨cv,?_,h4⟩;simp[Instr.field,run_underlying hu,hf,asAgg,h3]
  ·cases h
 ·cases h
def fU (x:Option AV)(afA:Nat):Option Nat:=
 match x with
 |none=>some afA
 |some (.int _ i)=>if 0<=i then some i.toNat else none
 |_=>none
def Bw (P:Program)(t:TypeId)(x:AV)(lo hi mx:Option AV):Option AV:=
 match P.underlying t,x,mx with
 |some .string,.str s,none=>
  match fU lo 0,fU hi s.length with
  |some l,some h=>if l<=h/\h<=s.length then some (.str ((s.drop l).take (h-l))) else none
  |_,_=>none
 |some (.slice e),.sl n cs _,none=>
  match fU lo 0,fU hi n with
  |some l,some h=>if l<=h/\h<=n/\l*P.cellsOf e<=cs.length then (if (P.underlying e).isSome then some (.sl (h-l) ((cs.drop (l*P.cellsOf e)).take ((h-l)*P.cellsOf e)) .none) else none) else none
  |_,_=>none
 |some (.slice e),.sl n cs _,some m=>
  match fU lo 0,fU hi n,fU (some m) 0 with
  |some l,some h,some m=>if l<=h/\h<=m/\m<=n/\hi.isSome/\l*P.cellsOf e<=cs.length then (if (P.underlying e).isSome then some (.sl (h-l) ((cs.drop (l*P.cellsOf e)).take ((h-l)*P.cellsOf e)) (if h=m then .full else .none)) else none) else none
  |_,_,_=>none
 |some (.slice e),.cK i o n,none=>
  match fU lo 0,fU hi n with
  |some l,some h=>if l<=h/\h<=n/\(l<n\/l=0) then (if (P.underlying e).isSome then some (.cK i (o+l*P.cellsOf e) (h-l)) else none) else if l=n/\h=n/\(P.underlying e).isSome then some (.sl 0 [] .none) else none
  |_,_=>none
 |some (.array n e),.ptr i o,none=>
  match fU lo 0,fU hi n with
  |some l,some h=>if l<=h/\h<=n/\(l<n\/l=0) then (if (P.underlying e).isSome then some (.cK i (o+l*P.cellsOf e) (h-l)) else none) else none
  |_,_=>none
 |_,_,_=>none
theorem mE {x:Option AV}{d n:Nat}{c:Option Value}(h:fU x d=some n)(hc:∀v cv,x=some v->c=some cv->aY L N T w v cv)(hs:x.isSome=c.isSome) :
  (x=none/\c=none/\n=d)\/(∃k,c=some (.int k (n:Int))/\x.isSome=true):=by
 cases x with
 |none=>
  cases c with
  |none=>simp[fU] at h;exact .inl ⟨rfl,rfl,h.symm⟩
  |some c=>simp at hs
 |some v=>
  cases c with
  |none=>simp at hs
  |some cv=>
   have hr:=hc v cv rfl rfl
   cases v<;>simp only[fU,reduceCtorEq] at h
   rename_i k i
   split at h
   ·rename_i hi
    cases h
    right
    rw[hr.dU];exact⟨k,by rw[Int.toNat_of_nonneg hi],rfl⟩
   ·cases h
def iy {k:IntKind}{n y:Nat}(h:n<=y)(code:BoundsCode):(Instr.sliceBound (.int k (n:Int)) y code).run P w=.ok n w:=by
 have:(0:Int)<=(n:Int)/\(n:Int)<=(y:Int):=by omega
 simp[Instr.sliceBound,asIntOf];intro hh;omega
def mu {isS:Bool}{len cap l h:Nat}{lo hi:Option AV}{cl ch:Option Value}(hl:fU lo 0=some l)(hh:fU hi len=some h)(h1:l<=h)(h2:h<=len)(h3:len<=cap)
  (rl:∀v cv,lo=some v->cl=some cv->aY L N T w v cv) (rh:∀v cv,hi=some v->ch=some cv->aY L N T w v cv) (sl:lo.isSome=cl.isSome) (sh:hi.isSome=ch.isSome) :
  (Instr.sliceBounds isS len cap cl ch none).run P w=.ok (l,h,cap) w:=by
 rcases mE hl rl sl with⟨_,e1,e2⟩|⟨k,e1,_⟩<;>rcases mE hh rh sh with⟨_,e3,e4⟩|⟨k',e3,_⟩<;>subst e1<;>subst e3
 ·subst e2;subst e4;simp[Instr.sliceBounds]
 ·subst e2;simp[Instr.sliceBounds,iy (w:=w) (P:=P) (k:=k') (n:=h) (y:=cap) (by omega)]
 ·subst e4;simp[Instr.sliceBounds,iy (w:=w) (P:=P) (k:=k) (n:=l) (y:=h) h1]
 ·simp[Instr.sliceBounds,iy (w:=w) (P:=P) (k:=k') (n:=h) (y:=cap) (by omega),iy (w:=w) (P:=P) (k:=k) (n:=l) (y:=h) h1]
def FB {len cap l h m:Nat}{lo hi:Option AV}{x:AV}{cl ch:Option Value}{cm:Value}(hl:fU lo 0=some l)(hh:fU hi len=some h)(hm:fU (some x) 0=some m)(h1:l<=h)(h2:h<=m)(h4:m<=cap)(his:hi.isSome=true)
  (rl:∀v cv,lo=some v->cl=some cv->aY L N T w v cv) (rh:∀v cv,hi=some v->ch=some cv->aY L N T w v cv) (rm:aY L N T w x cm) (sl:lo.isSome=cl.isSome) (sh:hi.isSome=ch.isSome) :
  (Instr.sliceBounds true len cap cl ch (some cm)).run P w=.ok (l,h,m) w:=by
 have em:∃k,cm=.int k (m:Int):=by
  rcases mE (c:=some cm) hm (λv cv e1 e2=>by cases e1;cases e2;exact rm) rfl with⟨e,_⟩|⟨k,e,_⟩
  ·cases e
  ·exact⟨k,by cases e;rfl⟩
 obtain⟨km,rfl⟩:=em;rcases mE hh rh sh with⟨e,_⟩|⟨k',e3,_⟩
 ·subst e;simp at his
 subst e3;rcases mE hl rl sl with⟨_,e1,e2⟩|⟨k,e1,_⟩<;>subst e1
 ·subst e2;simp[Instr.sliceBounds,iy (w:=w) (P:=P) (k:=km) (n:=m) (y:=cap) h4,iy (w:=w) (P:=P) (k:=k') (n:=h) (y:=m) h2]
 ·simp[Instr.sliceBounds,iy (w:=w) (P:=P) (k:=km) (n:=m) (y:=cap) h4,iy (w:=w) (P:=P) (k:=k') (n:=h) (y:=m) h2,iy (w:=w) (P:=P) (k:=k) (n:=l) (y:=h) h1]
def aY.sub {n:Nat}{cs:List AV}{tg:Tag}{a:Option Addr}{cap:Nat}(hx:aY L N T w (.sl n cs tg) (.slice a n cap))(l h m z:Nat)(h1:l<=h)(h2:h<=n)(h3:h<=m)(hlen:l*z<=cs.length)(RH:Tag)(ht:RH=.none\/(RH=.full/\h=m)) :
  aY L N T w (.sl (h-l) ((cs.drop (l*z)).take ((h-l)*z)) RH) (.slice (if m=l then a else a.map (·.add (l*z))) (h-l) (m-l)):=by
 obtain⟨a',cap',e,hcap,_,h0⟩:=hx.fM
 cases e
 have tok:∀a'',lY L T RH (h-l) ((cs.drop (l*z)).take ((h-l)*z)).length a'' (m-l):=by
  intro a'';rcases ht with rfl|⟨rfl,rfl⟩
  ·trivial
  ·rfl
 rcases h0 with⟨rfl,rfl⟩|⟨b,base,cv,rfl,hm,hr,hc⟩
 ·have:h-l=0:=by omega
  have e2:=tok (if m=l then a else a.map (·.add (l*z)));rw[this] at e2 ⊢;simp at e2 ⊢;exact .zj _ _ _ e2
 ·by_cases kH:m=l
  ·have:h-l=0:=by omega
   have e2:=tok (if m=l then some ⟨b,base,none⟩ else (some (⟨b,base,none⟩:Addr)).map (·.add (l*z)));rw[this] at e2 ⊢;simp at e2 ⊢;exact .zj _ _ _ e2
  ·rw[ahq kH];simp only[ai4,fo];have NG:=(hr.drop (l*z)).take ((h-l)*z);have e2:=tok (some ⟨b,base+l*z,none⟩);refine aY.mM (by omega) ?_ NG (λj hj=>?_) e2
   ·simp;omega
   ·have hj2:j<(h-l)*z/\j<cs.length-l*z:=by simpa[Nat.lt_min] using hj
    rw[add_assoc,hc _ (by omega)];simp[hj2.1]
def LD {t:TypeId}{x r:AV}{lo hi mx:Option AV}{cx:Value}{cl ch cm:Option Value}(h:Bw P t x lo hi mx=some r)(hx:aY L N T w x cx)
  (rl:∀v cv,lo=some v->cl=some cv->aY L N T w v cv) (rh:∀v cv,hi=some v->ch=some cv->aY L N T w v cv) (rm:∀v cv,mx=some v->cm=some cv->aY L N T w v cv)
  (sl:lo.isSome=cl.isSome) (sh:hi.isSome=ch.isSome) (sm:mx.isSome=cm.isSome):∃cv,(Instr.sliceAt t cx cl ch cm).run P w=.ok cv w/\aY L N T w r cv:=by
 unfold Bw at h
 split at h
 ·rename_i s hu
  cases cm with|some _=>simp at sm|none=>
  split at h
  ·rename_i l hh e1 e2
   split at h
   ·rename_i hb
    cases h
    have hbd:=mu (P:=P) (isS:=false) (cap:=s.length) e1 e2 hb.1 hb.2 (ahj _) rl rh sl sh;rw[hx.iT];refine⟨_,?_,.str _⟩;simp only[Instr.sliceAt,Sem.run_bind,run_underlying hu,Result.andThen_ok,Instr.slice];have hsz:(⟨s.toArray⟩:ByteArray).size=s.length:=by simp[ByteArray.size]
    simp only[hsz,hbd,Sem.run_bind,Result.andThen_ok,Option.isSome_none,aik,ai5,ByteArray.extract_mk];rfl
   ·cases h
  ·cases h
 ·rename_i e n cs tg hu
  cases cm with|some _=>simp at sm|none=>
  split at h
  ·rename_i l hh e1 e2
   split at h
   ·rename_i hb
    split at h
    ·rename_i he;obtain⟨d,hd⟩:=ahV.1 he
     cases h
     obtain⟨a,cap,rfl,hcap,_,_⟩:=hx.fM;have hbd:=mu (P:=P) (isS:=true) (cap:=cap) e1 e2 hb.1 hb.2.1 hcap rl rh sl sh;refine⟨_,?_,hx.sub l hh cap (P.cellsOf e) hb.1 hb.2.1 (by omega) hb.2.2 .none (.inl rfl)⟩;simp only[Instr.sliceAt,Sem.run_bind,run_underlying hu,Result.andThen_ok,Instr.slice,hbd,cM hd];rfl
    ·cases h
   ·cases h
  ·cases h
 ·rename_i e n cs tg m hu
  cases cm with|none=>simp at sm|some cm=>
  split at h
  ·rename_i l hh mm e1 e2 e3
   split at h
   ·rename_i hb
    split at h
    ·rename_i he;obtain⟨d,hd⟩:=ahV.1 he
     cases h
     obtain⟨a,cap,rfl,hcap,_,_⟩:=hx.fM;have hbd:=FB (P:=P) (cap:=cap) e1 e2 e3 hb.1 hb.2.1 (by omega) hb.2.2.2.1 rl rh (rm _ _ rfl rfl) sl sh;refine⟨_,?_,hx.sub l hh mm (P.cellsOf e) hb.1 (by omega) hb.2.1 hb.2.2.2.2 (if hh=mm then .full else .none) ?_⟩
     ·simp only[Instr.sliceAt,Sem.run_bind,run_underlying hu,Result.andThen_ok,Instr.slice,hbd,cM hd];rfl
     ·split
      ·exact .inr ⟨rfl,‹_›⟩
      ·exact .inl rfl
    ·cases h
   ·cases h
  ·cases h
 ·rename_i e i o n hu
  cases cm with|some _=>simp at sm|none=>
  split at h
  ·rename_i l hh e1 e2
   split at h
   ·rename_i hb
    split at h
    ·rename_i he;obtain⟨d,hd⟩:=ahV.1 he
     cases h
     obtain⟨cap,rfl,hcap,hlt⟩:=hx.j6;have hbd:=mu (P:=P) (isS:=true) (cap:=cap) e1 e2 hb.1 hb.2.1 hcap rl rh sl sh;refine⟨.slice (some ⟨L.bO i,o+l*P.cellsOf e,none⟩) (hh-l) (cap-l),?_,.cK _ _ _ _ hlt (by omega)⟩;simp only[Instr.sliceAt,Sem.run_bind,run_underlying hu,Result.andThen_ok,Instr.slice,hbd,cM hd]
     by_cases hcl:cap=l
     ·have hl0:l=0:=by omega
      subst hl0;subst hcl;simp
     ·rw[ahq hcl];simp[fo]
    ·cases h
   ·split at h
    ·rename_i hb;obtain⟨q1,q2,he⟩:=hb;subst q2;subst q1;obtain⟨d,hd⟩:=ahV.1 he
     cases h
     obtain⟨cap,rfl,hcap,hlt⟩:=hx.j6;have hbd:=mu (P:=P) (isS:=true) (cap:=cap) e1 e2 (ahj _) (ahj _) hcap rl rh sl sh;refine⟨.slice (if cap=l then some ⟨L.bO i,o,none⟩ else some ⟨L.bO i,o+l*P.cellsOf e,none⟩) 0 (cap-l),?_,.zj _ _ _ trivial⟩;simp only[Instr.sliceAt,Sem.run_bind,run_underlying hu,Result.andThen_ok,Instr.slice,hbd,cM hd]
     by_cases hcl:cap=l
     ·rw[ahs hcl,ahs hcl];simp
     ·rw[ahq hcl,ahq hcl];simp[fo]
    ·cases h
  ·cases h
 ·rename_i n e i o hu
  cases cm with|some _=>simp at sm|none=>
  split at h
  ·rename_i l hh e1 e2
   split at h
   ·rename_i hb
    split at h
    ·rename_i he;obtain⟨d,hd⟩:=ahV.1 he
     cases h
     obtain⟨rfl,hlt⟩:=hx.oF;have hbd:=mu (P:=P) (isS:=false) (cap:=n) e1 e2 hb.1 hb.2.1 (ahj _) rl rh sl sh;refine⟨.slice (some ⟨L.bO i,o+l*P.cellsOf e,none⟩) (hh-l) (n-l),?_,.cK _ _ _ _ hlt (by omega)⟩;simp only[Instr.sliceAt,Sem.run_bind,run_underlying hu,Result.andThen_ok,Instr.sureAddr,hbd,cM hd,Sem.run_pure]
     by_cases hcl:n=l
     ·have hl0:l=0:=by omega
      subst hl0;subst hcl;simp
     ·rw[ahq hcl];simp[fo]
    ·cases h
   ·cases h
  ·cases h
 ·cases h
end
def sF (s:List UInt8):List AV:=s.map λb=>.int .u8 (b.toNat:Int)
def NQ:AV->Option UInt8
 |.int .u8 n=>some (UInt8.ofNat n.toNat)
 |_=>none
def bytesOf (cs:List AV):Option (List UInt8):=cs.mapM NQ
theorem Cw (s:List UInt8):bytesOf (sF s)=some s:=by
 induction s with
 |nil=>rfl
 |cons b r ih=>
  unfold bytesOf sF at ih ⊢;simp only[ahX,mapM_cons,ih];simp[NQ]
def gT (H:List az)(z:Nat)(x:AV):Option (Nat×List AV):=
 match x with
 |.sl m cs _=>if cs.length=m*z then some (m,cs) else none
 |.cK i o m=>match H[i]? with
  |some (.cells vs)=>if o+m*z<=vs.length then some (m,(vs.drop o).take (m*z)) else none
  |_=>none
 |.str s=>if z=1 then some (s.length,sF s) else none
 |_=>none
section
variable {P : Program} {L : Lay} {H : List az} {T : au} {w : World}
def EJ (s:List UInt8):cF L H.length T w (sF s) (s.map λb=>Value.int .u8 (b.toNat:Int)):=by
 refine⟨by simp[sF],λj hj=>by simp[Value.oneCell'],λj hj hj'=>?_⟩;simp only[sF,aia];exact .int _ _
theorem eO {z:Nat}{x:AV}{c:Value}{m:Nat}{ys:List AV}(hc:bW L H T w)(hx:aY L H.length T w x c)(h:gT H z x=some (m,ys)) :
  ∃cv:List Value,ys.length=m*z/\cF L H.length T w ys cv/\(Builtin.lenOf c).run P w=.ok m w/\(Builtin.firstCells z m c).run P w=.ok cv.toArray w:=by
 unfold gT at h
 split at h
 ·rename_i m' cs tg
  split at h
  ·rename_i hl
   cases h
   obtain⟨a,cap,rfl,hcap,_,⟨rfl,rfl⟩|⟨b,base,cv,rfl,hm,hr,mb⟩⟩:=hx.fM
   ·refine⟨[],hl,cF.nil,rfl,?_⟩
    cases a with
    |none=>rfl
    |some a=>simp[Builtin.firstCells,loadCells,loadCellsFrom]
   ·have Rt:=hr.1;refine⟨cv,hl,hr,rfl,?_⟩;have:=run_loadCells_list (P:=P) w ⟨b,base,none⟩ cv (λj v hj=>by
     have hlt:=(ahh.1 hj).1;rw[fo,mb j (by omega)];exact hj)
    simp only[Builtin.firstCells];rw[<-hl,<-Rt];exact this
  ·cases h
 ·rename_i i o m'
  split at h
  ·rename_i vs hi
   split at h
   ·rename_i hl
    cases h
    obtain⟨cap,rfl,hcap,hlt⟩:=hx.j6;obtain⟨c,hr,mb⟩:=(hc.box i _ hi).at;refine⟨(c.toList.drop o).take (m*z),?_,(hr.drop o).take _,rfl,?_⟩
    ·simp;omega
    ·have hlen:((c.toList.drop o).take (m*z)).length=m*z:=by have:=hr.1;simp at this ⊢;omega
     have:=run_loadCells_list (P:=P) w ⟨L.bO i,o,none⟩ ((c.toList.drop o).take (m*z)) (λj v hj=>by
      have hlt:=(ahh.1 hj).1;have kE:j<m*z:=by omega
      rw[ah9,ahs kE,aiX] at hj;rw[fo,mb];simpa using hj)
     simp only[Builtin.firstCells];rw[hlen] at this;exact this
   ·cases h
  ·cases h
 ·rename_i s
  split at h
  ·rename_i hz
   cases h
   rw[hx.iT];refine⟨s.map λb=>Value.int .u8 (b.toNat:Int),by simp[sF,hz],EJ s,by simp[Builtin.lenOf,ByteArray.size],?_⟩;have e:(⟨s.toArray⟩:ByteArray).extract 0 s.length=⟨s.toArray⟩:=by rw[ByteArray.extract_mk];simp
   simp[Builtin.firstCells,e]
  ·cases h
 ·cases h
theorem F3 {N:Nat}:∀{cs:List AV} {cv:List Value} {s:List UInt8},cF L N T w cs cv->bytesOf cs=some s->∃ns:List Int,cv=ns.map (Value.int .u8)/\s=ns.map λn=>UInt8.ofNat n.toNat:=by
 intro cs
 induction cs with
 |nil=>intro cv s hr h;cases h;exact⟨[],ahT hr.1,rfl⟩
 |cons x r ih=>
  intro cv s hr h
  match cv,hr with
  |c::cr,hr=>
   have h0:aY L N T w x c:=hr.2.2 0 (by simp) (by simp);have NG:cF L N T w r cr:=by simpa using hr.drop 1
   unfold bytesOf at h;rw[mapM_cons] at h
   cases hx:NQ x with
   |none=>rw[hx] at h;cases h
   |some b=>
    cases hy:r.mapM NQ with
    |none=>rw[hx,hy] at h;cases h
    |some bs=>
     rw[hx,hy] at h
     cases h
     obtain⟨ns,e1,e2⟩:=ih NG hy;unfold NQ at hx
     split at hx
     ·rename_i nn hh
      cases hx
      rw[h0.dU];exact⟨nn::ns,by simp[e1],by simp[e2]⟩
     ·cases hx
  |[],hr=>simp[cF] at hr
def We:AV->Bool
 |.sl _ _ _|.cK _ _ _=>true
 |_=>false
def Jh (P:Program)(H:List az)(src dst:TypeId)(x:AV):Option AV:=
 match P.underlying src,P.underlying dst,x with
 |some _,some (.int k),.int _ n=>some (.int k (k.wrap n))
 |some _,some .string,.int _ n=>some (.str (Utf8.encode n).data.toList)
 |some _,some .string,.str s=>some (.str s)
 |some (.slice e),some .string,x=>
  match P.underlying e with
  |some (.int .u8)=>if We x then (match gT H 1 x with
   |some (_,cs)=>(bytesOf cs).map .str
   |none=>none) else none
  |_=>none
 |_,_,_=>none
theorem PM {src dst:TypeId}{x r:AV}{c:Value}(hc:bW L H T w)(h:Jh P H src dst x=some r)(hx:aY L H.length T w x c):∃cv,(convert src dst c).run P w=.ok cv w/\aY L H.length T w r cv:=by
 unfold Jh at h
 split at h
 ·rename_i d k k' n h1 h2
  cases h
  rw[hx.dU];exact⟨_,by simp only[convert,Sem.run_bind,run_underlying h1,run_underlying h2,Result.andThen_ok];cases d<;>rfl,.int _ _⟩
 ·rename_i d k' n h1 h2
  cases h
  rw[hx.dU];exact⟨.string ⟨(Utf8.encode n).data.toList.toArray⟩,by simp only[convert,Sem.run_bind,run_underlying h1,run_underlying h2,Result.andThen_ok];cases d<;>rfl,.str _⟩
 ·rename_i d s h1 h2
  cases h
  rw[hx.iT];exact⟨_,by simp only[convert,Sem.run_bind,run_underlying h1,run_underlying h2,Result.andThen_ok];cases d<;>rfl,.str _⟩
 ·rename_i e _ _ h1 h2 _ _
  split at h
  ·rename_i he
   split at h
   ·rename_i aeO
    split at h
    ·rename_i m cs hs
     cases hb:bytesOf cs with
     |none=>rw[hb] at h;cases h
     |some s=>
      rw[hb] at h
      cases h
      obtain⟨cv,hl,hr,hlen,hZ⟩:=eO (P:=P) hc hx hs;obtain⟨ns,e1,e2⟩:=F3 hr hb;have XC:∃a n cap,c=.slice a n cap:=by
       cases hx<;>first|exact⟨_,_,_,rfl⟩|(simp[We] at aeO;done)
      obtain⟨a,n,cap,rfl⟩:=XC;have hn:n=m:=by
       simp[Builtin.lenOf] at hlen;exact hlen
      subst hn;refine⟨.string ⟨s.toArray⟩,?_,.str s⟩;rw[run_convert_bytes_string w src dst _ a n cap h1 he h2]
      cases a with
      |none=>
       simp[Builtin.firstCells] at hZ;subst hZ
       cases ns with
       |nil=>subst e2;rfl
       |cons _ _=>cases e1
      |some a=>
       simp only[Builtin.firstCells,Nat.mul_one] at hZ;rw[e1] at hZ;rw[run_bytesToString w a n cap ns hZ,foldl_push_bytes];subst e2;simp
    ·cases h
   ·cases h
  ·cases h
 ·cases h
def LJ {src dst e:TypeId}{s:List UInt8}{c:Value}(hc:bW L H T w)(h1:P.underlying src=some .string)(h2:P.underlying dst=some (.slice e))(h3:P.underlying e=some (.int .u8))(hx:aY L H.length T w (.str s) c) :
  ∃cv w' L',(convert src dst c).run P w=.ok cv w'/\bW L' H T w'/\aY L' H.length T w' (.sl s.length (sF s) .none) cv/\Ev H.length T.length L H.length T w L' H.length T w':=by
 rw[hx.iT];have hsz:(⟨s.toArray⟩:ByteArray).size=s.length:=by simp[ByteArray.size]
 obtain⟨cap,hcap,hle⟩:∃cap,(Question.appendCap s.length 0 e).cut (w.tape w.drawn (.appendCap s.length 0 e))=cap/\s.length<=cap:=⟨_,rfl,by simp[Question.cut]⟩
 let cells:Array Value:=(s.map λb=>Value.int .u8 (b.toNat:Int)).toArray++Array.replicate (cap-s.length) (.int .u8 0)
 have yN:cells.size=cap:=by simp[cells];omega
 have hd:bW L H T w.drew:=hc.drew rfl;have ed:Ev H.length T.length L H.length T w L H.length T w.drew:=Ev.drew rfl rfl rfl rfl (aid _);obtain⟨k1,k2,k3⟩:=hd.newRow cells e (cap,cap+1) (vs:=sF s) (sF s).length (ahj _) (by
  have:(cells.toList.take (sF s).length)=s.map λb=>Value.int .u8 (b.toNat:Int):=by
   simp[cells,sF]
  rw[this];exact EJ s) s.length cap hle .none (.inl rfl)
 refine⟨_,_,_,?_,k1,k3,ed.trans k2⟩;simp only[convert,Sem.run_bind,run_underlying h1,run_underlying h2,run_underlying h3,Result.andThen_ok,Conv.stringToBytes,hsz,run_choose,Question.forced,aik,ai5,hcap];have Sj:(⟨s.toArray⟩:ByteArray).data.map (λb=>Value.int .u8 (b.toNat:Int))=(s.map λb=>Value.int .u8 (b.toNat:Int)).toArray:=by simp
 simp only[Sj,newRow,Sem.run_bind,run_newObj,Result.andThen_ok,Sem.run_pure,markStringish,run_shape,run_freeze];have hsh:World.shape? { w.drew with heap:=w.heap.push (.cells cells e) } w.heap.size=some (e,cap):=by
  simp[World.shape?,yN]
 show (Result.andThen _ _)=_;simp only[World.drew] at hsh ⊢;rw[hsh];simp only[run_freeze,Result.andThen_ok,Sem.run_pure]
 congr 1
 simp only[World.freeze,World.alloc,Nat.one_ne_zero,ai5]
 congr 1
 apply Array.ext_getElem?;intro i;rw[ajs,Array.getElem?_push,Array.getElem?_push]
 by_cases hi:w.heap.size=i
 ·subst hi;simp[cells]
 ·rw[ahq hi,ahq (λe=>hi e.symm),ahq (λe=>hi e.symm)]
end
section
variable {P : Program} {L : Lay} {H : List az} {T : au} {w : World}
theorem cF.setMany {N:Nat}:∀{xs:List AV} {xc:List Value} {vs:List AV} {c:Array Value} (o:Nat),cF L N T w vs c.toList->cF L N T w xs xc->o+xs.length<=vs.length->
  cF L N T w (setMany vs o xs) ((xc.zipIdx.foldl (λcs (x:Value×Nat)=>cs.setIfInBounds (o+x.2) x.1) c)).toList:=by
 intro xs;have key:∀(xs:List AV)(xc:List Value)(vs:List AV)(c:Array Value)(o k:Nat),cF L N T w vs c.toList->cF L N T w xs xc->o+k+xs.length<=vs.length->
   cF L N T w (Am.setMany vs (o+k) xs) (((xc.zipIdx k).foldl (λcs (x:Value×Nat)=>cs.setIfInBounds (o+x.2) x.1) c)).toList:=by
  intro xs
  induction xs with
  |nil=>
   intro xc vs c o k h1 h2 h3;have:xc=[]:=ahT h2.1;subst this;exact h1
  |cons x r ih=>
   intro xc vs c o k h1 h2 h3
   match xc,h2 with
   |y::yr,h2=>
    have h0:aY L N T w x y:=h2.2.2 0 (by simp) (by simp);have h1':y.oneCell'=true:=h2.2.1 0 (by simp);have NG:cF L N T w r yr:=by simpa using h2.drop 1
    simp only[List.zipIdx_cons,aiR,Am.setMany];have:=ih yr (vs.set (o+k) x) (c.setIfInBounds (o+k) y) o (k+1) (by rw[Array.toList_setIfInBounds];exact h1.set _ h0 h1') NG (by simp at h3 ⊢;omega);rw[show o+k+1=o+(k+1) by omega];exact this
   |[],h2=>simp[cF] at h2
 intro xc vs c o h1 h2 h3;exact key xs xc vs c o 0 h1 h2 h3
def Vv:List TypeId:=[33]
def rK (t:TypeId)(v:AV):AV:=if Vv.contains t=true then v else cG v
theorem aY.rK {N:Nat}{v:AV}{c:Value}(t:TypeId)(h:aY L N T w v c):aY L N T w (Am.rK t v) c:=by
 unfold Am.rK
 split
 ·exact h
 ·exact h.cG
def pE (u:AV->AV)(place:Nat->Option (Nat×Nat))(cells:List AV):List (Nat×AV)->Option (List AV)
 |[]=>some cells
 |(i,v)::rest=>
  match place i,V0 (u v) with
  |some (off,size),some xs=>if xs.length=size/\off+size<=cells.length then pE u place (setMany cells off xs) rest else none
  |_,_=>none
theorem tt {N:Nat}{u:AV->AV}(hu:∀v c,aY L N T w v c->aY L N T w (u v) c)(place:Nat->Option (Nat×Nat)):∀(parts:List (Nat×AV)) (pc:List (Nat×Value)) (cells:List AV) (c:Array Value) (r:List AV),cF L N T w cells c.toList->pc.length=parts.length->
  (∀(j:Nat)(h:j<parts.length)(h':j<pc.length),(parts[j]'h).1=(pc[j]'h').1/\aY L N T w (parts[j]'h).2 (pc[j]'h').2)->pE u place cells parts=some r->
  ∃c',Instr.fill place c pc=some c'/\cF L N T w r c'.toList:=by
 intro parts
 induction parts with
 |nil=>
  intro pc cells c r hr hl hp h;have:pc=[]:=ahT hl;subst this
  cases h
  exact⟨c,rfl,hr⟩
 |cons x rest ih=>
  intro pc cells c r hr hl hp h
  match pc,hl,hp with
  |y::yr,hl,hp=>
   obtain⟨i,v⟩:=x;obtain⟨i',u⟩:=y;obtain⟨e,hv⟩:=hp 0 (by simp) (by simp);simp only[aii] at e hv;subst e;simp only[pE] at h
   split at h
   ·rename_i off size xs e1 e2
    split at h
    ·rename_i hb;have hx:=Cd e2 (hu _ _ hv);have hlen:u.cells.size=size:=by have:=hx.1;simp at this;omega
     obtain⟨c',h1,h2⟩:=ih yr (Am.setMany cells off xs) (u.cells.toList.zipIdx.foldl (λcs (x:Value×Nat)=>cs.setIfInBounds (off+x.2) x.1) c) r (hr.setMany off hx (by omega)) (by simpa using hl)
      (λj hj hj'=>by have:=hp (j+1) (by simpa using hj) (by simpa using hj');simpa using this) h
     refine⟨c',?_,h2⟩;simp only[Instr.fill,e1];have hsz:c.size=cells.length:=by have:=hr.1;simpa using this
     rw[ahq (by simp;omega)];rw[<-h1]
     congr 1
     rw[<-Array.foldl_toList];simp
    ·cases h
   ·cases h
  |[],hl,hp=>simp at hl
def aZ (P:Program)(t:TypeId):Option (List AV):=
 match P.info? t with
 |some i=>match i.zero with
  |some z=>if z.cells.all (·.oneCell')&&z.cells.size==i.size then some (z.cells.toList.map yR) else none
  |none=>none
 |none=>none
def eH {N:Nat}{t:TypeId}{zs:List AV}(h:aZ P t=some zs):∃i z,P.info? t=some i/\i.zero=some z/\cF L N T w zs z.cells.toList/\z.cells.size=P.cellsOf t:=by
 unfold aZ at h
 split at h
 ·rename_i i hi
  split at h
  ·rename_i z hz
   split at h
   ·rename_i ha
    cases h
    simp only[aht,ajb] at ha;have ha1:=ha.1;rw[Array.all_eq_true] at ha1;refine⟨i,z,hi,hz,⟨by simp,λj hj=>by simpa using ha1 j (by simpa using hj),λj hj hj'=>?_⟩,by rw[ha.2];simp[Program.cellsOf,hi]⟩;simp only[aia];exact .yR _
   ·cases h
  ·cases h
 ·cases h
def kg {t:TypeId}{i:TypeInfo}{z:Value}(hi:P.info? t=some i)(hz:i.zero=some z)(w:World):(zeroValue t).run P w=.ok z w:=by
 simp[zeroValue,run_typeInfo w hi,hz]
def BA (P:Program)(t:TypeId)(parts:List (Nat×AV)):Option AV:=
 match aZ P t,P.underlying t with
 |some zs,some (.struct fs)=>if fs.toList.all (λf=>(P.underlying f.type).isSome) then (pE (rK t) (λi=>(fs[i]?).map λf=>(f.offset,P.cellsOf f.type)) zs parts).map .agg else none
 |some zs,some (.array _ e)=>if (P.underlying e).isSome then (pE cG (λi=>some (i*P.cellsOf e,P.cellsOf e)) zs parts).map .agg else none
 |_,_=>none
theorem run_places (fs:Array Field)(hf:∀f∈fs,(P.underlying f.type).isSome=true)(w:World) :
  (fs.mapM λf=>do pure (f.offset,<-sizeOf f.type):Sem (Array (Nat×Nat))).run P w=.ok (fs.map λf=>(f.offset,P.cellsOf f.type)) w:=by
 rw[Array.mapM_eq_mapM_toList];have key:∀l:List Field,(∀f∈l,(P.underlying f.type).isSome=true)->(l.mapM λf=>do pure (f.offset,<-sizeOf f.type):Sem (List (Nat×Nat))).run P w=.ok (l.map λf=>(f.offset,P.cellsOf f.type)) w:=by
  intro l
  induction l with
  |nil=>intro _;simp
  |cons f r ih=>
   intro h;obtain⟨d,hd⟩:=ahV.1 (h f (by simp));have:=ih (λg hg=>h g (by simp[hg]));simp only[mapM_cons,Sem.run_bind,cM hd,Result.andThen_ok,Sem.run_pure,this,ahX]
 have:=key fs.toList (λf RR=>hf f (by simpa using RR));simp only[Sem.run_map,this,Result.andThen_ok]
 congr 1
 apply Array.ext';simp
theorem run_build {t:TypeId}{parts:List (Nat×AV)}{pc:Array (Nat×Value)}{r:AV}(h:BA P t parts=some r)(hl:pc.size=parts.length)
  (hp:∀(j:Nat)(h:j<parts.length)(h':j<pc.toList.length),(parts[j]'h).1=(pc.toList[j]'h').1/\aY L H.length T w (parts[j]'h).2 (pc.toList[j]'h').2) :
  ∃cv,(Instr.build t pc).run P w=.ok cv w/\aY L H.length T w r cv:=by
 unfold BA at h
 split at h
 ·rename_i zs fs hz hu
  split at h
  ·rename_i hf;obtain⟨i,z,hi,u6,hr,_⟩:=eH (L:=L) (N:=H.length) (T:=T) (w:=w) hz
   cases su:pE (rK t) (λi=>(fs[i]?).map λf=>(f.offset,P.cellsOf f.type)) zs parts with
   |none=>rw[su] at h;cases h
   |some cs=>
    rw[su] at h
    cases h
    obtain⟨c',h1,h2⟩:=tt (λ_ _ h=>h.rK t) _ parts pc.toList zs z.cells cs hr (by simpa using hl) hp su;have zt:=run_places (P:=P) fs (λf hm=>ahQ.1 hf f (Array.mem_def.1 hm)) w;refine⟨.agg c',?_,by simpa using h2.agg⟩;have e:(fun(x:Nat)=>(fs.map fun(f:Field)=>(f.offset,P.cellsOf f.type))[x]?)=fun(i:Nat)=>(fs[i]?).map fun(f:Field)=>(f.offset,P.cellsOf f.type):=by
     funext x;simp
    simp only[Instr.build,Sem.run_bind,kg hi u6,Result.andThen_ok,run_underlying hu,zt,e,h1];rfl
  ·cases h
 ·rename_i zs n e hz hu
  split at h
  ·rename_i he;obtain⟨d,hd⟩:=ahV.1 he;obtain⟨i,z,hi,u6,hr,_⟩:=eH (L:=L) (N:=H.length) (T:=T) (w:=w) hz
   cases su:pE cG (λi=>some (i*P.cellsOf e,P.cellsOf e)) zs parts with
   |none=>rw[su] at h;cases h
   |some cs=>
    rw[su] at h
    cases h
    obtain⟨c',h1,h2⟩:=tt (λ_ _ h=>h.cG) _ parts pc.toList zs z.cells cs hr (by simpa using hl) hp su;refine⟨.agg c',?_,by simpa using h2.agg⟩;simp only[Instr.build,Sem.run_bind,kg hi u6,Result.andThen_ok,run_underlying hu,cM hd,h1];rfl
  ·cases h
 ·cases h
def gA (zs:List AV)(n:Nat):List AV:=(List.range n).map λi=>zs.getD (i % zs.length) .top
def qJ {N n:Nat}{zs:List AV}{z:Array Value}(hr:cF L N T w zs z.toList)(h0:0<zs.length\/n=0):cF L N T w (gA zs n) (madeCells z n).toList:=by
 have hz:z.size=zs.length:=by have:=hr.1;simpa using this
 refine⟨by simp[gA,madeCells],λj hj=>?_,λj hj hj'=>?_⟩
 ·have hj2:j<n:=by simpa[madeCells] using hj
  have hlt:j % zs.length<z.size:=by rw[hz];exact ajx _ (by omega)
  have:=hr.2.1 (j % zs.length) (by simpa using hlt);simp only[madeCells,Array.toList_map,Array.toList_range,aia,ajO];rw[ajh z _ (show j % z.size<z.size from ajx _ (by omega))];have e':j % z.size=j % zs.length:=by rw[hz]
  simp only[e'];simpa using this
 ·have hj2:j<n:=by simpa[madeCells] using hj'
  have hlt:j % zs.length<z.size:=by rw[hz];exact ajx _ (by omega)
  have hlt2:j % zs.length<zs.length:=by rw[hz] at hlt;exact hlt
  have:=hr.2.2 (j % zs.length) hlt2 (by simpa using hlt);simp only[madeCells,gA,Array.toList_map,Array.toList_range,aia,ajO];rw[ajh z _ (show j % z.size<z.size from ajx _ (by omega))];have e':j % z.size=j % zs.length:=by rw[hz]
  simp only[e'];have e:zs.getD (j % zs.length) .top=zs[j % zs.length]'hlt2:=by
   rw[ahg,ahi hlt2];rfl
  rw[e];simpa using this
def Nb (v:AV)(n:Nat):gA [v] n=List.replicate n v:=by
 unfold gA;apply ajd
 ·simp
 ·intro i h1 h2;simp[Nat.mod_one]
def mT (P:Program)(t:TypeId)(len:Nat)(parts:List (Nat×AV)):Option AV:=
 match P.underlying t with
 |some (.slice e)=>match aZ P e with
  |some zs=>if len*P.cellsOf e<=16777216/\0<P.cellsOf e/\zs.length=P.cellsOf e then (pE cG (λi=>some (i*P.cellsOf e,P.cellsOf e)) (gA zs (len*P.cellsOf e)) parts).map λcs=>.sl len cs .full else none
  |none=>none
 |_=>none
theorem yB {t:TypeId}{len:Nat}{parts:List (Nat×AV)}{pc:Array (Nat×Value)}{r:AV}(hc:bW L H T w)(h:mT P t len parts=some r)(hl:pc.size=parts.length)
  (hp:∀(j:Nat)(h:j<parts.length)(h':j<pc.toList.length),(parts[j]'h).1=(pc.toList[j]'h').1/\aY L H.length T w (parts[j]'h).2 (pc.toList[j]'h').2) :
  ∃cv w' L',(Instr.buildSlice t len pc).run P w=.ok cv w'/\bW L' H T w'/\aY L' H.length T w' r cv/\Ev H.length T.length L H.length T w L' H.length T w':=by
 unfold mT at h
 split at h
 ·rename_i e hu
  split at h
  ·rename_i zs hz
   split at h
   ·rename_i hb;obtain⟨i,z,hi,u6,hr,qM⟩:=eH (L:=L) (N:=H.length) (T:=T) (w:=w) hz
    cases su:pE cG (λi=>some (i*P.cellsOf e,P.cellsOf e)) (gA zs (len*P.cellsOf e)) parts with
    |none=>rw[su] at h;cases h
    |some cs=>
     rw[su] at h
     cases h
     obtain⟨c',h1,h2⟩:=tt (λ_ _ h=>h.cG) _ parts pc.toList _ (madeCells z.cells (len*P.cellsOf e)) cs (qJ hr (.inl (by omega))) (by simpa using hl) hp su;have hlen:c'.toList.length=cs.length:=h2.1;obtain⟨k1,k2,k3⟩:=hc.newRow c' e (0,0) (vs:=cs) cs.length (ahj _) (by rw[aiV (by omega)];exact h2) len len (ahj _) .full (.inr ⟨rfl,rfl⟩);refine⟨_,_,_,?_,k1,k3,k2⟩;have hsz:=run_sizeOf w hi;have n1:¬len*P.cellsOf e>2 ^ 24:=by omega
     by_cases h0:len*P.cellsOf e=0
     ·have hm:madeCells z.cells (len*P.cellsOf e)=(Array.range 0).map ((#[]:Array Value)[· % (#[]:Array Value).size]!):=by rw[h0];simp[madeCells]
      rw[hm] at h1;have n2:¬0>2 ^ 24:=by omega
      simp only[Instr.buildSlice,Sem.run_bind,run_underlying hu,Result.andThen_ok,hsz,h0,n2,ai5,ai1,pure_bind,h1,Sem.run_pure];rfl
     ·simp only[Instr.buildSlice,Sem.run_bind,run_underlying hu,Result.andThen_ok,hsz,h0,n1,ai5,pure_bind,bind_pure_comp,Sem.run_map,kg hi u6];have h1':=h1;unfold madeCells at h1';simp only[h1'];rfl
   ·cases h
  ·cases h
 ·cases h
def oh (P:Program)(t:TypeId)(len:Nat)(parts:List (Nat×AV)):Option (List AV):=
 match P.underlying t with
 |some (.slice e)=>match aZ P e with
  |some zs=>if len*P.cellsOf e<=16777216/\0<P.cellsOf e/\zs.length=P.cellsOf e then pE cG (λi=>some (i*P.cellsOf e,P.cellsOf e)) (gA zs (len*P.cellsOf e)) parts else none
  |none=>none
 |_=>none
def Cm {t:TypeId}{len:Nat}{parts:List (Nat×AV)}{pc:Array (Nat×Value)}{cs:List AV}(hc:bW L H T w)(h:oh P t len parts=some cs)(hl:pc.size=parts.length)
  (hp:∀(j:Nat)(h:j<parts.length)(h':j<pc.toList.length),(parts[j]'h).1=(pc.toList[j]'h').1/\aY L H.length T w (parts[j]'h).2 (pc.toList[j]'h').2) :
  ∃cv w' L',(Instr.buildSlice t len pc).run P w=.ok cv w'/\bW L' (H++[.cells cs]) T w'/\aY L' (H++[az.cells cs]).length T w' (.cK H.length 0 len) cv/\Ev H.length T.length L H.length T w L' (H++[az.cells cs]).length T w':=by
 unfold oh at h
 split at h
 ·rename_i e hu
  split at h
  ·rename_i zs hz
   split at h
   ·rename_i hb;obtain⟨i,z,hi,u6,hr,qM⟩:=eH (L:=L) (N:=H.length) (T:=T) (w:=w) hz;obtain⟨c',h1,h2⟩:=tt (λ_ _ h=>h.cG) _ parts pc.toList _ (madeCells z.cells (len*P.cellsOf e)) cs (qJ hr (.inl (by omega))) (by simpa using hl) hp h;obtain⟨L',k1,k2,k3⟩:=hc.rN c' e h2;refine⟨.slice (some ⟨w.heap.size,0,none⟩) len len,_,L',?_,k1,?_,k2⟩
    ·have hsz:=run_sizeOf w hi;have n1:¬len*P.cellsOf e>2 ^ 24:=by omega
     by_cases h0:len*P.cellsOf e=0
     ·have hm:madeCells z.cells (len*P.cellsOf e)=(Array.range 0).map ((#[]:Array Value)[· % (#[]:Array Value).size]!):=by rw[h0];simp[madeCells]
      rw[hm] at h1;have n2:¬0>2 ^ 24:=by omega
      simp only[Instr.buildSlice,Sem.run_bind,run_underlying hu,Result.andThen_ok,hsz,h0,n2,ai5,ai1,pure_bind,h1,Sem.run_pure];rfl
     ·simp only[Instr.buildSlice,Sem.run_bind,run_underlying hu,Result.andThen_ok,hsz,h0,n1,ai5,pure_bind,bind_pure_comp,Sem.run_map,kg hi u6];have h1':=h1;unfold madeCells at h1';simp only[h1'];rfl
    ·rw[<-k3];exact .cK _ _ _ _ (by simp) (ahj _)
   ·cases h
  ·cases h
 ·cases h
end
section
variable {P : Program} {L : Lay} {H : List az} {T : au} {w : World}
def Fy {t e:TypeId}{zs:List AV}(hc:bW L H T w)(hu:P.underlying t=some (.slice e))(hz:aZ P e=some zs)(zm:0<zs.length)(kl kc:IntKind)(n:Nat)(hb:n*P.bytesOf e<=281474976710656)(hn:n<=9223372036854775807) :
  ∃cv w' L',(Instr.makeSlice t (.int kl (n:Int)) (.int kc (n:Int))).run P w=.ok cv w'/\bW L' (H++[.cells (gA zs (n*P.cellsOf e))]) T w'/\aY L' (H++[az.cells (gA zs (n*P.cellsOf e))]).length T w' (.bG H.length n n) cv/\
   Ev H.length T.length L H.length T w L' (H++[az.cells (gA zs (n*P.cellsOf e))]).length T w':=by
 obtain⟨i,z,hi,u6,hr,qM⟩:=eH (L:=L) (N:=H.length) (T:=T) (w:=w) hz;have qO:P.bytesOf e=i.bytes:=by simp[Program.bytesOf,hi]
 have hsz:P.cellsOf e=i.size:=by simp[Program.cellsOf,hi]
 have hb':(i.bytes:Int)*(n:Int)<=281474976710656:=by
  rw[qO] at hb;have:((n*i.bytes:Nat):Int)<=281474976710656:=by omega
  rw[Int.natCast_mul,Int.mul_comm] at this;exact this
 have hm:=run_make (P:=P) w t e i z hu hi u6 kl kc n n (by omega) (Int.le_refl _) hb' (by omega);obtain⟨L',h1,h2,h3⟩:=hc.rN (madeCells z.cells (n*P.cellsOf e)) e (qJ (n:=n*P.cellsOf e) hr (.inl zm));refine⟨_,_,L',by rw[hm];simp only[Int.toNat_natCast,<-hsz];rfl,h1,?_,h2⟩;rw[<-h3];exact .bG H.length n n (by simp) (ahj _)
def Fx {t e:TypeId}{zs:List AV}(hc:bW L H T w)(hu:P.underlying t=some (.slice e))(hz:aZ P e=some zs)(zm:0<P.cellsOf e)(kl kc:IntKind)(n:Nat)(hb:n*P.bytesOf e<=281474976710656)(hn:n<=9223372036854775807) :
  ∃cv w' L',(Instr.makeSlice t (.int kl 0) (.int kc (n:Int))).run P w=.ok cv w'/\bW L' H (T++[(0,P.cellsOf e)]) w'/\aY L' H.length (T++[(0,P.cellsOf e)]) w' (.sl 0 [] (.own T.length)) cv/\
   Ev H.length T.length L H.length T w L' H.length (T++[(0,P.cellsOf e)]) w':=by
 obtain⟨i,z,hi,u6,hr,qM⟩:=eH (L:=L) (N:=H.length) (T:=T) (w:=w) hz;have qO:P.bytesOf e=i.bytes:=by simp[Program.bytesOf,hi]
 have hsz:P.cellsOf e=i.size:=by simp[Program.cellsOf,hi]
 have hb':(i.bytes:Int)*(n:Int)<=281474976710656:=by
  rw[qO] at hb;have:((n*i.bytes:Nat):Int)<=281474976710656:=by omega
  rw[Int.natCast_mul,Int.mul_comm] at this;exact this
 have hm:=run_make (P:=P) w t e i z hu hi u6 kl kc 0 n (Int.le_refl _) (by omega) hb' (by omega);have c1:=hc.alloc (.cells (madeCells z.cells (n*P.cellsOf e)) e) 0;have e1:=Ev.alloc hc (.cells (madeCells z.cells (n*P.cellsOf e)) e) 0;have I3:¬Wr (L.bS w.heap.size 0) H.length T w.heap.size:=hc.xh (ahj _)
 let k:Tk:=⟨w.heap.size,0,n⟩
 have hk:((L.bS w.heap.size 0).bp T.length k).ew T.length=k:=by simp[Lay.bp]
 refine⟨_,_,(L.bS w.heap.size 0).bp T.length k,by rw[hm];simp only[Int.toNat_natCast,<-hsz];rfl,c1.oD k 0 (P.cellsOf e) (λ_=>I3) ?_,?_,e1.oD (λ_=>.inl (ahj _))⟩
 ·refine⟨zm,λ_=>?_⟩;rw[hk];refine⟨_,e,(0,0),fP w _,by simp[k,size_madeCells],λo _ _=>by simp,?_⟩;simp[k,Lay.bp,Lay.bS]
 ·refine .zj (.own T.length) _ _ ⟨0,P.cellsOf e,by simp,ahj _,λ_=>.inr ?_⟩;rw[hk];simp[k]
def pF:Array Value->Nat->List Value->Array Value
 |c,_,[]=>c
 |c,o,v::r=>pF (c.setIfInBounds o v) (o+1) r
theorem Fv:∀(vs:List Value)(c:Array Value)(o:Nat),(pF c o vs).size=c.size:=by
 intro vs
 induction vs with
 |nil=>intro c o;rfl
 |cons v r ih=>intro c o;simp[pF,ih]
theorem Ac:∀(vs:List Value)(c:Array Value)(o j:Nat),j<o->(pF c o vs)[j]?=c[j]?:=by
 intro vs
 induction vs with
 |nil=>intro c o j _;rfl
 |cons v r ih=>
  intro c o j hj;rw[pF,ih _ _ _ (by omega),aji (by omega)]
theorem LA:∀(vs:List Value)(c:Array Value)(o j:Nat),o+vs.length<=c.size->j<vs.length->(pF c o vs)[o+j]?=vs[j]?:=by
 intro vs
 induction vs with
 |nil=>intro c o j _ h;simp at h
 |cons v r ih=>
  intro c o j hle hj;rw[pF]
  cases j with
  |zero=>
   rw[Ac _ _ _ _ (by omega)];simp at hle;have:o<c.size:=by omega
   simp[this]
  |succ j=>
   have:=ih (c.setIfInBounds o v) (o+1) j (by simp at hle ⊢;omega) (by simpa using hj);rw[show o+(j+1)=o+1+j by omega,this];simp
theorem y5:∀(vs:List Value)(w:World)(b o:Nat)(c:Array Value)(e:TypeId)(fr:Nat×Nat),w.heap[b]?=some (.cells c e fr)->
  (w.setCells b o vs).heap[b]?=some (.cells (pF c o vs) e fr)/\(∀x,x≠b->(w.setCells b o vs).heap[x]?=w.heap[x]?)/\(w.setCells b o vs).heap.size=w.heap.size/\
   (w.setCells b o vs).os=w.os/\(w.setCells b o vs).tape=w.tape/\(w.setCells b o vs).output=w.output/\(w.setCells b o vs).drawn=w.drawn:=by
 intro vs
 induction vs with
 |nil=>intro w b o c e fr h;exact⟨h,λ_ _=>rfl,rfl,rfl,rfl,rfl,rfl⟩
 |cons v r ih=>
  intro w b o c e fr h;have h1:=oX w b o v h;obtain⟨g1,g2,g3,g4,g5,g6,g7⟩:=ih (w.setCell ⟨b,o,none⟩ v) b (o+1) _ e fr h1;exact⟨g1,λx hx=>(g2 x hx).trans (gF w b o v x hx),by rw[World.setCells,g3];simp,g4,g5,g6,g7⟩
def jT (P:Program)(t:TypeId):Bool:=
 match P.underlying t with
 |some (.int _)=>false
 |some _=>true
 |none=>false
def HB {t:TypeId}(h:jT P t=true):∃d,P.underlying t=some d/\(∀k,d≠.int k):=by
 unfold jT at h
 split at h
 ·cases h
 ·rename_i d hn hu;exact⟨d,hu,λk e=>by subst e;exact hn k rfl⟩
 ·cases h
theorem fX {t t2 ty e:TypeId}{i:TypeInfo}{zv:Value}(hu:P.underlying t=some (.slice e))(h2:jT P t2=true)(hi:P.info? e=some i)(hz:i.zero=some zv)
  {a:Option Addr} {n cap m:Nat} {x:Value} {Zd new Ze:List Value} (hlen:(Builtin.lenOf x).run P w=.ok m w) (aad:(Builtin.firstCells i.size m x).run P w=.ok new.toArray w)
  (aac:(Builtin.firstCells i.size m x).run P w.drew=.ok Ze.toArray w.drew) (Z9:(Builtin.firstCells i.size n (.slice a n cap)).run P w.drew=.ok Zd.toArray w.drew) (hb:(n+m)*i.bytes<=140737488355328) (hm:n+m<=9223372036854775807) :
  (n+m<=cap->(Builtin.append_ #[t,t2] ty #[.slice a n cap,x]).run P w=((match a with|some a=>storeCells (a.add (n*i.size)) new|none=>pure ()).run P w).andThen λ_ w'=>.ok (.slice a (n+m) cap) w')/\
  (cap<n+m->∃nc,n+m<=nc/\(Builtin.append_ #[t,t2] ty #[.slice a n cap,x]).run P w =
   .ok (.slice (some ⟨w.heap.size,0,none⟩) (n+m) nc) (w.drew.alloc (.cells (Zd.toArray++Ze.toArray++Builtin.zeroCells zv.cells (nc-(n+m))) e))):=by
 obtain⟨d2,hd2,CD⟩:=HB h2;have aga:(d2 matches .int _)=false:=by
  cases d2<;>first|rfl|exact absurd rfl (CD _)
 have hsz:=run_sizeOf w hi;have yN:P.cellsOf e=i.size:=by simp[Program.cellsOf,hi]
 constructor
 ·intro hle;simp only[Builtin.append_,ahD,aj0,List.getElem?_cons_succ,Sem.run_bind,run_underlying hu,run_underlying hd2,Result.andThen_ok,hsz,Sem.run_pure,yN];simp only[aik,ai5,hlen,Result.andThen_ok,Sem.run_bind,hle,ai1,ajE,aad]
  cases a with
  |none=>rfl
  |some a=>simp only[Sem.run_bind];rfl
 ·intro hlt;obtain⟨nc,lC,hle⟩:∃nc,(Question.appendCap (n+m) cap e).cut (w.tape w.drawn (.appendCap (n+m) cap e))=nc/\n+m<=nc:=⟨_,rfl,by simp[Question.cut]⟩
  refine⟨nc,hle,?_⟩;have g1:¬n+m<=cap:=by omega
  have g2:¬(((n+m:Nat):Int)>IntKind.i64.max/\(False\/i.bytes=0)):=by
   have:IntKind.i64.max=9223372036854775807:=by decide
   rw[this];omega
  have g3:¬Builtin.nextslicecap (n+m) cap*i.bytes>2 ^ 48:=by
   have:=growslice_fits hlt hb;omega
  simp only[Builtin.append_,ahD,aj0,List.getElem?_cons_succ,Sem.run_bind,run_underlying hu,run_underlying hd2,Result.andThen_ok,hsz,Sem.run_pure,yN];simp only[aik,ai5,hlen,Result.andThen_ok,Sem.run_bind,g1,run_typeInfo w hi,g2,g3,ajE,ai1];simp only[run_choose,Question.forced,aik,ai5,lC,Result.andThen_ok,run_askRoom,World.drew_eq,run_typeInfo w.drew hi,Z9,aac,kg hi hz,newRow,Sem.run_bind,run_newObj,Sem.run_pure];rfl
def te (P:Program)(H:List az)(T:au)(t t2:TypeId)(s x:AV):Option (AV×au):=
 match P.underlying t,s with
 |some (.slice e),.sl n cs tg=>
  match gT H (P.cellsOf e) x with
  |some (m,ys)=>
   if cs.length=n*P.cellsOf e/\0<P.cellsOf e/\(n+m)*P.bytesOf e<=140737488355328/\n+m<=9223372036854775807/\jT P t2=true/\(aZ P e).isSome=true then
    match tg with
    |.full=>some (.sl (n+m) (cs++ys) (.own T.length),T++[((n+m)*P.cellsOf e,P.cellsOf e)])
    |.own k=>if T[k]?=some (cs.length,P.cellsOf e) then some (.sl (n+m) (cs++ys) (.own k),T.set k ((n+m)*P.cellsOf e,P.cellsOf e)) else none
    |.none=>none
   else none
  |none=>none
 |_,_=>none
def HV {t t2 ty:TypeId}{s x r:AV}{cs cx:Value}{T':au}(hc:bW L H T w)(h:te P H T t t2 s x=some (r,T'))(hs:aY L H.length T w s cs)(hx:aY L H.length T w x cx) :
  ∃cv w' L',(Builtin.append_ #[t,t2] ty #[cs,cx]).run P w=.ok cv w'/\bW L' H T' w'/\aY L' H.length T' w' r cv/\Ev H.length T.length L H.length T w L' H.length T' w':=by
 unfold te at h
 split at h
 ·rename_i e n cl tg hu
  split at h
  ·rename_i m ys m5
   split at h
   ·rename_i hb;obtain⟨hcl,tU,qO,ub,tX,qM⟩:=hb;obtain⟨zs,qM⟩:=ahV.1 qM;obtain⟨i,z,hi,u6,Rg,C9⟩:=eH (L:=L) (N:=H.length) (T:=T) (w:=w) qM;have vN:P.cellsOf e=i.size:=by simp[Program.cellsOf,hi]
    have Nr:P.bytesOf e=i.bytes:=by simp[Program.bytesOf,hi]
    rw[Nr] at qO;obtain⟨new,Gj,oT,hlen,hZ⟩:=eO (P:=P) hc hx m5;have yP:bW L H T w.drew:=hc.drew rfl;have kd:cX L H.length T w L H.length T w.drew:=(Ev.drew (H:=H) (T:=T) (L:=L) (w:=w) (w':=w.drew) rfl rfl rfl rfl (aid _)).keeps;obtain⟨lQ,_,oz,_,jC⟩:=eO (P:=P) yP (hx.keep kd) m5;obtain⟨a,cap,rfl,hcap,GD,xo⟩:=hs.fM;have hsd:=hs.keep kd;have jO:gT H (P.cellsOf e) (.sl n cl tg)=some (n,cl):=by simp[gT,hcl]
    obtain⟨old,_,sO,_,oU⟩:=eO (P:=P) yP hsd jO;have h2:=fX (P:=P) (w:=w) (ty:=ty) hu tX hi u6 (a:=a) (n:=n) (cap:=cap) (m:=m) hlen (vN▸hZ) (vN▸jC) (vN▸oU) qO ub;rw[<-vN] at h2;have grow:cap<n+m->∀(k:Nat)(Tn:au),((k=T.length/\Tn=T++[((n+m)*P.cellsOf e,P.cellsOf e)])\/(∃u,T[k]?=some (u,P.cellsOf e)/\u<(n+m)*P.cellsOf e/\Tn=T.set k ((n+m)*P.cellsOf e,P.cellsOf e)))->
      ∃cv w' L',(Builtin.append_ #[t,t2] ty #[.slice a n cap,cx]).run P w=.ok cv w'/\bW L' H Tn w'/\aY L' H.length Tn w' (.sl (n+m) (cl++ys) (.own k)) cv/\Ev H.length T.length L H.length T w L' H.length Tn w':=by
     intro hlt k Tn hk;obtain⟨nc,lC,cY⟩:=h2.2 hlt;have N6:=sO.append oz;have Vl:(old++lQ).length=(cl++ys).length:=N6.1;have vY:(cl++ys).length=(n+m)*P.cellsOf e:=by rw[ahk,hcl,Gj,aiA]
     have Z1:((old.toArray++lQ.toArray++Builtin.zeroCells z.cells (nc-(n+m))).toList.take (cl++ys).length)=old++lQ:=by
      have e1:(old.toArray++lQ.toArray++Builtin.zeroCells z.cells (nc-(n+m))).toList=(old++lQ)++(Builtin.zeroCells z.cells (nc-(n+m))).toList:=by simp
      rw[e1,<-Vl,aij rfl]
     obtain⟨k1,k2,k3⟩:=yP.newRow (old.toArray++lQ.toArray++Builtin.zeroCells z.cells (nc-(n+m))) e (0,0) (vs:=cl++ys) (cl++ys).length (ahj _) (by rw[Z1];exact N6) (n+m) nc lC .none (.inl rfl);have ed:Ev H.length T.length L H.length T w L H.length T w.drew:=Ev.drew rfl rfl rfl rfl (aid _);have I3:¬Wr (L.bS w.heap.size (cl++ys).length) H.length T w.heap.size:=hc.xh (ahj _)
     let tk:Tk:=⟨w.heap.size,0,nc⟩
     have Z5:(old.toArray++lQ.toArray++Builtin.zeroCells z.cells (nc-(n+m))).size=nc*P.cellsOf e:=by
      have h1:(old++lQ).length=(n+m)*P.cellsOf e:=by rw[Vl,vY]
      have h3:nc*P.cellsOf e=(n+m)*P.cellsOf e+(nc-(n+m))*P.cellsOf e:=by rw[<-add_mul];congr 1;omega
      simp only[Array.size_append,List.size_toArray,size_zeroCells,C9,h3];rw[<-h1];simp
     have NU:∀k',zP ((L.bS w.heap.size (cl++ys).length).bp k' tk) (w.drew.alloc (.cells (old.toArray++lQ.toArray++Builtin.zeroCells z.cells (nc-(n+m))) e)) k' ((n+m)*P.cellsOf e) (P.cellsOf e):=by
      intro k';have nB:((L.bS w.heap.size (cl++ys).length).bp k' tk).ew k'=tk:=by simp[Lay.bp]
      refine⟨tU,λ_=>?_⟩;rw[nB];refine⟨_,e,(0,0),fP w.drew _,by rw[Z5];simp[tk],λo _ _=>by simp,?_⟩;show (if tk.b=w.heap.size then (cl++ys).length else L.m tk.b)<=_;rw[ahs rfl,vY];exact Nat.le_add_left _ _
     have dI:∀Y3,(∀t' u z',T[t']?=some (u,z')->∃u',Y3[t']?=some (u',z')/\u<=u'/\(u'=u->t'≠k))->Y3[k]?=some ((n+m)*P.cellsOf e,P.cellsOf e)->
       aY ((L.bS w.heap.size (cl++ys).length).bp k tk) H.length Y3 (w.drew.alloc (.cells (old.toArray++lQ.toArray++Builtin.zeroCells z.cells (nc-(n+m))) e)) (.sl (n+m) (cl++ys) (.own k)) (.slice (some ⟨w.heap.size,0,none⟩) (n+m) nc):=by
      intro Y3 hT Kj;have kp:cX (L.bS w.heap.size (cl++ys).length) H.length T (w.drew.alloc (.cells (old.toArray++lQ.toArray++Builtin.zeroCells z.cells (nc-(n+m))) e)) ((L.bS w.heap.size (cl++ys).length).bp k tk) H.length Y3 (w.drew.alloc (.cells (old.toArray++lQ.toArray++Builtin.zeroCells z.cells (nc-(n+m))) e)):=by
       refine⟨ahj _,λ_ _=>rfl,λt' u z' qf=>?_,λ_=>ahj _,λ_ _ _=>rfl,rfl⟩;obtain⟨u',h1,h3,h4⟩:=hT t' u z' qf;refine⟨u',h1,h3,λe=>?_⟩;simp only[Lay.bp];rw[ahq (h4 e)]
      have:=k3.keep kp;obtain⟨a',cap',e1,jt,_,NC⟩:=this.fM
      cases e1
      have eV:0<(cl++ys).length:=by
       rw[vY];exact Nat.mul_pos (by omega) tU
      rcases NC with⟨e2,_⟩|⟨b,base,cv,e2,g1,g2,g3⟩
      ·rw[e2] at eV;simp at eV
      ·cases e2
       refine aY.mM jt g1 g2 g3 ⟨_,_,Kj,by rw[vY];exact ahj _,λ_=>.inr ?_⟩;simp[Lay.bp,tk]
     rcases hk with⟨rfl,rfl⟩|⟨u,Kj,kE,rfl⟩
     ·refine⟨_,_,_,cY,k1.oD tk _ _ (λ_=>I3) (NU _),dI _ (λt' u z' qf=>?_) (by simp),(ed.trans k2).oD (λ_=>.inl (ahj _))⟩;have hlt2:=(ahh.1 qf).1;exact⟨u,by rw[ahp hlt2];exact qf,ahj _,λ_=>by omega⟩
     ·have gV:=(ahh.1 Kj).1;refine⟨_,_,_,cY,k1.GQ Kj kE tk (λ_=>I3) (NU _),dI _ (λt' u' z' qf=>?_) (by rw[ahK gV]),(ed.trans k2).GQ Kj kE (λ_=>ahj _)⟩
      by_cases iH:t'=k
      ·subst iH;rw[Kj] at qf
       cases qf
       exact⟨_,by rw[ahK gV],by omega,λe=>by omega⟩
      ·exact⟨u',by rw[ah7 (λe=>iH e.symm)];exact qf,ahj _,λ_=>iH⟩
    have zero:m=0->(Builtin.append_ #[t,t2] ty #[.slice a n cap,cx]).run P w=.ok (.slice a n cap) w/\ys=[]:=by
     intro hm;subst hm;have hn0:new=[]:=ahT (by rw[oT.1];simpa using Gj);have hy0:ys=[]:=ahT (by simpa using Gj);have:=h2.1 (by omega);rw[hn0] at this;refine⟨?_,hy0⟩;rw[this]
     cases a<;>rfl
    split at h
    ·cases h
     rcases ahR m with hm|hm
     ·obtain⟨g1,g2⟩:=zero hm;subst hm;subst g2;refine⟨_,w,L.bp T.length ⟨0,0,0⟩,g1,hc.oD ⟨0,0,0⟩ _ _ (λh=>by simp at h) ⟨tU,λh=>by simp[Lay.bp] at h⟩,?_,
       (Ev.refl (ahj _) (ahj _)).oD (λh=>by simp at h)⟩
      have kp:cX L H.length T w (L.bp T.length ⟨0,0,0⟩) H.length (T++[((n+0)*P.cellsOf e,P.cellsOf e)]) w:=by
       refine⟨ahj _,λ_ _=>rfl,λt' u z' qf=>?_,λ_=>ahj _,λ_ _ _=>rfl,rfl⟩;have hlt2:=(ahh.1 qf).1;exact⟨u,by rw[ahp hlt2];exact qf,ahj _,λ_=>by simp only[Lay.bp];rw[ahq (by omega)]⟩
      have hs':=(hs.cG).keep kp;simp only[Am.cG] at hs';have tok:∀a',lY (L.bp T.length ⟨0,0,0⟩) (T++[((n+0)*P.cellsOf e,P.cellsOf e)]) (.own T.length) n cl.length a' cap:=λa'=>⟨(n+0)*P.cellsOf e,P.cellsOf e,by simp,by rw[hcl];simp,λ_=>.inl GD⟩
      obtain⟨a',cap',e1,jt,_,NC⟩:=hs'.fM
      cases e1
      rcases NC with⟨e2,e3⟩|⟨b,base,cv,e2,q1,q2,q3⟩
      ·subst e2;subst e3;simp only[ahH,ajJ];exact .zj _ _ _ (tok _)
      ·subst e2;simp only[ahH,ajJ];exact aY.mM jt q1 q2 q3 (tok _)
     ·have yO:cap=n:=GD;exact grow (by omega) T.length _ (.inl ⟨rfl,rfl⟩)
    ·rename_i k
     split at h
     ·rename_i Kj
      cases h
      have gV:=(ahh.1 Kj).1;rcases ahR m with hm|hm
      ·obtain⟨g1,g2⟩:=zero hm;subst hm;subst g2;have hT:T.set k ((n+0)*P.cellsOf e,P.cellsOf e)=T:=by
        apply aja;intro j
        by_cases hj:k=j
        ·subst hj;rw[ahK gV,Kj,hcl];simp
        ·rw[ah7 hj]
       rw[hT];refine⟨_,w,L,g1,hc,by simpa using hs,Ev.refl (ahj _) (ahj _)⟩
      ·rcases ahr cap (n+m) with hlt|hge
       ·exact grow hlt k _ (.inr ⟨cl.length,Kj,by rw[hcl];exact Nat.mul_lt_mul_of_pos_right (by omega) tU,rfl⟩)
       ·
        obtain⟨u0,z0,hT0,hle0,himp⟩:=GD;rw[Kj] at hT0
        cases hT0
        rcases himp rfl with h0|⟨ha,Ox⟩
        ·omega
        ·have cY:=h2.1 hge;have Gm:cl.length<(L.ew k).c*P.cellsOf e:=by
          rw[<-Ox,hcl];exact Nat.mul_lt_mul_of_pos_right (by omega) tU
         obtain⟨_,ua⟩:=hc.tok k _ _ Kj;obtain⟨cc,ee,fr,g1,g2,g3,g4⟩:=ua Gm;have hmz:cl.length+m*P.cellsOf e<=(L.ew k).c*P.cellsOf e:=by
          rw[<-Ox,hcl,<-add_mul];exact ail _ hge
         have agL:new.length=m*P.cellsOf e:=by rw[oT.1,Gj]
         have hst:=run_storeCells_cells (P:=P) (L.ew k).b ((L.ew k).o+cl.length) new 0 w
          (λj hj=>by
           rw[gE g1];rw[ai7 (show (L.ew k).o+cl.length+0+j<cc.size by omega)];rfl)
          (λj hj=>by
           unfold World.frozen?;simp only[g1];exact g3 _ (by omega) (by omega))
          (λv hv=>by
           obtain⟨j,hj,e1⟩:=ahB.1 hv;rw[<-e1];exact oT.2.1 j hj)
         obtain⟨s1,s2,s3,s4,s5,s6,s7⟩:=y5 new w (L.ew k).b ((L.ew k).o+cl.length) cc ee fr g1;have vY:cl.length+m*P.cellsOf e=(n+m)*P.cellsOf e:=by rw[hcl,aiA]
         obtain⟨c1,e1⟩:=hc.grow Kj (k:=m*P.cellsOf e) (Nat.mul_pos hm tU) hmz g1 s1 (Fv _ _ _) (λj hj=>Ac _ _ _ _ hj) s2 s3 s4 s5 s6 (Nat.le_of_eq s7.symm);rw[vY] at c1 e1;refine⟨.slice a (n+m) cap,_,_,?_,c1,?_,e1⟩
         ·rw[cY,ha];simp only[fo,<-hcl];rw[hst];rfl
         ·have hsk:=hs.keep e1.keeps;obtain⟨a',cap',e3,jt,Wh,NC⟩:=hsk.fM
          cases e3
          have N6:cF ((L.bS (L.ew k).b ((L.ew k).o+cl.length+m*P.cellsOf e))) H.length (T.set k ((n+m)*P.cellsOf e,P.cellsOf e)) (w.setCells (L.ew k).b ((L.ew k).o+cl.length) new) ys new:=oT.keep e1.keeps;have tok:lY (L.bS (L.ew k).b ((L.ew k).o+cl.length+m*P.cellsOf e)) (T.set k ((n+m)*P.cellsOf e,P.cellsOf e)) (.own k) (n+m) (cl++ys).length (some ⟨(L.ew k).b,(L.ew k).o,none⟩) cap:=
           ⟨_,_,by rw[ahK gV],by rw[ahk,Gj,vY];exact ahj _,λ_=>.inr ⟨rfl,Ox⟩⟩
          have Vj:(L.ew k).o+(cl++ys).length<=(L.bS (L.ew k).b ((L.ew k).o+cl.length+m*P.cellsOf e)).m (L.ew k).b:=by
           simp only[Lay.bS,ai1,ahk,Gj];omega
          subst ha;have Vb:∀j,j<ys.length->(w.setCells (L.ew k).b ((L.ew k).o+cl.length) new).cell? ⟨(L.ew k).b,(L.ew k).o+cl.length+j,none⟩=new[j]?:=by
           intro j hj;rw[gE s1,LA _ _ _ _ (by omega) (by omega)]
          rcases NC with⟨e2,e3⟩|⟨b,base,cv,e2,q1,q2,q3⟩
          ·subst e2;subst e3;refine aY.mM (cv:=new) hge Vj (by simpa using N6) (λj hj=>?_) tok;have:=Vb j (by simpa using hj);simpa using this
          ·cases e2
           refine aY.mM (cv:=cv++new) hge Vj (q2.append N6) (λj hj=>?_) tok;have Rt:cv.length=cl.length:=q2.1;rcases ahr j cl.length with hj1|hj1
           ·rw[q3 j hj1,ahp (by omega)]
           ·have:=Vb (j-cl.length) (by simp at hj;omega);rw[ahC (by omega),Rt,<-this]
            congr 2
            omega
     ·cases h
    ·cases h
   ·cases h
  ·cases h
 ·cases h
def oJ (P:Program)(H:List az)(t t2:TypeId)(s x:AV):Option (Nat×List AV):=
 match P.underlying t,s with
 |some (.slice e),.sl 0 [] .full=>
  match gT H (P.cellsOf e) x with
  |some (m,ys)=>if 0<m/\0<P.cellsOf e/\m*P.bytesOf e<=140737488355328/\m<=9223372036854775807/\jT P t2=true/\(aZ P e).isSome=true then some (m,ys) else none
  |none=>none
 |_,_=>none
def nh {z:Array Value}{n:Nat}{v:Value}(h:v∈(Builtin.zeroCells z n).toList):v∈z.toList:=by
 unfold Builtin.zeroCells at h;simp only[Array.toList_map,Array.toList_range,ahl,ahI] at h;obtain⟨i,hi,rfl⟩:=h;have hz:0<z.size:=by
  rcases ahR z.size with h0|h0
  ·rw[h0] at hi;simp at hi
  ·exact h0
 have hlt:i % z.size<z.size:=ajx _ hz;rw[ajh z _ hlt];simp
def cF.V2 {N:Nat}{T:au}(l:List Value)(h:∀v∈l,v.oneCell'=true):cF L N T w (List.replicate l.length .top) l:=by
 refine⟨by simp,λj hj=>h _ (ahP hj),λj hj hj'=>?_⟩;rw[List.getElem_replicate];exact .top _
def HX {t t2 ty:TypeId}{s x:AV}{cs cx:Value}{m:Nat}{ys:List AV}(hc:bW L H T w)(h:oJ P H t t2 s x=some (m,ys))(hs:aY L H.length T w s cs)(hx:aY L H.length T w x cx) :
  ∃k cv w' L',(Builtin.append_ #[t,t2] ty #[cs,cx]).run P w=.ok cv w'/\bW L' (H++[.cells (ys++List.replicate k .top)]) T w'/\aY L' (H++[az.cells (ys++List.replicate k .top)]).length T w' (.cK H.length 0 m) cv/\
   Ev H.length T.length L H.length T w L' (H++[az.cells (ys++List.replicate k .top)]).length T w':=by
 unfold oJ at h
 split at h
 ·rename_i e hu
  split at h
  ·rename_i m' ys' m5
   split at h
   ·rename_i hb
    cases h
    obtain⟨hm,tU,qO,ub,tX,qM⟩:=hb;obtain⟨zs,qM⟩:=ahV.1 qM;obtain⟨i,z,hi,u6,Rg,C9⟩:=eH (L:=L) (N:=H.length) (T:=T) (w:=w) qM;have vN:P.cellsOf e=i.size:=by simp[Program.cellsOf,hi]
    have Nr:P.bytesOf e=i.bytes:=by simp[Program.bytesOf,hi]
    rw[Nr] at qO;obtain⟨new,Gj,oT,hlen,hZ⟩:=eO (P:=P) hc hx m5;have yP:bW L H T w.drew:=hc.drew rfl;have kd:cX L H.length T w L H.length T w.drew:=(Ev.drew (H:=H) (T:=T) (L:=L) (w:=w) (w':=w.drew) rfl rfl rfl rfl (aid _)).keeps;obtain⟨lQ,_,oz,_,jC⟩:=eO (P:=P) yP (hx.keep kd) m5;obtain⟨a,cap,rfl,hcap,GD,xo⟩:=hs.fM;have hsd:=hs.keep kd;have jO:gT H (P.cellsOf e) (.sl 0 [] .full)=some (0,[]):=by simp[gT]
    obtain⟨old,_,sO,_,oU⟩:=eO (P:=P) yP hsd jO;have hold:old=[]:=ahT (by rw[sO.1];rfl);subst hold;have h2:=fX (P:=P) (w:=w) (ty:=ty) hu tX hi u6 (a:=a) (n:=0) (cap:=cap) (m:=m) hlen (vN▸hZ) (vN▸jC) (vN▸oU) (by simpa using qO) (by simpa using ub);have aao:cap=0:=GD;obtain⟨nc,lC,cY⟩:=h2.2 (by omega);have Dq:∀v∈(Builtin.zeroCells z.cells (nc-(0+m))).toList,v.oneCell'=true:=by
     intro v hv;obtain⟨j,hj,e1⟩:=ahB.1 (nh hv);rw[<-e1];exact Rg.2.1 j hj
    have rG:cF L H.length T w.drew (ys++List.replicate (Builtin.zeroCells z.cells (nc-(0+m))).toList.length .top) (([]:List Value).toArray++lQ.toArray++Builtin.zeroCells z.cells (nc-(0+m))).toList:=by
     have:=oz.append (cF.V2 (L:=L) (N:=H.length) (T:=T) (w:=w.drew) _ Dq);simpa using this
    obtain⟨L',g1,g2,g3⟩:=yP.rN _ e rG;have ed:Ev H.length T.length L H.length T w L H.length T w.drew:=Ev.drew rfl rfl rfl rfl (aid _);refine⟨_,_,_,L',cY,g1,?_,ed.trans g2⟩;have:=aY.cK (L:=L') (T:=T) (w:=w.drew.alloc (.cells (([]:List Value).toArray++lQ.toArray++Builtin.zeroCells z.cells (nc-(0+m))) e)) H.length 0 m nc
     (show H.length<(H++[az.cells (ys++List.replicate (Builtin.zeroCells z.cells (nc-(0+m))).toList.length .top)]).length by simp) (by omega)
    rw[g3] at this;simpa using this
   ·cases h
  ·cases h
 ·cases h
def Jj (P:Program)(H:List az)(t t2:TypeId)(s x:AV):Option AV:=
 match s with
 |.cK i o n=>match P.underlying t with
  |some (.slice e)=>match gT H (P.cellsOf e) (.cK i o n),gT H (P.cellsOf e) x with
   |some _,some (0,_)=>if n*P.bytesOf e<=140737488355328/\n<=9223372036854775807/\jT P t2=true/\(aZ P e).isSome=true then some (.cK i o n) else none
   |_,_=>none
  |_=>none
 |_=>none
def PO {t t2 ty:TypeId}{s x r:AV}{cs cx:Value}(hc:bW L H T w)(h:Jj P H t t2 s x=some r)(hs:aY L H.length T w s cs)(hx:aY L H.length T w x cx) :
  ∃cv,(Builtin.append_ #[t,t2] ty #[cs,cx]).run P w=.ok cv w/\aY L H.length T w r cv:=by
 unfold Jj at h
 split at h
 ·rename_i i o n
  split at h
  ·rename_i e hu
   split at h
   ·rename_i p ys jO m5
    split at h
    ·rename_i hb
     cases h
     obtain⟨qO,ub,tX,qM⟩:=hb;obtain⟨zs,qM⟩:=ahV.1 qM;obtain⟨i',z,hi,u6,Rg,C9⟩:=eH (L:=L) (N:=H.length) (T:=T) (w:=w) qM;have vN:P.cellsOf e=i'.size:=by simp[Program.cellsOf,hi]
     have Nr:P.bytesOf e=i'.bytes:=by simp[Program.bytesOf,hi]
     rw[Nr] at qO;obtain⟨new,Gj,oT,hlen,hZ⟩:=eO (P:=P) hc hx m5;have yP:bW L H T w.drew:=hc.drew rfl;have kd:cX L H.length T w L H.length T w.drew:=(Ev.drew (H:=H) (T:=T) (L:=L) (w:=w) (w':=w.drew) rfl rfl rfl rfl (aid _)).keeps;obtain⟨lQ,_,oz,_,jC⟩:=eO (P:=P) yP (hx.keep kd) m5;obtain⟨cap,rfl,hcap,eN⟩:=hs.j6;have hsd:=hs.keep kd;have hpn:p.1=n:=by
      unfold gT at jO;simp only at jO
      split at jO
      ·split at jO
       ·cases jO;rfl
       ·cases jO
      ·cases jO
     obtain⟨pm,pys⟩:=p;simp only at hpn;subst hpn;obtain⟨old,_,sO,_,oU⟩:=eO (P:=P) yP hsd jO;have h2:=fX (P:=P) (w:=w) (ty:=ty) hu tX hi u6 (a:=some ⟨L.bO i,o,none⟩) (n:=pm) (cap:=cap) (m:=0) hlen (vN▸hZ) (vN▸jC) (vN▸oU) (by simpa using qO) (by simpa using ub);have hn0:new=[]:=ahT (by rw[oT.1];simpa using Gj);have:=h2.1 (by omega);rw[hn0] at this;refine⟨_,?_,hs⟩;rw[this];rfl
    ·cases h
   ·cases h
  ·cases h
 ·cases h
theorem Hz (xs:List AV):∀(vs:List AV)(o:Nat),o+xs.length<=vs.length->setMany vs o xs=vs.take o++xs++vs.drop (o+xs.length):=by
 induction xs with
 |nil=>intro vs o h;simp[setMany]
 |cons x r ih=>
  intro vs o h;rw[ahS] at h;rw[setMany,ih _ _ (by simp;omega)];have h1:(vs.set o x).take (o+1)=vs.take o++[x]:=by
   rw[aiG (by simp;omega),List.getElem_set_self]
   congr 1
   apply aja;intro j;rw[ah9,ah9]
   split
   ·rw[ah7 (by omega)]
   ·rfl
  have h2:(vs.set o x).drop (o+1+r.length)=vs.drop (o+(r.length+1)):=by
   rw[List.drop_set_of_lt (by omega)]
   congr 1
   omega
  rw[h1,h2];simp
def D4 {t t2 ty e:TypeId}{i n cap m:Nat}{vs xs:List AV}{x:AV}{cs cx:Value}(hc:bW L H T w)(hs:aY L H.length T w (.bG i n cap) cs)(hx:aY L H.length T w x cx)
  (hu:P.underlying t=some (.slice e)) (hH:H[i]?=some (.cells vs)) (Nl:vs.length=cap*P.cellsOf e) (m5:gT H (P.cellsOf e) x=some (m,xs)) (qO:(n+m)*P.bytesOf e<=140737488355328) (ub:n+m<=9223372036854775807)
  (tX:jT P t2=true) (qM:(aZ P e).isSome=true) :
  (n+m<=cap/\∃cv w' L',(Builtin.append_ #[t,t2] ty #[cs,cx]).run P w=.ok cv w'/\bW L' (H.set i (.cells (vs.take (n*P.cellsOf e)++xs++vs.drop ((n+m)*P.cellsOf e)))) T w'/\
   aY L' (H.set i (.cells (vs.take (n*P.cellsOf e)++xs++vs.drop ((n+m)*P.cellsOf e)))).length T w' (.bG i (n+m) cap) cv/\
   Ev H.length T.length L H.length T w L' (H.set i (.cells (vs.take (n*P.cellsOf e)++xs++vs.drop ((n+m)*P.cellsOf e)))).length T w')\/
  (cap<n+m/\∃nc,n+m<=nc/\∃cv w' L',(Builtin.append_ #[t,t2] ty #[cs,cx]).run P w=.ok cv w'/\bW L' (H++[.cells (vs.take (n*P.cellsOf e)++xs++List.replicate ((nc-(n+m))*P.cellsOf e) .top)]) T w'/\
   aY L' (H++[az.cells (vs.take (n*P.cellsOf e)++xs++List.replicate ((nc-(n+m))*P.cellsOf e) .top)]).length T w' (.bG H.length (n+m) nc) cv/\
   Ev H.length T.length L H.length T w L' (H++[az.cells (vs.take (n*P.cellsOf e)++xs++List.replicate ((nc-(n+m))*P.cellsOf e) .top)]).length T w'):=by
 obtain⟨zs,qM⟩:=ahV.1 qM;obtain⟨ti,z,hi,u6,Rg,C9⟩:=eH (L:=L) (N:=H.length) (T:=T) (w:=w) qM;have vN:P.cellsOf e=ti.size:=by simp[Program.cellsOf,hi]
 have Nr:P.bytesOf e=ti.bytes:=by simp[Program.bytesOf,hi]
 rw[Nr] at qO;obtain⟨new,Gj,oT,hlen,hZ⟩:=eO (P:=P) hc hx m5;have yP:bW L H T w.drew:=hc.drew rfl;have ed:Ev H.length T.length L H.length T w L H.length T w.drew:=Ev.drew rfl rfl rfl rfl (aid _);have kd:cX L H.length T w L H.length T w.drew:=ed.keeps;obtain⟨lQ,_,oz,_,jC⟩:=eO (P:=P) yP (hx.keep kd) m5;obtain⟨rfl,hcap,eN⟩:=hs.iv;have hnz:n*P.cellsOf e<=vs.length:=by rw[Nl];exact ail _ hcap
 have hsd:aY L H.length T w.drew (.cK i 0 n) (.slice (some ⟨L.bO i,0,none⟩) n cap):=.cK i 0 n cap eN hcap;have jO:gT H (P.cellsOf e) (.cK i 0 n)=some (n,vs.take (n*P.cellsOf e)):=by simp[gT,hH,hnz]
 obtain⟨old,_,sO,_,oU⟩:=eO (P:=P) yP hsd jO;have h2:=fX (P:=P) (w:=w) (ty:=ty) hu tX hi u6 (a:=some ⟨L.bO i,0,none⟩) (n:=n) (cap:=cap) (m:=m) hlen (vN▸hZ) (vN▸jC) (vN▸oU) qO ub;rw[<-vN] at h2;rcases ahr cap (n+m) with hlt|hle
 ·refine .inr ⟨hlt,?_⟩;obtain⟨nc,lC,cY⟩:=h2.2 hlt;have Dq:∀v∈(Builtin.zeroCells z.cells (nc-(n+m))).toList,v.oneCell'=true:=by
   intro v hv;obtain⟨j,hj,e1⟩:=ahB.1 (nh hv);rw[<-e1];exact Rg.2.1 j hj
  have zm:(Builtin.zeroCells z.cells (nc-(n+m))).toList.length=(nc-(n+m))*P.cellsOf e:=by
   rw[Array.length_toList,size_zeroCells,C9]
  have Ds:=cF.V2 (L:=L) (N:=H.length) (T:=T) (w:=w.drew) _ Dq;rw[zm] at Ds;have rG:cF L H.length T w.drew (vs.take (n*P.cellsOf e)++xs++List.replicate ((nc-(n+m))*P.cellsOf e) .top) (old.toArray++lQ.toArray++Builtin.zeroCells z.cells (nc-(n+m))).toList:=by
   have:=(sO.append oz).append Ds;simpa using this
  obtain⟨L',g1,g2,g3⟩:=yP.rN _ e rG;refine⟨nc,lC,_,_,L',cY,g1,?_,ed.trans g2⟩;have:=aY.bG (L:=L') (T:=T) (w:=w.drew.alloc (.cells (old.toArray++lQ.toArray++Builtin.zeroCells z.cells (nc-(n+m))) e)) H.length (n+m) nc
   (show H.length<(H++[az.cells (vs.take (n*P.cellsOf e)++xs++List.replicate ((nc-(n+m))*P.cellsOf e) .top)]).length by simp) lC
  rw[g3] at this;exact this
 ·refine .inl ⟨hle,?_⟩;have cY:=h2.1 hle;have hle2:n*P.cellsOf e+0+xs.length<=vs.length:=by
   rw[Nl,Gj,ajJ,<-add_mul];exact ail _ hle
  obtain⟨w',hst,hc2,dD⟩:=nm (P:=P) i (n*P.cellsOf e) xs new 0 H w vs hc oT hH hle2;have Rl:setMany vs (n*P.cellsOf e+0) xs=vs.take (n*P.cellsOf e)++xs++vs.drop ((n+m)*P.cellsOf e):=by
   rw[Hz _ _ _ (by simpa using hle2),Gj,ajJ,<-add_mul]
  rw[Rl] at hc2 dD;refine⟨.slice (some ⟨L.bO i,0,none⟩) (n+m) cap,w',L,?_,hc2,?_,dD⟩
  ·rw[cY];simp only[fo,aiv,hst,Result.andThen_ok]
  ·exact .bG i (n+m) cap (by simpa using eN) hle
def FC {t t2 ty e:TypeId}{s x:AV}{cs cx:Value}{m:Nat}{ys:List AV}(hc:bW L H T w)(h:oJ P H t t2 s x=some (m,ys))(hu:P.underlying t=some (.slice e))(hs:aY L H.length T w s cs)(hx:aY L H.length T w x cx) :
  ∃nc,m<=nc/\∃cv w' L',(Builtin.append_ #[t,t2] ty #[cs,cx]).run P w=.ok cv w'/\bW L' (H++[.cells (ys++List.replicate ((nc-m)*P.cellsOf e) .top)]) T w'/\aY L' (H++[az.cells (ys++List.replicate ((nc-m)*P.cellsOf e) .top)]).length T w' (.bG H.length m nc) cv/\
   Ev H.length T.length L H.length T w L' (H++[az.cells (ys++List.replicate ((nc-m)*P.cellsOf e) .top)]).length T w':=by
 unfold oJ at h
 split at h
 ·rename_i e' hu';rw[hu] at hu'
  cases hu'
  split at h
  ·rename_i m' ys' m5
   split at h
   ·rename_i hb
    cases h
    obtain⟨hm,tU,qO,ub,tX,qM⟩:=hb;obtain⟨zs,qM⟩:=ahV.1 qM;obtain⟨i,z,hi,u6,Rg,C9⟩:=eH (L:=L) (N:=H.length) (T:=T) (w:=w) qM;have vN:P.cellsOf e=i.size:=by simp[Program.cellsOf,hi]
    have Nr:P.bytesOf e=i.bytes:=by simp[Program.bytesOf,hi]
    rw[Nr] at qO;obtain⟨new,Gj,oT,hlen,hZ⟩:=eO (P:=P) hc hx m5;have yP:bW L H T w.drew:=hc.drew rfl;have kd:cX L H.length T w L H.length T w.drew:=(Ev.drew (H:=H) (T:=T) (L:=L) (w:=w) (w':=w.drew) rfl rfl rfl rfl (aid _)).keeps;obtain⟨lQ,_,oz,_,jC⟩:=eO (P:=P) yP (hx.keep kd) m5;obtain⟨a,cap,rfl,hcap,GD,xo⟩:=hs.fM;have hsd:=hs.keep kd;have jO:gT H (P.cellsOf e) (.sl 0 [] .full)=some (0,[]):=by simp[gT]
    obtain⟨old,_,sO,_,oU⟩:=eO (P:=P) yP hsd jO;have hold:old=[]:=ahT (by rw[sO.1];rfl);subst hold;have h2:=fX (P:=P) (w:=w) (ty:=ty) hu tX hi u6 (a:=a) (n:=0) (cap:=cap) (m:=m) hlen (vN▸hZ) (vN▸jC) (vN▸oU) (by simpa using qO) (by simpa using ub);have aao:cap=0:=GD;obtain⟨nc,lC,cY⟩:=h2.2 (by omega);rw[aiv] at lC cY;have Dq:∀v∈(Builtin.zeroCells z.cells (nc-m)).toList,v.oneCell'=true:=by
     intro v hv;obtain⟨j,hj,e1⟩:=ahB.1 (nh hv);rw[<-e1];exact Rg.2.1 j hj
    have zm:(Builtin.zeroCells z.cells (nc-m)).toList.length=(nc-m)*P.cellsOf e:=by
     rw[Array.length_toList,size_zeroCells,C9]
    have Ds:=cF.V2 (L:=L) (N:=H.length) (T:=T) (w:=w.drew) _ Dq;rw[zm] at Ds;have rG:cF L H.length T w.drew (ys++List.replicate ((nc-m)*P.cellsOf e) .top) (([]:List Value).toArray++lQ.toArray++Builtin.zeroCells z.cells (nc-m)).toList:=by
     have:=oz.append Ds;simpa using this
    obtain⟨L',g1,g2,g3⟩:=yP.rN _ e rG;have ed:Ev H.length T.length L H.length T w L H.length T w.drew:=Ev.drew rfl rfl rfl rfl (aid _);refine⟨nc,lC,_,_,L',cY,g1,?_,ed.trans g2⟩;have:=aY.bG (L:=L') (T:=T) (w:=w.drew.alloc (.cells (([]:List Value).toArray++lQ.toArray++Builtin.zeroCells z.cells (nc-m)) e)) H.length m nc
     (show H.length<(H++[az.cells (ys++List.replicate ((nc-m)*P.cellsOf e) .top)]).length by simp) lC
    rw[g3] at this;exact this
   ·cases h
  ·cases h
 ·cases h
end
@[simp] def KC.av:KC->AV
 |.int k n=>.int k n
 |.str s=>.str s
 |.bool b=>.bool b
@[simp] def cQ.av:cQ->AV
 |.one c=>c.av
 |.agg cs=>.agg (cs.map KC.av)
@[simp] def Si:AV->Option KC
 |.int k n=>some (.int k n)
 |.str s=>some (.str s)
 |.bool b=>some (.bool b)
 |_=>none
@[simp] def Dp:List AV->Option (List KC)
 |[]=>some []
 |v::r=>match Si v,Dp r with
  |some c,some cs=>some (c::cs)
  |_,_=>none
@[simp] def I8:AV->Option cQ
 |.agg cs=>(Dp cs).map .agg
 |v=>(Si v).map .one
@[simp] def vR:List (cQ×AV)->cQ->Option AV
 |[],_=>none
 |(k',v)::r,k=>if k'=k then some v else vR r k
@[simp] def kT:List (cQ×AV)->cQ->AV->List (cQ×AV)
 |[],k,v=>[(k,v)]
 |(k',u)::r,k,v=>if k'=k then (k,v)::r else (k',u)::kT r k v
def jg (es:List (cQ×AV))(k:cQ)(z:AV)(ok:Bool):AV:=
 if ok then .df [(vR es k).getD z,.bool (vR es k).isSome] else (vR es k).getD z
def Wb (P:Program)(k:TypeId):Bool:=
 match P.underlying k with
 |some .bool|some (.int _)|some .string=>true
 |some (.array _ _)|some (.struct _)=>P.keyTypeAt 3 k&&P.tiled 3 k
 |_=>false
def vT (P:Program)(t:TypeId):Option (TypeId×TypeId):=
 match P.underlying t with
 |some (.map k e)=>if Wb P k then some (k,e) else none
 |_=>none
def mN (P:Program)(kt:TypeId)(k:cQ):Bool:=(keyOf P kt k.val).isSome
def dq (P:Program)(kt:TypeId)(es:List (cQ×AV)):Bool:=es.all λe=>mN P kt e.1
def pM (P:Program)(t:TypeId):Option AV:=(P.info? t).bind λi=>i.zero.map RJ
theorem qc {P:Program}{kt:TypeId}{es:List (cQ×AV)}{k:cQ}{v:AV}(h:dq P kt es=true)(hk:mN P kt k=true):dq P kt (kT es k v)=true:=by
 induction es with
 |nil=>simp[dq,hk]
 |cons x r ih=>
  obtain⟨k',u⟩:=x;simp only[dq,all_cons,aht] at h ih ⊢;simp only[kT]
  split
  ·simp only[all_cons,aht];exact⟨hk,h.2⟩
  ·simp only[all_cons,aht];exact⟨h.1,ih h.2⟩
theorem qw {es:List (cQ×AV)}{k:cQ}(h:∀e∈es,e.1≠k):vR es k=none:=by
 induction es with
 |nil=>rfl
 |cons x r ih=>simp only[vR,ahq (h x (by simp))];exact ih λe he=>h e (by simp[he])
theorem nW {es:List (cQ×AV)}{k:cQ}{v:AV}(h:∀e∈es,e.1≠k):kT es k v=es++[(k,v)]:=by
 induction es with
 |nil=>rfl
 |cons x r ih=>
  simp only[kT,ahq (h x (by simp)),ajv];rw[ih λe he=>h e (by simp[he])]
theorem wo {es:List (cQ×AV)}{k:cQ}(hn:(es.map (·.1)).Nodup):∀{j:Nat} (hj:j<es.length),(es[j]).1=k->vR es k=some (es[j]).2:=by
 induction es with
 |nil=>intro j hj;simp at hj
 |cons x r ih=>
  intro j hj he;simp only[ahX,ajz] at hn
  cases j with
  |zero=>simp only[aii] at he ⊢;simp[vR,he]
  |succ j=>
   simp only[ajj] at he ⊢;have:x.1≠k:=λe=>hn.1 (by rw[e,<-he];exact ahl.2 ⟨_,ahP _,rfl⟩);simp only[vR,ahq this];exact ih hn.2 _ he
theorem BO {es:List (cQ×AV)}{k:cQ}{v:AV}(hn:(es.map (·.1)).Nodup):∀{j:Nat} (hj:j<es.length),(es[j]).1=k->kT es k v=es.set j (k,v):=by
 induction es with
 |nil=>intro j hj;simp at hj
 |cons x r ih=>
  intro j hj he;simp only[ahX,ajz] at hn
  cases j with
  |zero=>simp only[aii] at he;simp[kT,he]
  |succ j=>
   simp only[ajj] at he;have:x.1≠k:=λe=>hn.1 (by rw[e,<-he];exact ahl.2 ⟨_,ahP _,rfl⟩);simp only[kT,ahq this,List.set_cons_succ];rw[ih hn.2 _ he]
def KC.val_inj {a b:KC}(h:a.val=b.val):a=b:=by
 cases a<;>cases b<;>simp[KC.val] at h<;>simp_all
theorem JF:∀{a b:List KC},a.map KC.val=b.map KC.val->a=b
 |[],[],_=>rfl
 |[],_::_,h=>by simp at h
 |_::_,[],h=>by simp at h
 |x::r,y::s,h=>by
  simp only[ahX,List.cons.injEq] at h;rw[KC.val_inj h.1,JF h.2]
theorem cQ.val_inj {a b:cQ}(h:a.val=b.val):a=b:=by
 cases a with
 |one a=>cases b with
  |one b=>rw[KC.val_inj (a:=a) (b:=b) (by simpa[cQ.val] using h)]
  |agg b=>cases a<;>simp[cQ.val,KC.val] at h
 |agg a=>cases b with
  |one b=>cases b<;>simp[cQ.val,KC.val] at h
  |agg b=>simp only[cQ.val,Value.agg.injEq] at h;rw[JF (a:=a) (b:=b) (by simpa using congrArg Array.toList h)]
section
variable {P : Program} {L : Lay} {H : List az} {T : au} {w : World}
theorem KC.rep {N:Nat}(k:KC):aY L N T w k.av k.val:=by
 cases k with
 |int k n=>exact .int _ _
 |str s=>exact .str _
 |bool b=>exact .bool _
theorem cQ.rep {N:Nat}(k:cQ):aY L N T w k.av k.val:=by
 cases k with
 |one c=>exact c.rep
 |agg cs=>
  refine .agg _ _ (by simp) (λj hj=>?_) (λj hj hj'=>?_)
  ·simp only[ajZ,aia];generalize cs[j]'_=c
   cases c<;>rfl
  ·simp only[ajZ,aia];exact KC.rep _
def Ew {N:Nat}{v:AV}{c:Value}{k:KC}(h:Si v=some k)(hr:aY L N T w v c):c=k.val:=by
 cases v<;>simp only[Si,reduceCtorEq,Option.some.injEq] at h<;>subst h
 ·rw[hr.jG];rfl
 ·rw[hr.dU];rfl
 ·rw[hr.iT];rfl
theorem Aw {N:Nat}:∀{vs:List AV} {cs:List Value} {ks:List KC},Dp vs=some ks->cs.length=vs.length->(∀(j:Nat)(h:j<vs.length)(h':j<cs.length),aY L N T w (vs[j]'h) (cs[j]'h'))->cs=ks.map KC.val
 |[],cs,ks,h,hl,_=>by
  have:cs=[]:=ahT (by simpa using hl);simp only[Dp,Option.some.injEq] at h;subst h;rw[this];rfl
 |v::vs,c::cs,ks,h,hl,hr=>by
  simp only[Dp] at h
  split at h
  ·rename_i k ks' h1 h2
   cases h
   have h0:=hr 0 (by simp) (by simp);simp only[aii] at h0;have:=Aw (cs:=cs) h2 (by simpa using hl) (λj hj hj'=>by have:=hr (j+1) (by simpa using hj) (by simpa using hj');simpa using this);rw[this,Ew h1 h0];rfl
  ·cases h
theorem Av {N:Nat}{v:AV}{c:Value}{k:cQ}(h:I8 v=some k)(hr:aY L N T w v c):c=k.val:=by
 unfold I8 at h
 split at h
 ·rename_i cs;obtain⟨ks,h1,rfl⟩:=ai6.1 h
  cases hr with
  |agg _ cv h2 h3 h4=>
   have:=Aw (cs:=cv.toList) h1 (by simpa using h2) (λj hj hj'=>by simpa using h4 j hj (by simpa using hj'));show Value.agg cv=.agg (ks.map KC.val).toArray;rw[<-this]
 ·obtain⟨c',h1,rfl⟩:=ai6.1 h;exact Ew h1 hr
def Ih {k:TypeId}(h:Wb P k=true):Maps.Keyed P k:=by
 unfold Wb at h
 split at h
 ·rename_i hu;exact Maps.bool_keyed hu
 ·rename_i hu;exact Maps.int_keyed hu
 ·rename_i hu;exact Maps.string_keyed hu
 ·rename_i hu;simp only[aht] at h;exact Maps.Keyed.of_law (deep_law (m:=3) (by omega) h.1 h.2 (by simp[hu]))
 ·rename_i hu;simp only[aht] at h;exact Maps.Keyed.of_law (deep_law (m:=3) (by omega) h.1 h.2 (by simp[hu]))
 ·cases h
def xM {t kt el:TypeId}(h:vT P t=some (kt,el)):P.underlying t=some (.map kt el)/\Maps.Keyed P kt:=by
 unfold vT at h
 split at h
 ·rename_i k e hu
  split at h
  ·rename_i hk
   cases h
   exact⟨hu,Ih hk⟩
  ·cases h
 ·cases h
def IK {t:TypeId}{z:AV}{N:Nat}(h:pM P t=some z):∃c,(zeroValue t).run P w=.ok c w/\aY L N T w z c:=by
 unfold pM at h;obtain⟨i,hi,h2⟩:=Option.bind_eq_some_iff.1 h;obtain⟨c,hc,rfl⟩:=ai6.1 h2;exact⟨c,kg hi hc w,.RJ c⟩
def aY.xK {N:Nat}{i:Nat}{c:Value}(h:aY L N T w (.aP i) c):c=.map (some (L.bO i))/\i<N:=by cases h;exact⟨rfl,‹_›⟩
def bW.OL {w':World}(h:bW L H T w){i:Nat}{b b':az}(hi:H[i]?=some b)(hm:L.m (L.bO i)=0)(hne:∀x,x≠L.bO i->w'.heap[x]?=w.heap[x]?)(hz:w'.heap.size=w.heap.size)
  (ho:w'.os=w.os) (Ys:w'.tape=w.tape) (Bl:w'.output=w.output) (hdr:w.drawn<=w'.drawn) (hb':cX L H.length T w L H.length T w'->mP L H.length T w' i b') :
  bW L (H.set i b') T w'/\Ev H.length T.length L H.length T w L (H.set i b').length T w':=by
 have eN:=(ahh.1 hi).1;have sD:∀b o',o'<L.m b->w'.cell? ⟨b,o',none⟩=w.cell? ⟨b,o',none⟩:=by
  intro b o' hlt;refine jl (hne _ ?_) o';rintro rfl;omega
 have kp:cX L H.length T w L H.length T w':=
  ⟨ahj _,λ_ _=>rfl,λt u z h=>⟨u,h,ahj _,λ_=>rfl⟩,λ_=>ahj _,sD,rfl⟩
 refine⟨⟨λj b hb=>?_,λa b ha hb=>h.inj a b (by simpa using ha) (by simpa using hb),λt u z ht=>?_,h.po,λt u z j ht hs hj=>h.kD t u z j ht hs (by simpa using hj),λb hb=>h.mz b (by omega),h.gl.keep kp.m kp.tS⟩,
  by simp,λ_ _=>rfl,λt u z _ h=>⟨u,h,ahj _,λ_=>rfl⟩,ahj _,λ_=>ahj _,sD,by omega,λb hb hn=>?_,λb hb=>.inl (by simpa using hb),ho,Ys,Bl,λ_=>hdr,rfl⟩
 ·rw[aiE]
  by_cases hji:i=j
  ·subst hji;rw[ahK eN] at hb
   cases hb
   exact hb' kp
  ·rw[ah7 hji] at hb;have qN:=(ahh.1 hb).1;exact(h.box j b hb).stay kp qN (hne _ λe=>hji (h.inj j i qN eN e).symm) id
 ·obtain⟨k1,k2⟩:=h.tok t u z ht;refine⟨k1,λhs=>?_⟩;rw[hne _ (h.kD t u z i ht hs eN)];exact k2 hs
 ·exact hne _ (λe=>hn (.inl ⟨i,eN,e.symm⟩))
def bW.OV (h:bW L H T w)(o:Obj)(b:az)(hb:∀L',cX L H.length T w L' (H.length+1) T (w.alloc o)->L'.bO H.length=w.heap.size->L'.m w.heap.size=0->mP L' (H.length+1) T (w.alloc o) H.length b) :
  ∃L',bW L' (H++[b]) T (w.alloc o)/\Ev H.length T.length L H.length T w L' (H++[b]).length T (w.alloc o)/\L'.bO H.length=w.heap.size:=by
 have h1:=h.alloc o 0;have e1:=Ev.alloc h o 0;have I3:¬Wr (L.bS w.heap.size 0) H.length T w.heap.size:=h.xh (ahj _);have e2:=Ev.rQ (b:=w.heap.size) b e1 (ahj _);have qU:((L.bS w.heap.size 0).dB H.length w.heap.size).bO H.length=w.heap.size:=by simp[Lay.dB]
 have kp:=e2.keeps;have hl:(H++[b]).length=H.length+1:=by simp
 rw[hl] at kp;exact⟨(L.bS w.heap.size 0).dB H.length w.heap.size,h1.rQ w.heap.size I3 b (λhle=>by simp at hle;omega) (hb _ kp qU (by simp[Lay.dB,Lay.bS])),e2,qU⟩
def run_makeMap (hc:bW L H T w)(t:TypeId):∃cv w' L',(Instr.makeMap t none).run P w=.ok cv w'/\bW L' (H++[.map []]) T w'/\aY L' (H++[az.map []]).length T w' (.aP H.length) cv/\Ev H.length T.length L H.length T w L' (H++[az.map []]).length T w':=by
 obtain⟨L',h1,h2,h3⟩:=hc.OV (.map #[] 0) (.map []) (λL' kp hp hm=>⟨#[],by rw[hp];exact fP w _,rfl,λj hj=>by simp at hj,by simp,by rw[hp];exact hm⟩);refine⟨.map (some w.heap.size),_,L',rfl,h1,?_,h2⟩;rw[<-h3];exact .aP _ (by simp)
def D3 (kt:TypeId)(K:Maps.Keyed P kt){N:Nat}{es:List (cQ×AV)}{dS:Array MapEntry}{k:cQ}(hsz:dS.size=es.length)
  (hr:∀(j:Nat)(h:j<es.length)(h':j<dS.size),(dS[j]'h').key=(es[j]'h).1.val/\(dS[j]'h').born=j/\aY L N T w (es[j]'h).2 (dS[j]'h').val) (hk:mN P kt k=true) (Gp:dq P kt es=true) :
  ((Instr.findKey kt k.val dS.toList).run P w=.ok none w/\∀e∈es,e.1≠k)\/∃(j:Nat) (h:j<es.length) (h':j<dS.size),(Instr.findKey kt k.val dS.toList).run P w=.ok (some (j,(dS[j]'h').val)) w/\(es[j]'h).1=k:=by
 obtain⟨l,hl⟩:=ahV.1 hk;have hall:∀e∈dS.toList,∃l,keyOf P kt e.key=some l:=by
  intro e he;obtain⟨j,hj,rfl⟩:=ahB.1 he;have hj':j<dS.size:=by simpa using hj
  have hj2:j<es.length:=by omega
  have:=(hr j hj2 hj').1;rw[aif,this];have h2:=ahQ.1 Gp _ (ahP hj2);exact ahV.1 h2
 rcases K.find w hl dS.toList hall with⟨h1,h2⟩|⟨j,e,h1,h2,h3⟩
 ·refine .inl ⟨h1,λe he zx=>?_⟩;obtain⟨j,hj,rfl⟩:=ahB.1 he;have hj':j<dS.size:=by omega
  refine h2 dS[j] (by simp) ?_;rw[(hr j hj hj').1,zx]
 ·obtain⟨hj,rfl⟩:=ahh.1 h2;have hj':j<dS.size:=by simpa using hj
  have hj2:j<es.length:=by omega
  rw[aif] at h1 h3;exact .inr ⟨j,hj2,hj',h1,cQ.val_inj (by rw[<-(hr j hj2 hj').1];exact h3)⟩
theorem HQ (hc:bW L H T w){t kt el:TypeId}{m:Nat}{es:List (cQ×AV)}{k:cQ}{z:AV}(ok:Bool)(hT:vT P t=some (kt,el))(hi:H[m]?=some (.map es))(hz:pM P el=some z)
  (hk:mN P kt k=true) (Gp:dq P kt es=true):∃cv,(Instr.lookup t (.map (some (L.bO m))) k.val ok).run P w=.ok cv w/\aY L H.length T w (jg es k z ok) cv:=by
 obtain⟨hu,K⟩:=xM hT;obtain⟨dS,g1,g2,g3,g4,_⟩:=hc.box m _ hi;obtain⟨l,hl⟩:=ahV.1 hk;have fin:∀(v:AV)(c:Value)(b:Bool),aY L H.length T w v c->aY L H.length T w (if ok then .df [v,.bool b] else v) (if ok then .tuple #[c,.bool b] else c):=by
  intro v c b hv
  cases ok
  ·exact hv
  ·refine .df _ _ rfl (λj hj hj'=>?_)
   match j,hj with
   |0,_=>exact hv
   |1,_=>exact .bool _
 rcases D3 kt K g2 g3 hk Gp with⟨h1,h2⟩|⟨j,hj,hj',h1,h2⟩
 ·obtain⟨c,c1,c2⟩:=IK (P:=P) (L:=L) (N:=H.length) (T:=T) (w:=w) hz;refine⟨if ok then .tuple #[c,.bool false] else c,?_,?_⟩
  ·simp only[Instr.lookup,Sem.run_bind,run_underlying hu,Result.andThen_ok,MapKept.run_getObj_map g1,K.check w _ hl,h1,c1,Sem.run_pure]
  ·have:=fin z c false c2;simpa only[jg,qw h2,Option.getD_none,Option.isSome_none] using this
 ·refine⟨if ok then .tuple #[dS[j].val,.bool true] else dS[j].val,?_,?_⟩
  ·simp only[Instr.lookup,Sem.run_bind,run_underlying hu,Result.andThen_ok,MapKept.run_getObj_map g1,K.check w _ hl,h1,Sem.run_pure]
  ·have:=fin _ _ true (g3 j hj hj').2.2;simpa only[jg,wo g4 hj h2,aiU,Option.isSome_some] using this
def y6 (hc:bW L H T w){t kt el:TypeId}{m:Nat}{es:List (cQ×AV)}{k:cQ}{v:AV}{c:Value}(hT:vT P t=some (kt,el))(hi:H[m]?=some (.map es))(hv:aY L H.length T w v c)
  (hk:mN P kt k=true) (Gp:dq P kt es=true):∃w',(Instr.mapUpdate t (.map (some (L.bO m))) k.val c).run P w=.ok () w'/\bW L (H.set m (.map (kT es k v))) T w'/\Ev H.length T.length L H.length T w L (H.set m (.map (kT es k v))).length T w':=by
 obtain⟨hu,K⟩:=xM hT;obtain⟨dS,g1,g2,g3,g4,g5⟩:=hc.box m _ hi;obtain⟨l,hl⟩:=ahV.1 hk;have kH:=(ahh.1 hi).1;have hlt:=hc.me kH;have put:∀(o:Obj),(cX L H.length T w L H.length T { w with heap:=w.heap.setIfInBounds (L.bO m) o }->mP L H.length T { w with heap:=w.heap.setIfInBounds (L.bO m) o } m (.map (kT es k v)))->
   bW L (H.set m (.map (kT es k v))) T { w with heap:=w.heap.setIfInBounds (L.bO m) o }/\Ev H.length T.length L H.length T w L (H.set m (.map (kT es k v))).length T { w with heap:=w.heap.setIfInBounds (L.bO m) o }:=λo hb=>
  hc.OL hi g5 (λx hx=>aji (λe=>hx e.symm)) (by simp) rfl rfl rfl (ahj _) hb
 have new:∀o:Obj,(w.heap.setIfInBounds (L.bO m) o)[L.bO m]?=some o:=λo=>by simp[hlt]
 rcases D3 kt K g2 g3 hk Gp with⟨h1,h2⟩|⟨j,hj,hj',h1,h2⟩
 ·refine⟨_,?_,put (.map (dS.push { key:=k.val,val:=c,born:=es.length }) (es.length+1)) λkp=>?_⟩
  ·simp only[Instr.mapUpdate,Sem.run_bind,run_underlying hu,Result.andThen_ok,MapKept.run_getObj_map g1,K.check w _ hl,h1,MapKept.run_setObj_map _ g1]
  ·have e:=nW (v:=v) h2;refine⟨dS.push { key:=k.val,val:=c,born:=es.length },by rw[new,e];simp,by rw[e];simp[g2],λj hj hj'=>?_,?_,g5⟩
   ·rcases ahr j es.length with qN|qN
    ·have Rq:j<dS.size:=by omega
     have:=g3 j qN Rq;simp only[e,aiz qN,Array.getElem_push_lt Rq];exact⟨this.1,this.2.1,this.2.2.keep kp⟩
    ·have:j=es.length:=by simp[e] at hj;omega
     subst this;have e2:(dS.push { key:=k.val,val:=c,born:=es.length })[es.length]'hj'={ key:=k.val,val:=c,born:=es.length }:=by simp[<-g2]
     simp only[e,e2,ajn (ahj _),aiH,aii];exact⟨trivial,trivial,hv.keep kp⟩
   ·rw[e,ahx,ah2];refine⟨g4,by simp,λa ha b hb=>?_⟩;obtain⟨x,hx,rfl⟩:=ahl.1 ha;simp at hb;rw[hb];exact h2 x hx
 ·have kY:=(g3 j hj hj').1;rw[h2] at kY;have hst:(Instr.keyThatStays k.val k.val).run P w=.ok k.val w:=K.stays w hl;refine⟨_,?_,put (.map (dS.modify j λe=>{ e with key:=k.val,val:=c }) es.length) λkp=>?_⟩
  ·have e0:((dS[j]?.map (·.key)).getD k.val)=k.val:=by rw[ai7 hj'];exact kY
   simp only[Instr.mapUpdate,Sem.run_bind,run_underlying hu,Result.andThen_ok,MapKept.run_getObj_map g1,K.check w _ hl,h1,e0,hst,MapKept.run_setObj_map _ g1]
  ·have e:=BO (v:=v) g4 hj h2;refine⟨dS.modify j λe=>{ e with key:=k.val,val:=c },by rw[new,e];simp,by rw[e];simp[g2],λi iV hi2=>?_,?_,g5⟩
   ·have eN:i<es.length:=by simpa[e] using iV
    have CE:i<dS.size:=by omega
    have:=g3 i eN CE;simp only[e,Array.getElem_modify,getElem_set]
    by_cases hij:j=i
    ·subst hij;simp only[ai1];exact⟨trivial,this.2.1,hv.keep kp⟩
    ·simp only[ahq hij];exact⟨this.1,this.2.1,this.2.2.keep kp⟩
   ·rw[e,List.map_set];have:(es.map (·.1)).set j k=es.map (·.1):=by
     apply ajd (by simp);intro i h3 h4;rw[getElem_set]
     split
     ·rename_i hij;subst hij;simp[h2]
     ·rfl
    rw[this];exact g4
def HF (hc:bW L H T w){t kt el:TypeId}{m:Nat}{es:List (cQ×AV)}(hT:vT P t=some (kt,el))(hi:H[m]?=some (.map es)) :
  ∃cv w' L',(Instr.range t (.map (some (L.bO m)))).run P w=.ok cv w'/\bW L' (H++[.mF m es.length []]) T w'/\aY L' (H++[az.mF m es.length []]).length T w' (.ptr H.length 0) cv/\Ev H.length T.length L H.length T w L' (H++[az.mF m es.length []]).length T w':=by
 obtain⟨hu,K⟩:=xM hT;obtain⟨dS,g1,g2,g3,g4,g5⟩:=hc.box m _ hi;have kH:=(ahh.1 hi).1;obtain⟨L',h1,h2,h3⟩:=hc.OV (.mapIter (some (L.bO m)) es.length #[] es.length) (.mF m es.length [])
  (λL' kp hp hm=>⟨by rw[hp,kp.bO m kH];exact fP w _,kH,by rw[hp];exact hm⟩)
 refine⟨.pointer (some ⟨w.heap.size,0,none⟩),_,L',run_range_map w t kt el _ dS es.length hu g1,h1,?_,h2⟩;rw[<-h3];exact .ptr _ _ (by simp)
theorem LF (hc:bW L H T w)(ty:TypeId){i m:Nat}{es:List (cQ×AV)}{seen:List Nat}(hi:H[i]?=some (.mF m es.length seen))(hm:H[m]?=some (.map es)) :
  ((∀j,j<es.length->j∈seen)/\(Instr.next (.pointer (some ⟨L.bO i,0,none⟩)) false ty).run P w=.ok (.tuple #[.bool false]) w)\/
  ∃(j:Nat) (hj:j<es.length) (cv:Value) (w':World),j∉seen/\(Instr.next (.pointer (some ⟨L.bO i,0,none⟩)) false ty).run P w=.ok cv w'/\bW L (H.set i (.mF m es.length (seen++[j]))) T w'/\
   aY L (H.set i (.mF m es.length (seen++[j]))).length T w' (.df [.bool true,(es[j]).1.av,(es[j]).2]) cv/\Ev H.length T.length L H.length T w L (H.set i (.mF m es.length (seen++[j]))).length T w':=by
 obtain⟨dS,g1,g2,g3,g4,g5⟩:=hc.box m _ hm;obtain⟨k1,k2,k3⟩:=hc.box i _ hi;have eN:=(ahh.1 hi).1;have hlt:=hc.me eN;have born:∀x∈dS.toList,x.born<es.length:=by
  intro x hx;obtain⟨j,hj,rfl⟩:=ahB.1 hx;have hj':j<dS.size:=by simpa using hj
  rw[aif,(g3 j (by omega) hj').2.1];omega
 rcases run_next_at (P:=P) w ty (L.bO i) (L.bO m) es.length es.length seen.toArray dS es.length k1 g1 born (ahj _) with⟨h1,h2⟩|⟨e,he,w1,hw,h2⟩
 ·refine .inl ⟨λj hj=>?_,h2⟩;have hj':j<dS.size:=by omega
  have h0:leftOf dS seen.toArray=#[]:=ajo h1;unfold leftOf at h0;rw[Array.filter_eq_empty_iff] at h0;have:=h0 dS[j] (by simp);rw[(g3 j hj hj').2.1] at this;simpa using this
 ·unfold leftOf at he;simp only[Array.toList_filter,ahF] at he;obtain⟨hem,Gp⟩:=he;obtain⟨j,hj,rfl⟩:=ahB.1 hem;have hj':j<dS.size:=by simpa using hj
  have qN:j<es.length:=by omega
  obtain⟨b1,b2,b3⟩:=g3 j qN hj';simp only[aif] at h2 Gp;rw[b2] at h2 Gp;have XF:j∉seen:=by simpa using Gp
  have hh:w1.heap=w.heap:=by rcases hw with rfl|rfl<;>rfl
  have ho:w1.os=w.os/\w1.tape=w.tape/\w1.output=w.output/\w.drawn<=w1.drawn:=by rcases hw with rfl|rfl<;>exact⟨rfl,rfl,rfl,by first|exact ahj _|exact aid _⟩
  have hb:∀o:Obj,(ChangeMaps.setBlock w1 (L.bO i) o).heap=w.heap.setIfInBounds (L.bO i) o:=λo=>by simp[ChangeMaps.setBlock,hh]
  obtain⟨c1,c2⟩:=hc.OL (w':=ChangeMaps.setBlock w1 (L.bO i) (.mapIter (some (L.bO m)) es.length (seen.toArray.push j) es.length)) (b':=.mF m es.length (seen++[j])) hi k3
   (λx hx=>by rw[hb];exact aji (λe=>hx e.symm)) (by rw[hb];simp) ho.1 ho.2.1 ho.2.2.1 ho.2.2.2 (λkp=>⟨by rw[hb];simp[hlt],k2,k3⟩)
  refine .inr ⟨j,qN,_,_,XF,h2,c1,?_,c2⟩;refine .df _ _ rfl (λj' hj1 hj2=>?_)
  match j',hj1 with
  |0,_=>exact .bool _
  |1,_=>simp only[ajZ,ajj,aii,b1];exact cQ.rep _
  |2,_=>
   have:=b3.keep (by simpa using c2.keeps);simpa using this
theorem HM (hc:bW L H T w){i m j:Nat}{es:List (cQ×AV)}{seen:List Nat}(hi:H[i]?=some (.mF m es.length (seen++[j])))(hm:H[m]?=some (.map es))(hj:j<es.length) :
  ∃cv,(Instr.entry (.pointer (some ⟨L.bO i,0,none⟩))).run P w=.ok cv w/\aY L H.length T w (.df [(es[j]).1.av,(es[j]).2]) cv:=by
 obtain⟨dS,g1,g2,g3,g4,g5⟩:=hc.box m _ hm;obtain⟨k1,k2,k3⟩:=hc.box i _ hi;have hj':j<dS.size:=by omega
 obtain⟨b1,b2,b3⟩:=g3 j hj hj';have hn:(dS.toList.map (·.born)).Nodup:=by
  have:dS.toList.map (·.born)=List.range dS.size:=by
   apply ajd (by simp);intro x h1 h2;simp only[aia,aif,ajO];exact(g3 x (by simp at h1;omega) (by simpa using h1)).2.1
  rw[this];exact List.nodup_range
 refine⟨_,run_entry_at (P:=P) w (L.bO i) (L.bO m) es.length seen.toArray dS es.length dS[j] (by rw[b2,k1];simp) g1 (by simp) hn,?_⟩;refine .df _ _ rfl (λj' hj1 hj2=>?_)
 match j',hj1 with
 |0,_=>simp only[ajZ,aii,b1];exact cQ.rep _
 |1,_=>exact b3
end
end Go.Am
