/- The abstract machine: abstract values, their representation in a world of the model, and the evolution of worlds. Rules for the structured code over abstract states: sequence, condition, block, loop, region, region that draws its order; contracts of calls. Steps of the world that keep what is represented: a new row, a new box, a new token, a store into a box. Steps of the world that keep what is represented, continued: a store into a box; a row that grows in place or anew. Operations that neither read nor write memory, over abstract values, and that they are what the model does. Operations that read memory or make new variables, over abstract values, and that they are what the model does. Indexing, slicing, fields, conversions and making of values, over abstract values; they are what the model does. Conversions, composite values, new slices, and append, over abstract values; they are what the model does. Composite values, make, append, iterators over strings; they are what the model does. make, append, iterators over strings; they are what the model does. Maps over abstract values: their keys, and the operations on them; they are what the model does.
  Conditions: as the theorems say. -/
import Derived.WalkKit
import Derived.Orders
import Derived.ChangeKeysEq
import Derived.Maps.RangeRun
import Derived.Maps.Keyed
set_option linter.all false
open Nat (add_mul add_assoc)
open List (getElem_set mapM_cons all_cons)
def agB:=@List.getD_eq_getElem?_getD
def agC:=@List.getElem?_eq_some_iff
def agD:=@List.getElem?_eq_getElem
def agE:=@Nat.le_refl
def agF:=@List.length_append
def agG:=@List.mem_map
def agH:=@decide_eq_true
def agI:=@decide_eq_false
def agJ:=@Nat.le_trans
def agK:=@List.getElem?_append_left
def agL:=@if_neg
def agM:=@Nat.lt_or_ge
def agN:=@if_pos
def agO:=@Bool.and_eq_true
def agP:=@Nat.zero_le
def agQ:=@decide_eq_true_eq
def agR:=@List.mem_append
def agS:=@List.map_append
def agT:=@List.flatMap_cons
def agU:=@List.length_map
def agV:=@List.append_assoc
def agW:=@List.mem_iff_getElem
def agX:=@List.getElem?_append_right
def agY:=@List.getElem?_toArray
def agZ:=@List.take_length
def ag0:=@List.mem_filter
def ag1:=@List.mem_append_left
def ag2:=@List.append_nil
def ag3:=@List.mem_range
def ag4:=@List.getElem?_set_self
def ag5:=@List.length_take
def ag6:=@List.mem_cons
def ag7:=@List.take_append_drop
def ag8:=@List.pairwise_iff_getElem
def ag9:=@Nat.not_lt_zero
def aha:=@List.all_eq_true
def ahb:=@List.getElem_mem
def ahc:=@Nat.eq_zero_or_pos
def ahd:=@List.length_cons
def ahe:=@List.eq_nil_of_length_eq_zero
def ahf:=@List.length_filter_le
def ahg:=@Option.isSome_iff_exists
def ahh:=@List.map_congr_left
def ahi:=@List.map_cons
def ahj:=@List.pairwise_map
def ahk:=@List.flatMap_append
def ahl:=@List.mem_singleton
def ahm:=@List.mem_flatMap
def ahn:=@List.nodup_append
def aho:=@List.length_eq_zero_iff
def ahp:=@List.length_drop
def ahq:=@beq_eq_false_iff_ne
def ahr:=@List.perm_append_singleton
def ahs:=@List.getElem?_set_ne
def aht:=@List.filter_append
def ahu:=@List.getElem?_take
def ahv:=@List.getElem_map
def ahw:=@List.length_singleton
def ahx:=@Bool.or_eq_true
def ahy:=@Nat.le_succ
def ahz:=@List.pairwise_cons
def ahA:=@Array.getElem_toList
def ahB:=@List.sublist_cons_self
def ahC:=@List.getElem_cons_zero
def ahD:=@List.take_left'
def ahE:=@Bool.false_eq_true
def ahF:=@Nat.mul_le_mul_right
def ahG:=@List.map_map
def ahH:=@List.drop_length
def ahI:=@Nat.lt_of_lt_of_le
def ahJ:=@List.getElem?_map
def ahK:=@List.filter_cons_of_neg
def ahL:=@List.take_append_of_le_length
def ahM:=@Bool.true_and
def ahN:=@List.length_pos_iff
def ahO:=@Nat.zero_add
def ahP:=@List.mem_of_find?_eq_some
def ahQ:=@List.filter_cons_of_pos
def ahR:=@List.flatMap_map
def ahS:=@List.getElem_append_left
def ahT:=@List.find?_eq_none
def ahU:=@Nat.add_mul
def ahV:=@List.length_nil
def ahW:=@List.mem_of_getElem?
def ahX:=@decide_eq_false_iff_not
def ahY:=@List.length_set
def ahZ:=@List.mem_cons_of_mem
def ah0:=@List.take_succ_eq_append_getElem
def ah1:=@Nat.sub_self
def ah2:=@List.getElem?_eq_none
def ah3:=@List.eq_nil_iff_forall_not_mem
def ah4:=@List.exists_mem_of_ne_nil
def ah5:=@List.drop_eq_getElem_cons
def ah6:=@Nat.lt_trichotomy
def ah7:=@Array.mem_toList_iff
def ah8:=@Array.getElem?_eq_none
def ah9:=@Nat.add_sub_cancel
def aia:=@List.foldl_cons
def aib:=@List.set_append_right
def aic:=@List.nil_append
def aid:=@List.filter_eq_self
def aie:=@Option.getD_some
def aif:=@List.filter_eq_nil_iff
def aih:=@List.take_of_length_le
def aii:=@List.getElem?_drop
def aij:=@List.any_eq_true
def aik:=@List.contains_iff_mem
def ail:=@List.foldl_append
def aim:=@Bool.false_or
def ain:=@if_true
def aio:=@List.pairwise_append
def aip:=@Option.map_some
def aiq:=@if_false
def air:=@Option.map_eq_some_iff
def ais:=@Array.getElem?_eq_getElem
def ait:=@List.filter_sublist
def aiu:=@beq_iff_eq
def aiv:=@List.any_eq_false
def aiw:=@List.ext_getElem?
def aix:=@List.pairwise_mergeSort
def aiy:=@List.ext_getElem
def aiz:=@Array.mem_append
def aiA:=@Array.toList_inj
def aiB:=@List.map_nil
def aiC:=@getElem!_pos
def aiD:=@Array.getElem?_setIfInBounds_ne
def aiE:=@List.getElem_cons_succ
def aiF:=@of_decide_eq_true
def aiG:=@List.mergeSort_perm
def aiH:=@List.getElem_append
def aiI:=@List.getElem_append_right
def aiJ:=@Array.eq_empty_of_size_eq_zero
def aiK:=@Nat.lt_of_sub_eq_succ
def aiL:=@List.length_mergeSort
def aiM:=@List.pairwise_flatMap
def aiN:=@List.mem_append_right
def aiO:=@Array.getElem?_modify
def aiP:=@List.drop_append_of_le_length
def aiQ:=@List.cons_append
def aiR:=@List.mem_of_mem_take
def aiS:=@Nat.mod_lt
def aiT:=@List.getElem_take
def aiU:=@List.nodup_cons
def aiV:=@List.find?_some
def aiW:=@List.drop_of_length_le
def aiX:=@List.perm_middle
def aiY:=@List.drop_drop
def aiZ:=@List.append_of_mem
def ai0:=@Nat.lt_of_le_of_lt
def ai1:=@Bool.and_eq_false_iff
def ai2:=@Bool.not_false
def ai3:=@Nat.add_zero
def ai4:=@Nat.mul_comm
def ai5:=@Bool.or_eq_false_iff
def ai6:=@Nat.div_lt_of_lt_mul
def ai7:=@Bool.not_eq_true'
def ai8:=@List.mem_reverse
def ai9:=@List.getElem_range
def aja:=@Array.getD_eq_getD_getElem?
def ajb:=@List.range_succ
def ajc:=@Bool.eq_iff_iff
def ajd:=@List.length_replicate
def aje:=@Nat.min_eq_left
def ajf:=@Nat.le_div_iff_mul_le
def ajg:=@List.filter_congr
def ajh:=@Nat.le_succ_of_le
def aji:=@List.getElem?_set
def ajj:=@List.getLast?_eq_getElem?
def ajk:=@List.getElem_toArray
def ajl:=@List.getElem?_cons_zero
def ajm:=@and_true
def ajn:=@or_false
def ajo:=@dif_pos
def ajp:=@dif_neg
namespace Go.Am
open Go
inductive Tag where
 |none
 |full
 |own (t:Nat)
inductive KC where
 |int (k:IntKind) (n:Int)
 |str (s:List UInt8)
 |bool (b:Bool)
 deriving DecidableEq
inductive cS where
 |one (c:KC)
 |agg (cs:List KC)
 deriving DecidableEq
def KC.val:KC->Value
 |.int k n=>.int k n
 |.str s=>.string ⟨s.toArray⟩
 |.bool b=>.bool b
def cS.val:cS->Value
 |.one c=>c.val
 |.agg cs=>.agg (cs.map KC.val).toArray
inductive AV where
 |top
 |bool (b:Bool)
 |int (k:IntKind) (n:Int)
 |str (s:List UInt8)
 |fV
 |ptr (i o:Nat)
 |dZ (cs:List AV) (o:Nat)
 |sl (n:Nat) (cs:List AV) (tg:Tag)
 |cN (i o n:Nat)
 |bJ (i n cap:Nat)
 |aQ (i:Nat)
 |fn (f:FuncId) (first cz:List AV)
 |ji
 |mR
 |AM
 |agg (cs:List AV)
 |df (cs:List AV)
abbrev au:=List (Nat×Nat)
abbrev Env:=List (Nat×AV)
inductive aA where
 |cells (vs:List AV)
 |iter (s:List UInt8) (pos:Nat)
 |map (es:List (cS×AV))
 |mv (m n:Nat) (seen:List Nat)
 |JK (g:Nat) (p:Obj->Prop)
@[simp] def aA.AY:aA->List AV
 |.cells vs=>vs
 |.map es=>es.map (·.2)
 |.iter _ _=>[]
 |.mv _ _ _=>[]
 |.JK _ _=>[]
structure Tk where
 b:Nat
 o:Nat
 c:Nat
structure Lay where
 bS:Nat->Nat
 et:Nat->Tk
 m:Nat->Nat
 dr:Bool
def lP (L:Lay)(T:au)(tg:Tag)(n u:Nat)(a:Option Addr)(cap:Nat):Prop:=
 match tg with
 |.none=>True
 |.full=>cap=n
 |.own t=>∃u0 z,T[t]?=some (u0,z)/\u<=u0/\(u0=u->cap=n\/(a=some ⟨(L.et t).b,(L.et t).o,none⟩/\cap=(L.et t).c))
inductive ba (L:Lay) (N:Nat) (T:au) (w:World):AV->Value->Prop
 |top (v:Value):ba L N T w .top v
 |bool (b:Bool):ba L N T w (.bool b) (.bool b)
 |int (k:IntKind) (n:Int):ba L N T w (.int k n) (.int k n)
 |str (s:List UInt8):ba L N T w (.str s) (.string ⟨s.toArray⟩)
 |fV:ba L N T w .fV (.pointer none)
 |ptr (i o:Nat) (h:i<N):ba L N T w (.ptr i o) (.pointer (some ⟨L.bS i,o,none⟩))
 |dZ (cs:List AV) (o b base:Nat) (f:Nat->Value) (hm:base+cs.length<=L.m b)
   (hc:∀j,j<cs.length->w.cell? ⟨b,base+j,none⟩=some (f j)) (h1:∀j,j<cs.length->(f j).oneCell'=true)
   (hr:∀(j:Nat)(h:j<cs.length),ba L N T w (cs[j]'h) (f j)) :
   ba L N T w (.dZ cs o) (.pointer (some ⟨b,base+o,none⟩))
 |yZ (tg:Tag) (a:Option Addr) (cap:Nat) (ht:lP L T tg 0 0 a cap):ba L N T w (.sl 0 [] tg) (.slice a 0 cap)
 |Qi (n:Nat) (cs:List AV) (tg:Tag) (b base cap:Nat) (f:Nat->Value) (cE:n<=cap) (hm:base+cs.length<=L.m b)
   (hc:∀j,j<cs.length->w.cell? ⟨b,base+j,none⟩=some (f j)) (h1:∀j,j<cs.length->(f j).oneCell'=true)
   (hr:∀(j:Nat)(h:j<cs.length),ba L N T w (cs[j]'h) (f j))
   (ht:lP L T tg n cs.length (some ⟨b,base,none⟩) cap) :
   ba L N T w (.sl n cs tg) (.slice (some ⟨b,base,none⟩) n cap)
 |cN (i o n cap:Nat) (h:i<N) (cE:n<=cap):ba L N T w (.cN i o n) (.slice (some ⟨L.bS i,o,none⟩) n cap)
 |bJ (i n cap:Nat) (h:i<N) (cE:n<=cap):ba L N T w (.bJ i n cap) (.slice (some ⟨L.bS i,0,none⟩) n cap)
 |aQ (i:Nat) (h:i<N):ba L N T w (.aQ i) (.map (some (L.bS i)))
 |fn (f:FuncId) (first cz:List AV) (fv cv:Array Value) (h1:fv.size=first.length) (h2:cv.size=cz.length)
   (yv:∀(j:Nat)(h:j<first.length)(h':j<fv.size),ba L N T w (first[j]'h) (fv[j]'h'))
   (oO:∀(j:Nat)(h:j<cz.length)(h':j<cv.size),ba L N T w (cz[j]'h) (cv[j]'h')) :
   ba L N T w (.fn f first cz) (.func (.func f) fv cv)
 |ji:ba L N T w .ji .nilFunc
 |mR:ba L N T w .mR .nilIface
 |AM (t:TypeId) (v:Value):ba L N T w .AM (.iface t v)
 |agg (cs:List AV) (cv:Array Value) (h1:cv.size=cs.length) (h2:∀(j:Nat)(h':j<cv.size),(cv[j]'h').oneCell'=true)
   (hr:∀(j:Nat)(h:j<cs.length)(h':j<cv.size),ba L N T w (cs[j]'h) (cv[j]'h')):ba L N T w (.agg cs) (.agg cv)
 |df (cs:List AV) (cv:Array Value) (h1:cv.size=cs.length)
   (hr:∀(j:Nat)(h:j<cs.length)(h':j<cv.size),ba L N T w (cs[j]'h) (cv[j]'h')):ba L N T w (.df cs) (.tuple cv)
structure cX (L:Lay)(N:Nat)(T:au)(w:World)(L':Lay)(N':Nat)(T':au)(w':World):Prop where
 n:N<=N'
 bS:∀i,i<N->L'.bS i=L.bS i
 tok:∀t u z,T[t]?=some (u,z)->∃u',T'[t]?=some (u',z)/\u<=u'/\(u'=u->L'.et t=L.et t)
 m:∀b,L.m b<=L'.m b
 tF:∀b o,o<L.m b->w'.cell? ⟨b,o,none⟩=w.cell? ⟨b,o,none⟩
 dr:L'.dr=L.dr
def cX.refl (L:Lay)(N:Nat)(T:au)(w:World):cX L N T w L N T w:=
 ⟨agE _,λ_ _=>rfl,λ_ u _ h=>⟨u,h,agE _,λ_=>rfl⟩,λ_=>agE _,λ_ _ _=>rfl,rfl⟩
theorem cX.trans {L N T w L1 N1 T1 w1 L2 N2 T2 w2}(h:cX L N T w L1 N1 T1 w1)(k:cX L1 N1 T1 w1 L2 N2 T2 w2):cX L N T w L2 N2 T2 w2:=by
 refine⟨agJ h.n k.n,λi hi=>?_,λt u z ht=>?_,λb=>agJ (h.m b) (k.m b),λb o ho=>?_,k.dr.trans h.dr⟩
 ·rw[k.bS i (ahI hi h.n),h.bS i hi]
 ·obtain⟨u1,h1,hle,he⟩:=h.tok t u z ht;obtain⟨u2,h2,JF,yA⟩:=k.tok t u1 z h1;refine⟨u2,h2,agJ hle JF,λe=>?_⟩;rw[yA (by omega),he (by omega)]
 ·rw[k.tF b o (ahI ho (h.m b)),h.tF b o ho]
theorem lP.keep {L N T w L' N' T' w' tg n u a cap}(k:cX L N T w L' N' T' w')(h:lP L T tg n u a cap):lP L' T' tg n u a cap:=by
 cases tg with
 |none=>trivial
 |full=>exact h
 |own t=>
  obtain⟨u0,z,h0,hle,he⟩:=h;obtain⟨u1,h1,ago,he1⟩:=k.tok t u0 z h0;refine⟨u1,z,h1,by omega,λe=>?_⟩;rw[he1 (by omega)];exact he (by omega)
theorem ba.keep {L N T w L' N' T' w' v c}(k:cX L N T w L' N' T' w')(h:ba L N T w v c):ba L' N' T' w' v c:=by
 induction h with
 |top v=>exact .top v
 |bool b=>exact .bool b
 |int k n=>exact .int k n
 |str s=>exact .str s
 |fV=>exact .fV
 |ptr i o h=>rw[<-k.bS i h];exact .ptr i o (ahI h k.n)
 |dZ cs o b base f hm hc h1 hr ih=>
  exact .dZ cs o b base f (agJ hm (k.m b)) (λj hj=>by rw[k.tF _ _ (by omega)];exact hc j hj) h1 ih
 |yZ tg a cap ht=>exact .yZ tg a cap (ht.keep k)
 |Qi n cs tg b base cap f cE hm hc h1 hr ht ih=>
  exact .Qi n cs tg b base cap f cE (agJ hm (k.m b)) (λj hj=>by rw[k.tF _ _ (by omega)];exact hc j hj) h1 ih (ht.keep k)
 |cN i o n cap h cE=>rw[<-k.bS i h];exact .cN i o n cap (ahI h k.n) cE
 |bJ i n cap h cE=>rw[<-k.bS i h];exact .bJ i n cap (ahI h k.n) cE
 |aQ i h=>rw[<-k.bS i h];exact .aQ i (ahI h k.n)
 |fn f first cz fv cv h1 h2 yv oO UL UK=>exact .fn f first cz fv cv h1 h2 UL UK
 |ji=>exact .ji
 |mR=>exact .mR
 |AM t v=>exact .AM t v
 |agg cs cv h1 h2 hr ih=>exact .agg cs cv h1 h2 ih
 |df cs cv h1 hr ih=>exact .df cs cv h1 ih
def Wr (L:Lay)(N:Nat)(T:au)(b:Nat):Prop:=
 (∃i,i<N/\L.bS i=b)\/(∃t u z,T[t]?=some (u,z)/\u<(L.et t).c*z/\(L.et t).b=b)
structure Ev (nb tb:Nat)(L:Lay)(N:Nat)(T:au)(w:World)(L':Lay)(N':Nat)(T':au)(w':World):Prop where
 n:nb<=N'
 bS:∀i,i<nb->L'.bS i=L.bS i
 tok:∀t u z,t<tb->T[t]?=some (u,z)->∃u',T'[t]?=some (u',z)/\u<=u'/\(u'=u->L'.et t=L.et t)
 t:tb<=T'.length
 m:∀b,L.m b<=L'.m b
 tF:∀b o,o<L.m b->w'.cell? ⟨b,o,none⟩=w.cell? ⟨b,o,none⟩
 size:w.heap.size<=w'.heap.size
 frame:∀b,b<w.heap.size->¬Wr L N T b->w'.heap[b]?=w.heap[b]?
 wr:∀b,Wr L' N' T' b->Wr L N T b\/w.heap.size<=b
 os:w'.os=w.os
 tape:w'.tape=w.tape
 output:w'.output=w.output
 drawn:L.dr=true->w.drawn<=w'.drawn
 dr:L'.dr=L.dr
def Ev.refl {nb tb L N T w}(h:nb<=N)(h':tb<=T.length):Ev nb tb L N T w L N T w:=
 ⟨h,λ_ _=>rfl,λ_ u _ _ h=>⟨u,h,agE _,λ_=>rfl⟩,h',λ_=>agE _,λ_ _ _=>rfl,agE _,λ_ _ _=>rfl,
  λ_ h=>.inl h,rfl,rfl,rfl,λ_=>agE _,rfl⟩
theorem Ev.trans {nb tb L N T w L1 N1 T1 w1 L2 N2 T2 w2}(h:Ev nb tb L N T w L1 N1 T1 w1)(k:Ev nb tb L1 N1 T1 w1 L2 N2 T2 w2):Ev nb tb L N T w L2 N2 T2 w2:=by
 refine⟨k.n,λi hi=>?_,λt u z ht hT=>?_,k.t,λb=>agJ (h.m b) (k.m b),λb o ho=>?_,agJ h.size k.size,λb hb hn=>?_,λb hb=>?_,
  k.os.trans h.os,k.tape.trans h.tape,k.output.trans h.output,λe=>agJ (h.drawn e) (k.drawn (by rw[h.dr];exact e)),k.dr.trans h.dr⟩
 ·rw[k.bS i hi,h.bS i hi]
 ·obtain⟨u1,h1,hle,he⟩:=h.tok t u z ht hT;obtain⟨u2,h2,JF,yA⟩:=k.tok t u1 z ht h1;refine⟨u2,h2,agJ hle JF,λe=>?_⟩;rw[yA (by omega),he (by omega)]
 ·rw[k.tF b o (ahI ho (h.m b)),h.tF b o ho]
 ·rw[k.frame b (ahI hb h.size) (λhw=>?_),h.frame b hb hn];rcases h.wr b hw with h'|h'
  ·exact hn h'
  ·omega
 ·rcases k.wr b hb with h'|h'
  ·exact h.wr b h'
  ·exact .inr (agJ h.size h')
def Ev.mono {nb tb nb' tb' L N T w L' N' T' w'}(h:Ev nb tb L N T w L' N' T' w')(hn:nb'<=nb)(ht:tb'<=tb):Ev nb' tb' L N T w L' N' T' w':=
 ⟨agJ hn h.n,λi hi=>h.bS i (ahI hi hn),λt u z aZ=>h.tok t u z (ahI aZ ht),agJ ht h.t,h.m,h.tF,h.size,h.frame,h.wr,h.os,h.tape,h.output,h.drawn,h.dr⟩
def Ev.keeps {L N T w L' N' T' w'}(h:Ev N T.length L N T w L' N' T' w'):cX L N T w L' N' T' w':=
 ⟨h.n,h.bS,λt u z hT=>h.tok t u z ((agC.1 hT).1) hT,h.m,h.tF,h.dr⟩
def mG (L:Lay)(N:Nat)(T:au)(w:World)(i:Nat):aA->Prop
 |.cells vs=>∃c t fr,w.heap[L.bS i]?=some (.cells c t fr)/\(∀o,o<c.size->(fr.1<=o&&o<fr.2)=false)/\c.size=vs.length/\
   (∀(j:Nat)(h':j<c.size),(c[j]'h').oneCell'=true)/\
   (∀(j:Nat)(h:j<vs.length)(h':j<c.size),ba L N T w (vs[j]'h) (c[j]'h'))/\L.m (L.bS i)=0
 |.iter s pos=>w.heap[L.bS i]?=some (.stringIter ⟨s.toArray⟩ pos)
 |.map es=>∃dR:Array MapEntry,w.heap[L.bS i]?=some (.map dR es.length)/\dR.size=es.length/\
   (∀(j:Nat)(h:j<es.length)(h':j<dR.size),(dR[j]'h').key=(es[j]'h).1.val/\(dR[j]'h').born=j/\ba L N T w (es[j]'h).2 (dR[j]'h').val)/\(es.map (·.1)).Nodup/\L.m (L.bS i)=0
 |.mv m n seen=>w.heap[L.bS i]?=some (.mapIter (some (L.bS m)) n seen.toArray n)/\m<i/\L.m (L.bS i)=0
 |.JK g p=>L.bS i=g/\L.dr=false/\∃o,w.heap[g]?=some o/\p o
theorem mG.stay {L N T w L' N' T' w' i b}(k:cX L N T w L' N' T' w')(h:mG L N T w i b)(hi:i<N)(hh:w'.heap[L.bS i]?=w.heap[L.bS i]?)(hm:L.m (L.bS i)=0->L'.m (L.bS i)=0):mG L' N' T' w' i b:=by
 have e:=k.bS i hi
 cases b with
 |cells vs=>
  obtain⟨c,t,fr,h1,h2,h3,Ya,h4,h5⟩:=h;exact⟨c,t,fr,by rw[e,hh];exact h1,h2,h3,Ya,λj a b=>(h4 j a b).keep k,by rw[e];exact hm h5⟩
 |iter s pos=>show w'.heap[_]?=_;rw[e,hh];exact h
 |map es=>
  obtain⟨dR,h1,h2,h3,hn,h4⟩:=h;exact⟨dR,by rw[e,hh];exact h1,h2,λj a b=>⟨(h3 j a b).1,(h3 j a b).2.1,(h3 j a b).2.2.keep k⟩,hn,by rw[e];exact hm h4⟩
 |mv m n seen=>
  obtain⟨h1,h2,h4⟩:=h;exact⟨by rw[e,hh,k.bS m (by omega)];exact h1,h2,by rw[e];exact hm h4⟩
 |JK g p=>
  obtain⟨h1,h4,o,h2,h3⟩:=h;exact⟨by rw[e,h1],by rw[k.dr,h4],o,by rw[<-h1,hh,h1];exact h2,h3⟩
def zF (L:Lay)(w:World)(t u z:Nat):Prop:=
 0<z/\(u<(L.et t).c*z->∃c e fr,w.heap[(L.et t).b]?=some (.cells c e fr)/\(L.et t).o+(L.et t).c*z<=c.size/\
  (∀o,(L.et t).o+u<=o->o<(L.et t).o+(L.et t).c*z->(fr.1<=o&&o<fr.2)=false)/\L.m (L.et t).b<=(L.et t).o+u)
def zC:List (Nat×Nat):=[]
def GOk (L:Lay)(w:World):Prop:=∀x∈zC,x.2<L.m x.1/\∃m,w.cell? ⟨x.1,x.2,none⟩=some (.int .i64 m)
def GOk.keep {L L':Lay}{w w':World}(h:GOk L w)(hm:∀b,L.m b<=L'.m b)(hc:∀b o,o<L.m b->w'.cell? ⟨b,o,none⟩=w.cell? ⟨b,o,none⟩):GOk L' w':=λx hx=>by
 obtain⟨h1,m,h2⟩:=h x hx;exact⟨ahI h1 (hm _),m,by rw[hc _ _ h1];exact h2⟩
structure cg (L:Lay)(H:List aA)(T:au)(w:World):Prop where
 box:∀i b,H[i]?=some b->mG L H.length T w i b
 inj:∀i j,i<H.length->j<H.length->L.bS i=L.bS j->i=j
 tok:∀t u z,T[t]?=some (u,z)->zF L w t u z
 pg:∀t u z t' u' z',T[t]?=some (u,z)->T[t']?=some (u',z')->u<(L.et t).c*z->u'<(L.et t').c*z'->(L.et t).b=(L.et t').b->t=t'
 kq:∀t u z i,T[t]?=some (u,z)->u<(L.et t).c*z->i<H.length->(L.et t).b≠L.bS i
 mz:∀b,w.heap.size<=b->L.m b=0
 gl:GOk L w
theorem mG.lt {L N T w i b}(h:mG L N T w i b):L.bS i<w.heap.size:=by
 rcases agM (L.bS i) w.heap.size with h1|h1
 ·exact h1
 ·exfalso
  cases b with
  |cells vs=>obtain⟨c,t,fr,hh,_⟩:=h;rw[ah8 h1] at hh;cases hh
  |iter s pos=>unfold mG at h;rw[ah8 h1] at h;cases h
  |map es=>obtain⟨dR,hh,_⟩:=h;rw[ah8 h1] at hh;cases hh
  |mv m n seen=>obtain⟨hh,_⟩:=h;rw[ah8 h1] at hh;cases hh
  |JK g p=>obtain⟨e,_,o,hh,_⟩:=h;rw[<-e,ah8 h1] at hh;cases hh
def cg.lX {L H T w}(h:cg L H T w){i:Nat}(hi:i<H.length):L.bS i<w.heap.size:=
 (h.box i _ (agD hi)).lt
def cg.Gm {L H T w}(h:cg L H T w){t u z:Nat}(ht:T[t]?=some (u,z))(hs:u<(L.et t).c*z):(L.et t).b<w.heap.size:=by
 obtain⟨_,h2⟩:=h.tok t u z ht;obtain⟨c,e,fr,hh,_⟩:=h2 hs;rcases agM (L.et t).b w.heap.size with h1|h1
 ·exact h1
 ·rw[ah8 h1] at hh;cases hh
def cg.Y6 {L H T w}(h:cg L H T w){b:Nat}(hb:Wr L H.length T b):b<w.heap.size:=by
 rcases hb with⟨i,hi,rfl⟩|⟨t,u,z,ht,hs,rfl⟩
 ·exact h.lX hi
 ·exact h.Gm ht hs
def bH:Env->Nat->AV
 |[],_=>.top
 |(s,v)::r,t=>if s=t then v else bH r t
def lN:Env->Nat->AV->Env
 |[],t,v=>[(t,v)]
 |(s,u)::r,t,v=>if s=t then (t,v)::r else (s,u)::lN r t v
theorem cM (e:Env)(t:Nat)(v:AV):bH (lN e t v) t=v:=by
 induction e with
 |nil=>simp[lN,bH]
 |cons x r ih=>
  obtain⟨s,u⟩:=x
  by_cases h:s=t
  ·simp[lN,bH,h]
  ·simp[lN,bH,h,ih]
theorem bE (e:Env)(t t':Nat)(v:AV)(dN:t≠t'):bH (lN e t v) t'=bH e t':=by
 induction e with
 |nil=>simp[lN,bH,dN]
 |cons x r ih=>
  obtain⟨s,u⟩:=x
  by_cases h:s=t
  ·subst h;simp[lN,bH,dN]
  ·by_cases h2:s=t'
   ·subst h2;simp[lN,bH,h]
   ·simp[lN,bH,h,h2,ih]
def fm (L:Lay)(N:Nat)(T:au)(w:World)(e:Env)(a:Act):Prop:=
 ∀t,ba L N T w (bH e t) (a.tmps.getD t undef)
theorem fm.keep {L N T w L' N' T' w' e a}(k:cX L N T w L' N' T' w')(h:fm L N T w e a):fm L' N' T' w' e a:=λt=>(h t).keep k
def jv (a:Act)(d t:Nat)(v:Value)(hd:d<a.tmps.size):(a.put (some d) v).tmps.getD t undef=if d=t then v else a.tmps.getD t undef:=by
 simp only[Act.put,aja]
 by_cases h:d=t
 ·subst h;simp[hd]
 ·simp[aiD h,h]
theorem fm.put {L N T w e a d v c}(h:fm L N T w e a)(hd:d<a.tmps.size)(hv:ba L N T w v c):fm L N T w (lN e d v) (a.put (some d) c):=by
 intro t;rw[jv a d t c hd]
 by_cases W0:d=t
 ·subst W0;rw[cM];simpa using hv
 ·rw[bE _ _ _ _ W0,agL W0];exact h t
structure St where
 e:Env
 H:List aA
 T:au
structure Cx where
 P:Program
 nt:Nat
 nv:Nat
 nb:Nat
 tb:Nat
 bx:List Nat
structure eK (C:Cx)(s:St)(L:Lay)(w:World)(a:Act):Prop where
 nb:C.nb<=s.H.length
 tb:C.tb<=s.T.length
 mO:cg L s.H s.T w
 size:a.tmps.size=C.nt
 defers:a.defers=[]
 env:fm L s.H.length s.T w s.e a
def cO (C:Cx)(Q:Exit->St->Prop)(L:Lay)(s:St)(w:World)(e:Exit)(a':Act)(w':World):Prop:=
 ∃s' L',Q e s'/\eK C s' L' w' a'/\Ev C.nb C.tb L s.H.length s.T w L' s'.H.length s'.T w'
def AW (C:Cx)(c:Code)(Q:Exit->St->Prop)(s:St):Prop:=
 ∀L w a,eK C s L w a->c.wp C.P (cO C Q L s w) a w
def cO.step {C Q L s w L1 s1 w1 e a' w'}(h:Ev C.nb C.tb L s.H.length s.T w L1 s1.H.length s1.T w1)(k:cO C Q L1 s1 w1 e a' w'):cO C Q L s w e a' w':=by
 obtain⟨s',L',q,c,ev⟩:=k;exact⟨s',L',q,c,h.trans ev⟩
def AW.mono {C c Q Q' s}(h:AW C c Q s)(hq:∀e s,Q e s->Q' e s):AW C c Q' s:=λL w a hc=>
 wp_mono (h L w a hc) λ_ _ _ ⟨s',L',q,r⟩=>⟨s',L',hq _ _ q,r⟩
def dF (K:St->Prop)(Q:Exit->St->Prop):Exit->St->Prop
 |.normal,s=>K s
 |e,s=>Q e s
def aq {C Q s}(h:Q .normal s):AW C .skip Q s:=λL w a hc=>wp_skip ⟨s,L,h,hc,Ev.refl hc.nb hc.tb⟩
def aG {C Q s id}(h:Q (.exit id) s):AW C (.exit id) Q s:=λL w a hc=>wp_exit ⟨s,L,h,hc,Ev.refl hc.nb hc.tb⟩
def az {C Q s}(h:Q .ret s):AW C .ret Q s:=λL w a hc=>wp_ret ⟨s,L,h,hc,Ev.refl hc.nb hc.tb⟩
theorem w8 {C x y Q s}(h:∀K:St->Prop,(∀s,AW C y Q s->K s)->AW C x (dF K Q) s):AW C (.seq x y) Q s:=λL w a hc=>
 wp_seq (wp_mono (h _ (λ_ h=>h) L w a hc) λe a' w' ⟨s',L',q,c,ev⟩=>by
  cases e with
  |normal=>exact wp_mono (q L' w' a' c) λ_ _ _ k=>cO.step ev k
  |_=>exact⟨s',L',q,c,ev⟩)
def GC (id:Nat)(Q:Exit->St->Prop):Exit->St->Prop
 |.exit id',s=>if id'=id then Q .normal s else Q (.exit id') s
 |e,s=>Q e s
theorem aj {C id x Q s}(h:AW C x (GC id Q) s):AW C (.block id x) Q s:=λL w a hc=>
 wp_block (wp_mono (h L w a hc) λe a' w' ⟨s',L',q,c,ev⟩=>by
  cases e with
  |exit id'=>
   simp only[GC] at q;simp only[Exit.inBlock]
   split
   ·rename_i FG;rw[agN FG] at q;exact⟨s',L',q,c,ev⟩
   ·rename_i FG;rw[agL FG] at q;exact⟨s',L',q,c,ev⟩
  |_=>exact⟨s',L',q,c,ev⟩)
inductive Below (n t:Nat):AV->Prop
 |top:Below n t .top
 |bool (b:Bool):Below n t (.bool b)
 |int (k:IntKind) (x:Int):Below n t (.int k x)
 |str (s:List UInt8):Below n t (.str s)
 |fV:Below n t .fV
 |ptr (i o:Nat) (h:i<n):Below n t (.ptr i o)
 |dZ (cs:List AV) (o:Nat) (h:∀c∈cs,Below n t c):Below n t (.dZ cs o)
 |sl (m:Nat) (cs:List AV) (tg:Tag) (h:∀c∈cs,Below n t c) (ht:∀x,tg=.own x->x<t):Below n t (.sl m cs tg)
 |cN (i o m:Nat) (h:i<n):Below n t (.cN i o m)
 |bJ (i m cap:Nat) (h:i<n):Below n t (.bJ i m cap)
 |aQ (i:Nat) (h:i<n):Below n t (.aQ i)
 |fn (f:FuncId) (first cz:List AV) (h1:∀c∈first,Below n t c) (h2:∀c∈cz,Below n t c):Below n t (.fn f first cz)
 |ji:Below n t .ji
 |mR:Below n t .mR
 |AM:Below n t .AM
 |agg (cs:List AV) (h:∀c∈cs,Below n t c):Below n t (.agg cs)
 |df (cs:List AV) (h:∀c∈cs,Below n t c):Below n t (.df cs)
theorem ba.drop {L:Lay}{N n t:Nat}{T:au}{w:World}{v:AV}{c:Value}(h:ba L N T w v c)(hb:Below n t v):ba L n (T.take t) w v c:=by
 have tag:∀(tg:Tag)(m u:Nat)(a:Option Addr)(cap:Nat),(∀x,tg=.own x->x<t)->lP L T tg m u a cap->lP L (T.take t) tg m u a cap:=by
  intro tg m u a cap hx ht
  cases tg with
  |none=>trivial
  |full=>exact ht
  |own x=>
   obtain⟨u0,z,h0,r⟩:=ht;exact⟨u0,z,by rw[ahu,agN (hx x rfl)];exact h0,r⟩
 induction h with
 |top v=>exact .top v
 |bool b=>exact .bool b
 |int k x=>exact .int k x
 |str s=>exact .str s
 |fV=>exact .fV
 |ptr i o h=>cases hb with|ptr _ _ h'=>exact .ptr i o h'
 |dZ cs o b base f hm hc h1 hr ih=>cases hb with|dZ _ _ hx=>exact .dZ cs o b base f hm hc h1 (λj hj=>ih j hj (hx _ (ahb hj)))
 |yZ tg a cap ht=>cases hb with|sl _ _ _ hx hy=>exact .yZ tg a cap (tag _ _ _ _ _ hy ht)
 |Qi m cs tg b base cap f cE hm hc h1 hr ht ih=>
  cases hb with|sl _ _ _ hx hy=>exact .Qi m cs tg b base cap f cE hm hc h1 (λj hj=>ih j hj (hx _ (ahb hj))) (tag _ _ _ _ _ hy ht)
 |cN i o m cap h cE=>cases hb with|cN _ _ _ h'=>exact .cN i o m cap h' cE
 |bJ i m cap h cE=>cases hb with|bJ _ _ _ h'=>exact .bJ i m cap h' cE
 |aQ i h=>cases hb with|aQ _ h'=>exact .aQ i h'
 |fn f first cz fv cv h1 h2 yv oO UL UK=>
  cases hb with|fn _ _ _ hx hy=>exact .fn f first cz fv cv h1 h2 (λj hj bQ=>UL j hj bQ (hx _ (ahb hj))) (λj hj bQ=>UK j hj bQ (hy _ (ahb hj)))
 |ji=>exact .ji
 |mR=>exact .mR
 |AM t v=>exact .AM t v
 |agg cs cv h1 h2 hr ih=>cases hb with|agg _ hx=>exact .agg cs cv h1 h2 (λj hj bQ=>ih j hj bQ (hx _ (ahb hj)))
 |df cs cv h1 hr ih=>cases hb with|df _ hx=>exact .df cs cv h1 (λj hj bQ=>ih j hj bQ (hx _ (ahb hj)))
def cK:AV->AV
 |.sl n cs _=>.sl n cs .none
 |.bJ i n _=>.cN i 0 n
 |v=>v
theorem ba.cK {L:Lay}{N:Nat}{T:au}{w:World}{v:AV}{c:Value}(h:ba L N T w v c):ba L N T w (cK v) c:=by
 cases h with
 |yZ tg a cap ht=>exact .yZ .none a cap trivial
 |Qi n cs tg b base cap f cE hm hc h1 hr ht=>exact .Qi n cs .none b base cap f cE hm hc h1 hr trivial
 |top _=>exact .top _
 |bool b=>exact .bool b
 |int k x=>exact .int k x
 |str s=>exact .str s
 |fV=>exact .fV
 |ptr i o h=>exact .ptr i o h
 |dZ cs o b base f hm hc h1 hr=>exact .dZ cs o b base f hm hc h1 hr
 |cN i o m cap h cE=>exact .cN i o m cap h cE
 |bJ i m cap h cE=>exact .cN i 0 m cap h cE
 |aQ i h=>exact .aQ i h
 |fn f first cz fv cv h1 h2 yv oO=>exact .fn f first cz fv cv h1 h2 yv oO
 |ji=>exact .ji
 |mR=>exact .mR
 |AM t v=>exact .AM t v
 |agg cs cv h1 h2 hr=>exact .agg cs cv h1 h2 hr
 |df cs cv h1 hr=>exact .df cs cv h1 hr
theorem Below.cK {n t:Nat}{v:AV}(h:Below n t v):Below n t (cK v):=by
 cases h with
 |sl m cs tg h ht=>exact .sl m cs .none h (λx hx=>by cases hx)
 |top=>exact .top
 |bool b=>exact .bool b
 |int k x=>exact .int k x
 |str s=>exact .str s
 |fV=>exact .fV
 |ptr i o h=>exact .ptr i o h
 |dZ cs o h=>exact .dZ cs o h
 |cN i o m h=>exact .cN i o m h
 |bJ i m cap h=>exact .cN i 0 m h
 |aQ i h=>exact .aQ i h
 |fn f a b h1 h2=>exact .fn f a b h1 h2
 |ji=>exact .ji
 |mR=>exact .mR
 |AM=>exact .AM
 |agg cs h=>exact .agg cs h
 |df cs h=>exact .df cs h
structure tX (C:Cx)(s s':St):Prop where
 nb:C.nb<=s'.H.length
 tb:C.tb<=s'.T.length
 H:∃r,s.H=s'.H++r
 T:∃r,s.T=s'.T++r
 cells:∀(i:Nat)(b:aA),s'.H[i]?=some b->∀v∈b.AY,Below s'.H.length s'.T.length v
 env:∀t,bH s'.e t=.top\/((bH s'.e t=bH s.e t\/bH s'.e t=cK (bH s.e t))/\Below s'.H.length s'.T.length (bH s'.e t))
theorem tX.mO {C s s' L w a}(h:tX C s s')(c:eK C s L w a):eK C s' L w a:=by
 obtain⟨gw,fQ,⟨rH,hH⟩,⟨rT,hT⟩,w6,tR⟩:=h;have W3:s.T.take s'.T.length=s'.T:=by rw[hT];simp
 have hlen:s'.H.length<=s.H.length:=by rw[hH];simp
 have jl:∀(i:Nat)(b:aA),s'.H[i]?=some b->s.H[i]?=some b:=by
  intro i b hb;have hi:=(agC.1 hb).1;rw[hH,agK hi];exact hb
 have JB:∀(t:Nat)(x:Nat×Nat),s'.T[t]?=some x->s.T[t]?=some x:=by
  intro t x hx;have hi:=(agC.1 hx).1;rw[hT,agK hi];exact hx
 have rep:∀v c',ba L s.H.length s.T w v c'->Below s'.H.length s'.T.length v->ba L s'.H.length s'.T w v c':=by
  intro v c' hr hb;have:=hr.drop hb
  rwa [W3] at this
 refine⟨gw,fQ,⟨λi b hb=>?_,λi j hi hj=>c.mO.inj i j (by omega) (by omega),λt u z ht=>c.mO.tok t u z (JB _ _ ht),λt u z t' u' z' h1 h2=>c.mO.pg t u z t' u' z' (JB _ _ h1) (JB _ _ h2),
  λt u z i h1 h2 hi=>c.mO.kq t u z i (JB _ _ h1) h2 (by omega),c.mO.mz,c.mO.gl⟩,c.size,c.defers,λt=>?_⟩
 ·have Cj:=c.mO.box i b (jl i b hb)
  cases b with
  |cells vs=>
   obtain⟨cc,t,fr,h1,h2,h3,Ya,h4,h5⟩:=Cj;exact⟨cc,t,fr,h1,h2,h3,Ya,λj hj bQ=>rep _ _ (h4 j hj bQ) (w6 i _ hb _ (ahb hj)),h5⟩
  |iter s0 pos=>exact Cj
  |map es=>
   obtain⟨dR,h1,h2,h3,h4⟩:=Cj;exact⟨dR,h1,h2,λj hj bQ=>⟨(h3 j hj bQ).1,(h3 j hj bQ).2.1,rep _ _ (h3 j hj bQ).2.2 (w6 i _ hb _ (agG.2 ⟨_,ahb hj,rfl⟩))⟩,h4⟩
  |mv m n seen=>exact Cj
  |JK g p=>exact Cj
 ·rcases tR t with h0|⟨h1,h2⟩
  ·rw[h0];exact .top _
  ·rcases h1 with h1|h1
   ·rw[h1] at h2 ⊢;exact rep _ _ (c.env t) h2
   ·rw[h1] at h2 ⊢;exact rep _ _ (c.env t).cK h2
def tX.ev {C s s' L w}(h:tX C s s'):Ev C.nb C.tb L s.H.length s.T w L s'.H.length s'.T w:=by
 obtain⟨gw,fQ,⟨rH,hH⟩,⟨rT,hT⟩,_,_⟩:=h;have JB:∀(t:Nat)(x:Nat×Nat),s'.T[t]?=some x->s.T[t]?=some x:=by
  intro t x hx;have hi:=(agC.1 hx).1;rw[hT,agK hi];exact hx
 refine⟨gw,λ_ _=>rfl,λt u z ht hx=>⟨u,?_,agE _,λ_=>rfl⟩,fQ,λ_=>agE _,λ_ _ _=>rfl,agE _,λ_ _ _=>rfl,λb hb=>.inl ?_,rfl,rfl,rfl,λ_=>agE _,rfl⟩
 ·rw[hT,agK (by omega)] at hx;exact hx
 ·rcases hb with⟨i,hi,e⟩|⟨t,u,z,h1,h2,e⟩
  ·exact .inl ⟨i,by rw[hH];simp;omega,e⟩
  ·exact .inr ⟨t,u,z,JB _ _ h1,h2,e⟩
def aI {C c Q s}(s':St)(hw:tX C s s')(h:AW C c Q s'):AW C c Q s:=λL w a hc=>
 wp_mono (h L w a (hw.mO hc)) λ_ _ _ k=>cO.step hw.ev k
theorem aJ {C c Q s}{X:Type}(st:X->St)(I:X->Prop)(μ:X->Nat)(x0:X)(h0:I x0)(hw:tX C s (st x0))
  (round:∀x,I x->AW C c (dF (λs'=>∃x',I x'/\μ x'<μ x/\tX C s' (st x')) Q) (st x)):AW C (.loop c) Q s:=by
 refine aI (st x0) hw ?_;intro L w a hc;refine wp_loop (λa' w'=>∃x L',I x/\eK C (st x) L' w' a'/\Ev C.nb C.tb L (st x0).H.length (st x0).T w L' (st x).H.length (st x).T w')
  (λa' w'=>Classical.epsilon λn=>(∃x L',I x/\eK C (st x) L' w' a'/\Ev C.nb C.tb L (st x0).H.length (st x0).T w L' (st x).H.length (st x).T w'/\μ x=n)/\
   ∀x L',I x->eK C (st x) L' w' a'->Ev C.nb C.tb L (st x0).H.length (st x0).T w L' (st x).H.length (st x).T w'->n<=μ x) ⟨x0,L,h0,hc,Ev.refl hc.nb hc.tb⟩ ?_
 have least:∀a' w',(∃x L',I x/\eK C (st x) L' w' a'/\Ev C.nb C.tb L (st x0).H.length (st x0).T w L' (st x).H.length (st x).T w')->
   ∃n,(∃x L',I x/\eK C (st x) L' w' a'/\Ev C.nb C.tb L (st x0).H.length (st x0).T w L' (st x).H.length (st x).T w'/\μ x=n)/\
    ∀x L',I x->eK C (st x) L' w' a'->Ev C.nb C.tb L (st x0).H.length (st x0).T w L' (st x).H.length (st x).T w'->n<=μ x:=by
  intro a' w' ⟨x,L',hI,yC,dB⟩;have key:∀n,∀x L',I x->eK C (st x) L' w' a'->Ev C.nb C.tb L (st x0).H.length (st x0).T w L' (st x).H.length (st x).T w'->μ x=n->
    ∃n,(∃x L',I x/\eK C (st x) L' w' a'/\Ev C.nb C.tb L (st x0).H.length (st x0).T w L' (st x).H.length (st x).T w'/\μ x=n)/\
    ∀x L',I x->eK C (st x) L' w' a'->Ev C.nb C.tb L (st x0).H.length (st x0).T w L' (st x).H.length (st x).T w'->n<=μ x:=by
   intro n
   induction n using Nat.strongRecOn with
   |_ n ih=>
    intro x L' h1 h2 h3 h4
    by_cases hs:∃y Xb,I y/\eK C (st y) Xb w' a'/\Ev C.nb C.tb L (st x0).H.length (st x0).T w Xb (st y).H.length (st y).T w'/\μ y<n
    ·obtain⟨y,Xb,g1,g2,g3,g4⟩:=hs;exact ih (μ y) g4 y Xb g1 g2 g3 rfl
    ·refine⟨n,⟨x,L',h1,h2,h3,h4⟩,λy Xb g1 g2 g3=>?_⟩;rcases agM (μ y) n with g|g
     ·exact absurd ⟨y,Xb,g1,g2,g3,g⟩ hs
     ·exact g
  exact key _ x L' hI yC dB rfl
 intro a1 w1 hI1;obtain⟨⟨x,L1,hI,yC,dB,hμ⟩,aeg⟩:=Classical.epsilon_spec (least a1 w1 hI1);refine wp_mono (round x hI L1 w1 a1 yC) λe a' w' ⟨s',L',q,c',ev⟩=>?_
 cases e with
 |normal=>
  obtain⟨x',U6,aZ,XD⟩:=q;have hP:I x'/\eK C (st x') L' w' a'/\Ev C.nb C.tb L (st x0).H.length (st x0).T w L' (st x').H.length (st x').T w':=
   ⟨U6,XD.mO c',(dB.trans ev).trans XD.ev⟩
  refine⟨⟨x',L',hP⟩,?_⟩;obtain⟨_,NA⟩:=Classical.epsilon_spec (least a' w' ⟨x',L',hP⟩);have h1:=NA x' L' hP.1 hP.2.1 hP.2.2;rw[<-hμ];exact ai0 h1 aZ
 |_=>exact⟨s',L',q,c',dB.trans ev⟩
def j0 (w:World)(o:Obj)(b:Nat)(h:b<w.heap.size):(w.alloc o).heap[b]?=w.heap[b]?:=by
 show (w.heap.push o)[b]?=_;rw[Array.getElem?_push,agL (by omega)]
def fI (w:World)(o:Obj):(w.alloc o).heap[w.heap.size]?=some o:=by
 show (w.heap.push o)[w.heap.size]?=_;rw[Array.getElem?_push,agN rfl]
def je {w w':World}{b:Nat}(h:w'.heap[b]?=w.heap[b]?)(o:Nat):w'.cell? ⟨b,o,none⟩=w.cell? ⟨b,o,none⟩:=by
 unfold World.cell?;simp only[h]
def gp {w:World}{b:Nat}{c:Array Value}{e:TypeId}{fr:Nat×Nat}(h:w.heap[b]?=some (.cells c e fr))(o:Nat):w.cell? ⟨b,o,none⟩=c[o]?:=by
 unfold World.cell?;simp only[h];simp
def cg.drew {L:Lay}{H:List aA}{T:au}{w w':World}(h:cg L H T w)(hh:w'.heap=w.heap):cg L H T w':=by
 have kp:cX L H.length T w L H.length T w':=⟨agE _,λ_ _=>rfl,λt u z h=>⟨u,h,agE _,λ_=>rfl⟩,λ_=>agE _,λb o _=>je (by rw[hh]) o,rfl⟩
 refine⟨λi b hb=>?_,h.inj,λt u z ht=>?_,h.pg,h.kq,λb hb=>h.mz b (by rw[<-hh];exact hb),h.gl.keep kp.m kp.tF⟩
 ·exact(h.box i b hb).stay kp (agC.1 hb).1 (by rw[hh]) id
 ·obtain⟨h1,h2⟩:=h.tok t u z ht;exact⟨h1,λhs=>by rw[hh];exact h2 hs⟩
def Ev.drew {L:Lay}{H:List aA}{T:au}{w w':World}(hh:w'.heap=w.heap)(ho:w'.os=w.os)(ht:w'.tape=w.tape)(A5:w'.output=w.output)(qc:w.drawn<=w'.drawn) :
  Ev H.length T.length L H.length T w L H.length T w':=
 ⟨agE _,λ_ _=>rfl,λt u z _ h=>⟨u,h,agE _,λ_=>rfl⟩,agE _,λ_=>agE _,λb o _=>je (by rw[hh]) o,by rw[hh];exact agE _,
  λb _ _=>by rw[hh],λb hb=>.inl hb,ho,ht,A5,λ_=>qc,rfl⟩
def Lay.bW (L:Lay)(b k:Nat):Lay:={ L with m:=λx=>if x=b then k else L.m x }
def Lay.dz (L:Lay)(i b:Nat):Lay:={ L with bS:=λx=>if x=i then b else L.bS x }
def Lay.bt (L:Lay)(t:Nat)(k:Tk):Lay:={ L with et:=λx=>if x=t then k else L.et x }
theorem Ev.alloc {L:Lay}{H:List aA}{T:au}{w:World}(h:cg L H T w)(o:Obj)(k:Nat) :
  Ev H.length T.length L H.length T w (L.bW w.heap.size k) H.length T (w.alloc o):=by
 refine⟨agE _,λ_ _=>rfl,λt u z _ h=>⟨u,h,agE _,λ_=>rfl⟩,agE _,λb=>?_,λb o' ho=>?_,by simp,λb hb _=>j0 w o b hb,
  λb hb=>.inl hb,rfl,rfl,rfl,λ_=>agE _,rfl⟩
 ·show L.m b<=if b=w.heap.size then k else L.m b
  split
  ·rename_i e;rw[h.mz b (by omega)];exact agP _
  ·exact agE _
 ·have hb:b<w.heap.size:=by
   rcases agM b w.heap.size with h1|h1
   ·exact h1
   ·rw[h.mz b h1] at ho;omega
  exact je (j0 w o b hb) o'
theorem cg.alloc {L:Lay}{H:List aA}{T:au}{w:World}(h:cg L H T w)(o:Obj)(k:Nat):cg (L.bW w.heap.size k) H T (w.alloc o):=by
 have kp:=(Ev.alloc h o k).keeps;refine⟨λi b hb=>?_,h.inj,λt u z ht=>?_,h.pg,h.kq,λb hb=>?_,h.gl.keep kp.m kp.tF⟩
 ·have aZ:=(h.box i b hb).lt;refine(h.box i b hb).stay kp (agC.1 hb).1 (j0 w o _ aZ) λh5=>?_;show (if L.bS i=w.heap.size then k else L.m (L.bS i))=0;rw[agL (by omega)];exact h5
 ·obtain⟨h1,h2⟩:=h.tok t u z ht;refine⟨h1,λhs=>?_⟩;have aZ:=h.Gm ht hs;obtain⟨c,e,fr,g1,g2,g3,g4⟩:=h2 hs;refine⟨c,e,fr,by show (w.alloc o).heap[(L.et t).b]?=_;rw[j0 w o _ aZ];exact g1,g2,g3,?_⟩;show (if (L.et t).b=w.heap.size then k else L.m (L.et t).b)<=_;rw[agL (by omega)];exact g4
 ·have:w.heap.size+1<=b:=by simpa using hb
  show (if b=w.heap.size then k else L.m b)=0;rw[agL (by omega)];exact h.mz b (by omega)
def cg.wV {L:Lay}{H:List aA}{T:au}{w:World}(h:cg L H T w){b:Nat}(hb:w.heap.size<=b):¬Wr L H.length T b:=λhw=>by
 have:=h.Y6 hw;omega
def cg.rO {L:Lay}{H:List aA}{T:au}{w:World}(h:cg L H T w)(b:Nat)(hb:¬Wr L H.length T b)(oW:aA)(hz:w.heap.size<=b->False)
  (rE:mG (L.dz H.length b) (H.length+1) T w H.length oW):cg (L.dz H.length b) (H++[oW]) T w:=by
 have qQ:∀i,i<H.length->(L.dz H.length b).bS i=L.bS i:=λi hi=>by simp only[Lay.dz];rw[agL (by omega)]
 have wG:(L.dz H.length b).bS H.length=b:=by simp[Lay.dz]
 have kp:cX L H.length T w (L.dz H.length b) (H++[oW]).length T w:=
  ⟨by simp,λi hi=>qQ i hi,λt u z h=>⟨u,h,agE _,λ_=>rfl⟩,λ_=>agE _,λ_ _ _=>rfl,rfl⟩
 have gw:∀i,i<H.length->L.bS i≠b:=λi hi e=>hb (.inl ⟨i,hi,e⟩);refine⟨λi x hx=>?_,λi j hi hj e=>?_,λt u z ht=>h.tok t u z ht,h.pg,λt u z i ht hs hi=>?_,h.mz,h.gl.keep kp.m kp.tF⟩
 ·rcases agM i H.length with hi|hi
  ·rw[agK hi] at hx;have:=(h.box i x hx).stay kp hi rfl id;exact this
  ·have iP:i=H.length:=by
    have:=(agC.1 hx).1;simp at this;omega
   subst iP;simp at hx;subst hx;simpa using rE
 ·simp at hi hj;rcases agM i H.length with iP|iP<;>rcases agM j H.length with bQ|bQ
  ·rw[qQ i iP,qQ j bQ] at e;exact h.inj i j iP bQ e
  ·have:j=H.length:=by omega
   subst this;rw[qQ i iP,wG] at e;exact absurd e (gw i iP)
  ·have:i=H.length:=by omega
   subst this;rw[qQ j bQ,wG] at e;exact absurd e.symm (gw j bQ)
  ·omega
 ·simp at hi;rcases agM i H.length with iP|iP
  ·rw[qQ i iP];exact h.kq t u z i ht hs iP
  ·have:i=H.length:=by omega
   subst this;rw[wG];intro e;exact hb (.inr ⟨t,u,z,ht,hs,e⟩)
def Ev.rO {L L1:Lay}{H:List aA}{T:au}{w w1:World}{b:Nat}(oW:aA)(h:Ev H.length T.length L H.length T w L1 H.length T w1)(hb:w.heap.size<=b) :
  Ev H.length T.length L H.length T w (L1.dz H.length b) (H++[oW]).length T w1:=by
 refine⟨by simp,λi hi=>?_,h.tok,h.t,h.m,h.tF,h.size,h.frame,λx hx=>?_,h.os,h.tape,h.output,h.drawn,h.dr⟩
 ·simp only[Lay.dz];rw[agL (by omega)];exact h.bS i hi
 ·rcases hx with⟨i,hi,e⟩|⟨t,u,z,ht,hs,e⟩
  ·simp at hi;rcases agM i H.length with iP|iP
   ·exact h.wr x (.inl ⟨i,iP,by simp only[Lay.dz] at e;rwa [agL (by omega)] at e⟩)
   ·have:i=H.length:=by omega
    subst this;simp[Lay.dz] at e;exact .inr (by omega)
  ·exact h.wr x (.inr ⟨t,u,z,ht,hs,e⟩)
def cg.oz {L:Lay}{H:List aA}{T:au}{w:World}(h:cg L H T w)(k:Tk)(u z:Nat)(hb:u<k.c*z->¬Wr L H.length T k.b)
  (jC:zF (L.bt T.length k) w T.length u z):cg (L.bt T.length k) H (T++[(u,z)]) w:=by
 have rC:∀t,t<T.length->(L.bt T.length k).et t=L.et t:=λt ht=>by simp only[Lay.bt];rw[agL (by omega)]
 have wG:(L.bt T.length k).et T.length=k:=by simp[Lay.bt]
 have kp:cX L H.length T w (L.bt T.length k) H.length (T++[(u,z)]) w:=by
  refine⟨agE _,λi hi=>rfl,λt u' z' ht=>?_,λ_=>agE _,λ_ _ _=>rfl,rfl⟩;have aZ:=(agC.1 ht).1;exact⟨u',by rw[agK aZ];exact ht,agE _,λ_=>rC t aZ⟩
 have part:∀t u' z',(T++[(u,z)])[t]?=some (u',z')->(t<T.length/\T[t]?=some (u',z'))\/(t=T.length/\u'=u/\z'=z):=by
  intro t u' z' ht;rcases agM t T.length with aZ|od
  ·rw[agK aZ] at ht;exact .inl ⟨aZ,ht⟩
  ·have h1:=(agC.1 ht).1;simp at h1;have:t=T.length:=by omega
   subst this;simp at ht;exact .inr ⟨rfl,ht.1.symm,ht.2.symm⟩
 refine⟨λi b hb=>?_,h.inj,λt u' z' ht=>?_,λt u1 z1 t' u2 z2 h1 h2 s1 s2 e=>?_,λt u1 z1 i h1 s1 hi=>?_,h.mz,h.gl.keep kp.m kp.tF⟩
 ·exact(h.box i b hb).stay kp (agC.1 hb).1 rfl id
 ·rcases part t u' z' ht with⟨aZ,ht⟩|⟨rfl,rfl,rfl⟩
  ·have:=h.tok t u' z' ht;unfold zF at this ⊢;rw[rC t aZ];exact this
  ·exact jC
 ·rcases part t u1 z1 h1 with⟨aZ,g1⟩|⟨rfl,e1,e2⟩<;>rcases part t' u2 z2 h2 with⟨kr,g2⟩|⟨rfl,e3,e4⟩
  ·rw[rC _ aZ] at s1 e;rw[rC _ kr] at s2 e;exact h.pg t u1 z1 t' u2 z2 g1 g2 s1 s2 e
  ·rw[rC _ aZ] at s1 e;rw[wG] at s2 e;rw[e3,e4] at s2;exact absurd (.inr ⟨t,u1,z1,g1,s1,e⟩) (hb s2)
  ·rw[rC _ kr] at s2 e;rw[wG] at s1 e;rw[e1,e2] at s1;exact absurd (.inr ⟨t',u2,z2,g2,s2,e.symm⟩) (hb s1)
  ·rfl
 ·rcases part t u1 z1 h1 with⟨aZ,h1⟩|⟨rfl,rfl,rfl⟩
  ·rw[rC _ aZ] at s1 ⊢;exact h.kq t u1 z1 i h1 s1 hi
  ·rw[wG] at s1 ⊢;exact λe=>hb s1 (.inl ⟨i,hi,e.symm⟩)
def Ev.oz {L L1:Lay}{H:List aA}{T:au}{w w1:World}{k:Tk}{u z:Nat}(h:Ev H.length T.length L H.length T w L1 H.length T w1)(hb:u<k.c*z->w.heap.size<=k.b\/Wr L H.length T k.b) :
  Ev H.length T.length L H.length T w (L1.bt T.length k) H.length (T++[(u,z)]) w1:=by
 refine⟨h.n,h.bS,λt u' z' ht hT=>?_,by simp,h.m,h.tF,h.size,h.frame,λx hx=>?_,h.os,h.tape,h.output,h.drawn,h.dr⟩
 ·obtain⟨u1,h1,h2,h3⟩:=h.tok t u' z' ht hT;refine⟨u1,by rw[agK ht];exact h1,h2,λe=>?_⟩;simp only[Lay.bt];rw[agL (by omega)];exact h3 e
 ·rcases hx with⟨i,hi,e⟩|⟨t,u1,z1,ht,hs,e⟩
  ·exact h.wr x (.inl ⟨i,hi,e⟩)
  ·rcases agM t T.length with aZ|od
   ·rw[agK aZ] at ht;simp only[Lay.bt] at hs e;rw[agL (by omega)] at hs e;exact h.wr x (.inr ⟨t,u1,z1,ht,hs,e⟩)
   ·have h1:=(agC.1 ht).1;simp at h1;have:t=T.length:=by omega
    subst this;simp at ht;simp[Lay.bt] at hs e;obtain⟨rfl,rfl⟩:=ht;subst e;rcases hb hs with g|g
    ·exact .inr g
    ·exact .inl g
def oT (w:World)(b o:Nat)(v:Value){c:Array Value}{e:TypeId}{fr:Nat×Nat}(h:w.heap[b]?=some (.cells c e fr)) :
  (w.setCell ⟨b,o,none⟩ v).heap[b]?=some (.cells (c.setIfInBounds o v) e fr):=by
 show (w.heap.modify b _)[b]?=_;rw[aiO,agN rfl,h];rfl
def gq (w:World)(b o:Nat)(v:Value)(x:Nat)(hx:x≠b):(w.setCell ⟨b,o,none⟩ v).heap[x]?=w.heap[x]?:=by
 simp only[World.setCell,aiO];rw[agL (λe=>hx e.symm)]
theorem cg.setCell {L:Lay}{H:List aA}{T:au}{w:World}(h:cg L H T w){i o:Nat}{vs:List AV}(hi:H[i]?=some (.cells vs))(ho:o<vs.length){v:AV}{cv:Value}
  (hv:ba L H.length T w v cv) (h1:cv.oneCell'=true) :
  cg L (H.set i (.cells (vs.set o v))) T (w.setCell ⟨L.bS i,o,none⟩ cv)/\
   Ev H.length T.length L H.length T w L (H.set i (.cells (vs.set o v))).length T (w.setCell ⟨L.bS i,o,none⟩ cv):=by
 have eH:=(agC.1 hi).1;obtain⟨c,t,fr,g1,g2,g3,vW,g4,g5⟩:=h.box i _ hi;have so:∀b o',o'<L.m b->(w.setCell ⟨L.bS i,o,none⟩ cv).cell? ⟨b,o',none⟩=w.cell? ⟨b,o',none⟩:=by
  intro b o' aZ;refine je (gq w _ _ _ _ ?_) o';rintro rfl;omega
 have kp:cX L H.length T w L H.length T (w.setCell ⟨L.bS i,o,none⟩ cv):=
  ⟨agE _,λ_ _=>rfl,λt u z h=>⟨u,h,agE _,λ_=>rfl⟩,λ_=>agE _,so,rfl⟩
 refine⟨⟨λj b hb=>?_,λa b ha hb=>h.inj a b (by simpa using ha) (by simpa using hb),λt u z ht=>?_,h.pg,λt u z j ht hs hj=>h.kq t u z j ht hs (by simpa using hj),λb hb=>h.mz b (by simpa using hb),h.gl.keep kp.m kp.tF⟩,
  by simp,λ_ _=>rfl,λt u z _ h=>⟨u,h,agE _,λ_=>rfl⟩,agE _,λ_=>agE _,so,by simp,λb hb hn=>?_,λb hb=>.inl (by simpa using hb),rfl,rfl,rfl,λ_=>agE _,rfl⟩
 ·rw[ahY]
  by_cases rp:i=j
  ·subst rp;rw[ag4 eH] at hb
   cases hb
   refine⟨_,t,fr,oT w _ _ _ g1,λo' vD=>g2 o' (by simpa using vD),by simpa using g3,λj hj=>?_,λj hj bQ=>?_,g5⟩
   ·by_cases WX:o=j
    ·subst WX;simpa using h1
    ·rw[Array.getElem_setIfInBounds_ne (by simpa using hj) WX];exact vW j _
   ·by_cases WX:o=j
    ·subst WX;simpa using hv.keep kp
    ·rw[Array.getElem_setIfInBounds_ne (by simpa using bQ) WX,List.getElem_set_ne WX];exact(g4 j (by simpa using hj) (by simpa using bQ)).keep kp
  ·rw[ahs rp] at hb;have hx:=h.box j b hb;have qJ:=(agC.1 hb).1;have dN:L.bS j≠L.bS i:=λe=>rp (h.inj j i qJ eH e).symm;exact hx.stay kp qJ (gq w _ _ _ _ dN) id
 ·obtain⟨k1,k2⟩:=h.tok t u z ht;refine⟨k1,λhs=>?_⟩;rw[gq _ _ _ _ _ (h.kq t u z i ht hs eH)];exact k2 hs
 ·exact gq w _ _ _ _ (λe=>hn (.inl ⟨i,eH,e.symm⟩))
def cg.setIter {L:Lay}{H:List aA}{T:au}{w:World}(h:cg L H T w){i pos pos':Nat}{s:List UInt8}(hi:H[i]?=some (.iter s pos)) :
  cg L (H.set i (.iter s pos')) T { w with heap:=w.heap.setIfInBounds (L.bS i) (.stringIter ⟨s.toArray⟩ pos') }/\
   Ev H.length T.length L H.length T w L (H.set i (.iter s pos')).length T { w with heap:=w.heap.setIfInBounds (L.bS i) (.stringIter ⟨s.toArray⟩ pos') }:=by
 have eH:=(agC.1 hi).1;have hx:w.heap[L.bS i]?=some (.stringIter ⟨s.toArray⟩ pos):=h.box i _ hi;have dN:∀x,x≠L.bS i->(w.heap.setIfInBounds (L.bS i) (.stringIter ⟨s.toArray⟩ pos'))[x]?=w.heap[x]?:=λx hx=>aiD (λe=>hx e.symm);have so:∀b o',o'<L.m b->World.cell? { w with heap:=w.heap.setIfInBounds (L.bS i) (.stringIter ⟨s.toArray⟩ pos') } ⟨b,o',none⟩=w.cell? ⟨b,o',none⟩:=by
  intro b o' aZ
  by_cases hb:b=L.bS i
  ·subst hb;have kr:=h.lX eH;have h1:(w.heap.setIfInBounds (L.bS i) (.stringIter ⟨s.toArray⟩ pos'))[L.bS i]?=some (.stringIter ⟨s.toArray⟩ pos'):=by simp[kr]
   unfold World.cell?;simp only[hx,h1]
  ·exact je (dN b hb) o'
 have kp:cX L H.length T w L H.length T { w with heap:=w.heap.setIfInBounds (L.bS i) (.stringIter ⟨s.toArray⟩ pos') }:=
  ⟨agE _,λ_ _=>rfl,λt u z h=>⟨u,h,agE _,λ_=>rfl⟩,λ_=>agE _,so,rfl⟩
 refine⟨⟨λj b hb=>?_,λa b ha hb=>h.inj a b (by simpa using ha) (by simpa using hb),λt u z ht=>?_,h.pg,λt u z j ht hs hj=>h.kq t u z j ht hs (by simpa using hj),λb hb=>h.mz b (by simpa using hb),h.gl.keep kp.m kp.tF⟩,
  by simp,λ_ _=>rfl,λt u z _ h=>⟨u,h,agE _,λ_=>rfl⟩,agE _,λ_=>agE _,so,by simp,λb hb hn=>?_,λb hb=>.inl (by simpa using hb),rfl,rfl,rfl,λ_=>agE _,rfl⟩
 ·rw[ahY]
  by_cases rp:i=j
  ·subst rp;rw[ag4 eH] at hb
   cases hb
   have:=h.lX eH;simp[mG,this]
  ·rw[ahs rp] at hb;have hx:=h.box j b hb;have qJ:=(agC.1 hb).1;have hnj:L.bS j≠L.bS i:=λe=>rp (h.inj j i qJ eH e).symm;exact hx.stay kp qJ (dN _ hnj) id
 ·obtain⟨k1,k2⟩:=h.tok t u z ht;refine⟨k1,λhs=>?_⟩;have:=dN _ (h.kq t u z i ht hs eH);simp only[this];exact k2 hs
 ·exact dN _ (λe=>hn (.inl ⟨i,eH,e.symm⟩))
def cg.grow {L:Lay}{H:List aA}{T:au}{w w':World}(h:cg L H T w){t u z k:Nat}(ht:T[t]?=some (u,z))(hk:0<k)(hs:u+k<=(L.et t).c*z)
  {c c':Array Value} {e:TypeId} {fr:Nat×Nat} (hb:w.heap[(L.et t).b]?=some (.cells c e fr)) (yF:w'.heap[(L.et t).b]?=some (.cells c' e fr)) (gu:c'.size=c.size)
  (hold:∀j,j<(L.et t).o+u->c'[j]?=c[j]?) (dN:∀x,x≠(L.et t).b->w'.heap[x]?=w.heap[x]?) (hz:w'.heap.size=w.heap.size) (ho:w'.os=w.os) (XH:w'.tape=w.tape) (A5:w'.output=w.output) (qc:w.drawn<=w'.drawn) :
  cg (L.bW (L.et t).b ((L.et t).o+u+k)) H (T.set t (u+k,z)) w'/\
   Ev H.length T.length L H.length T w (L.bW (L.et t).b ((L.et t).o+u+k)) H.length (T.set t (u+k,z)) w':=by
 have vC:=(agC.1 ht).1;obtain⟨tH,tO⟩:=h.tok t u z ht;have FQ:u<(L.et t).c*z:=by omega
 obtain⟨c0,e0,fr0,g1,g2,g3,g4⟩:=tO FQ;rw[hb] at g1
 cases g1
 have Rq:=h.Gm ht FQ;have so:∀b o',o'<L.m b->w'.cell? ⟨b,o',none⟩=w.cell? ⟨b,o',none⟩:=by
  intro b o' aZ
  by_cases Mz:b=(L.et t).b
  ·subst Mz;rw[gp hb,gp yF];exact hold o' (by omega)
  ·exact je (dN b Mz) o'
 have Ue:∀b,L.m b<=(L.bW (L.et t).b ((L.et t).o+u+k)).m b:=by
  intro b;show L.m b<=if b=(L.et t).b then _ else L.m b
  split
  ·rename_i e;rw[e];omega
  ·exact agE _
 have M6:∀(t' u' z':Nat),T[t']?=some (u',z')->∃u1:Nat,(T.set t (u+k,z))[t']?=some (u1,z')/\u'<=u1/\(u1=u'->(L.bW (L.et t).b ((L.et t).o+u+k)).et t'=L.et t'):=by
  intro t' u' z' p9
  by_cases vB:t=t'
  ·subst vB;rw[ht] at p9
   cases p9
   exact⟨u+k,by rw[ag4 vC],by omega,λ_=>rfl⟩
  ·exact⟨u',by rw[ahs vB];exact p9,agE _,λ_=>rfl⟩
 have kp:cX L H.length T w (L.bW (L.et t).b ((L.et t).o+u+k)) H.length (T.set t (u+k,z)) w':=
  ⟨agE _,λ_ _=>rfl,M6,Ue,so,rfl⟩
 have rE:∀i,i<H.length->L.bS i≠(L.et t).b:=λi hi=>(h.kq t u z i ht FQ hi).symm;have back:∀(t' u' z':Nat),(T.set t (u+k,z))[t']?=some (u',z')->∃u0:Nat,T[t']?=some (u0,z')/\u0<=u':=by
  intro t' u' z' p9
  by_cases vB:t=t'
  ·subst vB;rw[ag4 vC] at p9
   cases p9
   exact⟨u,ht,by omega⟩
  ·rw[ahs vB] at p9;exact⟨u',p9,agE _⟩
 refine⟨⟨λi b UZ=>?_,h.inj,λt' u' z' p9=>?_,λt1 u1 z1 t2 u2 z2 h1 h2 s1 s2 e=>?_,λt1 u1 z1 i h1 s1 hi=>?_,λb hbz=>?_,h.gl.keep kp.m kp.tF⟩,
  agE _,λ_ _=>rfl,λt' u' z' _ p9=>M6 t' u' z' p9,by simp,Ue,so,by omega,λb vF hn=>?_,λb yE=>?_,ho,XH,A5,λ_=>qc,rfl⟩
 ·have hx:=h.box i b UZ;have eH:=(agC.1 UZ).1;have hn:=rE i eH;refine hx.stay kp eH (dN _ hn) λk5=>?_;show (if L.bS i=(L.et t).b then _ else L.m (L.bS i))=0;rw[agL hn];exact k5
 ·by_cases vB:t=t'
  ·subst vB;rw[ag4 vC] at p9
   cases p9
   refine⟨tH,λVs=>⟨c',e,fr,yF,by rw[gu];exact g2,λo' h1 h2=>g3 o' (by simp only[Lay.bW] at h1;omega) h2,?_⟩⟩;show (if (L.et t).b=(L.et t).b then _ else _)<=_;rw[agN rfl];simp only[Lay.bW];omega
  ·rw[ahs vB] at p9;obtain⟨k1,k2⟩:=h.tok t' u' z' p9;refine⟨k1,λVs=>?_⟩;have hbn:(L.et t').b≠(L.et t).b:=λe=>vB (h.pg t' u' z' t u z p9 ht Vs FQ e).symm;obtain⟨c1,e1,fr1,m1,m2,m3,m4⟩:=k2 Vs;refine⟨c1,e1,fr1,(dN _ hbn).trans m1,m2,m3,?_⟩;show (if (L.et t').b=(L.et t).b then _ else L.m (L.et t').b)<=_;rw[agL hbn];exact m4
 ·obtain⟨UH,g1,l1⟩:=back t1 u1 z1 h1;obtain⟨u2',g2,l2⟩:=back t2 u2 z2 h2;have s1':UH<(L.et t1).c*z1:=ai0 l1 s1;have s2':u2'<(L.et t2).c*z2:=ai0 l2 s2;exact h.pg t1 UH z1 t2 u2' z2 g1 g2 s1' s2' e
 ·obtain⟨UH,g1,l1⟩:=back t1 u1 z1 h1;have s1':UH<(L.et t1).c*z1:=ai0 l1 s1;exact h.kq t1 UH z1 i g1 s1' hi
 ·show (if b=(L.et t).b then _ else L.m b)=0;rw[agL (by omega)];exact h.mz b (by omega)
 ·exact dN b (λe=>hn (.inr ⟨t,u,z,ht,FQ,e.symm⟩))
 ·rcases yE with⟨i,hi,e⟩|⟨t',u',z',p9,uS,e⟩
  ·exact .inl (.inl ⟨i,hi,e⟩)
  ·obtain⟨UH,g1,l1⟩:=back t' u' z' p9;exact .inl (.inr ⟨t',UH,z',g1,ai0 l1 uS,e⟩)
def cg.Gn {L:Lay}{H:List aA}{T:au}{w:World}(h:cg L H T w){t u z u':Nat}(ht:T[t]?=some (u,z))(hu:u<u')(k:Tk)
  (hb:u'<k.c*z->¬Wr L H.length T k.b) (jC:zF (L.bt t k) w t u' z):cg (L.bt t k) H (T.set t (u',z)) w:=by
 have vC:=(agC.1 ht).1;have rC:∀t',t'≠t->(L.bt t k).et t'=L.et t':=λt' hn=>by simp only[Lay.bt];rw[agL hn]
 have wG:(L.bt t k).et t=k:=by simp[Lay.bt]
 have kp:cX L H.length T w (L.bt t k) H.length (T.set t (u',z)) w:=by
  refine⟨agE _,λi hi=>rfl,λt' u1 z1 p9=>?_,λ_=>agE _,λ_ _ _=>rfl,rfl⟩
  by_cases vB:t'=t
  ·subst vB;rw[ht] at p9
   cases p9
   exact⟨u',by rw[ag4 vC],by omega,λe=>by omega⟩
  ·exact⟨u1,by rw[ahs (λe=>vB e.symm)];exact p9,agE _,λ_=>rC t' vB⟩
 have part:∀(t' u1 z1:Nat),(T.set t (u',z))[t']?=some (u1,z1)->(t'≠t/\T[t']?=some (u1,z1))\/(t'=t/\u1=u'/\z1=z):=by
  intro t' u1 z1 h1
  by_cases vB:t'=t
  ·subst vB;rw[ag4 vC] at h1
   cases h1
   exact .inr ⟨rfl,rfl,rfl⟩
  ·rw[ahs (λe=>vB e.symm)] at h1;exact .inl ⟨vB,h1⟩
 refine⟨λi b UZ=>?_,h.inj,λt' u1 z1 h1=>?_,λt1 u1 z1 t2 u2 z2 h1 h2 s1 s2 e=>?_,λt1 u1 z1 i h1 s1 hi=>?_,h.mz,h.gl.keep kp.m kp.tF⟩
 ·exact(h.box i b UZ).stay kp (agC.1 UZ).1 rfl id
 ·rcases part t' u1 z1 h1 with⟨hn,g1⟩|⟨rfl,e1,e2⟩
  ·have:=h.tok t' u1 z1 g1;unfold zF at this ⊢;rw[rC t' hn];exact this
  ·rw[e1,e2];exact jC
 ·rcases part t1 u1 z1 h1 with⟨AP,g1⟩|⟨r1,e1,e2⟩<;>rcases part t2 u2 z2 h2 with⟨Cf,g2⟩|⟨r2,e3,e4⟩
  ·rw[rC _ AP] at s1 e;rw[rC _ Cf] at s2 e;exact h.pg t1 u1 z1 t2 u2 z2 g1 g2 s1 s2 e
  ·rw[rC _ AP] at s1 e;rw[r2,wG] at s2 e;rw[e3,e4] at s2;exact absurd (.inr ⟨t1,u1,z1,g1,s1,e⟩) (hb s2)
  ·rw[rC _ Cf] at s2 e;rw[r1,wG] at s1 e;rw[e1,e2] at s1;exact absurd (.inr ⟨t2,u2,z2,g2,s2,e.symm⟩) (hb s1)
  ·rw[r1,r2]
 ·rcases part t1 u1 z1 h1 with⟨AP,g1⟩|⟨r1,e1,e2⟩
  ·rw[rC _ AP] at s1 ⊢;exact h.kq t1 u1 z1 i g1 s1 hi
  ·rw[r1,wG] at s1 ⊢;rw[e1,e2] at s1;exact λe=>hb s1 (.inl ⟨i,hi,e.symm⟩)
def Ev.Gn {L L1:Lay}{H:List aA}{T:au}{w w1:World}{k:Tk}{t u z u':Nat}(h:Ev H.length T.length L H.length T w L1 H.length T w1)(ht:T[t]?=some (u,z))(hu:u<u')
  (hb:u'<k.c*z->w.heap.size<=k.b):Ev H.length T.length L H.length T w (L1.bt t k) H.length (T.set t (u',z)) w1:=by
 have vC:=(agC.1 ht).1;refine⟨h.n,h.bS,λt' u1 z1 aZ hT=>?_,by simp,h.m,h.tF,h.size,h.frame,λx hx=>?_,h.os,h.tape,h.output,h.drawn,h.dr⟩
 ·obtain⟨u2,h1,h2,h3⟩:=h.tok t' u1 z1 aZ hT;rw[hT] at h1
  by_cases vB:t'=t
  ·subst vB;rw[ht] at hT
   cases hT
   exact⟨u',by rw[ag4 vC],by omega,λe=>by omega⟩
  ·refine⟨u1,by rw[ahs (λe=>vB e.symm)];exact hT,agE _,λe=>?_⟩;simp only[Lay.bt];rw[agL vB]
   cases h1
   exact h3 rfl
 ·rcases hx with⟨i,hi,e⟩|⟨t',u1,z1,h1,hs,e⟩
  ·exact h.wr x (.inl ⟨i,hi,e⟩)
  ·by_cases vB:t'=t
   ·subst vB;rw[ag4 vC] at h1
    cases h1
    simp[Lay.bt] at hs e;subst e;exact .inr (hb hs)
   ·rw[ahs (λe=>vB e.symm)] at h1;simp only[Lay.bt] at hs e;rw[agL vB] at hs e;exact h.wr x (.inr ⟨t',u1,z1,h1,hs,e⟩)
def yG:Value->AV
 |.bool b=>.bool b
 |.int k n=>.int k n
 |.string s=>.str s.data.toList
 |.pointer none=>.fV
 |.slice _ 0 0=>.sl 0 [] .full
 |.nilFunc=>.ji
 |.nilIface=>.mR
 |_=>.top
def QO:Value->AV
 |.agg cs=>if cs.all (·.oneCell') then .agg (cs.toList.map yG) else .top
 |v=>yG v
def bR (e:Env):Operand->AV
 |.tmp t=>bH e t
 |.const v=>QO v
 |.func f=>.fn f [] []
 |.global _=>.top
def Be:AV->Bool
 |.top|.agg _|.df _=>false
 |_=>true
section
variable {L : Lay} {N : Nat} {T : au} {w : World}
theorem ba.yG (v:Value):ba L N T w (yG v) v:=by
 unfold Am.yG
 split
 ·exact .bool _
 ·exact .int _ _
 ·rename_i s;exact .str s.data.toList
 ·exact .fV
 ·exact .yZ .full _ 0 rfl
 ·exact .ji
 ·exact .mR
 ·exact .top _
theorem ba.QO (v:Value):ba L N T w (QO v) v:=by
 unfold Am.QO
 split
 ·rename_i cs
  split
  ·rename_i h;rw[Array.all_eq_true] at h;refine .agg _ cs (by simp) (λj hj=>h j hj) (λj hj bQ=>?_);simp only[ahv,ahA];exact .yG _
  ·exact .top _
 ·exact .yG _
theorem fm.bR {e:Env}{a:Act}(h:fm L N T w e a)(x:Operand):ba L N T w (bR e x) (a.eval x):=by
 cases x with
 |tmp t=>exact h t
 |const v=>exact .QO v
 |func f=>exact .fn f [] [] #[] #[] rfl rfl (λj hj=>by simp at hj) (λj hj=>by simp at hj)
 |global g=>exact .top _
def ba.dT {k:IntKind}{n:Int}{c:Value}(h:ba L N T w (.int k n) c):c=.int k n:=by cases h;rfl
def ba.jx {b:Bool}{c:Value}(h:ba L N T w (.bool b) c):c=.bool b:=by cases h;rfl
def ba.iN {s:List UInt8}{c:Value}(h:ba L N T w (.str s) c):c=.string ⟨s.toArray⟩:=by cases h;rfl
def ba.DO {c:Value}(h:ba L N T w .mR c):c=.nilIface:=by cases h;rfl
def ba.I0 {c:Value}(h:ba L N T w .AM c):∃t v,c=.iface t v:=by cases h;exact⟨_,_,rfl⟩
def ba.oB {i o:Nat}{c:Value}(h:ba L N T w (.ptr i o) c):c=.pointer (some ⟨L.bS i,o,none⟩)/\i<N:=by cases h;exact⟨rfl,‹_›⟩
def ba.cell {v:AV}{c:Value}(h:ba L N T w v c)(hc:Be v=true):c.oneCell'=true:=by
 cases h<;>simp[Be] at hc<;>rfl
end
def Good (P:Program)(x:Sem Next)(H:List aA)(T:au)(L:Lay)(w:World)(r:AV)(H':List aA)(T':au):Prop:=
 ∃n cv w' L',x.run P w=.ok n w'/\(n=.value cv\/(n=.skip/\cv=undef))/\cg L' H' T' w'/\ba L' H'.length T' w' r cv/\Ev H.length T.length L H.length T w L' H'.length T' w'
def Good.now {P:Program}{x:Sem Next}{H:List aA}{T:au}{L:Lay}{w:World}{r:AV}{cv:Value}(hc:cg L H T w)(hx:x.run P w=.ok (.value cv) w)(hr:ba L H.length T w r cv):Good P x H T L w r H T:=
 ⟨_,cv,w,L,hx,.inl rfl,hc,hr,Ev.refl (agE _) (agE _)⟩
def RG (op : BinOp) (k : IntKind) (a b : Int) : Option AV :=
  match op with
  | .add => some (.int k (k.wrap (a + b)))
  | .sub => some (.int k (k.wrap (a - b)))
  | .mul => some (.int k (k.wrap (a * b)))
  | .quo => if b = 0 then none else some (.int k (k.wrap (a.tdiv b)))
  | .rem => if b = 0 then none else some (.int k (a.tmod b))
  | .and => some (.int k (bits .and k a b))
  | .or => some (.int k (bits .or k a b))
  | .xor => some (.int k (bits .xor k a b))
  | .andNot => some (.int k (bits .andNot k a b))
  | .eql => some (.bool (a == b))
  | .neq => some (.bool (a != b))
  | .lss => some (.bool (decide (a < b)))
  | .leq => some (.bool (decide (a <= b)))
  | .gtr => some (.bool (decide (a > b)))
  | .geq => some (.bool (decide (a ≥ b)))
  | _ => none
def RD (op:BinOp)(a b:List UInt8):Option AV:=
 match op with
 |.add=>if a.length+b.length<=9223372036854775807 then some (.str (a++b)) else none
 |.eql=>some (.bool (a==b))
 |.neq=>some (.bool (!(a==b)))
 |.lss=>some (.bool (Op.bytesLess a b))
 |.leq=>some (.bool (Op.bytesLess a b||a==b))
 |.gtr=>some (.bool (!(Op.bytesLess a b||a==b)))
 |.geq=>some (.bool (!Op.bytesLess a b))
 |_=>none
def RH (op:BinOp)(x y:AV):Option AV:=
 match x,y with
 |.int k a,.int k' b=>
  match op with
  |.shl=>if 0<=b then some (.int k (k.wrap (a*2 ^ min b.toNat k.bits))) else none
  |.shr=>if 0<=b then some (.int k (a.fdiv (2 ^ min b.toNat k.bits))) else none
  |op=>if k=k' then RG op k a b else none
 |.str a,.str b=>RD op a b
 |.bool a,.bool b=>match op with
  |.eql=>some (.bool (a==b))
  |.neq=>some (.bool (!(a==b)))
  |_=>none
 |.fV,.fV=>match op with|.eql=>some (.bool true)|.neq=>some (.bool false)|_=>none
 |.ptr _ _,.fV|.dZ _ _,.fV|.fV,.ptr _ _|.fV,.dZ _ _=>match op with|.eql=>some (.bool false)|.neq=>some (.bool true)|_=>none
 |_,_=>none
def aun (op:UnOp)(x:AV):Option AV:=
 match op,x with
 |.neg,.int k n=>some (.int k (k.wrap (0-n)))
 |.xor,.int k n=>some (.int k (bits .xor k (if k.signed then -1 else k.max) n))
 |.not,.bool b=>some (.bool (!b))
 |_,_=>none
section
variable {P : Program} {w : World}
theorem OX {op : BinOp} {k : IntKind} {a b : Int} {r : AV} (h : RG op k a b = some r) (t : TypeId) (h1 : op ≠ .shl) (h2 : op ≠ .shr) :
    ∃ cv, (binOp op t (.int k a) (.int k b)).run P w = .ok cv w /\ ∀ (L : Lay) (N : Nat) (T : au) (w' : World), ba L N T w' r cv := by
  cases op <;> simp only [RG, Option.some.injEq, reduceCtorEq] at h
  case quo =>
    split at h
    · cases h
    · rename_i hb
      cases h
      exact ⟨_, by simp [binOp, Op.intDiv, hb], λ_ _ _ _ => .int _ _⟩
  case rem =>
    split at h
    · cases h
    · rename_i hb
      cases h
      exact ⟨_, by simp [binOp, Op.intDiv, hb], λ_ _ _ _ => .int _ _⟩
  all_goals
    subst h
    first
      | exact ⟨_, by simp [binOp, Op.intArith]; rfl, λ_ _ _ _ => .int _ _⟩
      | exact ⟨_, by simp [binOp, Op.intCmp], λ_ _ _ _ => .bool _⟩
      | exact ⟨_, by simp [binOp, Op.intBits]; rfl, λ_ _ _ _ => .int _ _⟩
def toList_mk (s:List UInt8):(⟨s.toArray⟩:ByteArray).toList=s:=by
 rw[show (⟨s.toArray⟩:ByteArray).toList=(⟨s.toArray⟩:ByteArray).data.toList from ByteArray.toList_eq _]
def Ll (a b:List UInt8):(⟨a.toArray⟩:ByteArray)++⟨b.toArray⟩=⟨(a++b).toArray⟩:=by
 apply ByteArray.ext;simp
def OT {op:BinOp}{a b:List UInt8}{r:AV}(h:RD op a b=some r)(t:TypeId) :
  ∃cv,(binOp op t (.string ⟨a.toArray⟩) (.string ⟨b.toArray⟩)).run P w=.ok cv w/\∀(L:Lay)(N:Nat)(T:au)(w':World),ba L N T w' r cv:=by
 have hi:IntKind.i64.max=9223372036854775807:=by decide
 cases op<;>simp only[RD,Option.some.injEq,reduceCtorEq] at h
 case add=>
  split at h
  ·rename_i hb
   cases h
   refine⟨.string ⟨(a++b).toArray⟩,?_,λ_ _ _ _=>.str _⟩;have:¬((a.length+b.length:Nat):Int)>IntKind.i64.max:=by rw[hi];omega
   simp only[binOp,Op.stringOp];rw[agL (by simpa[ByteArray.size] using this),Ll];rfl
  ·cases h
 all_goals
  subst h;exact⟨_,by simp only[binOp,Op.stringOp,toList_mk];rfl,λ_ _ _ _=>.bool _⟩
def oS (op:BinOp)(t:TypeId)(x y:Operand)(a b:Value)(h:(∀cs,a≠.agg cs)/\a≠.nilIface):(eqGuard op t x y a b).run P w=.ok () w:=by
 unfold eqGuard
 cases a<;>first|exact absurd rfl h.2|exact absurd rfl (h.1 _)|(cases op<;>simp)
def Se {op:UnOp}{x r:AV}{c:Value}{L:Lay}{N:Nat}{T:au}(h:aun op x=some r)(hx:ba L N T w x c) :
  ∃cv,(Op.unary op c).run P w=.ok cv w/\∀(L:Lay)(N:Nat)(T:au)(w':World),ba L N T w' r cv:=by
 unfold aun at h
 split at h
 ·cases h;rw[hx.dT];exact⟨_,rfl,λ_ _ _ _=>.int _ _⟩
 ·cases h;rw[hx.dT];exact⟨_,rfl,λ_ _ _ _=>.int _ _⟩
 ·cases h;rw[hx.jx];exact⟨_,rfl,λ_ _ _ _=>.bool _⟩
 ·cases h
def ue (P:Program)(t:TypeId)(x:AV):Bool:=
 match P.underlying t,x with
 |some .bool,.bool _=>true
 |some (.pointer _),.fV|some (.pointer _),.ptr _ _|some (.pointer _),.dZ _ _=>true
 |some _,.int _ _|some _,.str _=>true
 |_,_=>false
def lg (t:TypeId)(x y:Value)(b:Bool)(op:BinOp)(ho:op=.eql\/op=.neq)(hb:binOp .eql t x y=(do pure (.bool (<-Op.equal t x y))))(yF:binOp .neq t x y=(do pure (.bool (!(<-Op.equal t x y)))))
  (h:∀d:Nat,(Op.equalIn (d+1) t x y).run P w=.ok b w):(binOp op t x y).run P w=.ok (.bool (if op=.eql then b else !b)) w:=by
 have h1:(Op.equal t x y).run P w=.ok b w:=h 9999;rcases ho with rfl|rfl
 ·rw[hb];simp only[Sem.run_bind,h1,Result.andThen_ok];rfl
 ·rw[yF];simp only[Sem.run_bind,h1,Result.andThen_ok];rfl
theorem OZ {op : BinOp} {x y r : AV} {cx cy : Value} {L : Lay} {N : Nat} {T : au} (t : TypeId) (h : RH op x y = some r) (ht : ue P t x = true) (hx : ba L N T w x cx) (hy : ba L N T w y cy) (ox oy : Operand) :
    ∃ cv, (eqGuard op t ox oy cx cy >>= λ_ => binOp op t cx cy).run P w = .ok cv w /\ ∀ (L : Lay) (N : Nat) (T : au) (w' : World), ba L N T w' r cv := by
  have hg : (∀ cs, cx ≠ .agg cs) /\ cx ≠ .nilIface := by
    cases hx <;> first | (exfalso; simp [ue] at ht; done) | exact ⟨λ_ e => (by cases e), λe => (by cases e)⟩
  simp only [Sem.run_bind, oS op t ox oy cx cy hg, Result.andThen_ok];unfold RH at h
  split at h
  · rw [hx.dT, hy.dT]
    split at h
    · split at h
      · rename_i hb
        cases h
        refine ⟨_, ?_, λ_ _ _ _ => .int _ _⟩;simp only [binOp, Op.shift];rw [agL (by omega)];rfl
      · cases h
    · split at h
      · rename_i hb
        cases h
        refine ⟨_, ?_, λ_ _ _ _ => .int _ _⟩;simp only [binOp, Op.shift];rw [agL (by omega)];rfl
      · cases h
    · split at h
      · rename_i hk;subst hk;exact OX h t ‹_› ‹_›
      · cases h
  · rw [hx.iN, hy.iN];exact OT h t
  · rename_i a b;rw [hx.jx, hy.jx];have hu : P.underlying t = some .bool := by
      unfold ue at ht; split at ht <;> simp_all
    have he : ∀ d : Nat, (Op.equalIn (d + 1) t (.bool a) (.bool b)).run P w = .ok (a == b) w := λd => by simp [Op.equalIn, run_underlying hu]
    split at h <;> cases h
    · exact ⟨_, lg t _ _ _ .eql (.inl rfl) rfl rfl he, λ_ _ _ _ => .bool _⟩
    · exact ⟨_, lg t _ _ _ .neq (.inr rfl) rfl rfl he, λ_ _ _ _ => .bool _⟩
  all_goals first
    | (have hu : ∃ e, P.underlying t = some (.pointer e) := by
        unfold ue at ht; split at ht <;> simp_all
       obtain ⟨e, hu⟩ := hu
       cases hx
       cases hy
       split at h <;> cases h
       · exact ⟨_, lg t _ _ _ .eql (.inl rfl) rfl rfl (λd => by simp only [Op.equalIn, Sem.run_bind, run_underlying hu, Result.andThen_ok]; rfl), λ_ _ _ _ => .bool _⟩
       · exact ⟨_, lg t _ _ _ .neq (.inr rfl) rfl rfl (λd => by simp only [Op.equalIn, Sem.run_bind, run_underlying hu, Result.andThen_ok]; rfl), λ_ _ _ _ => .bool _⟩)
    | cases h
end
def ff (b o j:Nat):(⟨b,o,none⟩:Addr).add j=⟨b,o+j,none⟩:=by
 unfold Addr.add
 split
 ·rename_i h;subst h;rfl
 ·rfl
def cJ (L:Lay)(N:Nat)(T:au)(w:World)(vs:List AV)(c:List Value):Prop:=
 c.length=vs.length/\(∀(j:Nat)(h':j<c.length),(c[j]'h').oneCell'=true)/\∀(j:Nat)(h:j<vs.length)(h':j<c.length),ba L N T w (vs[j]'h) (c[j]'h')
section
variable {L : Lay} {N : Nat} {T : au} {w : World}
def cJ.nil:cJ L N T w [] []:=⟨rfl,λ_ h=>by simp at h,λ_ h=>by simp at h⟩
def cJ.one {v:AV}{c:Value}(h:ba L N T w v c)(h1:c.oneCell'=true):cJ L N T w [v] [c]:=
 ⟨rfl,λj hj=>by simp at hj;subst hj;exact h1,λj hj _=>by simp at hj;subst hj;exact h⟩
def cJ.append {a b:List AV}{c d:List Value}(h:cJ L N T w a c)(k:cJ L N T w b d):cJ L N T w (a++b) (c++d):=by
 refine⟨by simp[h.1,k.1],λj hj=>?_,λj hj bQ=>?_⟩
 ·rw[aiH]
  split
  ·exact h.2.1 _ _
  ·exact k.2.1 _ _
 ·rw[aiH,aiH]
  by_cases aZ:j<a.length
  ·rw[ajo aZ,ajo (by rw[h.1];exact aZ)];exact h.2.2 _ _ _
  ·rw[ajp aZ,ajp (by rw[h.1];exact aZ)];have:=k.2.2 (j-a.length) (by simp at hj;omega) (by simp at bQ;rw[h.1] at bQ;omega);simpa[h.1] using this
theorem cJ.drop {a:List AV}{c:List Value}(h:cJ L N T w a c)(k:Nat):cJ L N T w (a.drop k) (c.drop k):=by
 refine⟨by simp[h.1],λj hj=>?_,λj hj bQ=>?_⟩
 ·rw[List.getElem_drop];exact h.2.1 _ _
 ·rw[List.getElem_drop,List.getElem_drop];exact h.2.2 _ _ _
theorem cJ.take {a:List AV}{c:List Value}(h:cJ L N T w a c)(k:Nat):cJ L N T w (a.take k) (c.take k):=by
 refine⟨by simp[h.1],λj hj=>?_,λj hj bQ=>?_⟩
 ·rw[aiT];exact h.2.1 _ _
 ·rw[aiT,aiT];exact h.2.2 _ _ _
theorem cJ.keep {L':Lay}{N':Nat}{T':au}{w':World}{a:List AV}{c:List Value}(k:cX L N T w L' N' T' w')(h:cJ L N T w a c):cJ L' N' T' w' a c:=
 ⟨h.1,h.2.1,λj hj bQ=>(h.2.2 j hj bQ).keep k⟩
theorem cJ.set {a:List AV}{c:List Value}(h:cJ L N T w a c)(i:Nat){v:AV}{x:Value}(hv:ba L N T w v x)(h1:x.oneCell'=true):cJ L N T w (a.set i v) (c.set i x):=by
 refine⟨by simp[h.1],λj hj=>?_,λj hj bQ=>?_⟩
 ·rw[getElem_set]
  split
  ·exact h1
  ·exact h.2.1 _ _
 ·rw[getElem_set,getElem_set]
  split
  ·exact hv
  ·exact h.2.2 _ _ _
theorem cJ.agg {a:List AV}{c:List Value}(h:cJ L N T w a c):ba L N T w (.agg a) (.agg c.toArray):=
 .agg a c.toArray (by simpa using h.1) (λj hj=>by simpa using h.2.1 j (by simpa using hj)) (λj hj bQ=>by simpa using h.2.2 j hj (by simpa using bQ))
theorem cJ.Bc {a:List AV}{c:Array Value}(h:ba L N T w (.agg a) (.agg c)):cJ L N T w a c.toList:=by
 cases h with
 |agg _ _ h1 h2 hr=>exact⟨by simpa using h1,λj hj=>by simpa using h2 j (by simpa using hj),λj hj bQ=>by simpa using hr j hj (by simpa using bQ)⟩
end
def Va (v:AV):Option (List AV):=
 match v with
 |.agg cs=>some cs
 |v=>if Be v then some [v] else none
theorem BM {L:Lay}{N:Nat}{T:au}{w:World}{v:AV}{c:Value}{xs:List AV}(h:Va v=some xs)(hv:ba L N T w v c):cJ L N T w xs c.cells.toList:=by
 unfold Va at h
 split at h
 ·cases h
  cases hv with
  |agg _ _ h1 h2 hr=>exact cJ.Bc (.agg _ _ h1 h2 hr)
 ·rename_i hn
  split at h
  ·rename_i hc
   cases h
   have h1:=hv.cell hc;have:c.cells=#[c]:=by cases c<;>first|rfl|(simp[Value.oneCell'] at h1)
   rw[this];exact cJ.one hv h1
  ·cases h
def jP (P:Program)(t:TypeId):Option Bool:=
 match P.underlying t with
 |some (.struct _)|some (.array _ _)=>some true
 |some _=>some false
 |none=>none
def ly {P:Program}{t:TypeId}{b:Bool}(h:jP P t=some b)(w:World):(isAgg t).run P w=.ok b w:=by
 unfold jP at h
 split at h<;>cases h
 ·rename_i hu;simp[isAgg,run_underlying hu]
 ·rename_i hu;simp[isAgg,run_underlying hu]
 ·rename_i d AP Cf hu;simp only[isAgg,Sem.run_bind,run_underlying hu,Result.andThen_ok]
  cases d<;>first|rfl|exact absurd rfl (AP _)|exact absurd rfl (Cf _ _)
def SX {P:Program}{t:TypeId}{d:TypeDesc}(h:P.underlying t=some d):∃i,P.info? t=some i:=info_of_underlying h
def cP {P:Program}{t:TypeId}{d:TypeDesc}(h:P.underlying t=some d)(w:World):(sizeOf t).run P w=.ok (P.cellsOf t) w:=by
 obtain⟨i,hi⟩:=SX h;exact run_sizeOf w hi
def No (H:List aA)(p:AV):Option (List AV×Nat):=
 match p with
 |.ptr i o=>match H[i]? with
  |some (.cells vs)=>some (vs,o)
  |_=>none
 |.dZ cs o=>some (cs,o)
 |_=>none
def mG.at {L:Lay}{N:Nat}{T:au}{w:World}{i:Nat}{vs:List AV}(h:mG L N T w i (.cells vs)) :
  ∃c:Array Value,cJ L N T w vs c.toList/\∀j,w.cell? ⟨L.bS i,j,none⟩=c[j]?:=by
 obtain⟨c,t,fr,h1,h2,h3,Ya,h4,h5⟩:=h;exact⟨c,⟨by simpa using h3,λj hj=>by simpa using Ya j (by simpa using hj),λj hj bQ=>by simpa using h4 j hj (by simpa using bQ)⟩,λj=>gp h1 j⟩
theorem yc {L:Lay}{H:List aA}{T:au}{w:World}{p:AV}{c:Value}{vs:List AV}{o:Nat}(hc:cg L H T w)(hp:ba L H.length T w p c)(h:No H p=some (vs,o)) :
  ∃(b base:Nat) (cv:List Value),c=.pointer (some ⟨b,base+o,none⟩)/\cJ L H.length T w vs cv/\∀j,j<vs.length->w.cell? ⟨b,base+j,none⟩=cv[j]?:=by
 unfold No at h
 split at h
 ·rename_i i o'
  split at h
  ·rename_i vs' hi
   cases h
   cases hp with
   |ptr _ _ aZ=>
    obtain⟨c,h1,h2⟩:=(hc.box i _ hi).at;exact⟨L.bS i,0,c.toList,by simp,h1,λj _=>by simpa using h2 j⟩
  ·cases h
 ·cases h
  cases hp with
  |dZ _ _ b base f hm lV h1 hr=>
   refine⟨b,base,(List.range vs.length).map f,rfl,⟨by simp,λj hj=>by simpa using h1 j (by simpa using hj),λj hj bQ=>by simpa using hr j hj⟩,λj hj=>?_⟩;rw[lV j hj];simp[hj]
 ·cases h
def qZ (P:Program)(t:TypeId)(vs:List AV)(o:Nat):Option AV:=
 match jP P t with
 |some true=>if o+P.cellsOf t<=vs.length then some (.agg ((vs.drop o).take (P.cellsOf t))) else none
 |some false=>if o<vs.length then some (vs.getD o .top) else none
 |none=>none
theorem vg {P:Program}{t:TypeId}{L:Lay}{N:Nat}{T:au}{w:World}{vs:List AV}{o b base:Nat}{cv:List Value}{r:AV}(hr:cJ L N T w vs cv)
  (hc:∀j,j<vs.length->w.cell? ⟨b,base+j,none⟩=cv[j]?) (h:qZ P t vs o=some r):∃c,(loadVar t ⟨b,base+o,none⟩).run P w=.ok c w/\ba L N T w r c:=by
 unfold qZ at h
 split at h
 ·rename_i Cw
  split at h
  ·rename_i hle
   cases h
   have hu:∃d,P.underlying t=some d:=by
    unfold jP at Cw
    cases hx:P.underlying t with
    |none=>simp[hx] at Cw
    |some d=>exact⟨d,rfl⟩
   obtain⟨d,hu⟩:=hu;have QB:cv.length=vs.length:=hr.1;refine⟨.agg ((cv.drop o).take (P.cellsOf t)).toArray,?_,((hr.drop o).take _).agg⟩;have hl:=run_loadCells (P:=P) w ⟨b,base+o,none⟩ (P.cellsOf t) (λj=>(cv[o+j]?).getD undef) (λj hj=>by
    rw[ff,show base+o+j=base+(o+j) by omega,hc _ (by omega)];have:o+j<cv.length:=by omega
    simp[this])
   simp only[loadVar,Sem.run_bind,ly Cw,Result.andThen_ok,ain,cP hu,hl];show Result.ok _ _=Result.ok _ _
   congr 3
   apply aiy
   ·simp;omega
   ·intro j h1 h2;simp at h1;have:o+j<cv.length:=by omega
    simp[this]
  ·cases h
 ·rename_i Cw
  split at h
  ·rename_i aZ;have QB:o<cv.length:=by rw[hr.1];exact aZ
   refine⟨cv[o],?_,?_⟩
   ·have lV:=hc o aZ;rw[agD QB] at lV;simp only[loadVar,Sem.run_bind,ly Cw,Result.andThen_ok,ahE,aiq,run_load,lV]
   ·have:=hr.2.2 o aZ QB
    cases h
    simpa[aZ] using this
  ·cases h
 ·cases h
def setMany:List AV->Nat->List AV->List AV
 |vs,_,[]=>vs
 |vs,o,x::r=>setMany (vs.set o x) (o+1) r
theorem nh {P:Program}{L:Lay}{T:au}(i:Nat)(o:Nat):∀(xs:List AV)(cs:List Value)(k:Nat)(H:List aA)(w:World)(vs:List AV),cg L H T w->cJ L H.length T w xs cs->
  H[i]?=some (.cells vs)->o+k+xs.length<=vs.length->
  ∃w',(storeCells ⟨L.bS i,o,none⟩ cs k).run P w=.ok () w'/\cg L (H.set i (.cells (setMany vs (o+k) xs))) T w'/\
   Ev H.length T.length L H.length T w L (H.set i (.cells (setMany vs (o+k) xs))).length T w':=by
 intro xs
 induction xs with
 |nil=>
  intro cs k H w vs hc hr hi hle;have yB:cs=[]:=ahe (by simpa using hr.1);subst yB;have hH:H.set i (.cells (setMany vs (o+k) []))=H:=by
   have aZ:=(agC.1 hi)
   simp only[setMany];apply aiw;intro j
   by_cases hj:i=j
   ·subst hj;rw[ag4 aZ.1,hi]
   ·rw[ahs hj]
  refine⟨w,rfl,by rw[hH];exact hc,by rw[hH];exact Ev.refl (agE _) (agE _)⟩
 |cons x r ih=>
  intro cs k H w vs hc hr hi hle
  match cs,hr with
  |c::cr,hr=>
   have eH:=(agC.1 hi).1;have h0:ba L H.length T w x c:=hr.2.2 0 (by simp) (by simp);have h1:c.oneCell'=true:=hr.2.1 0 (by simp);have MQ:cJ L H.length T w r cr:=by simpa using hr.drop 1
   obtain⟨cc,t,fr,g1,g2,g3,vW,g4,g5⟩:=hc.box i _ hi;have aZ:o+k<vs.length:=by simp at hle;omega
   obtain⟨Ia,he1⟩:=hc.setCell hi aZ h0 h1;have gA:(store ((⟨L.bS i,o,none⟩:Addr).add k) c).run P w=.ok () (w.setCell ⟨L.bS i,o+k,none⟩ c):=by
    rw[ff,run_store P w _ c _ h1,gp g1];have hk:o+k<cc.size:=by omega
    have hfz:w.frozen? ⟨L.bS i,o+k,none⟩=false:=by
     unfold World.frozen?;simp only[g1];exact g2 _ hk
    simp[hk,hfz]
   have hlen:(H.set i (.cells (vs.set (o+k) x))).length=H.length:=by simp
   obtain⟨w',cY,oU,yA⟩:=ih cr (k+1) (H.set i (.cells (vs.set (o+k) x))) (w.setCell ⟨L.bS i,o+k,none⟩ c) (vs.set (o+k) x) Ia (by rw[hlen];exact MQ.keep (by simpa[hlen] using he1.keeps))
    (ag4 eH) (by simp at hle ⊢;omega)
   rw[List.set_set] at oU yA;refine⟨w',?_,?_,?_⟩
   ·simp only[storeCells,Sem.run_bind,gA,Result.andThen_ok,cY]
   ·simpa[setMany,add_assoc] using oU
   ·rw[hlen] at yA;have:=he1.trans (by rw[hlen];exact yA);simpa[setMany,add_assoc] using this
  |[],hr=>simp[cJ] at hr
def cg.rL {L:Lay}{H:List aA}{T:au}{w:World}(h:cg L H T w)(c:Array Value)(ty:TypeId){vs:List AV}(hr:cJ L H.length T w vs c.toList) :
  ∃L',cg L' (H++[aA.cells vs]) T (w.alloc (.cells c ty))/\Ev H.length T.length L H.length T w L' (H++[aA.cells vs]).length T (w.alloc (.cells c ty))/\L'.bS H.length=w.heap.size:=by
 have h1:=h.alloc (.cells c ty) 0;have e1:=Ev.alloc h (.cells c ty) 0;have H9:¬Wr (L.bW w.heap.size 0) H.length T w.heap.size:=h.wV (agE _);have e2:=Ev.rO (b:=w.heap.size) (aA.cells vs) e1 (agE _);refine⟨(L.bW w.heap.size 0).dz H.length w.heap.size,h1.rO w.heap.size H9 (aA.cells vs) (λhle=>by simp at hle;omega) ?_,e2,by simp[Lay.dz]⟩;have qQ:((L.bW w.heap.size 0).dz H.length w.heap.size).bS H.length=w.heap.size:=by simp[Lay.dz]
 have UO:=hr.keep e2.keeps;have hl:(H++[aA.cells vs]).length=H.length+1:=by simp
 rw[hl] at UO;refine⟨c,ty,(0,0),by rw[qQ];exact fI w _,λo ho=>by simp,by simpa using hr.1,λj hj=>?_,λj hj bQ=>?_,?_⟩
 ·have:=hr.2.1 j (by simpa using hj);rwa [ahA] at this
 ·have:=UO.2.2 j hj (by simpa using bQ);rwa [ahA] at this
 ·rw[qQ];simp[Lay.dz,Lay.bW]
def cg.newRow {L:Lay}{H:List aA}{T:au}{w:World}(h:cg L H T w)(c:Array Value)(ty:TypeId)(fr:Nat×Nat){vs:List AV}(k:Nat)(hk:vs.length<=k)(hr:cJ L H.length T w vs (c.toList.take vs.length))(n cap:Nat)(hn:n<=cap)(tg:Tag)(ht:tg=.none\/(tg=.full/\cap=n)) :
  cg (L.bW w.heap.size k) H T (w.alloc (.cells c ty fr))/\Ev H.length T.length L H.length T w (L.bW w.heap.size k) H.length T (w.alloc (.cells c ty fr))/\
   ba (L.bW w.heap.size k) H.length T (w.alloc (.cells c ty fr)) (.sl n vs tg) (.slice (some ⟨w.heap.size,0,none⟩) n cap):=by
 have e1:=Ev.alloc h (.cells c ty fr) k;refine⟨h.alloc (.cells c ty fr) k,e1,?_⟩;have UO:=hr.keep e1.keeps;have hlen:(c.toList.take vs.length).length=vs.length:=hr.1;have gu:vs.length<=c.size:=by simp at hlen;omega
 refine .Qi n vs tg w.heap.size 0 cap (λj=>c.getD j undef) hn (by simp[Lay.bW];omega) (λj hj=>?_) (λj hj=>?_) (λj hj=>?_) ?_
 ·rw[gp (fI w _)];have:j<c.size:=by omega
  simp[this]
 ·have:=UO.2.1 j (by rw[hlen];exact hj);have uU:j<c.size:=by omega
  simpa[uU] using this
 ·have:=UO.2.2 j hj (by rw[hlen];exact hj);have uU:j<c.size:=by omega
  simpa[uU] using this
 ·rcases ht with rfl|⟨rfl,rfl⟩
  ·trivial
  ·rfl
section
variable {P : Program} {L : Lay} {N : Nat} {T : au} {w : World}
theorem ba.fF {n:Nat}{cs:List AV}{tg:Tag}{c:Value}(h:ba L N T w (.sl n cs tg) c) :
  ∃a cap,c=.slice a n cap/\n<=cap/\lP L T tg n cs.length a cap/\((cs=[]/\n=0)\/∃(b base:Nat) (cv:List Value),a=some ⟨b,base,none⟩/\base+cs.length<=L.m b/\cJ L N T w cs cv/\
   ∀j,j<cs.length->w.cell? ⟨b,base+j,none⟩=cv[j]?):=by
 cases h with
 |yZ _ a cap ht=>exact⟨a,cap,rfl,agP _,ht,.inl ⟨rfl,rfl⟩⟩
 |Qi _ _ _ b base cap f cE hm hc h1 hr ht=>
  refine⟨_,cap,rfl,cE,ht,.inr ⟨b,base,(List.range cs.length).map f,rfl,hm,⟨by simp,λj hj=>by simpa using h1 j (by simpa using hj),λj hj bQ=>by simpa using hr j hj⟩,λj hj=>?_⟩⟩;rw[hc j hj];simp[hj]
def ba.RZ {cs:List AV}{b base:Nat}{cv:List Value}(o:Nat)(hm:base+cs.length<=L.m b)(hr:cJ L N T w cs cv)(hc:∀j,j<cs.length->w.cell? ⟨b,base+j,none⟩=cv[j]?) :
  ba L N T w (.dZ cs o) (.pointer (some ⟨b,base+o,none⟩)):=by
 refine .dZ cs o b base (λj=>cv.getD j undef) hm (λj hj=>?_) (λj hj=>?_) (λj hj=>?_)
 ·have:j<cv.length:=by rw[hr.1];exact hj
  rw[hc j hj];simp[this]
 ·have:j<cv.length:=by rw[hr.1];exact hj
  simpa[this] using hr.2.1 j this
 ·have:j<cv.length:=by rw[hr.1];exact hj
  simpa[this] using hr.2.2 j hj this
def ba.mD {n cap:Nat}{cs:List AV}{tg:Tag}{b base:Nat}{cv:List Value}(cE:n<=cap)(hm:base+cs.length<=L.m b)(hr:cJ L N T w cs cv)(hc:∀j,j<cs.length->w.cell? ⟨b,base+j,none⟩=cv[j]?)
  (ht:lP L T tg n cs.length (some ⟨b,base,none⟩) cap):ba L N T w (.sl n cs tg) (.slice (some ⟨b,base,none⟩) n cap):=by
 refine .Qi n cs tg b base cap (λj=>cv.getD j undef) cE hm (λj hj=>?_) (λj hj=>?_) (λj hj=>?_) ht
 ·have:j<cv.length:=by rw[hr.1];exact hj
  rw[hc j hj];simp[this]
 ·have:j<cv.length:=by rw[hr.1];exact hj
  simpa[this] using hr.2.1 j this
 ·have:j<cv.length:=by rw[hr.1];exact hj
  simpa[this] using hr.2.2 j hj this
def ba.ij {i n cap:Nat}{c:Value}(h:ba L N T w (.bJ i n cap) c):c=.slice (some ⟨L.bS i,0,none⟩) n cap/\n<=cap/\i<N:=by
 cases h with|bJ _ _ _ hi cE=>exact⟨rfl,cE,hi⟩
def ba.jX {i o n:Nat}{c:Value}(h:ba L N T w (.cN i o n) c):∃cap,c=.slice (some ⟨L.bS i,o,none⟩) n cap/\n<=cap/\i<N:=by
 cases h with|cN _ _ _ cap hi cE=>exact⟨cap,rfl,cE,hi⟩
def u7 (p:AV)(d:Nat):Option AV:=
 match p with
 |.ptr i o=>some (.ptr i (o+d))
 |.dZ cs o=>some (.dZ cs (o+d))
 |_=>none
theorem ba.u7 {p q:AV}{c:Value}{d:Nat}(h:ba L N T w p c)(hq:Am.u7 p d=some q):∃a:Addr,c=.pointer (some a)/\ba L N T w q (.pointer (some (a.add d))):=by
 unfold Am.u7 at hq
 split at hq
 ·cases hq;cases h with|ptr _ _ hi=>exact⟨_,rfl,by rw[ff];exact .ptr _ _ hi⟩
 ·cases hq;cases h with|dZ _ _ b base f hm hc h1 hr=>exact⟨_,rfl,by rw[ff,add_assoc];exact .dZ _ _ b base f hm hc h1 hr⟩
 ·cases hq
def oL (P:Program)(s:TypeId)(p:AV)(f:Nat):Option AV:=
 match P.underlying s with
 |some (.struct fs)=>match fs[f]? with
  |some fd=>if (P.underlying fd.type).isSome&&0<P.cellsOf fd.type then u7 p fd.offset else none
  |none=>none
 |_=>none
def E6 {s:TypeId}{p q:AV}{f:Nat}{c:Value}(h:oL P s p f=some q)(hp:ba L N T w p c):∃cv,(Instr.fieldAt s c f).run P w=.ok cv w/\ba L N T w q cv:=by
 unfold oL at h
 split at h
 ·rename_i fs hu
  split at h
  ·rename_i fd hf
   split at h
   ·rename_i hz;simp only[agO,agQ] at hz;obtain⟨d,hd⟩:=ahg.1 hz.1;obtain⟨a,rfl,hr⟩:=hp.u7 h;refine⟨_,?_,hr⟩;have:¬P.cellsOf fd.type=0:=by omega
    simp[Instr.fieldAt,run_underlying hu,hf,Instr.sureAddr,fieldPlace,cP hd,this]
   ·cases h
  ·cases h
 ·cases h
def oK (P:Program)(t:TypeId)(x ix:AV):Option AV:=
 match P.underlying t,x,ix with
 |some (.slice e),.sl n cs _,.int _ i=>if 0<=i/\i<n then (if (P.underlying e).isSome then some (.dZ cs (i.toNat*P.cellsOf e)) else none) else none
 |some (.slice e),.cN b o n,.int _ i=>if 0<=i/\i<n then (if (P.underlying e).isSome then some (.ptr b (o+i.toNat*P.cellsOf e)) else none) else none
 |some (.slice e),.bJ b n _,.int _ i=>if 0<=i/\i<n then (if (P.underlying e).isSome then some (.ptr b (0+i.toNat*P.cellsOf e)) else none) else none
 |some (.array len e),p,.int _ i=>if 0<=i/\i<len then (if (P.underlying e).isSome then u7 p (i.toNat*P.cellsOf e) else none) else none
 |_,_,_=>none
def E5 {t:TypeId}{x ix q:AV}{cx ci:Value}(h:oK P t x ix=some q)(hx:ba L N T w x cx)(hi:ba L N T w ix ci):∃cv,(Instr.indexAt t cx ci).run P w=.ok cv w/\ba L N T w q cv:=by
 unfold oK at h
 split at h
 ·rename_i e n cs tg k i hu
  split at h
  ·rename_i hb
   split at h
   ·rename_i he;obtain⟨d,hd⟩:=ahg.1 he
    cases h
    rw[hi.dT];obtain⟨a,cap,rfl,cE,_,h0|⟨b,base,cv,rfl,hm,hr,hc⟩⟩:=hx.fF
    ·omega
    ·refine⟨_,?_,ba.RZ (i.toNat*P.cellsOf e) hm hr hc⟩;simp[Instr.indexAt,run_underlying hu,asIntOf,hb,cP hd,ff]
   ·cases h
  ·cases h
 ·rename_i e b o n k i hu
  split at h
  ·rename_i hb
   split at h
   ·rename_i he;obtain⟨d,hd⟩:=ahg.1 he
    cases h
    rw[hi.dT];obtain⟨cap,rfl,cE,aZ⟩:=hx.jX;refine⟨_,?_,ba.ptr b (o+i.toNat*P.cellsOf e) aZ⟩;simp[Instr.indexAt,run_underlying hu,asIntOf,hb,cP hd,ff]
   ·cases h
  ·cases h
 ·rename_i e b n cap k i hu
  split at h
  ·rename_i hb
   split at h
   ·rename_i he;obtain⟨d,hd⟩:=ahg.1 he
    cases h
    rw[hi.dT];obtain⟨rfl,cE,aZ⟩:=hx.ij;refine⟨_,?_,ba.ptr b (0+i.toNat*P.cellsOf e) aZ⟩;simp[Instr.indexAt,run_underlying hu,asIntOf,hb,cP hd,ff]
   ·cases h
  ·cases h
 ·rename_i len e p k i hu
  split at h
  ·rename_i hb
   split at h
   ·rename_i he;obtain⟨d,hd⟩:=ahg.1 he;rw[hi.dT];obtain⟨a,rfl,hr⟩:=hx.u7 h;refine⟨_,?_,hr⟩;simp[Instr.indexAt,run_underlying hu,asIntOf,hb,cP hd,Instr.sureAddr]
   ·cases h
  ·cases h
 ·cases h
def Bg (P:Program)(t:TypeId)(x ix:AV):Option AV:=
 match P.underlying t,x,ix with
 |some .string,.str s,.int _ i=>if 0<=i/\i<s.length then some (.int .u8 ((s.getD i.toNat 0).toNat:Int)) else none
 |some (.array len e),.agg cs,.int _ i=>if 0<=i/\i<len then qZ P e cs (i.toNat*P.cellsOf e) else none
 |_,_,_=>none
theorem Dv {t:TypeId}{cs:List AV}{o:Nat}{r:AV}{c:Array Value}(hr:ba L N T w (.agg cs) (.agg c))(h:qZ P t cs o=some r):∃cv,(part t c o).run P w=.ok cv w/\ba L N T w r cv:=by
 have UN:=cJ.Bc hr;unfold qZ at h
 split at h
 ·rename_i Cw
  split at h
  ·rename_i hle
   cases h
   have hu:∃d,P.underlying t=some d:=by
    unfold jP at Cw
    cases hx:P.underlying t with
    |none=>simp[hx] at Cw
    |some d=>exact⟨d,rfl⟩
   obtain⟨d,hu⟩:=hu;refine⟨_,by simp only[part,Sem.run_bind,ly Cw,Result.andThen_ok,ain,cP hu];rfl,?_⟩;have:=((UN.drop o).take (P.cellsOf t)).agg;have e:(c.extract o (o+P.cellsOf t))=((c.toList.drop o).take (P.cellsOf t)).toArray:=by
    apply Array.ext';simp
   rw[e];exact this
  ·cases h
 ·rename_i Cw
  split at h
  ·rename_i aZ
   cases h
   have QB:o<c.toList.length:=by rw[UN.1];exact aZ
   have jk:o<c.size:=by simpa using QB
   have h3:=UN.2.2 o aZ QB;refine⟨c[o],?_,by simpa[aZ] using h3⟩;simp only[part,Sem.run_bind,ly Cw,Result.andThen_ok,ahE,aiq,ais jk];rfl
  ·cases h
 ·cases h
theorem KN {t:TypeId}{x ix r:AV}{cx ci:Value}(h:Bg P t x ix=some r)(hx:ba L N T w x cx)(hi:ba L N T w ix ci):∃cv,(Instr.index t cx ci).run P w=.ok cv w/\ba L N T w r cv:=by
 unfold Bg at h
 split at h
 ·rename_i s k i hu
  split at h
  ·rename_i hb
   cases h
   rw[hi.dT,hx.iN];have aZ:i.toNat<s.length:=by omega
   have e:(⟨s.toArray⟩:ByteArray)[i.toNat]?=some (s.getD i.toNat 0):=by
    rw[ByteArray.getElem?_lt' _ _ (by simpa[ByteArray.size] using aZ)];simp[aZ];rfl
   refine⟨_,?_,.int _ _⟩;simp[Instr.index,run_underlying hu,asIntOf,hb.1,e]
  ·cases h
 ·rename_i len e cs k i hu
  split at h
  ·rename_i hb;rw[hi.dT];have hd:∃d,P.underlying e=some d:=by
    unfold qZ jP at h
    cases hx:P.underlying e with
    |none=>simp[hx] at h
    |some d=>exact⟨d,rfl⟩
   obtain⟨d,hd⟩:=hd
   cases hx with
   |agg _ c h1 h2 hr=>
    obtain⟨cv,h3,h4⟩:=Dv (.agg cs c h1 h2 hr) h;refine⟨cv,?_,h4⟩;simp[Instr.index,run_underlying hu,asIntOf,hb,cP hd,h3]
  ·cases h
 ·cases h
def Bh (P:Program)(t:TypeId)(x:AV)(f:Nat):Option AV:=
 match P.underlying t,x with
 |some (.struct fs),.agg cs=>match fs[f]? with
  |some fd=>qZ P fd.type cs fd.offset
  |none=>none
 |_,_=>none
theorem KO {t:TypeId}{x r:AV}{f:Nat}{cx:Value}(h:Bh P t x f=some r)(hx:ba L N T w x cx):∃cv,(Instr.field t cx f).run P w=.ok cv w/\ba L N T w r cv:=by
 unfold Bh at h
 split at h
 ·rename_i fs cs hu
  split at h
  ·rename_i fd hf
   cases hx with
   |agg _ c h1 h2 hr=>
    obtain⟨cv,h3,h4⟩:=Dv (.agg cs c h1 h2 hr) h;refine⟨cv,?_,h4⟩;simp[Instr.field,run_underlying hu,hf,asAgg,h3]
  ·cases h
 ·cases h
def fM (x:Option AV)(aeS:Nat):Option Nat:=
 match x with
 |none=>some aeS
 |some (.int _ i)=>if 0<=i then some i.toNat else none
 |_=>none
def Bf (P:Program)(t:TypeId)(x:AV)(lo hi mx:Option AV):Option AV:=
 match P.underlying t,x,mx with
 |some .string,.str s,none=>
  match fM lo 0,fM hi s.length with
  |some l,some h=>if l<=h/\h<=s.length then some (.str ((s.drop l).take (h-l))) else none
  |_,_=>none
 |some (.slice e),.sl n cs _,none=>
  match fM lo 0,fM hi n with
  |some l,some h=>if l<=h/\h<=n/\l*P.cellsOf e<=cs.length then (if (P.underlying e).isSome then some (.sl (h-l) ((cs.drop (l*P.cellsOf e)).take ((h-l)*P.cellsOf e)) .none) else none) else none
  |_,_=>none
 |some (.slice e),.sl n cs _,some m=>
  match fM lo 0,fM hi n,fM (some m) 0 with
  |some l,some h,some m=>if l<=h/\h<=m/\m<=n/\hi.isSome/\l*P.cellsOf e<=cs.length then (if (P.underlying e).isSome then some (.sl (h-l) ((cs.drop (l*P.cellsOf e)).take ((h-l)*P.cellsOf e)) (if h=m then .full else .none)) else none) else none
  |_,_,_=>none
 |some (.slice e),.cN i o n,none=>
  match fM lo 0,fM hi n with
  |some l,some h=>if l<=h/\h<=n/\(l<n\/l=0) then (if (P.underlying e).isSome then some (.cN i (o+l*P.cellsOf e) (h-l)) else none) else if l=n/\h=n/\(P.underlying e).isSome then some (.sl 0 [] .none) else none
  |_,_=>none
 |some (.array n e),.ptr i o,none=>
  match fM lo 0,fM hi n with
  |some l,some h=>if l<=h/\h<=n/\(l<n\/l=0) then (if (P.underlying e).isSome then some (.cN i (o+l*P.cellsOf e) (h-l)) else none) else none
  |_,_=>none
 |_,_,_=>none
theorem mu {x:Option AV}{d n:Nat}{c:Option Value}(h:fM x d=some n)(hc:∀v cv,x=some v->c=some cv->ba L N T w v cv)(hs:x.isSome=c.isSome) :
  (x=none/\c=none/\n=d)\/(∃k,c=some (.int k (n:Int))/\x.isSome=true):=by
 cases x with
 |none=>
  cases c with
  |none=>simp[fM] at h;exact .inl ⟨rfl,rfl,h.symm⟩
  |some c=>simp at hs
 |some v=>
  cases c with
  |none=>simp at hs
  |some cv=>
   have hr:=hc v cv rfl rfl
   cases v<;>simp only[fM,reduceCtorEq] at h
   rename_i k i
   split at h
   ·rename_i hi
    cases h
    right
    rw[hr.dT];exact⟨k,by rw[Int.toNat_of_nonneg hi],rfl⟩
   ·cases h
def im {k:IntKind}{n y:Nat}(h:n<=y)(code:BoundsCode):(Instr.sliceBound (.int k (n:Int)) y code).run P w=.ok n w:=by
 have:(0:Int)<=(n:Int)/\(n:Int)<=(y:Int):=by omega
 simp[Instr.sliceBound,asIntOf];intro hh;omega
def mi {isS:Bool}{len cap l h:Nat}{lo hi:Option AV}{cl ch:Option Value}(hl:fM lo 0=some l)(hh:fM hi len=some h)(h1:l<=h)(h2:h<=len)(h3:len<=cap)
  (rl:∀v cv,lo=some v->cl=some cv->ba L N T w v cv) (rh:∀v cv,hi=some v->ch=some cv->ba L N T w v cv) (sl:lo.isSome=cl.isSome) (sh:hi.isSome=ch.isSome) :
  (Instr.sliceBounds isS len cap cl ch none).run P w=.ok (l,h,cap) w:=by
 rcases mu hl rl sl with⟨_,e1,e2⟩|⟨k,e1,_⟩<;>rcases mu hh rh sh with⟨_,e3,e4⟩|⟨k',e3,_⟩<;>subst e1<;>subst e3
 ·subst e2;subst e4;simp[Instr.sliceBounds]
 ·subst e2;simp[Instr.sliceBounds,im (w:=w) (P:=P) (k:=k') (n:=h) (y:=cap) (by omega)]
 ·subst e4;simp[Instr.sliceBounds,im (w:=w) (P:=P) (k:=k) (n:=l) (y:=h) h1]
 ·simp[Instr.sliceBounds,im (w:=w) (P:=P) (k:=k') (n:=h) (y:=cap) (by omega),im (w:=w) (P:=P) (k:=k) (n:=l) (y:=h) h1]
def E7 {len cap l h m:Nat}{lo hi:Option AV}{x:AV}{cl ch:Option Value}{cm:Value}(hl:fM lo 0=some l)(hh:fM hi len=some h)(hm:fM (some x) 0=some m)(h1:l<=h)(h2:h<=m)(h4:m<=cap)(his:hi.isSome=true)
  (rl:∀v cv,lo=some v->cl=some cv->ba L N T w v cv) (rh:∀v cv,hi=some v->ch=some cv->ba L N T w v cv) (rm:ba L N T w x cm) (sl:lo.isSome=cl.isSome) (sh:hi.isSome=ch.isSome) :
  (Instr.sliceBounds true len cap cl ch (some cm)).run P w=.ok (l,h,m) w:=by
 have em:∃k,cm=.int k (m:Int):=by
  rcases mu (c:=some cm) hm (λv cv e1 e2=>by cases e1;cases e2;exact rm) rfl with⟨e,_⟩|⟨k,e,_⟩
  ·cases e
  ·exact⟨k,by cases e;rfl⟩
 obtain⟨km,rfl⟩:=em;rcases mu hh rh sh with⟨e,_⟩|⟨k',e3,_⟩
 ·subst e;simp at his
 subst e3;rcases mu hl rl sl with⟨_,e1,e2⟩|⟨k,e1,_⟩<;>subst e1
 ·subst e2;simp[Instr.sliceBounds,im (w:=w) (P:=P) (k:=km) (n:=m) (y:=cap) h4,im (w:=w) (P:=P) (k:=k') (n:=h) (y:=m) h2]
 ·simp[Instr.sliceBounds,im (w:=w) (P:=P) (k:=km) (n:=m) (y:=cap) h4,im (w:=w) (P:=P) (k:=k') (n:=h) (y:=m) h2,im (w:=w) (P:=P) (k:=k) (n:=l) (y:=h) h1]
def ba.sub {n:Nat}{cs:List AV}{tg:Tag}{a:Option Addr}{cap:Nat}(hx:ba L N T w (.sl n cs tg) (.slice a n cap))(l h m z:Nat)(h1:l<=h)(h2:h<=n)(h3:h<=m)(hlen:l*z<=cs.length)(QN:Tag)(ht:QN=.none\/(QN=.full/\h=m)) :
  ba L N T w (.sl (h-l) ((cs.drop (l*z)).take ((h-l)*z)) QN) (.slice (if m=l then a else a.map (·.add (l*z))) (h-l) (m-l)):=by
 obtain⟨a',kV,e,cE,_,h0⟩:=hx.fF
 cases e
 have tok:∀a'',lP L T QN (h-l) ((cs.drop (l*z)).take ((h-l)*z)).length a'' (m-l):=by
  intro a'';rcases ht with rfl|⟨rfl,rfl⟩
  ·trivial
  ·rfl
 rcases h0 with⟨rfl,rfl⟩|⟨b,base,cv,rfl,hm,hr,hc⟩
 ·have:h-l=0:=by omega
  have e2:=tok (if m=l then a else a.map (·.add (l*z)));rw[this] at e2 ⊢;simp at e2 ⊢;exact .yZ _ _ _ e2
 ·by_cases kC:m=l
  ·have:h-l=0:=by omega
   have e2:=tok (if m=l then some ⟨b,base,none⟩ else (some (⟨b,base,none⟩:Addr)).map (·.add (l*z)));rw[this] at e2 ⊢;simp at e2 ⊢;exact .yZ _ _ _ e2
  ·rw[agL kC];simp only[aip,ff];have MQ:=(hr.drop (l*z)).take ((h-l)*z);have e2:=tok (some ⟨b,base+l*z,none⟩);refine ba.mD (by omega) ?_ MQ (λj hj=>?_) e2
   ·simp;omega
   ·have yy:j<(h-l)*z/\j<cs.length-l*z:=by simpa[Nat.lt_min] using hj
    rw[add_assoc,hc _ (by omega)];simp[yy.1]
def KL {t:TypeId}{x r:AV}{lo hi mx:Option AV}{cx:Value}{cl ch cm:Option Value}(h:Bf P t x lo hi mx=some r)(hx:ba L N T w x cx)
  (rl:∀v cv,lo=some v->cl=some cv->ba L N T w v cv) (rh:∀v cv,hi=some v->ch=some cv->ba L N T w v cv) (rm:∀v cv,mx=some v->cm=some cv->ba L N T w v cv)
  (sl:lo.isSome=cl.isSome) (sh:hi.isSome=ch.isSome) (sm:mx.isSome=cm.isSome):∃cv,(Instr.sliceAt t cx cl ch cm).run P w=.ok cv w/\ba L N T w r cv:=by
 unfold Bf at h
 split at h
 ·rename_i s hu
  cases cm with|some _=>simp at sm|none=>
  split at h
  ·rename_i l hh e1 e2
   split at h
   ·rename_i hb
    cases h
    have vV:=mi (P:=P) (isS:=false) (cap:=s.length) e1 e2 hb.1 hb.2 (agE _) rl rh sl sh;rw[hx.iN];refine⟨_,?_,.str _⟩;simp only[Instr.sliceAt,Sem.run_bind,run_underlying hu,Result.andThen_ok,Instr.slice];have gu:(⟨s.toArray⟩:ByteArray).size=s.length:=by simp[ByteArray.size]
    simp only[gu,vV,Sem.run_bind,Result.andThen_ok,Option.isSome_none,ahE,aiq,ByteArray.extract_mk];rfl
   ·cases h
  ·cases h
 ·rename_i e n cs tg hu
  cases cm with|some _=>simp at sm|none=>
  split at h
  ·rename_i l hh e1 e2
   split at h
   ·rename_i hb
    split at h
    ·rename_i he;obtain⟨d,hd⟩:=ahg.1 he
     cases h
     obtain⟨a,cap,rfl,cE,_,_⟩:=hx.fF;have vV:=mi (P:=P) (isS:=true) (cap:=cap) e1 e2 hb.1 hb.2.1 cE rl rh sl sh;refine⟨_,?_,hx.sub l hh cap (P.cellsOf e) hb.1 hb.2.1 (by omega) hb.2.2 .none (.inl rfl)⟩;simp only[Instr.sliceAt,Sem.run_bind,run_underlying hu,Result.andThen_ok,Instr.slice,vV,cP hd];rfl
    ·cases h
   ·cases h
  ·cases h
 ·rename_i e n cs tg m hu
  cases cm with|none=>simp at sm|some cm=>
  split at h
  ·rename_i l hh mm e1 e2 e3
   split at h
   ·rename_i hb
    split at h
    ·rename_i he;obtain⟨d,hd⟩:=ahg.1 he
     cases h
     obtain⟨a,cap,rfl,cE,_,_⟩:=hx.fF;have vV:=E7 (P:=P) (cap:=cap) e1 e2 e3 hb.1 hb.2.1 (by omega) hb.2.2.2.1 rl rh (rm _ _ rfl rfl) sl sh;refine⟨_,?_,hx.sub l hh mm (P.cellsOf e) hb.1 (by omega) hb.2.1 hb.2.2.2.2 (if hh=mm then .full else .none) ?_⟩
     ·simp only[Instr.sliceAt,Sem.run_bind,run_underlying hu,Result.andThen_ok,Instr.slice,vV,cP hd];rfl
     ·split
      ·exact .inr ⟨rfl,‹_›⟩
      ·exact .inl rfl
    ·cases h
   ·cases h
  ·cases h
 ·rename_i e i o n hu
  cases cm with|some _=>simp at sm|none=>
  split at h
  ·rename_i l hh e1 e2
   split at h
   ·rename_i hb
    split at h
    ·rename_i he;obtain⟨d,hd⟩:=ahg.1 he
     cases h
     obtain⟨cap,rfl,cE,aZ⟩:=hx.jX;have vV:=mi (P:=P) (isS:=true) (cap:=cap) e1 e2 hb.1 hb.2.1 cE rl rh sl sh;refine⟨.slice (some ⟨L.bS i,o+l*P.cellsOf e,none⟩) (hh-l) (cap-l),?_,.cN _ _ _ _ aZ (by omega)⟩;simp only[Instr.sliceAt,Sem.run_bind,run_underlying hu,Result.andThen_ok,Instr.slice,vV,cP hd]
     by_cases gC:cap=l
     ·have AQ:l=0:=by omega
      subst AQ;subst gC;simp
     ·rw[agL gC];simp[ff]
    ·cases h
   ·split at h
    ·rename_i hb;obtain⟨q1,q2,he⟩:=hb;subst q2;subst q1;obtain⟨d,hd⟩:=ahg.1 he
     cases h
     obtain⟨cap,rfl,cE,aZ⟩:=hx.jX;have vV:=mi (P:=P) (isS:=true) (cap:=cap) e1 e2 (agE _) (agE _) cE rl rh sl sh;refine⟨.slice (if cap=l then some ⟨L.bS i,o,none⟩ else some ⟨L.bS i,o+l*P.cellsOf e,none⟩) 0 (cap-l),?_,.yZ _ _ _ trivial⟩;simp only[Instr.sliceAt,Sem.run_bind,run_underlying hu,Result.andThen_ok,Instr.slice,vV,cP hd]
     by_cases gC:cap=l
     ·rw[agN gC,agN gC];simp
     ·rw[agL gC,agL gC];simp[ff]
    ·cases h
  ·cases h
 ·rename_i n e i o hu
  cases cm with|some _=>simp at sm|none=>
  split at h
  ·rename_i l hh e1 e2
   split at h
   ·rename_i hb
    split at h
    ·rename_i he;obtain⟨d,hd⟩:=ahg.1 he
     cases h
     obtain⟨rfl,aZ⟩:=hx.oB;have vV:=mi (P:=P) (isS:=false) (cap:=n) e1 e2 hb.1 hb.2.1 (agE _) rl rh sl sh;refine⟨.slice (some ⟨L.bS i,o+l*P.cellsOf e,none⟩) (hh-l) (n-l),?_,.cN _ _ _ _ aZ (by omega)⟩;simp only[Instr.sliceAt,Sem.run_bind,run_underlying hu,Result.andThen_ok,Instr.sureAddr,vV,cP hd,Sem.run_pure]
     by_cases gC:n=l
     ·have AQ:l=0:=by omega
      subst AQ;subst gC;simp
     ·rw[agL gC];simp[ff]
    ·cases h
   ·cases h
  ·cases h
 ·cases h
end
def sr (s:List UInt8):List AV:=s.map λb=>.int .u8 (b.toNat:Int)
def M1:AV->Option UInt8
 |.int .u8 n=>some (UInt8.ofNat n.toNat)
 |_=>none
def bytesOf (cs:List AV):Option (List UInt8):=cs.mapM M1
theorem B9 (s:List UInt8):bytesOf (sr s)=some s:=by
 induction s with
 |nil=>rfl
 |cons b r ih=>
  unfold bytesOf sr at ih ⊢;simp only[ahi,mapM_cons,ih];simp[M1]
def gN (H:List aA)(z:Nat)(x:AV):Option (Nat×List AV):=
 match x with
 |.sl m cs _=>if cs.length=m*z then some (m,cs) else none
 |.cN i o m=>match H[i]? with
  |some (.cells vs)=>if o+m*z<=vs.length then some (m,(vs.drop o).take (m*z)) else none
  |_=>none
 |.str s=>if z=1 then some (s.length,sr s) else none
 |_=>none
section
variable {P : Program} {L : Lay} {H : List aA} {T : au} {w : World}
def Ee (s:List UInt8):cJ L H.length T w (sr s) (s.map λb=>Value.int .u8 (b.toNat:Int)):=by
 refine⟨by simp[sr],λj hj=>by simp[Value.oneCell'],λj hj bQ=>?_⟩;simp only[sr,ahv];exact .int _ _
theorem eI {z:Nat}{x:AV}{c:Value}{m:Nat}{ys:List AV}(hc:cg L H T w)(hx:ba L H.length T w x c)(h:gN H z x=some (m,ys)) :
  ∃cv:List Value,ys.length=m*z/\cJ L H.length T w ys cv/\(Builtin.lenOf c).run P w=.ok m w/\(Builtin.firstCells z m c).run P w=.ok cv.toArray w:=by
 unfold gN at h
 split at h
 ·rename_i m' cs tg
  split at h
  ·rename_i hl
   cases h
   obtain⟨a,cap,rfl,cE,_,⟨rfl,rfl⟩|⟨b,base,cv,rfl,hm,hr,lV⟩⟩:=hx.fF
   ·refine⟨[],hl,cJ.nil,rfl,?_⟩
    cases a with
    |none=>rfl
    |some a=>simp[Builtin.firstCells,loadCells,loadCellsFrom]
   ·have QB:=hr.1;refine⟨cv,hl,hr,rfl,?_⟩;have:=run_loadCells_list (P:=P) w ⟨b,base,none⟩ cv (λj v hj=>by
     have aZ:=(agC.1 hj).1;rw[ff,lV j (by omega)];exact hj)
    simp only[Builtin.firstCells];rw[<-hl,<-QB];exact this
  ·cases h
 ·rename_i i o m'
  split at h
  ·rename_i vs hi
   split at h
   ·rename_i hl
    cases h
    obtain⟨cap,rfl,cE,aZ⟩:=hx.jX;obtain⟨c,hr,lV⟩:=(hc.box i _ hi).at;refine⟨(c.toList.drop o).take (m*z),?_,(hr.drop o).take _,rfl,?_⟩
    ·simp;omega
    ·have hlen:((c.toList.drop o).take (m*z)).length=m*z:=by have:=hr.1;simp at this ⊢;omega
     have:=run_loadCells_list (P:=P) w ⟨L.bS i,o,none⟩ ((c.toList.drop o).take (m*z)) (λj v hj=>by
      have aZ:=(agC.1 hj).1;have kr:j<m*z:=by omega
      rw[ahu,agN kr,aii] at hj;rw[ff,lV];simpa using hj)
     simp only[Builtin.firstCells];rw[hlen] at this;exact this
   ·cases h
  ·cases h
 ·rename_i s
  split at h
  ·rename_i hz
   cases h
   rw[hx.iN];refine⟨s.map λb=>Value.int .u8 (b.toNat:Int),by simp[sr,hz],Ee s,by simp[Builtin.lenOf,ByteArray.size],?_⟩;have e:(⟨s.toArray⟩:ByteArray).extract 0 s.length=⟨s.toArray⟩:=by rw[ByteArray.extract_mk];simp
   simp[Builtin.firstCells,e]
  ·cases h
 ·cases h
theorem Fx {N:Nat}:∀{cs:List AV} {cv:List Value} {s:List UInt8},cJ L N T w cs cv->bytesOf cs=some s->∃ns:List Int,cv=ns.map (Value.int .u8)/\s=ns.map λn=>UInt8.ofNat n.toNat:=by
 intro cs
 induction cs with
 |nil=>intro cv s hr h;cases h;exact⟨[],ahe hr.1,rfl⟩
 |cons x r ih=>
  intro cv s hr h
  match cv,hr with
  |c::cr,hr=>
   have h0:ba L N T w x c:=hr.2.2 0 (by simp) (by simp);have MQ:cJ L N T w r cr:=by simpa using hr.drop 1
   unfold bytesOf at h;rw[mapM_cons] at h
   cases hx:M1 x with
   |none=>rw[hx] at h;cases h
   |some b=>
    cases hy:r.mapM M1 with
    |none=>rw[hx,hy] at h;cases h
    |some bs=>
     rw[hx,hy] at h
     cases h
     obtain⟨ns,e1,e2⟩:=ih MQ hy;unfold M1 at hx
     split at hx
     ·rename_i nn hh
      cases hx
      rw[h0.dT];exact⟨nn::ns,by simp[e1],by simp[e2]⟩
     ·cases hx
  |[],hr=>simp[cJ] at hr
def Vm:AV->Bool
 |.sl _ _ _|.cN _ _ _=>true
 |_=>false
def Ir (P:Program)(H:List aA)(src dst:TypeId)(x:AV):Option AV:=
 match P.underlying src,P.underlying dst,x with
 |some _,some (.int k),.int _ n=>some (.int k (k.wrap n))
 |some _,some .string,.int _ n=>some (.str (Utf8.encode n).data.toList)
 |some _,some .string,.str s=>some (.str s)
 |some (.slice e),some .string,x=>
  match P.underlying e with
  |some (.int .u8)=>if Vm x then (match gN H 1 x with
   |some (_,cs)=>(bytesOf cs).map .str
   |none=>none) else none
  |_=>none
 |_,_,_=>none
theorem OS {src dst:TypeId}{x r:AV}{c:Value}(hc:cg L H T w)(h:Ir P H src dst x=some r)(hx:ba L H.length T w x c):∃cv,(convert src dst c).run P w=.ok cv w/\ba L H.length T w r cv:=by
 unfold Ir at h
 split at h
 ·rename_i d k k' n h1 h2
  cases h
  rw[hx.dT];exact⟨_,by simp only[convert,Sem.run_bind,run_underlying h1,run_underlying h2,Result.andThen_ok];cases d<;>rfl,.int _ _⟩
 ·rename_i d k' n h1 h2
  cases h
  rw[hx.dT];exact⟨.string ⟨(Utf8.encode n).data.toList.toArray⟩,by simp only[convert,Sem.run_bind,run_underlying h1,run_underlying h2,Result.andThen_ok];cases d<;>rfl,.str _⟩
 ·rename_i d s h1 h2
  cases h
  rw[hx.iN];exact⟨_,by simp only[convert,Sem.run_bind,run_underlying h1,run_underlying h2,Result.andThen_ok];cases d<;>rfl,.str _⟩
 ·rename_i e _ _ h1 h2 _ _
  split at h
  ·rename_i he
   split at h
   ·rename_i ad4
    split at h
    ·rename_i m cs hs
     cases hb:bytesOf cs with
     |none=>rw[hb] at h;cases h
     |some s=>
      rw[hb] at h
      cases h
      obtain⟨cv,hl,hr,hlen,gT⟩:=eI (P:=P) hc hx hs;obtain⟨ns,e1,e2⟩:=Fx hr hb;have WM:∃a n cap,c=.slice a n cap:=by
       cases hx<;>first|exact⟨_,_,_,rfl⟩|(simp[Vm] at ad4;done)
      obtain⟨a,n,cap,rfl⟩:=WM;have hn:n=m:=by
       simp[Builtin.lenOf] at hlen;exact hlen
      subst hn;refine⟨.string ⟨s.toArray⟩,?_,.str s⟩;rw[run_convert_bytes_string w src dst _ a n cap h1 he h2]
      cases a with
      |none=>
       simp[Builtin.firstCells] at gT;subst gT
       cases ns with
       |nil=>subst e2;rfl
       |cons _ _=>cases e1
      |some a=>
       simp only[Builtin.firstCells,Nat.mul_one] at gT;rw[e1] at gT;rw[run_bytesToString w a n cap ns gT,foldl_push_bytes];subst e2;simp
    ·cases h
   ·cases h
  ·cases h
 ·cases h
def KQ {src dst e:TypeId}{s:List UInt8}{c:Value}(hc:cg L H T w)(h1:P.underlying src=some .string)(h2:P.underlying dst=some (.slice e))(h3:P.underlying e=some (.int .u8))(hx:ba L H.length T w (.str s) c) :
  ∃cv w' L',(convert src dst c).run P w=.ok cv w'/\cg L' H T w'/\ba L' H.length T w' (.sl s.length (sr s) .none) cv/\Ev H.length T.length L H.length T w L' H.length T w':=by
 rw[hx.iN];have gu:(⟨s.toArray⟩:ByteArray).size=s.length:=by simp[ByteArray.size]
 obtain⟨cap,cE,hle⟩:∃cap,(Question.appendCap s.length 0 e).cut (w.tape w.drawn (.appendCap s.length 0 e))=cap/\s.length<=cap:=⟨_,rfl,by simp[Question.cut]⟩
 let cells:Array Value:=(s.map λb=>Value.int .u8 (b.toNat:Int)).toArray++Array.replicate (cap-s.length) (.int .u8 0)
 have yB:cells.size=cap:=by simp[cells];omega
 have hd:cg L H T w.drew:=hc.drew rfl;have ed:Ev H.length T.length L H.length T w L H.length T w.drew:=Ev.drew rfl rfl rfl rfl (ahy _);obtain⟨k1,k2,k3⟩:=hd.newRow cells e (cap,cap+1) (vs:=sr s) (sr s).length (agE _) (by
  have:(cells.toList.take (sr s).length)=s.map λb=>Value.int .u8 (b.toNat:Int):=by
   simp[cells,sr]
  rw[this];exact Ee s) s.length cap hle .none (.inl rfl)
 refine⟨_,_,_,?_,k1,k3,ed.trans k2⟩;simp only[convert,Sem.run_bind,run_underlying h1,run_underlying h2,run_underlying h3,Result.andThen_ok,Conv.stringToBytes,gu,run_choose,Question.forced,ahE,aiq,cE];have Ro:(⟨s.toArray⟩:ByteArray).data.map (λb=>Value.int .u8 (b.toNat:Int))=(s.map λb=>Value.int .u8 (b.toNat:Int)).toArray:=by simp
 simp only[Ro,newRow,Sem.run_bind,run_newObj,Result.andThen_ok,Sem.run_pure,markStringish,run_shape,run_freeze];have hsh:World.shape? { w.drew with heap:=w.heap.push (.cells cells e) } w.heap.size=some (e,cap):=by
  simp[World.shape?,yB]
 show (Result.andThen _ _)=_;simp only[World.drew] at hsh ⊢;rw[hsh];simp only[run_freeze,Result.andThen_ok,Sem.run_pure]
 congr 1
 simp only[World.freeze,World.alloc,Nat.one_ne_zero,aiq]
 congr 1
 apply Array.ext_getElem?;intro i;rw[aiO,Array.getElem?_push,Array.getElem?_push]
 by_cases hi:w.heap.size=i
 ·subst hi;simp[cells]
 ·rw[agL hi,agL (λe=>hi e.symm),agL (λe=>hi e.symm)]
end
section
variable {P : Program} {L : Lay} {H : List aA} {T : au} {w : World}
theorem cJ.setMany {N:Nat}:∀{xs:List AV} {xc:List Value} {vs:List AV} {c:Array Value} (o:Nat),cJ L N T w vs c.toList->cJ L N T w xs xc->o+xs.length<=vs.length->
  cJ L N T w (setMany vs o xs) ((xc.zipIdx.foldl (λcs (x:Value×Nat)=>cs.setIfInBounds (o+x.2) x.1) c)).toList:=by
 intro xs;have key:∀(xs:List AV)(xc:List Value)(vs:List AV)(c:Array Value)(o k:Nat),cJ L N T w vs c.toList->cJ L N T w xs xc->o+k+xs.length<=vs.length->
   cJ L N T w (Am.setMany vs (o+k) xs) (((xc.zipIdx k).foldl (λcs (x:Value×Nat)=>cs.setIfInBounds (o+x.2) x.1) c)).toList:=by
  intro xs
  induction xs with
  |nil=>
   intro xc vs c o k h1 h2 h3;have:xc=[]:=ahe h2.1;subst this;exact h1
  |cons x r ih=>
   intro xc vs c o k h1 h2 h3
   match xc,h2 with
   |y::yr,h2=>
    have h0:ba L N T w x y:=h2.2.2 0 (by simp) (by simp);have U7:y.oneCell'=true:=h2.2.1 0 (by simp);have MQ:cJ L N T w r yr:=by simpa using h2.drop 1
    simp only[List.zipIdx_cons,aia,Am.setMany];have:=ih yr (vs.set (o+k) x) (c.setIfInBounds (o+k) y) o (k+1) (by rw[Array.toList_setIfInBounds];exact h1.set _ h0 U7) MQ (by simp at h3 ⊢;omega);rw[show o+k+1=o+(k+1) by omega];exact this
   |[],h2=>simp[cJ] at h2
 intro xc vs c o h1 h2 h3;exact key xs xc vs c o 0 h1 h2 h3
def Ux:List TypeId:=[33]
def rI (t:TypeId)(v:AV):AV:=if Ux.contains t=true then v else cK v
theorem ba.rI {N:Nat}{v:AV}{c:Value}(t:TypeId)(h:ba L N T w v c):ba L N T w (Am.rI t v) c:=by
 unfold Am.rI
 split
 ·exact h
 ·exact h.cK
def pz (u:AV->AV)(place:Nat->Option (Nat×Nat))(cells:List AV):List (Nat×AV)->Option (List AV)
 |[]=>some cells
 |(i,v)::rest=>
  match place i,Va (u v) with
  |some (off,size),some xs=>if xs.length=size/\off+size<=cells.length then pz u place (setMany cells off xs) rest else none
  |_,_=>none
theorem sW {N:Nat}{u:AV->AV}(hu:∀v c,ba L N T w v c->ba L N T w (u v) c)(place:Nat->Option (Nat×Nat)):∀(parts:List (Nat×AV)) (pc:List (Nat×Value)) (cells:List AV) (c:Array Value) (r:List AV),cJ L N T w cells c.toList->pc.length=parts.length->
  (∀(j:Nat)(h:j<parts.length)(h':j<pc.length),(parts[j]'h).1=(pc[j]'h').1/\ba L N T w (parts[j]'h).2 (pc[j]'h').2)->pz u place cells parts=some r->
  ∃c',Instr.fill place c pc=some c'/\cJ L N T w r c'.toList:=by
 intro parts
 induction parts with
 |nil=>
  intro pc cells c r hr hl hp h;have:pc=[]:=ahe hl;subst this
  cases h
  exact⟨c,rfl,hr⟩
 |cons x rest ih=>
  intro pc cells c r hr hl hp h
  match pc,hl,hp with
  |y::yr,hl,hp=>
   obtain⟨i,v⟩:=x;obtain⟨i',u⟩:=y;obtain⟨e,hv⟩:=hp 0 (by simp) (by simp);simp only[ahC] at e hv;subst e;simp only[pz] at h
   split at h
   ·rename_i off size xs e1 e2
    split at h
    ·rename_i hb;have hx:=BM e2 (hu _ _ hv);have hlen:u.cells.size=size:=by have:=hx.1;simp at this;omega
     obtain⟨c',h1,h2⟩:=ih yr (Am.setMany cells off xs) (u.cells.toList.zipIdx.foldl (λcs (x:Value×Nat)=>cs.setIfInBounds (off+x.2) x.1) c) r (hr.setMany off hx (by omega)) (by simpa using hl)
      (λj hj bQ=>by have:=hp (j+1) (by simpa using hj) (by simpa using bQ);simpa using this) h
     refine⟨c',?_,h2⟩;simp only[Instr.fill,e1];have gu:c.size=cells.length:=by have:=hr.1;simpa using this
     rw[agL (by simp;omega)];rw[<-h1]
     congr 1
     rw[<-Array.foldl_toList];simp
    ·cases h
   ·cases h
  |[],hl,hp=>simp at hl
def bc (P:Program)(t:TypeId):Option (List AV):=
 match P.info? t with
 |some i=>match i.zero with
  |some z=>if z.cells.all (·.oneCell')&&z.cells.size==i.size then some (z.cells.toList.map yG) else none
  |none=>none
 |none=>none
def eF {N:Nat}{t:TypeId}{zs:List AV}(h:bc P t=some zs):∃i z,P.info? t=some i/\i.zero=some z/\cJ L N T w zs z.cells.toList/\z.cells.size=P.cellsOf t:=by
 unfold bc at h
 split at h
 ·rename_i i hi
  split at h
  ·rename_i z hz
   split at h
   ·rename_i ha
    cases h
    simp only[agO,aiu] at ha;have ha1:=ha.1;rw[Array.all_eq_true] at ha1;refine⟨i,z,hi,hz,⟨by simp,λj hj=>by simpa using ha1 j (by simpa using hj),λj hj bQ=>?_⟩,by rw[ha.2];simp[Program.cellsOf,hi]⟩;simp only[ahv];exact .yG _
   ·cases h
  ·cases h
 ·cases h
def j8 {t:TypeId}{i:TypeInfo}{z:Value}(hi:P.info? t=some i)(hz:i.zero=some z)(w:World):(zeroValue t).run P w=.ok z w:=by
 simp[zeroValue,run_typeInfo w hi,hz]
def Bi (P:Program)(t:TypeId)(parts:List (Nat×AV)):Option AV:=
 match bc P t,P.underlying t with
 |some zs,some (.struct fs)=>if fs.toList.all (λf=>(P.underlying f.type).isSome) then (pz (rI t) (λi=>(fs[i]?).map λf=>(f.offset,P.cellsOf f.type)) zs parts).map .agg else none
 |some zs,some (.array _ e)=>if (P.underlying e).isSome then (pz cK (λi=>some (i*P.cellsOf e,P.cellsOf e)) zs parts).map .agg else none
 |_,_=>none
theorem run_places (fs:Array Field)(hf:∀f∈fs,(P.underlying f.type).isSome=true)(w:World) :
  (fs.mapM λf=>do pure (f.offset,<-sizeOf f.type):Sem (Array (Nat×Nat))).run P w=.ok (fs.map λf=>(f.offset,P.cellsOf f.type)) w:=by
 rw[Array.mapM_eq_mapM_toList];have key:∀l:List Field,(∀f∈l,(P.underlying f.type).isSome=true)->(l.mapM λf=>do pure (f.offset,<-sizeOf f.type):Sem (List (Nat×Nat))).run P w=.ok (l.map λf=>(f.offset,P.cellsOf f.type)) w:=by
  intro l
  induction l with
  |nil=>intro _;simp
  |cons f r ih=>
   intro h;obtain⟨d,hd⟩:=ahg.1 (h f (by simp));have:=ih (λg hg=>h g (by simp[hg]));simp only[mapM_cons,Sem.run_bind,cP hd,Result.andThen_ok,Sem.run_pure,this,ahi]
 have:=key fs.toList (λf QX=>hf f (by simpa using QX));simp only[Sem.run_map,this,Result.andThen_ok]
 congr 1
 apply Array.ext';simp
theorem run_build {t:TypeId}{parts:List (Nat×AV)}{pc:Array (Nat×Value)}{r:AV}(h:Bi P t parts=some r)(hl:pc.size=parts.length)
  (hp:∀(j:Nat)(h:j<parts.length)(h':j<pc.toList.length),(parts[j]'h).1=(pc.toList[j]'h').1/\ba L H.length T w (parts[j]'h).2 (pc.toList[j]'h').2) :
  ∃cv,(Instr.build t pc).run P w=.ok cv w/\ba L H.length T w r cv:=by
 unfold Bi at h
 split at h
 ·rename_i zs fs hz hu
  split at h
  ·rename_i hf;obtain⟨i,z,hi,uR,hr,_⟩:=eF (L:=L) (N:=H.length) (T:=T) (w:=w) hz
   cases sb:pz (rI t) (λi=>(fs[i]?).map λf=>(f.offset,P.cellsOf f.type)) zs parts with
   |none=>rw[sb] at h;cases h
   |some cs=>
    rw[sb] at h
    cases h
    obtain⟨c',h1,h2⟩:=sW (λ_ _ h=>h.rI t) _ parts pc.toList zs z.cells cs hr (by simpa using hl) hp sb;have zb:=run_places (P:=P) fs (λf hm=>aha.1 hf f (Array.mem_def.1 hm)) w;refine⟨.agg c',?_,by simpa using h2.agg⟩;have e:(fun(x:Nat)=>(fs.map fun(f:Field)=>(f.offset,P.cellsOf f.type))[x]?)=fun(i:Nat)=>(fs[i]?).map fun(f:Field)=>(f.offset,P.cellsOf f.type):=by
     funext x;simp
    simp only[Instr.build,Sem.run_bind,j8 hi uR,Result.andThen_ok,run_underlying hu,zb,e,h1];rfl
  ·cases h
 ·rename_i zs n e hz hu
  split at h
  ·rename_i he;obtain⟨d,hd⟩:=ahg.1 he;obtain⟨i,z,hi,uR,hr,_⟩:=eF (L:=L) (N:=H.length) (T:=T) (w:=w) hz
   cases sb:pz cK (λi=>some (i*P.cellsOf e,P.cellsOf e)) zs parts with
   |none=>rw[sb] at h;cases h
   |some cs=>
    rw[sb] at h
    cases h
    obtain⟨c',h1,h2⟩:=sW (λ_ _ h=>h.cK) _ parts pc.toList zs z.cells cs hr (by simpa using hl) hp sb;refine⟨.agg c',?_,by simpa using h2.agg⟩;simp only[Instr.build,Sem.run_bind,j8 hi uR,Result.andThen_ok,run_underlying hu,cP hd,h1];rfl
  ·cases h
 ·cases h
def gh (zs:List AV)(n:Nat):List AV:=(List.range n).map λi=>zs.getD (i % zs.length) .top
def qF {N n:Nat}{zs:List AV}{z:Array Value}(hr:cJ L N T w zs z.toList)(h0:0<zs.length\/n=0):cJ L N T w (gh zs n) (madeCells z n).toList:=by
 have hz:z.size=zs.length:=by have:=hr.1;simpa using this
 refine⟨by simp[gh,madeCells],λj hj=>?_,λj hj bQ=>?_⟩
 ·have yy:j<n:=by simpa[madeCells] using hj
  have aZ:j % zs.length<z.size:=by rw[hz];exact aiS _ (by omega)
  have:=hr.2.1 (j % zs.length) (by simpa using aZ);simp only[madeCells,Array.toList_map,Array.toList_range,ahv,ai9];rw[aiC z _ (show j % z.size<z.size from aiS _ (by omega))];have e':j % z.size=j % zs.length:=by rw[hz]
  simp only[e'];simpa using this
 ·have yy:j<n:=by simpa[madeCells] using bQ
  have aZ:j % zs.length<z.size:=by rw[hz];exact aiS _ (by omega)
  have Ge:j % zs.length<zs.length:=by rw[hz] at aZ;exact aZ
  have:=hr.2.2 (j % zs.length) Ge (by simpa using aZ);simp only[madeCells,gh,Array.toList_map,Array.toList_range,ahv,ai9];rw[aiC z _ (show j % z.size<z.size from aiS _ (by omega))];have e':j % z.size=j % zs.length:=by rw[hz]
  simp only[e'];have e:zs.getD (j % zs.length) .top=zs[j % zs.length]'Ge:=by
   rw[agB,agD Ge];rfl
  rw[e];simpa using this
def Ml (v:AV)(n:Nat):gh [v] n=List.replicate n v:=by
 unfold gh;apply aiy
 ·simp
 ·intro i h1 h2;simp[Nat.mod_one]
def mK (P:Program)(t:TypeId)(len:Nat)(parts:List (Nat×AV)):Option AV:=
 match P.underlying t with
 |some (.slice e)=>match bc P e with
  |some zs=>if len*P.cellsOf e<=16777216/\0<P.cellsOf e/\zs.length=P.cellsOf e then (pz cK (λi=>some (i*P.cellsOf e,P.cellsOf e)) (gh zs (len*P.cellsOf e)) parts).map λcs=>.sl len cs .full else none
  |none=>none
 |_=>none
theorem yi {t:TypeId}{len:Nat}{parts:List (Nat×AV)}{pc:Array (Nat×Value)}{r:AV}(hc:cg L H T w)(h:mK P t len parts=some r)(hl:pc.size=parts.length)
  (hp:∀(j:Nat)(h:j<parts.length)(h':j<pc.toList.length),(parts[j]'h).1=(pc.toList[j]'h').1/\ba L H.length T w (parts[j]'h).2 (pc.toList[j]'h').2) :
  ∃cv w' L',(Instr.buildSlice t len pc).run P w=.ok cv w'/\cg L' H T w'/\ba L' H.length T w' r cv/\Ev H.length T.length L H.length T w L' H.length T w':=by
 unfold mK at h
 split at h
 ·rename_i e hu
  split at h
  ·rename_i zs hz
   split at h
   ·rename_i hb;obtain⟨i,z,hi,uR,hr,qI⟩:=eF (L:=L) (N:=H.length) (T:=T) (w:=w) hz
    cases sb:pz cK (λi=>some (i*P.cellsOf e,P.cellsOf e)) (gh zs (len*P.cellsOf e)) parts with
    |none=>rw[sb] at h;cases h
    |some cs=>
     rw[sb] at h
     cases h
     obtain⟨c',h1,h2⟩:=sW (λ_ _ h=>h.cK) _ parts pc.toList _ (madeCells z.cells (len*P.cellsOf e)) cs (qF hr (.inl (by omega))) (by simpa using hl) hp sb;have hlen:c'.toList.length=cs.length:=h2.1;obtain⟨k1,k2,k3⟩:=hc.newRow c' e (0,0) (vs:=cs) cs.length (agE _) (by rw[aih (by omega)];exact h2) len len (agE _) .full (.inr ⟨rfl,rfl⟩);refine⟨_,_,_,?_,k1,k3,k2⟩;have gu:=run_sizeOf w hi;have n1:¬len*P.cellsOf e>2 ^ 24:=by omega
     by_cases h0:len*P.cellsOf e=0
     ·have hm:madeCells z.cells (len*P.cellsOf e)=(Array.range 0).map ((#[]:Array Value)[· % (#[]:Array Value).size]!):=by rw[h0];simp[madeCells]
      rw[hm] at h1;have n2:¬0>2 ^ 24:=by omega
      simp only[Instr.buildSlice,Sem.run_bind,run_underlying hu,Result.andThen_ok,gu,h0,n2,aiq,ain,pure_bind,h1,Sem.run_pure];rfl
     ·simp only[Instr.buildSlice,Sem.run_bind,run_underlying hu,Result.andThen_ok,gu,h0,n1,aiq,pure_bind,bind_pure_comp,Sem.run_map,j8 hi uR];have U7:=h1;unfold madeCells at U7;simp only[U7];rfl
   ·cases h
  ·cases h
 ·cases h
def oc (P:Program)(t:TypeId)(len:Nat)(parts:List (Nat×AV)):Option (List AV):=
 match P.underlying t with
 |some (.slice e)=>match bc P e with
  |some zs=>if len*P.cellsOf e<=16777216/\0<P.cellsOf e/\zs.length=P.cellsOf e then pz cK (λi=>some (i*P.cellsOf e,P.cellsOf e)) (gh zs (len*P.cellsOf e)) parts else none
  |none=>none
 |_=>none
def BV {t:TypeId}{len:Nat}{parts:List (Nat×AV)}{pc:Array (Nat×Value)}{cs:List AV}(hc:cg L H T w)(h:oc P t len parts=some cs)(hl:pc.size=parts.length)
  (hp:∀(j:Nat)(h:j<parts.length)(h':j<pc.toList.length),(parts[j]'h).1=(pc.toList[j]'h').1/\ba L H.length T w (parts[j]'h).2 (pc.toList[j]'h').2) :
  ∃cv w' L',(Instr.buildSlice t len pc).run P w=.ok cv w'/\cg L' (H++[.cells cs]) T w'/\ba L' (H++[aA.cells cs]).length T w' (.cN H.length 0 len) cv/\Ev H.length T.length L H.length T w L' (H++[aA.cells cs]).length T w':=by
 unfold oc at h
 split at h
 ·rename_i e hu
  split at h
  ·rename_i zs hz
   split at h
   ·rename_i hb;obtain⟨i,z,hi,uR,hr,qI⟩:=eF (L:=L) (N:=H.length) (T:=T) (w:=w) hz;obtain⟨c',h1,h2⟩:=sW (λ_ _ h=>h.cK) _ parts pc.toList _ (madeCells z.cells (len*P.cellsOf e)) cs (qF hr (.inl (by omega))) (by simpa using hl) hp h;obtain⟨L',k1,k2,k3⟩:=hc.rL c' e h2;refine⟨.slice (some ⟨w.heap.size,0,none⟩) len len,_,L',?_,k1,?_,k2⟩
    ·have gu:=run_sizeOf w hi;have n1:¬len*P.cellsOf e>2 ^ 24:=by omega
     by_cases h0:len*P.cellsOf e=0
     ·have hm:madeCells z.cells (len*P.cellsOf e)=(Array.range 0).map ((#[]:Array Value)[· % (#[]:Array Value).size]!):=by rw[h0];simp[madeCells]
      rw[hm] at h1;have n2:¬0>2 ^ 24:=by omega
      simp only[Instr.buildSlice,Sem.run_bind,run_underlying hu,Result.andThen_ok,gu,h0,n2,aiq,ain,pure_bind,h1,Sem.run_pure];rfl
     ·simp only[Instr.buildSlice,Sem.run_bind,run_underlying hu,Result.andThen_ok,gu,h0,n1,aiq,pure_bind,bind_pure_comp,Sem.run_map,j8 hi uR];have U7:=h1;unfold madeCells at U7;simp only[U7];rfl
    ·rw[<-k3];exact .cN _ _ _ _ (by simp) (agE _)
   ·cases h
  ·cases h
 ·cases h
end
section
variable {P : Program} {L : Lay} {H : List aA} {T : au} {w : World}
def E4 {t e:TypeId}{zs:List AV}(hc:cg L H T w)(hu:P.underlying t=some (.slice e))(hz:bc P e=some zs)(y6:0<zs.length)(kl kc:IntKind)(n:Nat)(hb:n*P.bytesOf e<=281474976710656)(hn:n<=9223372036854775807) :
  ∃cv w' L',(Instr.makeSlice t (.int kl (n:Int)) (.int kc (n:Int))).run P w=.ok cv w'/\cg L' (H++[.cells (gh zs (n*P.cellsOf e))]) T w'/\ba L' (H++[aA.cells (gh zs (n*P.cellsOf e))]).length T w' (.bJ H.length n n) cv/\
   Ev H.length T.length L H.length T w L' (H++[aA.cells (gh zs (n*P.cellsOf e))]).length T w':=by
 obtain⟨i,z,hi,uR,hr,qI⟩:=eF (L:=L) (N:=H.length) (T:=T) (w:=w) hz;have qK:P.bytesOf e=i.bytes:=by simp[Program.bytesOf,hi]
 have gu:P.cellsOf e=i.size:=by simp[Program.cellsOf,hi]
 have yF:(i.bytes:Int)*(n:Int)<=281474976710656:=by
  rw[qK] at hb;have:((n*i.bytes:Nat):Int)<=281474976710656:=by omega
  rw[Int.natCast_mul,Int.mul_comm] at this;exact this
 have hm:=run_make (P:=P) w t e i z hu hi uR kl kc n n (by omega) (Int.le_refl _) yF (by omega);obtain⟨L',h1,h2,h3⟩:=hc.rL (madeCells z.cells (n*P.cellsOf e)) e (qF (n:=n*P.cellsOf e) hr (.inl y6));refine⟨_,_,L',by rw[hm];simp only[Int.toNat_natCast,<-gu];rfl,h1,?_,h2⟩;rw[<-h3];exact .bJ H.length n n (by simp) (agE _)
def E0 {t e:TypeId}{zs:List AV}(hc:cg L H T w)(hu:P.underlying t=some (.slice e))(hz:bc P e=some zs)(y6:0<P.cellsOf e)(kl kc:IntKind)(n:Nat)(hb:n*P.bytesOf e<=281474976710656)(hn:n<=9223372036854775807) :
  ∃cv w' L',(Instr.makeSlice t (.int kl 0) (.int kc (n:Int))).run P w=.ok cv w'/\cg L' H (T++[(0,P.cellsOf e)]) w'/\ba L' H.length (T++[(0,P.cellsOf e)]) w' (.sl 0 [] (.own T.length)) cv/\
   Ev H.length T.length L H.length T w L' H.length (T++[(0,P.cellsOf e)]) w':=by
 obtain⟨i,z,hi,uR,hr,qI⟩:=eF (L:=L) (N:=H.length) (T:=T) (w:=w) hz;have qK:P.bytesOf e=i.bytes:=by simp[Program.bytesOf,hi]
 have gu:P.cellsOf e=i.size:=by simp[Program.cellsOf,hi]
 have yF:(i.bytes:Int)*(n:Int)<=281474976710656:=by
  rw[qK] at hb;have:((n*i.bytes:Nat):Int)<=281474976710656:=by omega
  rw[Int.natCast_mul,Int.mul_comm] at this;exact this
 have hm:=run_make (P:=P) w t e i z hu hi uR kl kc 0 n (Int.le_refl _) (by omega) yF (by omega);have c1:=hc.alloc (.cells (madeCells z.cells (n*P.cellsOf e)) e) 0;have e1:=Ev.alloc hc (.cells (madeCells z.cells (n*P.cellsOf e)) e) 0;have H9:¬Wr (L.bW w.heap.size 0) H.length T w.heap.size:=hc.wV (agE _)
 let k:Tk:=⟨w.heap.size,0,n⟩
 have hk:((L.bW w.heap.size 0).bt T.length k).et T.length=k:=by simp[Lay.bt]
 refine⟨_,_,(L.bW w.heap.size 0).bt T.length k,by rw[hm];simp only[Int.toNat_natCast,<-gu];rfl,c1.oz k 0 (P.cellsOf e) (λ_=>H9) ?_,?_,e1.oz (λ_=>.inl (agE _))⟩
 ·refine⟨y6,λ_=>?_⟩;rw[hk];refine⟨_,e,(0,0),fI w _,by simp[k,size_madeCells],λo _ _=>by simp,?_⟩;simp[k,Lay.bt,Lay.bW]
 ·refine .yZ (.own T.length) _ _ ⟨0,P.cellsOf e,by simp,agE _,λ_=>.inr ?_⟩;rw[hk];simp[k]
def pA:Array Value->Nat->List Value->Array Value
 |c,_,[]=>c
 |c,o,v::r=>pA (c.setIfInBounds o v) (o+1) r
theorem EY:∀(vs:List Value)(c:Array Value)(o:Nat),(pA c o vs).size=c.size:=by
 intro vs
 induction vs with
 |nil=>intro c o;rfl
 |cons v r ih=>intro c o;simp[pA,ih]
theorem zW:∀(vs:List Value)(c:Array Value)(o j:Nat),j<o->(pA c o vs)[j]?=c[j]?:=by
 intro vs
 induction vs with
 |nil=>intro c o j _;rfl
 |cons v r ih=>
  intro c o j hj;rw[pA,ih _ _ _ (by omega),aiD (by omega)]
theorem KH:∀(vs:List Value)(c:Array Value)(o j:Nat),o+vs.length<=c.size->j<vs.length->(pA c o vs)[o+j]?=vs[j]?:=by
 intro vs
 induction vs with
 |nil=>intro c o j _ h;simp at h
 |cons v r ih=>
  intro c o j hle hj;rw[pA]
  cases j with
  |zero=>
   rw[zW _ _ _ _ (by omega)];simp at hle;have:o<c.size:=by omega
   simp[this]
  |succ j=>
   have:=ih (c.setIfInBounds o v) (o+1) j (by simp at hle ⊢;omega) (by simpa using hj);rw[show o+(j+1)=o+1+j by omega,this];simp
theorem yQ:∀(vs:List Value)(w:World)(b o:Nat)(c:Array Value)(e:TypeId)(fr:Nat×Nat),w.heap[b]?=some (.cells c e fr)->
  (w.setCells b o vs).heap[b]?=some (.cells (pA c o vs) e fr)/\(∀x,x≠b->(w.setCells b o vs).heap[x]?=w.heap[x]?)/\(w.setCells b o vs).heap.size=w.heap.size/\
   (w.setCells b o vs).os=w.os/\(w.setCells b o vs).tape=w.tape/\(w.setCells b o vs).output=w.output/\(w.setCells b o vs).drawn=w.drawn:=by
 intro vs
 induction vs with
 |nil=>intro w b o c e fr h;exact⟨h,λ_ _=>rfl,rfl,rfl,rfl,rfl,rfl⟩
 |cons v r ih=>
  intro w b o c e fr h;have h1:=oT w b o v h;obtain⟨g1,g2,g3,g4,g5,g6,g7⟩:=ih (w.setCell ⟨b,o,none⟩ v) b (o+1) _ e fr h1;exact⟨g1,λx hx=>(g2 x hx).trans (gq w b o v x hx),by rw[World.setCells,g3];simp,g4,g5,g6,g7⟩
def jN (P:Program)(t:TypeId):Bool:=
 match P.underlying t with
 |some (.int _)=>false
 |some _=>true
 |none=>false
def G4 {t:TypeId}(h:jN P t=true):∃d,P.underlying t=some d/\(∀k,d≠.int k):=by
 unfold jN at h
 split at h
 ·cases h
 ·rename_i d hn hu;exact⟨d,hu,λk e=>by subst e;exact hn k rfl⟩
 ·cases h
theorem fP {t t2 ty e:TypeId}{i:TypeInfo}{zv:Value}(hu:P.underlying t=some (.slice e))(h2:jN P t2=true)(hi:P.info? e=some i)(hz:i.zero=some zv)
  {a:Option Addr} {n cap m:Nat} {x:Value} {Yu new Yv:List Value} (hlen:(Builtin.lenOf x).run P w=.ok m w) (Zs:(Builtin.firstCells i.size m x).run P w=.ok new.toArray w)
  (Zr:(Builtin.firstCells i.size m x).run P w.drew=.ok Yv.toArray w.drew) (Zq:(Builtin.firstCells i.size n (.slice a n cap)).run P w.drew=.ok Yu.toArray w.drew) (hb:(n+m)*i.bytes<=140737488355328) (hm:n+m<=9223372036854775807) :
  (n+m<=cap->(Builtin.append_ #[t,t2] ty #[.slice a n cap,x]).run P w=((match a with|some a=>storeCells (a.add (n*i.size)) new|none=>pure ()).run P w).andThen λ_ w'=>.ok (.slice a (n+m) cap) w')/\
  (cap<n+m->∃nc,n+m<=nc/\(Builtin.append_ #[t,t2] ty #[.slice a n cap,x]).run P w =
   .ok (.slice (some ⟨w.heap.size,0,none⟩) (n+m) nc) (w.drew.alloc (.cells (Yu.toArray++Yv.toArray++Builtin.zeroCells zv.cells (nc-(n+m))) e))):=by
 obtain⟨d2,tM,Cf⟩:=G4 h2;have afs:(d2 matches .int _)=false:=by
  cases d2<;>first|rfl|exact absurd rfl (Cf _)
 have gu:=run_sizeOf w hi;have yB:P.cellsOf e=i.size:=by simp[Program.cellsOf,hi]
 constructor
 ·intro hle;simp only[Builtin.append_,agY,ajl,List.getElem?_cons_succ,Sem.run_bind,run_underlying hu,run_underlying tM,Result.andThen_ok,gu,Sem.run_pure,yB];simp only[ahE,aiq,hlen,Result.andThen_ok,Sem.run_bind,hle,ain,ai2,Zs]
  cases a with
  |none=>rfl
  |some a=>simp only[Sem.run_bind];rfl
 ·intro aZ;obtain⟨nc,ll,hle⟩:∃nc,(Question.appendCap (n+m) cap e).cut (w.tape w.drawn (.appendCap (n+m) cap e))=nc/\n+m<=nc:=⟨_,rfl,by simp[Question.cut]⟩
  refine⟨nc,hle,?_⟩;have g1:¬n+m<=cap:=by omega
  have g2:¬(((n+m:Nat):Int)>IntKind.i64.max/\(False\/i.bytes=0)):=by
   have:IntKind.i64.max=9223372036854775807:=by decide
   rw[this];omega
  have g3:¬Builtin.nextslicecap (n+m) cap*i.bytes>2 ^ 48:=by
   have:=growslice_fits aZ hb;omega
  simp only[Builtin.append_,agY,ajl,List.getElem?_cons_succ,Sem.run_bind,run_underlying hu,run_underlying tM,Result.andThen_ok,gu,Sem.run_pure,yB];simp only[ahE,aiq,hlen,Result.andThen_ok,Sem.run_bind,g1,run_typeInfo w hi,g2,g3,ai2,ain];simp only[run_choose,Question.forced,ahE,aiq,ll,Result.andThen_ok,run_askRoom,World.drew_eq,run_typeInfo w.drew hi,Zq,Zr,j8 hi hz,newRow,Sem.run_bind,run_newObj,Sem.run_pure];rfl
def sP (P:Program)(H:List aA)(T:au)(t t2:TypeId)(s x:AV):Option (AV×au):=
 match P.underlying t,s with
 |some (.slice e),.sl n cs tg=>
  match gN H (P.cellsOf e) x with
  |some (m,ys)=>
   if cs.length=n*P.cellsOf e/\0<P.cellsOf e/\(n+m)*P.bytesOf e<=140737488355328/\n+m<=9223372036854775807/\jN P t2=true/\(bc P e).isSome=true then
    match tg with
    |.full=>some (.sl (n+m) (cs++ys) (.own T.length),T++[((n+m)*P.cellsOf e,P.cellsOf e)])
    |.own k=>if T[k]?=some (cs.length,P.cellsOf e) then some (.sl (n+m) (cs++ys) (.own k),T.set k ((n+m)*P.cellsOf e,P.cellsOf e)) else none
    |.none=>none
   else none
  |none=>none
 |_,_=>none
def G9 {t t2 ty:TypeId}{s x r:AV}{cs cx:Value}{T':au}(hc:cg L H T w)(h:sP P H T t t2 s x=some (r,T'))(hs:ba L H.length T w s cs)(hx:ba L H.length T w x cx) :
  ∃cv w' L',(Builtin.append_ #[t,t2] ty #[cs,cx]).run P w=.ok cv w'/\cg L' H T' w'/\ba L' H.length T' w' r cv/\Ev H.length T.length L H.length T w L' H.length T' w':=by
 unfold sP at h
 split at h
 ·rename_i e n cl tg hu
  split at h
  ·rename_i m ys mT
   split at h
   ·rename_i hb;obtain⟨gC,tH,qK,tP,tK,qI⟩:=hb;obtain⟨zs,qI⟩:=ahg.1 qI;obtain⟨i,z,hi,uR,Qn,CH⟩:=eF (L:=L) (N:=H.length) (T:=T) (w:=w) qI;have vE:P.cellsOf e=i.size:=by simp[Program.cellsOf,hi]
    have Mz:P.bytesOf e=i.bytes:=by simp[Program.bytesOf,hi]
    rw[Mz] at qK;obtain⟨new,FO,oP,hlen,gT⟩:=eI (P:=P) hc hx mT;have yD:cg L H T w.drew:=hc.drew rfl;have kd:cX L H.length T w L H.length T w.drew:=(Ev.drew (H:=H) (T:=T) (L:=L) (w:=w) (w':=w.drew) rfl rfl rfl rfl (ahy _)).keeps;obtain⟨lK,_,oq,_,jt⟩:=eI (P:=P) yD (hx.keep kd) mT;obtain⟨a,cap,rfl,cE,Gc,w6⟩:=hs.fF;have FR:=hs.keep kd;have jG:gN H (P.cellsOf e) (.sl n cl tg)=some (n,cl):=by simp[gN,gC]
    obtain⟨vz,_,sD,_,oQ⟩:=eI (P:=P) yD FR jG;have h2:=fP (P:=P) (w:=w) (ty:=ty) hu tK hi uR (a:=a) (n:=n) (cap:=cap) (m:=m) hlen (vE▸gT) (vE▸jt) (vE▸oQ) qK tP;rw[<-vE] at h2;have grow:cap<n+m->∀(k:Nat)(Tn:au),((k=T.length/\Tn=T++[((n+m)*P.cellsOf e,P.cellsOf e)])\/(∃u,T[k]?=some (u,P.cellsOf e)/\u<(n+m)*P.cellsOf e/\Tn=T.set k ((n+m)*P.cellsOf e,P.cellsOf e)))->
      ∃cv w' L',(Builtin.append_ #[t,t2] ty #[.slice a n cap,cx]).run P w=.ok cv w'/\cg L' H Tn w'/\ba L' H.length Tn w' (.sl (n+m) (cl++ys) (.own k)) cv/\Ev H.length T.length L H.length T w L' H.length Tn w':=by
     intro aZ k Tn hk;obtain⟨nc,ll,cY⟩:=h2.2 aZ;have Ng:=sD.append oq;have Un:(vz++lK).length=(cl++ys).length:=Ng.1;have vP:(cl++ys).length=(n+m)*P.cellsOf e:=by rw[agF,gC,FO,ahU]
     have Zh:((vz.toArray++lK.toArray++Builtin.zeroCells z.cells (nc-(n+m))).toList.take (cl++ys).length)=vz++lK:=by
      have e1:(vz.toArray++lK.toArray++Builtin.zeroCells z.cells (nc-(n+m))).toList=(vz++lK)++(Builtin.zeroCells z.cells (nc-(n+m))).toList:=by simp
      rw[e1,<-Un,ahD rfl]
     obtain⟨k1,k2,k3⟩:=yD.newRow (vz.toArray++lK.toArray++Builtin.zeroCells z.cells (nc-(n+m))) e (0,0) (vs:=cl++ys) (cl++ys).length (agE _) (by rw[Zh];exact Ng) (n+m) nc ll .none (.inl rfl);have ed:Ev H.length T.length L H.length T w L H.length T w.drew:=Ev.drew rfl rfl rfl rfl (ahy _);have H9:¬Wr (L.bW w.heap.size (cl++ys).length) H.length T w.heap.size:=hc.wV (agE _)
     let tk:Tk:=⟨w.heap.size,0,nc⟩
     have Zl:(vz.toArray++lK.toArray++Builtin.zeroCells z.cells (nc-(n+m))).size=nc*P.cellsOf e:=by
      have h1:(vz++lK).length=(n+m)*P.cellsOf e:=by rw[Un,vP]
      have h3:nc*P.cellsOf e=(n+m)*P.cellsOf e+(nc-(n+m))*P.cellsOf e:=by rw[<-add_mul];congr 1;omega
      simp only[Array.size_append,List.size_toArray,size_zeroCells,CH,h3];rw[<-h1];simp
     have M6:∀k',zF ((L.bW w.heap.size (cl++ys).length).bt k' tk) (w.drew.alloc (.cells (vz.toArray++lK.toArray++Builtin.zeroCells z.cells (nc-(n+m))) e)) k' ((n+m)*P.cellsOf e) (P.cellsOf e):=by
      intro k';have nw:((L.bW w.heap.size (cl++ys).length).bt k' tk).et k'=tk:=by simp[Lay.bt]
      refine⟨tH,λ_=>?_⟩;rw[nw];refine⟨_,e,(0,0),fI w.drew _,by rw[Zl];simp[tk],λo _ _=>by simp,?_⟩;show (if tk.b=w.heap.size then (cl++ys).length else L.m tk.b)<=_;rw[agN rfl,vP];exact Nat.le_add_left _ _
     have dG:∀Yk,(∀t' u z',T[t']?=some (u,z')->∃u',Yk[t']?=some (u',z')/\u<=u'/\(u'=u->t'≠k))->Yk[k]?=some ((n+m)*P.cellsOf e,P.cellsOf e)->
       ba ((L.bW w.heap.size (cl++ys).length).bt k tk) H.length Yk (w.drew.alloc (.cells (vz.toArray++lK.toArray++Builtin.zeroCells z.cells (nc-(n+m))) e)) (.sl (n+m) (cl++ys) (.own k)) (.slice (some ⟨w.heap.size,0,none⟩) (n+m) nc):=by
      intro Yk hT Jt;have kp:cX (L.bW w.heap.size (cl++ys).length) H.length T (w.drew.alloc (.cells (vz.toArray++lK.toArray++Builtin.zeroCells z.cells (nc-(n+m))) e)) ((L.bW w.heap.size (cl++ys).length).bt k tk) H.length Yk (w.drew.alloc (.cells (vz.toArray++lK.toArray++Builtin.zeroCells z.cells (nc-(n+m))) e)):=by
       refine⟨agE _,λ_ _=>rfl,λt' u z' p9=>?_,λ_=>agE _,λ_ _ _=>rfl,rfl⟩;obtain⟨u',h1,h3,h4⟩:=hT t' u z' p9;refine⟨u',h1,h3,λe=>?_⟩;simp only[Lay.bt];rw[agL (h4 e)]
      have:=k3.keep kp;obtain⟨a',kV,e1,jk,_,MM⟩:=this.fF
      cases e1
      have eO:0<(cl++ys).length:=by
       rw[vP];exact Nat.mul_pos (by omega) tH
      rcases MM with⟨e2,_⟩|⟨b,base,cv,e2,g1,g2,g3⟩
      ·rw[e2] at eO;simp at eO
      ·cases e2
       refine ba.mD jk g1 g2 g3 ⟨_,_,Jt,by rw[vP];exact agE _,λ_=>.inr ?_⟩;simp[Lay.bt,tk]
     rcases hk with⟨rfl,rfl⟩|⟨u,Jt,kr,rfl⟩
     ·refine⟨_,_,_,cY,k1.oz tk _ _ (λ_=>H9) (M6 _),dG _ (λt' u z' p9=>?_) (by simp),(ed.trans k2).oz (λ_=>.inl (agE _))⟩;have Ge:=(agC.1 p9).1;exact⟨u,by rw[agK Ge];exact p9,agE _,λ_=>by omega⟩
     ·have gO:=(agC.1 Jt).1;refine⟨_,_,_,cY,k1.Gn Jt kr tk (λ_=>H9) (M6 _),dG _ (λt' u' z' p9=>?_) (by rw[ag4 gO]),(ed.trans k2).Gn Jt kr (λ_=>agE _)⟩
      by_cases iz:t'=k
      ·subst iz;rw[Jt] at p9
       cases p9
       exact⟨_,by rw[ag4 gO],by omega,λe=>by omega⟩
      ·exact⟨u',by rw[ahs (λe=>iz e.symm)];exact p9,agE _,λ_=>iz⟩
    have zero:m=0->(Builtin.append_ #[t,t2] ty #[.slice a n cap,cx]).run P w=.ok (.slice a n cap) w/\ys=[]:=by
     intro hm;subst hm;have FE:new=[]:=ahe (by rw[oP.1];simpa using FO);have hy0:ys=[]:=ahe (by simpa using FO);have:=h2.1 (by omega);rw[FE] at this;refine⟨?_,hy0⟩;rw[this]
     cases a<;>rfl
    split at h
    ·cases h
     rcases ahc m with hm|hm
     ·obtain⟨g1,g2⟩:=zero hm;subst hm;subst g2;refine⟨_,w,L.bt T.length ⟨0,0,0⟩,g1,hc.oz ⟨0,0,0⟩ _ _ (λh=>by simp at h) ⟨tH,λh=>by simp[Lay.bt] at h⟩,?_,
       (Ev.refl (agE _) (agE _)).oz (λh=>by simp at h)⟩
      have kp:cX L H.length T w (L.bt T.length ⟨0,0,0⟩) H.length (T++[((n+0)*P.cellsOf e,P.cellsOf e)]) w:=by
       refine⟨agE _,λ_ _=>rfl,λt' u z' p9=>?_,λ_=>agE _,λ_ _ _=>rfl,rfl⟩;have Ge:=(agC.1 p9).1;exact⟨u,by rw[agK Ge];exact p9,agE _,λ_=>by simp only[Lay.bt];rw[agL (by omega)]⟩
      have uS:=(hs.cK).keep kp;simp only[Am.cK] at uS;have tok:∀a',lP (L.bt T.length ⟨0,0,0⟩) (T++[((n+0)*P.cellsOf e,P.cellsOf e)]) (.own T.length) n cl.length a' cap:=λa'=>⟨(n+0)*P.cellsOf e,P.cellsOf e,by simp,by rw[gC];simp,λ_=>.inl Gc⟩
      obtain⟨a',kV,e1,jk,_,MM⟩:=uS.fF
      cases e1
      rcases MM with⟨e2,e3⟩|⟨b,base,cv,e2,q1,q2,q3⟩
      ·subst e2;subst e3;simp only[ag2,ai3];exact .yZ _ _ _ (tok _)
      ·subst e2;simp only[ag2,ai3];exact ba.mD jk q1 q2 q3 (tok _)
     ·have yC:cap=n:=Gc;exact grow (by omega) T.length _ (.inl ⟨rfl,rfl⟩)
    ·rename_i k
     split at h
     ·rename_i Jt
      cases h
      have gO:=(agC.1 Jt).1;rcases ahc m with hm|hm
      ·obtain⟨g1,g2⟩:=zero hm;subst hm;subst g2;have hT:T.set k ((n+0)*P.cellsOf e,P.cellsOf e)=T:=by
        apply aiw;intro j
        by_cases hj:k=j
        ·subst hj;rw[ag4 gO,Jt,gC];simp
        ·rw[ahs hj]
       rw[hT];refine⟨_,w,L,g1,hc,by simpa using hs,Ev.refl (agE _) (agE _)⟩
      ·rcases agM cap (n+m) with aZ|od
       ·exact grow aZ k _ (.inr ⟨cl.length,Jt,by rw[gC];exact Nat.mul_lt_mul_of_pos_right (by omega) tH,rfl⟩)
       ·
        obtain⟨u0,z0,hT0,agp,himp⟩:=Gc;rw[Jt] at hT0
        cases hT0
        rcases himp rfl with h0|⟨ha,ND⟩
        ·omega
        ·have cY:=h2.1 od;have FQ:cl.length<(L.et k).c*P.cellsOf e:=by
          rw[<-ND,gC];exact Nat.mul_lt_mul_of_pos_right (by omega) tH
         obtain⟨_,tO⟩:=hc.tok k _ _ Jt;obtain⟨cc,ee,fr,g1,g2,g3,g4⟩:=tO FQ;have hmz:cl.length+m*P.cellsOf e<=(L.et k).c*P.cellsOf e:=by
          rw[<-ND,gC,<-add_mul];exact ahF _ od
         have af2:new.length=m*P.cellsOf e:=by rw[oP.1,FO]
         have gA:=run_storeCells_cells (P:=P) (L.et k).b ((L.et k).o+cl.length) new 0 w
          (λj hj=>by
           rw[gp g1];rw[ais (show (L.et k).o+cl.length+0+j<cc.size by omega)];rfl)
          (λj hj=>by
           unfold World.frozen?;simp only[g1];exact g3 _ (by omega) (by omega))
          (λv hv=>by
           obtain⟨j,hj,e1⟩:=agW.1 hv;rw[<-e1];exact oP.2.1 j hj)
         obtain⟨s1,s2,s3,s4,s5,s6,s7⟩:=yQ new w (L.et k).b ((L.et k).o+cl.length) cc ee fr g1;have vP:cl.length+m*P.cellsOf e=(n+m)*P.cellsOf e:=by rw[gC,ahU]
         obtain⟨c1,e1⟩:=hc.grow Jt (k:=m*P.cellsOf e) (Nat.mul_pos hm tH) hmz g1 s1 (EY _ _ _) (λj hj=>zW _ _ _ _ hj) s2 s3 s4 s5 s6 (Nat.le_of_eq s7.symm);rw[vP] at c1 e1;refine⟨.slice a (n+m) cap,_,_,?_,c1,?_,e1⟩
         ·rw[cY,ha];simp only[ff,<-gC];rw[gA];rfl
         ·have hsk:=hs.keep e1.keeps;obtain⟨a',kV,e3,jk,Vo,MM⟩:=hsk.fF
          cases e3
          have Ng:cJ ((L.bW (L.et k).b ((L.et k).o+cl.length+m*P.cellsOf e))) H.length (T.set k ((n+m)*P.cellsOf e,P.cellsOf e)) (w.setCells (L.et k).b ((L.et k).o+cl.length) new) ys new:=oP.keep e1.keeps;have tok:lP (L.bW (L.et k).b ((L.et k).o+cl.length+m*P.cellsOf e)) (T.set k ((n+m)*P.cellsOf e,P.cellsOf e)) (.own k) (n+m) (cl++ys).length (some ⟨(L.et k).b,(L.et k).o,none⟩) cap:=
           ⟨_,_,by rw[ag4 gO],by rw[agF,FO,vP];exact agE _,λ_=>.inr ⟨rfl,ND⟩⟩
          have Ul:(L.et k).o+(cl++ys).length<=(L.bW (L.et k).b ((L.et k).o+cl.length+m*P.cellsOf e)).m (L.et k).b:=by
           simp only[Lay.bW,ain,agF,FO];omega
          subst ha;have Ud:∀j,j<ys.length->(w.setCells (L.et k).b ((L.et k).o+cl.length) new).cell? ⟨(L.et k).b,(L.et k).o+cl.length+j,none⟩=new[j]?:=by
           intro j hj;rw[gp s1,KH _ _ _ _ (by omega) (by omega)]
          rcases MM with⟨e2,e3⟩|⟨b,base,cv,e2,q1,q2,q3⟩
          ·subst e2;subst e3;refine ba.mD (cv:=new) od Ul (by simpa using Ng) (λj hj=>?_) tok;have:=Ud j (by simpa using hj);simpa using this
          ·cases e2
           refine ba.mD (cv:=cv++new) od Ul (q2.append Ng) (λj hj=>?_) tok;have QB:cv.length=cl.length:=q2.1;rcases agM j cl.length with WY|WY
           ·rw[q3 j WY,agK (by omega)]
           ·have:=Ud (j-cl.length) (by simp at hj;omega);rw[agX (by omega),QB,<-this]
            congr 2
            omega
     ·cases h
    ·cases h
   ·cases h
  ·cases h
 ·cases h
def oF (P:Program)(H:List aA)(t t2:TypeId)(s x:AV):Option (Nat×List AV):=
 match P.underlying t,s with
 |some (.slice e),.sl 0 [] .full=>
  match gN H (P.cellsOf e) x with
  |some (m,ys)=>if 0<m/\0<P.cellsOf e/\m*P.bytesOf e<=140737488355328/\m<=9223372036854775807/\jN P t2=true/\(bc P e).isSome=true then some (m,ys) else none
  |none=>none
 |_,_=>none
def mZ {z:Array Value}{n:Nat}{v:Value}(h:v∈(Builtin.zeroCells z n).toList):v∈z.toList:=by
 unfold Builtin.zeroCells at h;simp only[Array.toList_map,Array.toList_range,agG,ag3] at h;obtain⟨i,hi,rfl⟩:=h;have hz:0<z.size:=by
  rcases ahc z.size with h0|h0
  ·rw[h0] at hi;simp at hi
  ·exact h0
 have aZ:i % z.size<z.size:=aiS _ hz;rw[aiC z _ aZ];simp
def cJ.Vc {N:Nat}{T:au}(l:List Value)(h:∀v∈l,v.oneCell'=true):cJ L N T w (List.replicate l.length .top) l:=by
 refine⟨by simp,λj hj=>h _ (ahb hj),λj hj bQ=>?_⟩;rw[List.getElem_replicate];exact .top _
def Hc {t t2 ty:TypeId}{s x:AV}{cs cx:Value}{m:Nat}{ys:List AV}(hc:cg L H T w)(h:oF P H t t2 s x=some (m,ys))(hs:ba L H.length T w s cs)(hx:ba L H.length T w x cx) :
  ∃k cv w' L',(Builtin.append_ #[t,t2] ty #[cs,cx]).run P w=.ok cv w'/\cg L' (H++[.cells (ys++List.replicate k .top)]) T w'/\ba L' (H++[aA.cells (ys++List.replicate k .top)]).length T w' (.cN H.length 0 m) cv/\
   Ev H.length T.length L H.length T w L' (H++[aA.cells (ys++List.replicate k .top)]).length T w':=by
 unfold oF at h
 split at h
 ·rename_i e hu
  split at h
  ·rename_i m' ys' mT
   split at h
   ·rename_i hb
    cases h
    obtain⟨hm,tH,qK,tP,tK,qI⟩:=hb;obtain⟨zs,qI⟩:=ahg.1 qI;obtain⟨i,z,hi,uR,Qn,CH⟩:=eF (L:=L) (N:=H.length) (T:=T) (w:=w) qI;have vE:P.cellsOf e=i.size:=by simp[Program.cellsOf,hi]
    have Mz:P.bytesOf e=i.bytes:=by simp[Program.bytesOf,hi]
    rw[Mz] at qK;obtain⟨new,FO,oP,hlen,gT⟩:=eI (P:=P) hc hx mT;have yD:cg L H T w.drew:=hc.drew rfl;have kd:cX L H.length T w L H.length T w.drew:=(Ev.drew (H:=H) (T:=T) (L:=L) (w:=w) (w':=w.drew) rfl rfl rfl rfl (ahy _)).keeps;obtain⟨lK,_,oq,_,jt⟩:=eI (P:=P) yD (hx.keep kd) mT;obtain⟨a,cap,rfl,cE,Gc,w6⟩:=hs.fF;have FR:=hs.keep kd;have jG:gN H (P.cellsOf e) (.sl 0 [] .full)=some (0,[]):=by simp[gN]
    obtain⟨vz,_,sD,_,oQ⟩:=eI (P:=P) yD FR jG;have hold:vz=[]:=ahe (by rw[sD.1];rfl);subst hold;have h2:=fP (P:=P) (w:=w) (ty:=ty) hu tK hi uR (a:=a) (n:=0) (cap:=cap) (m:=m) hlen (vE▸gT) (vE▸jt) (vE▸oQ) (by simpa using qK) (by simpa using tP);have ZD:cap=0:=Gc;obtain⟨nc,ll,cY⟩:=h2.2 (by omega);have CX:∀v∈(Builtin.zeroCells z.cells (nc-(0+m))).toList,v.oneCell'=true:=by
     intro v hv;obtain⟨j,hj,e1⟩:=agW.1 (mZ hv);rw[<-e1];exact Qn.2.1 j hj
    have rE:cJ L H.length T w.drew (ys++List.replicate (Builtin.zeroCells z.cells (nc-(0+m))).toList.length .top) (([]:List Value).toArray++lK.toArray++Builtin.zeroCells z.cells (nc-(0+m))).toList:=by
     have:=oq.append (cJ.Vc (L:=L) (N:=H.length) (T:=T) (w:=w.drew) _ CX);simpa using this
    obtain⟨L',g1,g2,g3⟩:=yD.rL _ e rE;have ed:Ev H.length T.length L H.length T w L H.length T w.drew:=Ev.drew rfl rfl rfl rfl (ahy _);refine⟨_,_,_,L',cY,g1,?_,ed.trans g2⟩;have:=ba.cN (L:=L') (T:=T) (w:=w.drew.alloc (.cells (([]:List Value).toArray++lK.toArray++Builtin.zeroCells z.cells (nc-(0+m))) e)) H.length 0 m nc
     (show H.length<(H++[aA.cells (ys++List.replicate (Builtin.zeroCells z.cells (nc-(0+m))).toList.length .top)]).length by simp) (by omega)
    rw[g3] at this;simpa using this
   ·cases h
  ·cases h
 ·cases h
def Iu (P:Program)(H:List aA)(t t2:TypeId)(s x:AV):Option AV:=
 match s with
 |.cN i o n=>match P.underlying t with
  |some (.slice e)=>match gN H (P.cellsOf e) (.cN i o n),gN H (P.cellsOf e) x with
   |some _,some (0,_)=>if n*P.bytesOf e<=140737488355328/\n<=9223372036854775807/\jN P t2=true/\(bc P e).isSome=true then some (.cN i o n) else none
   |_,_=>none
  |_=>none
 |_=>none
def OU {t t2 ty:TypeId}{s x r:AV}{cs cx:Value}(hc:cg L H T w)(h:Iu P H t t2 s x=some r)(hs:ba L H.length T w s cs)(hx:ba L H.length T w x cx) :
  ∃cv,(Builtin.append_ #[t,t2] ty #[cs,cx]).run P w=.ok cv w/\ba L H.length T w r cv:=by
 unfold Iu at h
 split at h
 ·rename_i i o n
  split at h
  ·rename_i e hu
   split at h
   ·rename_i p ys jG mT
    split at h
    ·rename_i hb
     cases h
     obtain⟨qK,tP,tK,qI⟩:=hb;obtain⟨zs,qI⟩:=ahg.1 qI;obtain⟨i',z,hi,uR,Qn,CH⟩:=eF (L:=L) (N:=H.length) (T:=T) (w:=w) qI;have vE:P.cellsOf e=i'.size:=by simp[Program.cellsOf,hi]
     have Mz:P.bytesOf e=i'.bytes:=by simp[Program.bytesOf,hi]
     rw[Mz] at qK;obtain⟨new,FO,oP,hlen,gT⟩:=eI (P:=P) hc hx mT;have yD:cg L H T w.drew:=hc.drew rfl;have kd:cX L H.length T w L H.length T w.drew:=(Ev.drew (H:=H) (T:=T) (L:=L) (w:=w) (w':=w.drew) rfl rfl rfl rfl (ahy _)).keeps;obtain⟨lK,_,oq,_,jt⟩:=eI (P:=P) yD (hx.keep kd) mT;obtain⟨cap,rfl,cE,eH⟩:=hs.jX;have FR:=hs.keep kd;have hpn:p.1=n:=by
      unfold gN at jG;simp only at jG
      split at jG
      ·split at jG
       ·cases jG;rfl
       ·cases jG
      ·cases jG
     obtain⟨pm,pys⟩:=p;simp only at hpn;subst hpn;obtain⟨vz,_,sD,_,oQ⟩:=eI (P:=P) yD FR jG;have h2:=fP (P:=P) (w:=w) (ty:=ty) hu tK hi uR (a:=some ⟨L.bS i,o,none⟩) (n:=pm) (cap:=cap) (m:=0) hlen (vE▸gT) (vE▸jt) (vE▸oQ) (by simpa using qK) (by simpa using tP);have FE:new=[]:=ahe (by rw[oP.1];simpa using FO);have:=h2.1 (by omega);rw[FE] at this;refine⟨_,?_,hs⟩;rw[this];rfl
    ·cases h
   ·cases h
  ·cases h
 ·cases h
theorem GZ (xs:List AV):∀(vs:List AV)(o:Nat),o+xs.length<=vs.length->setMany vs o xs=vs.take o++xs++vs.drop (o+xs.length):=by
 induction xs with
 |nil=>intro vs o h;simp[setMany]
 |cons x r ih=>
  intro vs o h;rw[ahd] at h;rw[setMany,ih _ _ (by simp;omega)];have h1:(vs.set o x).take (o+1)=vs.take o++[x]:=by
   rw[ah0 (by simp;omega),List.getElem_set_self]
   congr 1
   apply aiw;intro j;rw[ahu,ahu]
   split
   ·rw[ahs (by omega)]
   ·rfl
  have h2:(vs.set o x).drop (o+1+r.length)=vs.drop (o+(r.length+1)):=by
   rw[List.drop_set_of_lt (by omega)]
   congr 1
   omega
  rw[h1,h2];simp
def Dx {t t2 ty e:TypeId}{i n cap m:Nat}{vs xs:List AV}{x:AV}{cs cx:Value}(hc:cg L H T w)(hs:ba L H.length T w (.bJ i n cap) cs)(hx:ba L H.length T w x cx)
  (hu:P.underlying t=some (.slice e)) (hH:H[i]?=some (.cells vs)) (Mv:vs.length=cap*P.cellsOf e) (mT:gN H (P.cellsOf e) x=some (m,xs)) (qK:(n+m)*P.bytesOf e<=140737488355328) (tP:n+m<=9223372036854775807)
  (tK:jN P t2=true) (qI:(bc P e).isSome=true) :
  (n+m<=cap/\∃cv w' L',(Builtin.append_ #[t,t2] ty #[cs,cx]).run P w=.ok cv w'/\cg L' (H.set i (.cells (vs.take (n*P.cellsOf e)++xs++vs.drop ((n+m)*P.cellsOf e)))) T w'/\
   ba L' (H.set i (.cells (vs.take (n*P.cellsOf e)++xs++vs.drop ((n+m)*P.cellsOf e)))).length T w' (.bJ i (n+m) cap) cv/\
   Ev H.length T.length L H.length T w L' (H.set i (.cells (vs.take (n*P.cellsOf e)++xs++vs.drop ((n+m)*P.cellsOf e)))).length T w')\/
  (cap<n+m/\∃nc,n+m<=nc/\∃cv w' L',(Builtin.append_ #[t,t2] ty #[cs,cx]).run P w=.ok cv w'/\cg L' (H++[.cells (vs.take (n*P.cellsOf e)++xs++List.replicate ((nc-(n+m))*P.cellsOf e) .top)]) T w'/\
   ba L' (H++[aA.cells (vs.take (n*P.cellsOf e)++xs++List.replicate ((nc-(n+m))*P.cellsOf e) .top)]).length T w' (.bJ H.length (n+m) nc) cv/\
   Ev H.length T.length L H.length T w L' (H++[aA.cells (vs.take (n*P.cellsOf e)++xs++List.replicate ((nc-(n+m))*P.cellsOf e) .top)]).length T w'):=by
 obtain⟨zs,qI⟩:=ahg.1 qI;obtain⟨ti,z,hi,uR,Qn,CH⟩:=eF (L:=L) (N:=H.length) (T:=T) (w:=w) qI;have vE:P.cellsOf e=ti.size:=by simp[Program.cellsOf,hi]
 have Mz:P.bytesOf e=ti.bytes:=by simp[Program.bytesOf,hi]
 rw[Mz] at qK;obtain⟨new,FO,oP,hlen,gT⟩:=eI (P:=P) hc hx mT;have yD:cg L H T w.drew:=hc.drew rfl;have ed:Ev H.length T.length L H.length T w L H.length T w.drew:=Ev.drew rfl rfl rfl rfl (ahy _);have kd:cX L H.length T w L H.length T w.drew:=ed.keeps;obtain⟨lK,_,oq,_,jt⟩:=eI (P:=P) yD (hx.keep kd) mT;obtain⟨rfl,cE,eH⟩:=hs.ij;have hnz:n*P.cellsOf e<=vs.length:=by rw[Mv];exact ahF _ cE
 have FR:ba L H.length T w.drew (.cN i 0 n) (.slice (some ⟨L.bS i,0,none⟩) n cap):=.cN i 0 n cap eH cE;have jG:gN H (P.cellsOf e) (.cN i 0 n)=some (n,vs.take (n*P.cellsOf e)):=by simp[gN,hH,hnz]
 obtain⟨vz,_,sD,_,oQ⟩:=eI (P:=P) yD FR jG;have h2:=fP (P:=P) (w:=w) (ty:=ty) hu tK hi uR (a:=some ⟨L.bS i,0,none⟩) (n:=n) (cap:=cap) (m:=m) hlen (vE▸gT) (vE▸jt) (vE▸oQ) qK tP;rw[<-vE] at h2;rcases agM cap (n+m) with aZ|hle
 ·refine .inr ⟨aZ,?_⟩;obtain⟨nc,ll,cY⟩:=h2.2 aZ;have CX:∀v∈(Builtin.zeroCells z.cells (nc-(n+m))).toList,v.oneCell'=true:=by
   intro v hv;obtain⟨j,hj,e1⟩:=agW.1 (mZ hv);rw[<-e1];exact Qn.2.1 j hj
  have y6:(Builtin.zeroCells z.cells (nc-(n+m))).toList.length=(nc-(n+m))*P.cellsOf e:=by
   rw[Array.length_toList,size_zeroCells,CH]
  have CZ:=cJ.Vc (L:=L) (N:=H.length) (T:=T) (w:=w.drew) _ CX;rw[y6] at CZ;have rE:cJ L H.length T w.drew (vs.take (n*P.cellsOf e)++xs++List.replicate ((nc-(n+m))*P.cellsOf e) .top) (vz.toArray++lK.toArray++Builtin.zeroCells z.cells (nc-(n+m))).toList:=by
   have:=(sD.append oq).append CZ;simpa using this
  obtain⟨L',g1,g2,g3⟩:=yD.rL _ e rE;refine⟨nc,ll,_,_,L',cY,g1,?_,ed.trans g2⟩;have:=ba.bJ (L:=L') (T:=T) (w:=w.drew.alloc (.cells (vz.toArray++lK.toArray++Builtin.zeroCells z.cells (nc-(n+m))) e)) H.length (n+m) nc
   (show H.length<(H++[aA.cells (vs.take (n*P.cellsOf e)++xs++List.replicate ((nc-(n+m))*P.cellsOf e) .top)]).length by simp) ll
  rw[g3] at this;exact this
 ·refine .inl ⟨hle,?_⟩;have cY:=h2.1 hle;have JF:n*P.cellsOf e+0+xs.length<=vs.length:=by
   rw[Mv,FO,ai3,<-add_mul];exact ahF _ hle
  obtain⟨w',gA,oU,dB⟩:=nh (P:=P) i (n*P.cellsOf e) xs new 0 H w vs hc oP hH JF;have Qr:setMany vs (n*P.cellsOf e+0) xs=vs.take (n*P.cellsOf e)++xs++vs.drop ((n+m)*P.cellsOf e):=by
   rw[GZ _ _ _ (by simpa using JF),FO,ai3,<-add_mul]
  rw[Qr] at oU dB;refine⟨.slice (some ⟨L.bS i,0,none⟩) (n+m) cap,w',L,?_,oU,?_,dB⟩
  ·rw[cY];simp only[ff,ahO,gA,Result.andThen_ok]
  ·exact .bJ i (n+m) cap (by simpa using eH) hle
def E8 {t t2 ty e:TypeId}{s x:AV}{cs cx:Value}{m:Nat}{ys:List AV}(hc:cg L H T w)(h:oF P H t t2 s x=some (m,ys))(hu:P.underlying t=some (.slice e))(hs:ba L H.length T w s cs)(hx:ba L H.length T w x cx) :
  ∃nc,m<=nc/\∃cv w' L',(Builtin.append_ #[t,t2] ty #[cs,cx]).run P w=.ok cv w'/\cg L' (H++[.cells (ys++List.replicate ((nc-m)*P.cellsOf e) .top)]) T w'/\ba L' (H++[aA.cells (ys++List.replicate ((nc-m)*P.cellsOf e) .top)]).length T w' (.bJ H.length m nc) cv/\
   Ev H.length T.length L H.length T w L' (H++[aA.cells (ys++List.replicate ((nc-m)*P.cellsOf e) .top)]).length T w':=by
 unfold oF at h
 split at h
 ·rename_i e' hu';rw[hu] at hu'
  cases hu'
  split at h
  ·rename_i m' ys' mT
   split at h
   ·rename_i hb
    cases h
    obtain⟨hm,tH,qK,tP,tK,qI⟩:=hb;obtain⟨zs,qI⟩:=ahg.1 qI;obtain⟨i,z,hi,uR,Qn,CH⟩:=eF (L:=L) (N:=H.length) (T:=T) (w:=w) qI;have vE:P.cellsOf e=i.size:=by simp[Program.cellsOf,hi]
    have Mz:P.bytesOf e=i.bytes:=by simp[Program.bytesOf,hi]
    rw[Mz] at qK;obtain⟨new,FO,oP,hlen,gT⟩:=eI (P:=P) hc hx mT;have yD:cg L H T w.drew:=hc.drew rfl;have kd:cX L H.length T w L H.length T w.drew:=(Ev.drew (H:=H) (T:=T) (L:=L) (w:=w) (w':=w.drew) rfl rfl rfl rfl (ahy _)).keeps;obtain⟨lK,_,oq,_,jt⟩:=eI (P:=P) yD (hx.keep kd) mT;obtain⟨a,cap,rfl,cE,Gc,w6⟩:=hs.fF;have FR:=hs.keep kd;have jG:gN H (P.cellsOf e) (.sl 0 [] .full)=some (0,[]):=by simp[gN]
    obtain⟨vz,_,sD,_,oQ⟩:=eI (P:=P) yD FR jG;have hold:vz=[]:=ahe (by rw[sD.1];rfl);subst hold;have h2:=fP (P:=P) (w:=w) (ty:=ty) hu tK hi uR (a:=a) (n:=0) (cap:=cap) (m:=m) hlen (vE▸gT) (vE▸jt) (vE▸oQ) (by simpa using qK) (by simpa using tP);have ZD:cap=0:=Gc;obtain⟨nc,ll,cY⟩:=h2.2 (by omega);rw[ahO] at ll cY;have CX:∀v∈(Builtin.zeroCells z.cells (nc-m)).toList,v.oneCell'=true:=by
     intro v hv;obtain⟨j,hj,e1⟩:=agW.1 (mZ hv);rw[<-e1];exact Qn.2.1 j hj
    have y6:(Builtin.zeroCells z.cells (nc-m)).toList.length=(nc-m)*P.cellsOf e:=by
     rw[Array.length_toList,size_zeroCells,CH]
    have CZ:=cJ.Vc (L:=L) (N:=H.length) (T:=T) (w:=w.drew) _ CX;rw[y6] at CZ;have rE:cJ L H.length T w.drew (ys++List.replicate ((nc-m)*P.cellsOf e) .top) (([]:List Value).toArray++lK.toArray++Builtin.zeroCells z.cells (nc-m)).toList:=by
     have:=oq.append CZ;simpa using this
    obtain⟨L',g1,g2,g3⟩:=yD.rL _ e rE;have ed:Ev H.length T.length L H.length T w L H.length T w.drew:=Ev.drew rfl rfl rfl rfl (ahy _);refine⟨nc,ll,_,_,L',cY,g1,?_,ed.trans g2⟩;have:=ba.bJ (L:=L') (T:=T) (w:=w.drew.alloc (.cells (([]:List Value).toArray++lK.toArray++Builtin.zeroCells z.cells (nc-m)) e)) H.length m nc
     (show H.length<(H++[aA.cells (ys++List.replicate ((nc-m)*P.cellsOf e) .top)]).length by simp) ll
    rw[g3] at this;exact this
   ·cases h
  ·cases h
 ·cases h
end
@[simp] def KC.av:KC->AV
 |.int k n=>.int k n
 |.str s=>.str s
 |.bool b=>.bool b
@[simp] def cS.av:cS->AV
 |.one c=>c.av
 |.agg cs=>.agg (cs.map KC.av)
@[simp] def Rn:AV->Option KC
 |.int k n=>some (.int k n)
 |.str s=>some (.str s)
 |.bool b=>some (.bool b)
 |_=>none
@[simp] def CW:List AV->Option (List KC)
 |[]=>some []
 |v::r=>match Rn v,CW r with
  |some c,some cs=>some (c::cs)
  |_,_=>none
@[simp] def Ih:AV->Option cS
 |.agg cs=>(CW cs).map .agg
 |v=>(Rn v).map .one
@[simp] def vI:List (cS×AV)->cS->Option AV
 |[],_=>none
 |(k',v)::r,k=>if k'=k then some v else vI r k
@[simp] def kO:List (cS×AV)->cS->AV->List (cS×AV)
 |[],k,v=>[(k,v)]
 |(k',u)::r,k,v=>if k'=k then (k,v)::r else (k',u)::kO r k v
def iZ (es:List (cS×AV))(k:cS)(z:AV)(ok:Bool):AV:=
 if ok then .df [(vI es k).getD z,.bool (vI es k).isSome] else (vI es k).getD z
def Vl (P:Program)(k:TypeId):Bool:=
 match P.underlying k with
 |some .bool|some (.int _)|some .string=>true
 |some (.array _ _)|some (.struct _)=>P.keyTypeAt 3 k&&P.tiled 3 k
 |_=>false
def vK (P:Program)(t:TypeId):Option (TypeId×TypeId):=
 match P.underlying t with
 |some (.map k e)=>if Vl P k then some (k,e) else none
 |_=>none
def mE (P:Program)(kt:TypeId)(k:cS):Bool:=(keyOf P kt k.val).isSome
def dn (P:Program)(kt:TypeId)(es:List (cS×AV)):Bool:=es.all λe=>mE P kt e.1
def pF (P:Program)(t:TypeId):Option AV:=(P.info? t).bind λi=>i.zero.map QO
theorem pY {P:Program}{kt:TypeId}{es:List (cS×AV)}{k:cS}{v:AV}(h:dn P kt es=true)(hk:mE P kt k=true):dn P kt (kO es k v)=true:=by
 induction es with
 |nil=>simp[dn,hk]
 |cons x r ih=>
  obtain⟨k',u⟩:=x;simp only[dn,all_cons,agO] at h ih ⊢;simp only[kO]
  split
  ·simp only[all_cons,agO];exact⟨hk,h.2⟩
  ·simp only[all_cons,agO];exact⟨h.1,ih h.2⟩
theorem qs {es:List (cS×AV)}{k:cS}(h:∀e∈es,e.1≠k):vI es k=none:=by
 induction es with
 |nil=>rfl
 |cons x r ih=>simp only[vI,agL (h x (by simp))];exact ih λe he=>h e (by simp[he])
theorem nT {es:List (cS×AV)}{k:cS}{v:AV}(h:∀e∈es,e.1≠k):kO es k v=es++[(k,v)]:=by
 induction es with
 |nil=>rfl
 |cons x r ih=>
  simp only[kO,agL (h x (by simp)),aiQ];rw[ih λe he=>h e (by simp[he])]
theorem v8 {es:List (cS×AV)}{k:cS}(hn:(es.map (·.1)).Nodup):∀{j:Nat} (hj:j<es.length),(es[j]).1=k->vI es k=some (es[j]).2:=by
 induction es with
 |nil=>intro j hj;simp at hj
 |cons x r ih=>
  intro j hj he;simp only[ahi,aiU] at hn
  cases j with
  |zero=>simp only[ahC] at he ⊢;simp[vI,he]
  |succ j=>
   simp only[aiE] at he ⊢;have:x.1≠k:=λe=>hn.1 (by rw[e,<-he];exact agG.2 ⟨_,ahb _,rfl⟩);simp only[vI,agL this];exact ih hn.2 _ he
theorem Bu {es:List (cS×AV)}{k:cS}{v:AV}(hn:(es.map (·.1)).Nodup):∀{j:Nat} (hj:j<es.length),(es[j]).1=k->kO es k v=es.set j (k,v):=by
 induction es with
 |nil=>intro j hj;simp at hj
 |cons x r ih=>
  intro j hj he;simp only[ahi,aiU] at hn
  cases j with
  |zero=>simp only[ahC] at he;simp[kO,he]
  |succ j=>
   simp only[aiE] at he;have:x.1≠k:=λe=>hn.1 (by rw[e,<-he];exact agG.2 ⟨_,ahb _,rfl⟩);simp only[kO,agL this,List.set_cons_succ];rw[ih hn.2 _ he]
def KC.val_inj {a b:KC}(h:a.val=b.val):a=b:=by
 cases a<;>cases b<;>simp[KC.val] at h<;>simp_all
theorem IS:∀{a b:List KC},a.map KC.val=b.map KC.val->a=b
 |[],[],_=>rfl
 |[],_::_,h=>by simp at h
 |_::_,[],h=>by simp at h
 |x::r,y::s,h=>by
  simp only[ahi,List.cons.injEq] at h;rw[KC.val_inj h.1,IS h.2]
theorem cS.val_inj {a b:cS}(h:a.val=b.val):a=b:=by
 cases a with
 |one a=>cases b with
  |one b=>rw[KC.val_inj (a:=a) (b:=b) (by simpa[cS.val] using h)]
  |agg b=>cases a<;>simp[cS.val,KC.val] at h
 |agg a=>cases b with
  |one b=>cases b<;>simp[cS.val,KC.val] at h
  |agg b=>simp only[cS.val,Value.agg.injEq] at h;rw[IS (a:=a) (b:=b) (by simpa using congrArg Array.toList h)]
section
variable {P : Program} {L : Lay} {H : List aA} {T : au} {w : World}
theorem KC.rep {N:Nat}(k:KC):ba L N T w k.av k.val:=by
 cases k with
 |int k n=>exact .int _ _
 |str s=>exact .str _
 |bool b=>exact .bool _
theorem cS.rep {N:Nat}(k:cS):ba L N T w k.av k.val:=by
 cases k with
 |one c=>exact c.rep
 |agg cs=>
  refine .agg _ _ (by simp) (λj hj=>?_) (λj hj bQ=>?_)
  ·simp only[ajk,ahv];generalize cs[j]'_=c
   cases c<;>rfl
  ·simp only[ajk,ahv];exact KC.rep _
def DZ {N:Nat}{v:AV}{c:Value}{k:KC}(h:Rn v=some k)(hr:ba L N T w v c):c=k.val:=by
 cases v<;>simp only[Rn,reduceCtorEq,Option.some.injEq] at h<;>subst h
 ·rw[hr.jx];rfl
 ·rw[hr.dT];rfl
 ·rw[hr.iN];rfl
theorem Aj {N:Nat}:∀{vs:List AV} {cs:List Value} {ks:List KC},CW vs=some ks->cs.length=vs.length->(∀(j:Nat)(h:j<vs.length)(h':j<cs.length),ba L N T w (vs[j]'h) (cs[j]'h'))->cs=ks.map KC.val
 |[],cs,ks,h,hl,_=>by
  have:cs=[]:=ahe (by simpa using hl);simp only[CW,Option.some.injEq] at h;subst h;rw[this];rfl
 |v::vs,c::cs,ks,h,hl,hr=>by
  simp only[CW] at h
  split at h
  ·rename_i k ks' h1 h2
   cases h
   have h0:=hr 0 (by simp) (by simp);simp only[ahC] at h0;have:=Aj (cs:=cs) h2 (by simpa using hl) (λj hj bQ=>by have:=hr (j+1) (by simpa using hj) (by simpa using bQ);simpa using this);rw[this,DZ h1 h0];rfl
  ·cases h
theorem Ai {N:Nat}{v:AV}{c:Value}{k:cS}(h:Ih v=some k)(hr:ba L N T w v c):c=k.val:=by
 unfold Ih at h
 split at h
 ·rename_i cs;obtain⟨ks,h1,rfl⟩:=air.1 h
  cases hr with
  |agg _ cv h2 h3 h4=>
   have:=Aj (cs:=cv.toList) h1 (by simpa using h2) (λj hj bQ=>by simpa using h4 j hj (by simpa using bQ));show Value.agg cv=.agg (ks.map KC.val).toArray;rw[<-this]
 ·obtain⟨c',h1,rfl⟩:=air.1 h;exact DZ h1 hr
def Hs {k:TypeId}(h:Vl P k=true):Maps.Keyed P k:=by
 unfold Vl at h
 split at h
 ·rename_i hu;exact Maps.bool_keyed hu
 ·rename_i hu;exact Maps.int_keyed hu
 ·rename_i hu;exact Maps.string_keyed hu
 ·rename_i hu;simp only[agO] at h;exact Maps.Keyed.of_law (deep_law (m:=3) (by omega) h.1 h.2 (by simp[hu]))
 ·rename_i hu;simp only[agO] at h;exact Maps.Keyed.of_law (deep_law (m:=3) (by omega) h.1 h.2 (by simp[hu]))
 ·cases h
def xx {t kt el:TypeId}(h:vK P t=some (kt,el)):P.underlying t=some (.map kt el)/\Maps.Keyed P kt:=by
 unfold vK at h
 split at h
 ·rename_i k e hu
  split at h
  ·rename_i hk
   cases h
   exact⟨hu,Hs hk⟩
  ·cases h
 ·cases h
def HV {t:TypeId}{z:AV}{N:Nat}(h:pF P t=some z):∃c,(zeroValue t).run P w=.ok c w/\ba L N T w z c:=by
 unfold pF at h;obtain⟨i,hi,h2⟩:=Option.bind_eq_some_iff.1 h;obtain⟨c,hc,rfl⟩:=air.1 h2;exact⟨c,j8 hi hc w,.QO c⟩
def ba.xu {N:Nat}{i:Nat}{c:Value}(h:ba L N T w (.aQ i) c):c=.map (some (L.bS i))/\i<N:=by cases h;exact⟨rfl,‹_›⟩
def cg.NR {w':World}(h:cg L H T w){i:Nat}{b b':aA}(hi:H[i]?=some b)(hm:L.m (L.bS i)=0)(dN:∀x,x≠L.bS i->w'.heap[x]?=w.heap[x]?)(hz:w'.heap.size=w.heap.size)
  (ho:w'.os=w.os) (XH:w'.tape=w.tape) (A5:w'.output=w.output) (qc:w.drawn<=w'.drawn) (yF:cX L H.length T w L H.length T w'->mG L H.length T w' i b') :
  cg L (H.set i b') T w'/\Ev H.length T.length L H.length T w L (H.set i b').length T w':=by
 have eH:=(agC.1 hi).1;have so:∀b o',o'<L.m b->w'.cell? ⟨b,o',none⟩=w.cell? ⟨b,o',none⟩:=by
  intro b o' aZ;refine je (dN _ ?_) o';rintro rfl;omega
 have kp:cX L H.length T w L H.length T w':=
  ⟨agE _,λ_ _=>rfl,λt u z h=>⟨u,h,agE _,λ_=>rfl⟩,λ_=>agE _,so,rfl⟩
 refine⟨⟨λj b hb=>?_,λa b ha hb=>h.inj a b (by simpa using ha) (by simpa using hb),λt u z ht=>?_,h.pg,λt u z j ht hs hj=>h.kq t u z j ht hs (by simpa using hj),λb hb=>h.mz b (by omega),h.gl.keep kp.m kp.tF⟩,
  by simp,λ_ _=>rfl,λt u z _ h=>⟨u,h,agE _,λ_=>rfl⟩,agE _,λ_=>agE _,so,by omega,λb hb hn=>?_,λb hb=>.inl (by simpa using hb),ho,XH,A5,λ_=>qc,rfl⟩
 ·rw[ahY]
  by_cases rp:i=j
  ·subst rp;rw[ag4 eH] at hb
   cases hb
   exact yF kp
  ·rw[ahs rp] at hb;have qJ:=(agC.1 hb).1;exact(h.box j b hb).stay kp qJ (dN _ λe=>rp (h.inj j i qJ eH e).symm) id
 ·obtain⟨k1,k2⟩:=h.tok t u z ht;refine⟨k1,λhs=>?_⟩;rw[dN _ (h.kq t u z i ht hs eH)];exact k2 hs
 ·exact dN _ (λe=>hn (.inl ⟨i,eH,e.symm⟩))
def cg.NZ (h:cg L H T w)(o:Obj)(b:aA)(hb:∀L',cX L H.length T w L' (H.length+1) T (w.alloc o)->L'.bS H.length=w.heap.size->L'.m w.heap.size=0->mG L' (H.length+1) T (w.alloc o) H.length b) :
  ∃L',cg L' (H++[b]) T (w.alloc o)/\Ev H.length T.length L H.length T w L' (H++[b]).length T (w.alloc o)/\L'.bS H.length=w.heap.size:=by
 have h1:=h.alloc o 0;have e1:=Ev.alloc h o 0;have H9:¬Wr (L.bW w.heap.size 0) H.length T w.heap.size:=h.wV (agE _);have e2:=Ev.rO (b:=w.heap.size) b e1 (agE _);have qQ:((L.bW w.heap.size 0).dz H.length w.heap.size).bS H.length=w.heap.size:=by simp[Lay.dz]
 have kp:=e2.keeps;have hl:(H++[b]).length=H.length+1:=by simp
 rw[hl] at kp;exact⟨(L.bW w.heap.size 0).dz H.length w.heap.size,h1.rO w.heap.size H9 b (λhle=>by simp at hle;omega) (hb _ kp qQ (by simp[Lay.dz,Lay.bW])),e2,qQ⟩
def run_makeMap (hc:cg L H T w)(t:TypeId):∃cv w' L',(Instr.makeMap t none).run P w=.ok cv w'/\cg L' (H++[.map []]) T w'/\ba L' (H++[aA.map []]).length T w' (.aQ H.length) cv/\Ev H.length T.length L H.length T w L' (H++[aA.map []]).length T w':=by
 obtain⟨L',h1,h2,h3⟩:=hc.NZ (.map #[] 0) (.map []) (λL' kp hp hm=>⟨#[],by rw[hp];exact fI w _,rfl,λj hj=>by simp at hj,by simp,by rw[hp];exact hm⟩);refine⟨.map (some w.heap.size),_,L',rfl,h1,?_,h2⟩;rw[<-h3];exact .aQ _ (by simp)
def Dw (kt:TypeId)(K:Maps.Keyed P kt){N:Nat}{es:List (cS×AV)}{dR:Array MapEntry}{k:cS}(gu:dR.size=es.length)
  (hr:∀(j:Nat)(h:j<es.length)(h':j<dR.size),(dR[j]'h').key=(es[j]'h).1.val/\(dR[j]'h').born=j/\ba L N T w (es[j]'h).2 (dR[j]'h').val) (hk:mE P kt k=true) (FV:dn P kt es=true) :
  ((Instr.findKey kt k.val dR.toList).run P w=.ok none w/\∀e∈es,e.1≠k)\/∃(j:Nat) (h:j<es.length) (h':j<dR.size),(Instr.findKey kt k.val dR.toList).run P w=.ok (some (j,(dR[j]'h').val)) w/\(es[j]'h).1=k:=by
 obtain⟨l,hl⟩:=ahg.1 hk;have fh:∀e∈dR.toList,∃l,keyOf P kt e.key=some l:=by
  intro e he;obtain⟨j,hj,rfl⟩:=agW.1 he;have bQ:j<dR.size:=by simpa using hj
  have yy:j<es.length:=by omega
  have:=(hr j yy bQ).1;rw[ahA,this];have h2:=aha.1 FV _ (ahb yy);exact ahg.1 h2
 rcases K.find w hl dR.toList fh with⟨h1,h2⟩|⟨j,e,h1,h2,h3⟩
 ·refine .inl ⟨h1,λe he zj=>?_⟩;obtain⟨j,hj,rfl⟩:=agW.1 he;have bQ:j<dR.size:=by omega
  refine h2 dR[j] (by simp) ?_;rw[(hr j hj bQ).1,zj]
 ·obtain⟨hj,rfl⟩:=agC.1 h2;have bQ:j<dR.size:=by simpa using hj
  have yy:j<es.length:=by omega
  rw[ahA] at h1 h3;exact .inr ⟨j,yy,bQ,h1,cS.val_inj (by rw[<-(hr j yy bQ).1];exact h3)⟩
theorem G7 (hc:cg L H T w){t kt el:TypeId}{m:Nat}{es:List (cS×AV)}{k:cS}{z:AV}(ok:Bool)(hT:vK P t=some (kt,el))(hi:H[m]?=some (.map es))(hz:pF P el=some z)
  (hk:mE P kt k=true) (FV:dn P kt es=true):∃cv,(Instr.lookup t (.map (some (L.bS m))) k.val ok).run P w=.ok cv w/\ba L H.length T w (iZ es k z ok) cv:=by
 obtain⟨hu,K⟩:=xx hT;obtain⟨dR,g1,g2,g3,g4,_⟩:=hc.box m _ hi;obtain⟨l,hl⟩:=ahg.1 hk;have fin:∀(v:AV)(c:Value)(b:Bool),ba L H.length T w v c->ba L H.length T w (if ok then .df [v,.bool b] else v) (if ok then .tuple #[c,.bool b] else c):=by
  intro v c b hv
  cases ok
  ·exact hv
  ·refine .df _ _ rfl (λj hj bQ=>?_)
   match j,hj with
   |0,_=>exact hv
   |1,_=>exact .bool _
 rcases Dw kt K g2 g3 hk FV with⟨h1,h2⟩|⟨j,hj,bQ,h1,h2⟩
 ·obtain⟨c,c1,c2⟩:=HV (P:=P) (L:=L) (N:=H.length) (T:=T) (w:=w) hz;refine⟨if ok then .tuple #[c,.bool false] else c,?_,?_⟩
  ·simp only[Instr.lookup,Sem.run_bind,run_underlying hu,Result.andThen_ok,MapKept.run_getObj_map g1,K.check w _ hl,h1,c1,Sem.run_pure]
  ·have:=fin z c false c2;simpa only[iZ,qs h2,Option.getD_none,Option.isSome_none] using this
 ·refine⟨if ok then .tuple #[dR[j].val,.bool true] else dR[j].val,?_,?_⟩
  ·simp only[Instr.lookup,Sem.run_bind,run_underlying hu,Result.andThen_ok,MapKept.run_getObj_map g1,K.check w _ hl,h1,Sem.run_pure]
  ·have:=fin _ _ true (g3 j hj bQ).2.2;simpa only[iZ,v8 g4 hj h2,aie,Option.isSome_some] using this
def yR (hc:cg L H T w){t kt el:TypeId}{m:Nat}{es:List (cS×AV)}{k:cS}{v:AV}{c:Value}(hT:vK P t=some (kt,el))(hi:H[m]?=some (.map es))(hv:ba L H.length T w v c)
  (hk:mE P kt k=true) (FV:dn P kt es=true):∃w',(Instr.mapUpdate t (.map (some (L.bS m))) k.val c).run P w=.ok () w'/\cg L (H.set m (.map (kO es k v))) T w'/\Ev H.length T.length L H.length T w L (H.set m (.map (kO es k v))).length T w':=by
 obtain⟨hu,K⟩:=xx hT;obtain⟨dR,g1,g2,g3,g4,g5⟩:=hc.box m _ hi;obtain⟨l,hl⟩:=ahg.1 hk;have kC:=(agC.1 hi).1;have aZ:=hc.lX kC;have put:∀(o:Obj),(cX L H.length T w L H.length T { w with heap:=w.heap.setIfInBounds (L.bS m) o }->mG L H.length T { w with heap:=w.heap.setIfInBounds (L.bS m) o } m (.map (kO es k v)))->
   cg L (H.set m (.map (kO es k v))) T { w with heap:=w.heap.setIfInBounds (L.bS m) o }/\Ev H.length T.length L H.length T w L (H.set m (.map (kO es k v))).length T { w with heap:=w.heap.setIfInBounds (L.bS m) o }:=λo hb=>
  hc.NR hi g5 (λx hx=>aiD (λe=>hx e.symm)) (by simp) rfl rfl rfl (agE _) hb
 have new:∀o:Obj,(w.heap.setIfInBounds (L.bS m) o)[L.bS m]?=some o:=λo=>by simp[aZ]
 rcases Dw kt K g2 g3 hk FV with⟨h1,h2⟩|⟨j,hj,bQ,h1,h2⟩
 ·refine⟨_,?_,put (.map (dR.push { key:=k.val,val:=c,born:=es.length }) (es.length+1)) λkp=>?_⟩
  ·simp only[Instr.mapUpdate,Sem.run_bind,run_underlying hu,Result.andThen_ok,MapKept.run_getObj_map g1,K.check w _ hl,h1,MapKept.run_setObj_map _ g1]
  ·have e:=nT (v:=v) h2;refine⟨dR.push { key:=k.val,val:=c,born:=es.length },by rw[new,e];simp,by rw[e];simp[g2],λj hj bQ=>?_,?_,g5⟩
   ·rcases agM j es.length with qJ|qJ
    ·have Qx:j<dR.size:=by omega
     have:=g3 j qJ Qx;simp only[e,ahS qJ,Array.getElem_push_lt Qx];exact⟨this.1,this.2.1,this.2.2.keep kp⟩
    ·have:j=es.length:=by simp[e] at hj;omega
     subst this;have e2:(dR.push { key:=k.val,val:=c,born:=es.length })[es.length]'bQ={ key:=k.val,val:=c,born:=es.length }:=by simp[<-g2]
     simp only[e,e2,aiI (agE _),ah1,ahC];exact⟨trivial,trivial,hv.keep kp⟩
   ·rw[e,agS,ahn];refine⟨g4,by simp,λa ha b hb=>?_⟩;obtain⟨x,hx,rfl⟩:=agG.1 ha;simp at hb;rw[hb];exact h2 x hx
 ·have kT:=(g3 j hj bQ).1;rw[h2] at kT;have gA:(Instr.keyThatStays k.val k.val).run P w=.ok k.val w:=K.stays w hl;refine⟨_,?_,put (.map (dR.modify j λe=>{ e with key:=k.val,val:=c }) es.length) λkp=>?_⟩
  ·have e0:((dR[j]?.map (·.key)).getD k.val)=k.val:=by rw[ais bQ];exact kT
   simp only[Instr.mapUpdate,Sem.run_bind,run_underlying hu,Result.andThen_ok,MapKept.run_getObj_map g1,K.check w _ hl,h1,e0,gA,MapKept.run_setObj_map _ g1]
  ·have e:=Bu (v:=v) g4 hj h2;refine⟨dR.modify j λe=>{ e with key:=k.val,val:=c },by rw[new,e];simp,by rw[e];simp[g2],λi iP zh=>?_,?_,g5⟩
   ·have eH:i<es.length:=by simpa[e] using iP
    have Cg:i<dR.size:=by omega
    have:=g3 i eH Cg;simp only[e,Array.getElem_modify,getElem_set]
    by_cases jz:j=i
    ·subst jz;simp only[ain];exact⟨trivial,this.2.1,hv.keep kp⟩
    ·simp only[agL jz];exact⟨this.1,this.2.1,this.2.2.keep kp⟩
   ·rw[e,List.map_set];have:(es.map (·.1)).set j k=es.map (·.1):=by
     apply aiy (by simp);intro i h3 h4;rw[getElem_set]
     split
     ·rename_i jz;subst jz;simp[h2]
     ·rfl
    rw[this];exact g4
def G5 (hc:cg L H T w){t kt el:TypeId}{m:Nat}{es:List (cS×AV)}(hT:vK P t=some (kt,el))(hi:H[m]?=some (.map es)) :
  ∃cv w' L',(Instr.range t (.map (some (L.bS m)))).run P w=.ok cv w'/\cg L' (H++[.mv m es.length []]) T w'/\ba L' (H++[aA.mv m es.length []]).length T w' (.ptr H.length 0) cv/\Ev H.length T.length L H.length T w L' (H++[aA.mv m es.length []]).length T w':=by
 obtain⟨hu,K⟩:=xx hT;obtain⟨dR,g1,g2,g3,g4,g5⟩:=hc.box m _ hi;have kC:=(agC.1 hi).1;obtain⟨L',h1,h2,h3⟩:=hc.NZ (.mapIter (some (L.bS m)) es.length #[] es.length) (.mv m es.length [])
  (λL' kp hp hm=>⟨by rw[hp,kp.bS m kC];exact fI w _,kC,by rw[hp];exact hm⟩)
 refine⟨.pointer (some ⟨w.heap.size,0,none⟩),_,L',run_range_map w t kt el _ dR es.length hu g1,h1,?_,h2⟩;rw[<-h3];exact .ptr _ _ (by simp)
theorem KM (hc:cg L H T w)(ty:TypeId){i m:Nat}{es:List (cS×AV)}{seen:List Nat}(hi:H[i]?=some (.mv m es.length seen))(hm:H[m]?=some (.map es)) :
  ((∀j,j<es.length->j∈seen)/\(Instr.next (.pointer (some ⟨L.bS i,0,none⟩)) false ty).run P w=.ok (.tuple #[.bool false]) w)\/
  ∃(j:Nat) (hj:j<es.length) (cv:Value) (w':World),j∉seen/\(Instr.next (.pointer (some ⟨L.bS i,0,none⟩)) false ty).run P w=.ok cv w'/\cg L (H.set i (.mv m es.length (seen++[j]))) T w'/\
   ba L (H.set i (.mv m es.length (seen++[j]))).length T w' (.df [.bool true,(es[j]).1.av,(es[j]).2]) cv/\Ev H.length T.length L H.length T w L (H.set i (.mv m es.length (seen++[j]))).length T w':=by
 obtain⟨dR,g1,g2,g3,g4,g5⟩:=hc.box m _ hm;obtain⟨k1,k2,k3⟩:=hc.box i _ hi;have eH:=(agC.1 hi).1;have aZ:=hc.lX eH;have born:∀x∈dR.toList,x.born<es.length:=by
  intro x hx;obtain⟨j,hj,rfl⟩:=agW.1 hx;have bQ:j<dR.size:=by simpa using hj
  rw[ahA,(g3 j (by omega) bQ).2.1];omega
 rcases run_next_at (P:=P) w ty (L.bS i) (L.bS m) es.length es.length seen.toArray dR es.length k1 g1 born (agE _) with⟨h1,h2⟩|⟨e,he,w1,hw,h2⟩
 ·refine .inl ⟨λj hj=>?_,h2⟩;have bQ:j<dR.size:=by omega
  have h0:leftOf dR seen.toArray=#[]:=aiJ h1;unfold leftOf at h0;rw[Array.filter_eq_empty_iff] at h0;have:=h0 dR[j] (by simp);rw[(g3 j hj bQ).2.1] at this;simpa using this
 ·unfold leftOf at he;simp only[Array.toList_filter,ag0] at he;obtain⟨hem,FV⟩:=he;obtain⟨j,hj,rfl⟩:=agW.1 hem;have bQ:j<dR.size:=by simpa using hj
  have qJ:j<es.length:=by omega
  obtain⟨b1,b2,b3⟩:=g3 j qJ bQ;simp only[ahA] at h2 FV;rw[b2] at h2 FV;have WQ:j∉seen:=by simpa using FV
  have hh:w1.heap=w.heap:=by rcases hw with rfl|rfl<;>rfl
  have ho:w1.os=w.os/\w1.tape=w.tape/\w1.output=w.output/\w.drawn<=w1.drawn:=by rcases hw with rfl|rfl<;>exact⟨rfl,rfl,rfl,by first|exact agE _|exact ahy _⟩
  have hb:∀o:Obj,(ChangeMaps.setBlock w1 (L.bS i) o).heap=w.heap.setIfInBounds (L.bS i) o:=λo=>by simp[ChangeMaps.setBlock,hh]
  obtain⟨c1,c2⟩:=hc.NR (w':=ChangeMaps.setBlock w1 (L.bS i) (.mapIter (some (L.bS m)) es.length (seen.toArray.push j) es.length)) (b':=.mv m es.length (seen++[j])) hi k3
   (λx hx=>by rw[hb];exact aiD (λe=>hx e.symm)) (by rw[hb];simp) ho.1 ho.2.1 ho.2.2.1 ho.2.2.2 (λkp=>⟨by rw[hb];simp[aZ],k2,k3⟩)
  refine .inr ⟨j,qJ,_,_,WQ,h2,c1,?_,c2⟩;refine .df _ _ rfl (λj' WY yy=>?_)
  match j',WY with
  |0,_=>exact .bool _
  |1,_=>simp only[ajk,aiE,ahC,b1];exact cS.rep _
  |2,_=>
   have:=b3.keep (by simpa using c2.keeps);simpa using this
theorem G6 (hc:cg L H T w){i m j:Nat}{es:List (cS×AV)}{seen:List Nat}(hi:H[i]?=some (.mv m es.length (seen++[j])))(hm:H[m]?=some (.map es))(hj:j<es.length) :
  ∃cv,(Instr.entry (.pointer (some ⟨L.bS i,0,none⟩))).run P w=.ok cv w/\ba L H.length T w (.df [(es[j]).1.av,(es[j]).2]) cv:=by
 obtain⟨dR,g1,g2,g3,g4,g5⟩:=hc.box m _ hm;obtain⟨k1,k2,k3⟩:=hc.box i _ hi;have bQ:j<dR.size:=by omega
 obtain⟨b1,b2,b3⟩:=g3 j hj bQ;have hn:(dR.toList.map (·.born)).Nodup:=by
  have:dR.toList.map (·.born)=List.range dR.size:=by
   apply aiy (by simp);intro x h1 h2;simp only[ahv,ahA,ai9];exact(g3 x (by simp at h1;omega) (by simpa using h1)).2.1
  rw[this];exact List.nodup_range
 refine⟨_,run_entry_at (P:=P) w (L.bS i) (L.bS m) es.length seen.toArray dR es.length dR[j] (by rw[b2,k1];simp) g1 (by simp) hn,?_⟩;refine .df _ _ rfl (λj' WY yy=>?_)
 match j',WY with
 |0,_=>simp only[ajk,ahC,b1];exact cS.rep _
 |1,_=>exact b3
end
end Go.Am
