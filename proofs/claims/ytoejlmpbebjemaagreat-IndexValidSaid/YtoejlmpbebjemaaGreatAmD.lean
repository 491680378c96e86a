/- Blocks behind the heap, a box whose cells are written anew, and what a call that makes nothing leaves: for contracts that speak of worlds. Sorting a box that holds structs, by the library's contract. Sorting a box whose rows hold cells that the test does not look at, by the library's contract; the keys are different.
  Conditions: as the theorems say. -/
import Derived.Sort.Grow
import Derived.Deep.Draws
import Derived.Test.YtoejlmpbebjemaaGreatAmC
import Derived.Shelf.SlSortCmp.NoneTotal
set_option linter.all false
namespace Go.Am
open Go Go.Sort
section
variable {P : Program} {f : FuncId} {args : List AV} {H : List Blk} {T : Toks}
theorem grow_push (w:World)(l:List Obj)(o:Obj):Sort.grow w (o::l).toArray=Sort.grow (w.alloc o) l.toArray:=by
 unfold Sort.grow World.alloc
 congr 1
 apply Array.ext';simp
theorem Con.grown:∀(l:List Obj) {L:Lay} {w:World},Con L H T w→∃L',Con L' H T (Sort.grow w l.toArray)∧Ev H.length T.length L H.length T w L' H.length T (Sort.grow w l.toArray)
 |[],L,w,h=>by
  have e:Sort.grow w ([]:List Obj).toArray=w:=Sort.grow_empty w;rw[e];exact⟨L,h,Ev.refl (Nat.le_refl _) (Nat.le_refl _)⟩
 |o::l,L,w,h=>by
  obtain⟨L',h1,h2⟩:=Con.grown l (h.alloc o 0);rw[grow_push];exact⟨L',h1,(Ev.alloc h o 0).trans h2⟩
theorem Con.turn {L:Lay}{w w':World}(h:Con L H T w){i:Nat}{vs vs':List AV}{c c':Array Value}{t:TypeId}{fr:Nat×Nat}(hi:H[i]?=some (.cells vs))(hb:w.heap[L.phi i]?=some (.cells c t fr))
  (hb':w'.heap[L.phi i]?=some (.cells c' t fr)) (hc:c'.size=c.size) (hl:vs'.length=vs.length) (h1:∀(j:Nat)(h':j<c'.size),(c'[j]'h').oneCell'=true)
  (hr:∀(j:Nat)(h:j<vs'.length)(h':j<c'.size),Rep L H.length T w (vs'[j]'h) (c'[j]'h'))
  (hne:∀x,x≠L.phi i→w'.heap[x]?=w.heap[x]?) (hz:w'.heap.size=w.heap.size) (ho:w'.os=w.os) (hta:w'.tape=w.tape) (hout:w'.output=w.output) (hdr:w.drawn≤w'.drawn) :
  Con L (H.set i (.cells vs')) T w'∧Ev H.length T.length L H.length T w L (H.set i (.cells vs')).length T w':=by
 have hil:=(List.getElem?_eq_some_iff.1 hi).1;obtain⟨c0,t0,fr0,g1,g2,g3,g3',g4,g5⟩:=h.box i _ hi;rw[hb] at g1
 cases g1
 have hcom:∀b o',o'<L.m b→w'.cell? ⟨b,o',none⟩=w.cell? ⟨b,o',none⟩:=by
  intro b o' hlt;refine cell_heap (hne _ ?_) o';rintro rfl;omega
 have kp:Keeps L H.length T w L H.length T w':=
  ⟨Nat.le_refl _,fun _ _=>rfl,fun t u z h=>⟨u,h,Nat.le_refl _,fun _=>rfl⟩,fun _=>Nat.le_refl _,hcom,rfl⟩
 refine⟨⟨fun j b hb=>?_,fun a b ha hb=>h.inj a b (by simpa using ha) (by simpa using hb),fun t u z ht=>?_,h.tinj,fun t u z j ht hs hj=>h.tbox t u z j ht hs (by simpa using hj),fun b hb=>h.mz b (by omega),h.gl.keep kp.m kp.com⟩,
  by simp,fun _ _=>rfl,fun t u z _ h=>⟨u,h,Nat.le_refl _,fun _=>rfl⟩,Nat.le_refl _,fun _=>Nat.le_refl _,hcom,by omega,fun b hb hn=>?_,fun b hb=>.inl (by simpa using hb),ho,hta,hout,fun _=>hdr,rfl⟩
 ·rw[List.length_set]
  by_cases hji:i=j
  ·subst hji;rw[List.getElem?_set_self hil] at hb
   cases hb
   exact⟨c',t,fr,hb',fun o ho=>g2 o (by omega),by omega,h1,fun j hj hj'=>(hr j hj hj').keep kp,g5⟩
  ·rw[List.getElem?_set_ne hji] at hb;have hx:=h.box j b hb;have hjl:=(List.getElem?_eq_some_iff.1 hb).1;have hnp:L.phi j≠L.phi i:=fun e=>hji (h.inj j i hjl hil e).symm;exact hx.stay kp hjl (hne _ hnp) id
 ·obtain⟨k1,k2⟩:=h.tok t u z ht;refine⟨k1,fun hs=>?_⟩;rw[hne _ (h.tbox t u z i ht hs hil)];exact k2 hs
 ·exact hne _ (fun e=>hn (.inl ⟨i,hil,e.symm⟩))
theorem ACall.grown {r:AV}{w:World}{ca:Array Value}(h:ACall P f args [] [] (Is r [] []))(hg:gints=[])(hs:ca.size=args.length)
  (hr:∀(j:Nat)(h:j<args.length)(h':j<ca.size),Rep (lay0 w) 0 [] w (args[j]'h) (ca[j]'h')) :
  Calls P f ca w fun e w'=>(∃cv L',e=.returned cv∧Rep L' 0 [] w' r cv)∧∃q os',w'=Sort.grow (w.drewN q) os':=by
 refine(h.2 (lay0 w) w ca (con0 w (by rw[hg];intro x hx;cases hx)) hs hr).mono ?_;rintro e w' ⟨r',H',T',L',cv,⟨rfl,rfl,rfl⟩,rfl,_,hrep,hev⟩;refine⟨⟨cv,L',rfl,hrep⟩,w'.drawn-w.drawn,w'.heap.extract w.heap.size w'.heap.size,?_⟩;have hd:=hev.drawn rfl;have hsz:=hev.size;have hh:w'.heap=w.heap++w'.heap.extract w.heap.size w'.heap.size:=by
  apply Array.ext_getElem?;intro k
  by_cases hk:k<w.heap.size
  ·rw[Array.getElem?_append_left hk];exact hev.frame k hk (fun hw=>by
    rcases hw with⟨i,hi,_⟩|⟨t,u,z,ht,_⟩
    ·exact Nat.not_lt_zero _ hi
    ·simp at ht)
  ·rw[Array.getElem?_append_right (by omega)];rw[Array.getElem?_extract]
   by_cases hk2:k<w'.heap.size
   ·rw[if_pos (by omega)]
    congr 1
    omega
   ·rw[Array.getElem?_eq_none (by omega),if_neg (by omega)]
 unfold Sort.grow World.drewN;have e1:=hev.os;have e2:=hev.tape;have e3:=hev.output
 cases w' with
 |mk heap tape drawn os output=>
  simp only at *;subst e1;subst e2;subst e3;simp only[World.mk.injEq];refine⟨hh,trivial,by omega,trivial,trivial⟩
end
open Go.Proofs Go.Shelf Go.RowKit
structure Enc {α:Type}(enc:α→List Value)(encA:α→List AV)(k:Nat):Prop where
 pos:0<k
 len:∀x,(enc x).length=k
 lenA:∀x,(encA x).length=k
 one:∀x,∀v∈enc x,v.oneCell'=true
 rep:∀x (j:Nat),j<k→∀L N T w v,Rep L N T w ((encA x).getD j .top) v↔v=(enc x)[j]!
theorem flatE_len {α:Type}{enc:α→List Value}{encA:α→List AV}{k:Nat}(he:Enc enc encA k)(l:List α):(l.flatMap encA).length=l.length*k:=by
 induction l with
 |nil=>simp
 |cons x r ih=>rw[List.flatMap_cons,List.length_append,ih,he.lenA,List.length_cons,Nat.add_mul,Nat.one_mul];omega
section
variable {α : Type} [Inhabited α] {enc : α → List Value} {encA : α → List AV} {k : Nat}
theorem flatE_at (he:Enc enc encA k):∀(l:List α)(t:Nat),t<l.length*k→(l.flatMap encA).getD t .top=(encA (l[t / k]!)).getD (t % k) .top
 |[],t,h=>by simp at h
 |x::r,t,h=>by
  rw[List.flatMap_cons]
  by_cases hlt:t<k
  ·rw[Nat.div_eq_of_lt hlt,Nat.mod_eq_of_lt hlt];simp only[List.getD_eq_getElem?_getD];rw[List.getElem?_append_left (by rw[he.lenA];exact hlt)];simp
  ·rw[List.length_cons,Nat.add_mul,Nat.one_mul] at h;have ih:=flatE_at he r (t-k) (by omega);rw[Nat.div_eq_sub_div he.pos (by omega),Nat.mod_eq_sub_mod (by omega)];simp only[List.getD_eq_getElem?_getD] at ih ⊢;rw[List.getElem?_append_right (by rw[he.lenA];omega),he.lenA,ih];simp
variable {P : Program} {L : Lay} {H : List Blk} {T : Toks} {w : World}
theorem Con.cellsAt {i:Nat}{l:List α}{rest:List AV}(he:Enc enc encA k)(h:Con L H T w)(hi:H[i]?=some (.cells (l.flatMap encA++rest))) :
  ∃c t fr,w.heap[L.phi i]?=some (.cells c t fr)∧(∀o,o<c.size→(fr.1≤o&&o<fr.2)=false)∧c.size=l.length*k+rest.length∧(∀(j:Nat)(h':j<c.size),(c[j]'h').oneCell'=true)∧
   (∀(j:Nat)(h':j<c.size),j<l.length*k→c[j]'h'=(enc (l[j / k]!))[j % k]!)∧
   (∀(j:Nat)(h':j<rest.length)(h'':l.length*k+j<c.size),Rep L H.length T w (rest[j]'h') (c[l.length*k+j]'h'')):=by
 obtain⟨c,t,fr,g1,g2,g3,g3',g4,g5⟩:=h.box i _ hi;have hf:=flatE_len he l;rw[List.length_append,hf] at g3;refine⟨c,t,fr,g1,g2,g3,g3',fun j hjc hj=>?_,fun j hj hjc=>?_⟩
 ·have hjl:j<(l.flatMap encA++rest).length:=by rw[List.length_append];omega
  have r:=g4 j hjl hjc;have e:(l.flatMap encA++rest)[j]'hjl=(encA (l[j / k]!)).getD (j % k) .top:=by
   have hj':j<(l.flatMap encA).length:=by omega
   rw[←flatE_at he l j hj,List.getElem_append_left hj',List.getD_eq_getElem?_getD,List.getElem?_eq_getElem hj'];rfl
  rw[e,he.rep _ _ (Nat.mod_lt _ he.pos)] at r;exact r
 ·have hjl:l.length*k+j<(l.flatMap encA++rest).length:=by rw[List.length_append];omega
  have r:=g4 _ hjl hjc;rw[List.getElem_append_right (by omega)] at r;have e:l.length*k+j-(l.flatMap encA).length=j:=by omega
  simp only[e] at r;exact r
theorem Con.holdsK {i:Nat}{l:List α}{rest:List AV}(he:Enc enc encA k)(h:Con L H T w)(hi:H[i]?=some (.cells (l.flatMap encA++rest))):HoldsK enc k w (L.phi i) 0 l.toArray:=by
 obtain⟨c,t,fr,g1,g2,g3,_,g4,_⟩:=h.cellsAt he hi;intro j hj;rw[size_flatK] at hj;have hj:j<l.length*k:=by simpa using hj
 have hjc:j<c.size:=by omega
 rw[Nat.zero_add];refine⟨?_,?_⟩
 ·rw[cell_row g1,Array.getElem?_eq_getElem hjc,g4 j hjc hj,get_flatK _ _ _ _ (by simpa using hj)];simp
 ·obtain⟨lo,hi'⟩:=fr;unfold World.frozen?;simp only[g1];exact g2 j hjc
theorem Con.sorted {i n:Nat}{l l':List α}{rest:List AV}{os:Array Obj}(he:Enc enc encA k)(h:Con L H T w)(hi:H[i]?=some (.cells (l.flatMap encA++rest)))(hl:l'.length=l.length) :
  ∃L',Con L' (H.set i (.cells (l'.flatMap encA++rest))) T (sortWorldK enc k w (L.phi i) 0 n l'.toArray os)∧
   Ev H.length T.length L H.length T w L' (H.set i (.cells (l'.flatMap encA++rest))).length T (sortWorldK enc k w (L.phi i) 0 n l'.toArray os)∧∀j,j<H.length→L'.phi j=L.phi j:=by
 have h1:Con L H T (Sort.ahead w n):=h.drew rfl;have ev1:Ev H.length T.length L H.length T w L H.length T (Sort.ahead w n):=Ev.drew rfl rfl rfl rfl (Nat.le_add_right _ _);obtain⟨c,t,fr,g1,g2,g3,g3',g4,g5⟩:=h1.cellsAt he hi;have hsz:(putCells id 0 (flatK enc k l'.toArray) c).size=c.size:=by simp[putCells]
 have hfl:=flatE_len he l';have hat:∀(j:Nat) (h':j<(putCells id 0 (flatK enc k l'.toArray) c).size),(j<l.length*k→(putCells id 0 (flatK enc k l'.toArray) c)[j]'h'=(enc (l'[j / k]!))[j % k]!)∧
   (l.length*k≤j→(putCells id 0 (flatK enc k l'.toArray) c)[j]'h'=c[j]'(by rw[hsz] at h';exact h')):=by
  intro j h';refine⟨fun hj=>?_,fun hj=>?_⟩
  ·simp only[putCells,Array.getElem_mapIdx];rw[if_pos ⟨Nat.zero_le _,by rw[size_flatK];simp[hl];exact hj⟩,Nat.sub_zero,get_flatK _ _ _ _ (by simpa[hl] using hj)];simp
  ·simp only[putCells,Array.getElem_mapIdx];rw[if_neg (by rw[size_flatK];simp[hl];omega)]
 have hone:∀(j:Nat) (h':j<(putCells id 0 (flatK enc k l'.toArray) c).size),((putCells id 0 (flatK enc k l'.toArray) c)[j]'h').oneCell'=true:=by
  intro j h';rcases Nat.lt_or_ge j (l.length*k) with hj|hj
  ·rw[(hat j h').1 hj];have hm:j % k<(enc (l'[j / k]!)).length:=by rw[he.len];exact Nat.mod_lt _ he.pos
   rw[getElem!_pos (enc (l'[j / k]!)) (j % k) hm];exact he.one _ _ (List.getElem_mem hm)
  ·rw[(hat j h').2 hj];exact g3' _ _
 have hturn:=h1.turn (w':=putRowK enc k (Sort.ahead w n) (L.phi i) 0 l'.toArray) (vs':=l'.flatMap encA++rest) (c':=putCells id 0 (flatK enc k l'.toArray) c) (t:=t) (fr:=fr) hi g1
  (by simp only[putRowK,putRow,mapBlock,Array.getElem?_modify,if_true];rw[g1];rfl) hsz (by rw[List.length_append,List.length_append,hfl,flatE_len he,hl]) hone
  (fun j hj hj'=>by
   rcases Nat.lt_or_ge j (l.length*k) with hlt|hge
   ·have hj2:j<(l'.flatMap encA).length:=by rw[hfl,hl];exact hlt
    have e:(l'.flatMap encA++rest)[j]'hj=(encA (l'[j / k]!)).getD (j % k) .top:=by
     rw[←flatE_at he l' j (by rw[hl];exact hlt),List.getElem_append_left hj2,List.getD_eq_getElem?_getD,List.getElem?_eq_getElem hj2];rfl
    rw[e,he.rep _ _ (Nat.mod_lt _ he.pos)];exact(hat j hj').1 hlt
   ·rw[(hat j hj').2 hge];have hjc:j<c.size:=by rw[hsz] at hj';exact hj'
    have r:=g5 (j-l.length*k) (by omega) (by omega);have e1:l.length*k+(j-l.length*k)=j:=by omega
    simp only[e1] at r;rw[List.getElem_append_right (by rw[hfl,hl];exact hge)];have e2:j-(l'.flatMap encA).length=j-l.length*k:=by rw[hfl,hl]
    simp only[e2];exact r)
  (fun x hx=>by simp[putRowK,putRow,mapBlock,Array.getElem?_modify,Ne.symm hx]) (by simp[putRowK]) rfl rfl rfl (Nat.le_refl _)
 obtain⟨L',c3,ev3⟩:=Con.grown os.toList hturn.1;rw[Array.toArray_toList] at c3 ev3;have ev2:=hturn.2;rw[List.length_set] at ev2 ev3 ⊢;exact⟨L',c3,(ev1.trans ev2).trans ev3,fun j hj=>((ev1.trans ev2).trans ev3).phi j hj⟩
theorem sortK_ok {ρ:Ren}(Ly:SlLaysF0.n6 P ρ)(aE:∀w,(isAgg (ρ.t 24)).run P w=.ok true w)(zE:∀w,(Go.sizeOf (ρ.t 24)).run P w=.ok k w)(he:Enc enc encA k)(hg0:gints=[])
  (cf:α→α→Int) (hO:SWO (ltOf cf)) (hT:∀x y,(ltOf cf) x y=false→(ltOf cf) y x=false→x=y) (g:FuncId) (hcmp:∀x y,ACall P g [.agg (encA x),.agg (encA y)] [] [] (Is (.int .i64 (cf x y)) [] []))
  (hent:∀xs w,(callFunc (ρ.f 6) xs).run P w=.ok (.enter (ρ.f 6) xs) w) (l:List α) (rest:List AV) (i cap:Nat) (hi:H[i]?=some (.cells (l.flatMap encA++rest))) (hsz:l.length<4611686018427387904) :
  ACall P (ρ.f 6) [.csl i l.length cap,.fn g [] []] H T (Is (.tup []) (H.set i (.cells ((l.mergeSort fun x y=>!(ltOf cf) y x).flatMap encA++rest))) T):=by
 refine⟨hent,fun L w ca hc hl hr=>?_⟩;have e0:ca=#[.slice (some ⟨L.phi i,0,none⟩) l.length cap,.func (.func g) #[] #[]]∧i<H.length:=by
  obtain⟨cl⟩:=ca;have hl2:cl.length=2:=by simpa using hl
  match cl,hl2 with
  |[a,b],_=>
   have r0:=hr 0 (by simp) (by simp);have r1:=hr 1 (by simp) (by simp);simp at r0 r1;obtain⟨rfl,_,hlt⟩:=r0.csl_inv
   cases r1 with
   |fn _ _ _ fv cv h1 h2=>
    have:fv=#[]:=Array.eq_empty_of_size_eq_zero (by simpa using h1);subst this;have:cv=#[]:=Array.eq_empty_of_size_eq_zero (by simpa using h2);subst this;exact⟨rfl,hlt⟩
 obtain⟨rfl,hil⟩:=e0;have hag:∀x,∀L N T w,Rep L N T w (.agg (encA x)) (.agg (enc x).toArray):=fun x L N T w=>by
  refine .agg _ _ (by simp[he.len,he.lenA]) (fun j hj=>?_) (fun j hj hj'=>?_)
  ·exact he.one x _ (by simp)
  ·have hjk:j<k:=by rw[he.lenA] at hj;exact hj
   have:=(he.rep x j hjk L N T w (enc x)[j]!).2 rfl;rw[List.getD_eq_getElem?_getD,List.getElem?_eq_getElem hj] at this;simp only[Option.getD_some] at this;have h':j<(enc x).length:=by rw[he.len];exact hjk
   rw[getElem!_pos (enc x) j h'] at this;simpa using this
 have hcl:CmpLays P g #[] enc k cf (L.phi i) 0 l.toArray.size w:=by
  intro m os dk hs x y;have h1:=(hcmp x y).grown (w:=sortWorldK enc k w (L.phi i) 0 m dk os) (ca:=#[.agg (enc x).toArray,.agg (enc y).toArray]++#[]) hg0 (by simp) (fun j hj hj'=>by
   match j,hj with
   |0,_=>exact hag x _ _ _ _
   |1,_=>exact hag y _ _ _ _)
  refine h1.mono ?_;rintro e w' ⟨⟨cv,L',rfl,hrep⟩,q,os',hw⟩
  cases hrep
  exact⟨rfl,q,os',hw⟩
 have hmain:=AnyQ.slices_SortFunc_total Ly k aE zE enc he.len he.one cf hO g #[] (L.phi i) 0 cap l.toArray w (hcmp default default).1 hcl (hc.holdsK he hi) (hc.phi_lt hil) (by simpa using hsz) hT;simp only[List.size_toArray] at hmain;refine hmain.mono ?_;rintro e w' ⟨rfl,n,os,rfl⟩;obtain⟨L',hc',hev,_⟩:=hc.sorted (n:=n) (os:=os) (l':=l.mergeSort fun x y=>!(ltOf cf) y x) he hi (List.length_mergeSort _);exact⟨_,_,T,L',_,⟨rfl,rfl,rfl⟩,rfl,hc',.tup [] #[] rfl (fun j hj=>by simp at hj),hev⟩
theorem sort0_ok {ρ:Ren}(Ly:SlLaysF0.n6 P ρ)(g:FuncId)(hent:∀xs w,(callFunc (ρ.f 6) xs).run P w=.ok (.enter (ρ.f 6) xs) w)(tg:Tag):ACall P (ρ.f 6) [.sl 0 [] tg,.fn g [] []] H T (Is (.tup []) H T):=by
 refine⟨hent,fun L w ca hc hl hr=>?_⟩;have e0:∃a cap fv,ca=#[.slice a 0 cap,fv]:=by
  obtain⟨cl⟩:=ca;have hl2:cl.length=2:=by simpa using hl
  match cl,hl2 with
  |[a,b],_=>
   have r0:=hr 0 (by simp) (by simp);simp at r0;obtain⟨a,cap,rfl,_⟩:=r0.sl_inv;exact⟨a,cap,b,rfl⟩
 obtain⟨a,cap,fv,rfl⟩:=e0;refine(AnyF.slices_SortFunc_none Ly a cap fv w).mono ?_;rintro e w' ⟨rfl,rfl⟩;exact⟨_,H,T,L,_,⟨rfl,rfl,rfl⟩,rfl,hc,.tup [] #[] rfl (fun j hj=>by simp at hj),Ev.refl (Nat.le_refl _) (Nat.le_refl _)⟩
end
section
variable {P : Program} {f : FuncId} {args : List AV} {H : List Blk} {T : Toks}
end
def Plain (v:AV):Prop:=∀L N T w c L' N' T' w',Rep L N T w v c→Rep L' N' T' w' v c
theorem Plain.int (k:IntKind)(n:Int):Plain (.int k n):=fun L N T w c L' N' T' w' h=>by cases h;exact .int k n
theorem Plain.str (s:List UInt8):Plain (.str s):=fun L N T w c L' N' T' w' h=>by cases h;exact .str s
theorem Plain.top:Plain .top:=fun L N T w c L' N' T' w' h=>.top c
def Vis (row vis:List AV):Prop:=vis.length=row.length∧∀j,j<row.length→vis.getD j .top=.top∨(vis.getD j .top=row.getD j .top∧Plain (row.getD j .top))
section
variable {P : Program} {L : Lay} {H : List Blk} {T : Toks} {w : World} {k : Nat}
theorem flatR_at {κ:Type}(hp:0<k):∀(rows:List (κ×List AV)) (hk:∀x∈rows,x.2.length=k) (t:Nat) (h:t / k<rows.length),(rows.flatMap (·.2)).getD t .top=(rows[t / k]'h).2.getD (t % k) .top
 |[],_,t,h=>by simp at h
 |x::r,hk,t,h=>by
  have hx:=hk x (by simp);rw[List.flatMap_cons]
  by_cases hlt:t<k
  ·have e1:=Nat.div_eq_of_lt hlt;have e2:=Nat.mod_eq_of_lt hlt;simp only[List.getD_eq_getElem?_getD,e1,e2];rw[List.getElem?_append_left (by rw[hx];exact hlt)];rfl
  ·have e1:=Nat.div_eq_sub_div hp (by omega:k≤t);have e2:=Nat.mod_eq_sub_mod (by omega:k≤t);have hr:(t-k) / k<r.length:=by rw[e1] at h;simpa using h
   have ih:=flatR_at hp r (fun y hy=>hk y (by simp[hy])) (t-k) hr;simp only[List.getD_eq_getElem?_getD] at ih ⊢;rw[List.getElem?_append_right (by rw[hx];omega),hx,ih];simp only[e1,e2,List.getElem_cons_succ]
theorem flatR_len {κ:Type}:∀(rows:List (κ×List AV)) (hk:∀x∈rows,x.2.length=k),(rows.flatMap (·.2)).length=rows.length*k
 |[],_=>by simp
 |x::r,hk=>by rw[List.flatMap_cons,List.length_append,flatR_len r (fun y hy=>hk y (by simp[hy])),hk x (by simp),List.length_cons,Nat.add_mul,Nat.one_mul];omega
theorem sortR_ok {ρ : Ren} (Ly : SlLaysF0.n6 P ρ) (aE : ∀ w, (isAgg (ρ.t 24)).run P w = .ok true w) (zE : ∀ w, (Go.sizeOf (ρ.t 24)).run P w = .ok k w) (hp : 0 < k) (hg0 : gints = []) {κ : Type} (vis : κ → List AV)
    (cf : κ → κ → Int) (hO : SWO (ltOf cf)) (g : FuncId)
    (hent : ∀ xs w, (callFunc (ρ.f 6) xs).run P w = .ok (.enter (ρ.f 6) xs) w) (rows : List (κ × List AV)) (hne : rows ≠ []) (hk : ∀ x ∈ rows, x.2.length = k) (hv : ∀ x ∈ rows, Vis x.2 (vis x.1))
    (hT : rows.Pairwise fun x y => ltOf cf x.1 y.1 = true ∨ ltOf cf y.1 x.1 = true)
    (hcmp : ∀ x ∈ rows, ∀ y ∈ rows, ACall P g [.agg (vis x.1), .agg (vis y.1)] [] [] (Is (.int .i64 (cf x.1 y.1)) [] []))
    (rest : List AV) (i cap : Nat) (hi : H[i]? = some (.cells (rows.flatMap (·.2) ++ rest))) (hsz : rows.length < 4611686018427387904) :
    ACall P (ρ.f 6) [.csl i rows.length cap, .fn g [] []] H T (Is (.tup []) (H.set i (.cells ((rows.mergeSort fun x y => !(ltOf cf) y.1 x.1).flatMap (·.2) ++ rest))) T) := by
  refine ⟨hent, fun L w ca hc hl hr => ?_⟩;have e0 : ca = #[.slice (some ⟨L.phi i, 0, none⟩) rows.length cap, .func (.func g) #[] #[]] ∧ i < H.length := by
    obtain ⟨cl⟩ := ca;have hl2 : cl.length = 2 := by simpa using hl
    match cl, hl2 with
    | [a, b], _ =>
      have r0 := hr 0 (by simp) (by simp)
      have r1 := hr 1 (by simp) (by simp)
      simp at r0 r1
      obtain ⟨rfl, _, hlt⟩ := r0.csl_inv
      cases r1 with
      | fn _ _ _ fv cv h1 h2 =>
        have : fv = #[] := Array.eq_empty_of_size_eq_zero (by simpa using h1)
        subst this
        have : cv = #[] := Array.eq_empty_of_size_eq_zero (by simpa using h2)
        subst this
        exact ⟨rfl, hlt⟩
  obtain ⟨rfl, hil⟩ := e0;obtain ⟨c, ty, fr, g1, g2, g3, g3', g4, g5⟩ := hc.box i _ hi;have hfl := flatR_len rows hk;rw [List.length_append, hfl] at g3;have hn0 : 0 < rows.length := List.length_pos_iff.2 hne;generalize hn : rows.length = n at *;have hin : ∀ (x : Fin n) (j : Nat), j < k → x.val * k + j < n * k := fun x j hj => by
    have : (x.val + 1) * k ≤ n * k := Nat.mul_le_mul_right k x.isLt;rw [Nat.add_mul, Nat.one_mul] at this;omega
  letI : Inhabited (Fin n) := ⟨⟨0, hn0⟩⟩
  let enc : Fin n → List Value := fun x => (List.range k).map fun j => c[x.val * k + j]!
  have elen : ∀ x, (enc x).length = k := fun x => by simp [enc]
  have eat : ∀ (x : Fin n) (j : Nat), j < k → (enc x)[j]! = c[x.val * k + j]! := fun x j hj => by
    have h' : j < (enc x).length := by rw [elen]; exact hj
    rw [getElem!_pos (enc x) j h'];simp [enc]
  have eone : ∀ x, ∀ v ∈ enc x, v.oneCell' = true := fun x v hv => by
    obtain ⟨j, hj, rfl⟩ := List.mem_map.1 hv;have hj' := hin x j (List.mem_range.1 hj);rw [getElem!_pos c _ (by omega)];exact g3' _ _
  have hrow : ∀ (x : Fin n) (j : Nat), j < k → ∀ h : x.val * k + j < (rows.flatMap (·.2) ++ rest).length, (rows.flatMap (·.2) ++ rest)[x.val * k + j]'h = (rows[x.val]'(by rw [hn]; exact x.isLt)).2.getD j .top := fun x j hj h => by
    have hj' := hin x j hj;have e1 : (x.val * k + j) / k = x.val := by rw [Nat.mul_comm, Nat.mul_add_div hp, Nat.div_eq_of_lt hj]; omega
    have e2 : (x.val * k + j) % k = j := by rw [Nat.mul_comm, Nat.mul_add_mod, Nat.mod_eq_of_lt hj]
    have := flatR_at hp rows hk (x.val * k + j) (by rw [e1, hn]; exact x.isLt);simp only [e1, e2] at this;rw [List.getElem_append_left (by rw [hfl]; exact hj'), ← this, List.getD_eq_getElem?_getD, List.getElem?_eq_getElem (by rw [hfl]; exact hj')];rfl
  have erep : ∀ (x : Fin n) (j : Nat), j < k → Rep L H.length T w ((rows[x.val]'(by rw [hn]; exact x.isLt)).2.getD j .top) ((enc x)[j]!) := fun x j hj => by
    have hj' := hin x j hj;rw [eat x j hj, getElem!_pos c _ (by omega), ← hrow x j hj (by rw [List.length_append, hfl]; omega)];exact g4 _ _ _
  let cf' : Fin n → Fin n → Int := fun x y => cf (rows[x.val]'(by rw [hn]; exact x.isLt)).1 (rows[y.val]'(by rw [hn]; exact y.isLt)).1
  have hO' : SWO (ltOf cf') := ⟨fun x => hO.1 _, fun x y z h1 h2 => hO.2 _ _ _ h1 h2, fun x y z h1 h2 => hO.3 _ _ _ h1 h2⟩
  have hT' : ∀ x y, (ltOf cf') x y = false → (ltOf cf') y x = false → x = y := fun x y h1 h2 => by
    rw [List.pairwise_iff_getElem] at hT;rcases Nat.lt_trichotomy x.val y.val with e | e | e
    · rcases hT x.val y.val (by rw [hn]; exact x.isLt) (by rw [hn]; exact y.isLt) e with h | h
      · have : ltOf cf' x y = true := h;rw [h1] at this; cases this
      · have : ltOf cf' y x = true := h;rw [h2] at this; cases this
    · exact Fin.ext e
    · rcases hT y.val x.val (by rw [hn]; exact y.isLt) (by rw [hn]; exact x.isLt) e with h | h
      · have : ltOf cf' y x = true := h;rw [h2] at this; cases this
      · have : ltOf cf' x y = true := h;rw [h1] at this; cases this
  have hag : ∀ (x : Fin n) L' N' T' w', Rep L' N' T' w' (.agg (vis (rows[x.val]'(by rw [hn]; exact x.isLt)).1)) (.agg (enc x).toArray) := fun x L' N' T' w' => by
    have hx : (rows[x.val]'(by rw [hn]; exact x.isLt)) ∈ rows := List.getElem_mem _;obtain ⟨v1, v2⟩ := hv _ hx;have hkx := hk _ hx;refine .agg _ _ (by simp [elen, v1, hkx]) (fun j hj => ?_) (fun j hj hj' => ?_)
    · exact eone x _ (by simp)
    · have hjk : j < k := by rw [v1, hkx] at hj; exact hj
      have r := erep x j hjk;have h' : j < (enc x).length := by rw [elen]; exact hjk
      rw [getElem!_pos (enc x) j h'] at r;have e : (vis (rows[x.val]'(by rw [hn]; exact x.isLt)).1)[j]'hj = (vis (rows[x.val]'(by rw [hn]; exact x.isLt)).1).getD j .top := by
        rw [List.getD_eq_getElem?_getD, List.getElem?_eq_getElem hj]; rfl
      rw [e];rcases v2 j (by rw [hkx]; exact hjk) with q | ⟨q1, q2⟩
      · rw [q]; exact .top _
      · rw [q1]; simpa using q2 _ _ _ _ _ L' N' T' w' r
  have hsl : (List.finRange n).toArray.size = n := by simp
  have hcl : CmpLays P g #[] enc k cf' (L.phi i) 0 (List.finRange n).toArray.size w := by
    intro m os dk hs x y;have h1 := (hcmp _ (List.getElem_mem _) _ (List.getElem_mem _) : ACall P g [.agg (vis (rows[x.val]'(by rw [hn]; exact x.isLt)).1), .agg (vis (rows[y.val]'(by rw [hn]; exact y.isLt)).1)] [] [] _).grown (w := sortWorldK enc k w (L.phi i) 0 m dk os) (ca := #[.agg (enc x).toArray, .agg (enc y).toArray] ++ #[]) hg0 (by simp) (fun j hj hj' => by
      match j, hj with
      | 0, _ => exact hag x _ _ _ _
      | 1, _ => exact hag y _ _ _ _)
    refine h1.mono ?_;rintro e w' ⟨⟨cv, L', rfl, hrep⟩, q, os', hw⟩
    cases hrep
    exact ⟨rfl, q, os', hw⟩
  have hholds : HoldsK enc k w (L.phi i) 0 (List.finRange n).toArray := by
    intro j hj;rw [size_flatK] at hj;have hj : j < n * k := by simpa using hj
    have hjc : j < c.size := by omega
    have hq : j / k < n := Nat.div_lt_of_lt_mul (by rw [Nat.mul_comm]; exact hj);rw [Nat.zero_add];refine ⟨?_, ?_⟩
    · rw [cell_row g1, Array.getElem?_eq_getElem hjc, get_flatK _ _ _ _ (by simpa using hj)];have e1 : (List.finRange n).toArray[j / k]! = ⟨j / k, hq⟩ := by
        rw [getElem!_pos _ _ (by simpa using hq)]; simp
      rw [e1, eat _ _ (Nat.mod_lt _ hp)];have e2 : j / k * k + j % k = j := by rw [Nat.mul_comm]; exact Nat.div_add_mod j k
      simp only [e2];rw [getElem!_pos c _ hjc];rfl
    · obtain ⟨lo, hi'⟩ := fr;unfold World.frozen?;simp only [g1];exact g2 j hjc
  have hmain := AnyQ.slices_SortFunc_total Ly k aE zE enc elen eone cf' hO' g #[] (L.phi i) 0 cap (List.finRange n).toArray w (hcmp _ (List.getElem_mem (by rw [hn]; exact hn0)) _ (List.getElem_mem (by rw [hn]; exact hn0))).1 hcl hholds (hc.phi_lt hil) (by simpa using hsz) hT';simp only [hsl] at hmain;refine hmain.mono ?_;rintro e w' ⟨rfl, nd, os, rfl⟩;generalize hl' : (List.finRange n).mergeSort (fun x y => !(ltOf cf') y x) = l';have hlen' : l'.length = n := by rw [← hl', List.length_mergeSort]; simp
  have hrows' : l'.map (fun x => rows[x.val]'(by rw [hn]; exact x.isLt)) = rows.mergeSort fun x y => !(ltOf cf) y.1 x.1 := by
    have e1 : (List.finRange n).map (fun x => rows[x.val]'(by rw [hn]; exact x.isLt)) = rows := by
      apply List.ext_getElem
      · simp [hn]
      · intro j h1 h2; simp
    have e2 := List.map_mergeSort (r := fun x y => !(ltOf cf') y x) (s := fun (x y : κ × List AV) => !(ltOf cf) y.1 x.1) (f := fun x : Fin n => rows[x.val]'(by rw [hn]; exact x.isLt)) (l := List.finRange n) (fun a _ b _ => rfl);rw [← hl', e2, e1]
  have hk' : ∀ x ∈ rows.mergeSort (fun x y => !(ltOf cf) y.1 x.1), x.2.length = k := fun x hx => hk x ((List.mergeSort_perm _ _).mem_iff.1 hx);rw [← hrows'] at hk' ⊢;have hfl' := flatR_len _ hk';rw [List.length_map, hlen'] at hfl';have h1 : Con L H T (Sort.ahead w nd) := hc.drew rfl;have ev1 : Ev H.length T.length L H.length T w L H.length T (Sort.ahead w nd) := Ev.drew rfl rfl rfl rfl (Nat.le_add_right _ _);have hszc : (putCells id 0 (flatK enc k l'.toArray) c).size = c.size := by simp [putCells]
  have hat : ∀ (j : Nat) (h' : j < (putCells id 0 (flatK enc k l'.toArray) c).size), (∀ hj : j < n * k, (putCells id 0 (flatK enc k l'.toArray) c)[j]'h' = (enc (l'[j / k]'(by rw [hlen']; exact Nat.div_lt_of_lt_mul (by rw [Nat.mul_comm]; exact hj))))[j % k]!) ∧
      (n * k ≤ j → (putCells id 0 (flatK enc k l'.toArray) c)[j]'h' = c[j]'(by rw [hszc] at h'; exact h')) := by
    intro j h';refine ⟨fun hj => ?_, fun hj => ?_⟩
    · have hq : j / k < l'.length := by rw [hlen']; exact Nat.div_lt_of_lt_mul (by rw [Nat.mul_comm]; exact hj)
      simp only [putCells, Array.getElem_mapIdx];rw [if_pos ⟨Nat.zero_le _, by rw [size_flatK]; simp [hlen']; exact hj⟩, Nat.sub_zero, get_flatK _ _ _ _ (by simpa [hlen'] using hj)];have e1 : l'.toArray[j / k]! = l'[j / k]'hq := by
        rw [getElem!_pos _ _ (by simpa using hq)]; simp
      rw [e1]; rfl
    · simp only [putCells, Array.getElem_mapIdx];rw [if_neg (by rw [size_flatK]; simp [hlen']; omega)]
  have hone : ∀ (j : Nat) (h' : j < (putCells id 0 (flatK enc k l'.toArray) c).size), ((putCells id 0 (flatK enc k l'.toArray) c)[j]'h').oneCell' = true := by
    intro j h';rcases Nat.lt_or_ge j (n * k) with hj | hj
    · rw [(hat j h').1 hj];have hm : j % k < (enc (l'[j / k]'(by rw [hlen']; exact Nat.div_lt_of_lt_mul (by rw [Nat.mul_comm]; exact hj)))).length := by rw [elen]; exact Nat.mod_lt _ hp
      rw [getElem!_pos _ (j % k) hm];exact eone _ _ (List.getElem_mem hm)
    · rw [(hat j h').2 hj]; exact g3' _ _
  have hturn := h1.turn (w' := putRowK enc k (Sort.ahead w nd) (L.phi i) 0 l'.toArray) (vs' := (l'.map (fun x => rows[x.val]'(by rw [hn]; exact x.isLt))).flatMap (·.2) ++ rest) (c' := putCells id 0 (flatK enc k l'.toArray) c) (t := ty) (fr := fr) hi g1
    (by simp only [putRowK, putRow, mapBlock, Array.getElem?_modify, if_true]; rw [show (Sort.ahead w nd).heap = w.heap from rfl, g1]; rfl) hszc (by rw [List.length_append, List.length_append, hfl, hfl']) hone
    (fun j hj hj' => by
      rcases Nat.lt_or_ge j (n * k) with hlt | hge
      · have hq : j / k < l'.length := by rw [hlen']; exact Nat.div_lt_of_lt_mul (by rw [Nat.mul_comm]; exact hlt)
        have e : ((l'.map (fun x => rows[x.val]'(by rw [hn]; exact x.isLt))).flatMap (·.2) ++ rest)[j]'hj = (rows[(l'[j / k]'hq).val]'(by rw [hn]; exact (l'[j / k]'hq).isLt)).2.getD (j % k) .top := by
          have := flatR_at hp _ hk' j (by rw [List.length_map]; exact hq);simp only [List.getElem_map] at this;rw [List.getElem_append_left (by rw [hfl']; exact hlt), ← this, List.getD_eq_getElem?_getD, List.getElem?_eq_getElem (by rw [hfl']; exact hlt)];rfl
        rw [e, (hat j hj').1 hlt];exact (erep _ _ (Nat.mod_lt _ hp)).keep ev1.keeps
      · rw [(hat j hj').2 hge];have hjc : j < c.size := by rw [hszc] at hj'; exact hj'
        have r := g4 j (by rw [List.length_append, hfl]; omega) hjc;have e1 : (rows.flatMap (·.2) ++ rest)[j]'(by rw [List.length_append, hfl]; omega) = rest[j - n * k]'(by omega) := by
          rw [List.getElem_append_right (by rw [hfl]; exact hge)]
          congr 1; rw [hfl]
        have e2 : ((l'.map (fun x => rows[x.val]'(by rw [hn]; exact x.isLt))).flatMap (·.2) ++ rest)[j]'hj = rest[j - n * k]'(by omega) := by
          rw [List.getElem_append_right (by rw [hfl']; exact hge)]
          congr 1; rw [hfl']
        rw [e2, ← e1];exact r.keep ev1.keeps)
    (fun x hx => by simp [putRowK, putRow, mapBlock, Array.getElem?_modify, Ne.symm hx]) (by simp [putRowK]) rfl rfl rfl (Nat.le_refl _)
  obtain ⟨L', c3, ev3⟩ := Con.grown os.toList hturn.1;rw [Array.toArray_toList] at c3 ev3;have ev2 := hturn.2;rw [List.length_set] at ev2 ev3;refine ⟨_, _, T, L', _, ⟨rfl, rfl, rfl⟩, rfl, c3, .tup [] #[] rfl (fun j hj => by simp at hj), ?_⟩;rw [List.length_set];exact (ev1.trans ev2).trans ev3
end
end Go.Am
