/- Blocks behind the heap, a box whose cells are written anew, and what a call that makes nothing leaves: for contracts that speak of worlds. Sorting a box that holds structs, by the library's contract. Sorting a box whose rows hold cells that the test does not look at, by the library's contract; the keys are different.
  Conditions: as the theorems say. -/
import Derived.Sort.Grow
import Derived.Deep.Draws
import Derived.Test.YtneohapkboaplaaGreatAmC
import Derived.Shelf.SlSortCmp.NoneTotal
set_option linter.all false
open Nat (le_refl mul_comm mod_lt div_lt_of_lt_mul add_mul one_mul lt_or_ge zero_add zero_le)
open List (length_append getD_eq_getElem?_getD getElem_mem getElem?_eq_getElem getElem_append_left length_set flatMap_cons length_cons)
namespace Go.Am
open Go Go.Sort
section
variable {P : Program} {f : FuncId} {args : List AV} {H : List aG} {T : ay}
theorem G1 (w:World)(l:List Obj)(o:Obj):Sort.grow w (o::l).toArray=Sort.grow (w.alloc o) l.toArray:=by
 unfold Sort.grow World.alloc
 congr 1
 apply Array.ext';simp
theorem bN.grown:∀(l:List Obj) {L:Lay} {w:World},bN L H T w→∃L',bN L' H T (Sort.grow w l.toArray)∧Ev H.length T.length L H.length T w L' H.length T (Sort.grow w l.toArray)
 |[],L,w,h=>by
  have e:Sort.grow w ([]:List Obj).toArray=w:=Sort.grow_empty w;rw[e];exact⟨L,h,Ev.refl (le_refl _) (le_refl _)⟩
 |o::l,L,w,h=>by
  obtain⟨L',h1,h2⟩:=bN.grown l (h.alloc o 0);rw[G1];exact⟨L',h1,(Ev.alloc h o 0).trans h2⟩
theorem bN.SZ {L:Lay}{w w':World}(h:bN L H T w){i:Nat}{vs vs':List AV}{c c':Array Value}{t:TypeId}{fr:Nat×Nat}(hi:H[i]?=some (.cells vs))(hb:w.heap[L.bL i]?=some (.cells c t fr))
  (r8:w'.heap[L.bL i]?=some (.cells c' t fr)) (hc:c'.size=c.size) (hl:vs'.length=vs.length) (h1:∀(j:Nat)(h':j<c'.size),(c'[j]'h').oneCell'=true)
  (hr:∀(j:Nat)(h:j<vs'.length)(h':j<c'.size),aZ L H.length T w (vs'[j]'h) (c'[j]'h'))
  (dW:∀x,x≠L.bL i→w'.heap[x]?=w.heap[x]?) (hz:w'.heap.size=w.heap.size) (ho:w'.os=w.os) (RU:w'.tape=w.tape) (o9:w'.output=w.output) (vv:w.drawn≤w'.drawn) :
  bN L (H.set i (.cells vs')) T w'∧Ev H.length T.length L H.length T w L (H.set i (.cells vs')).length T w':=by
 have cW:=(List.getElem?_eq_some_iff.1 hi).1;obtain⟨c0,t0,fr0,g1,g2,g3,vw,g4,g5⟩:=h.box i _ hi;rw[hb] at g1
 cases g1
 have pT:∀b o',o'<L.m b→w'.cell? ⟨b,o',none⟩=w.cell? ⟨b,o',none⟩:=by
  intro b o' bh;refine gJ (dW _ ?_) o';rintro rfl;omega
 have kp:dd L H.length T w L H.length T w':=
  ⟨le_refl _,fun _ _=>rfl,fun t u z h=>⟨u,h,le_refl _,fun _=>rfl⟩,fun _=>le_refl _,pT,rfl⟩
 refine⟨⟨fun j b hb=>?_,fun a b ha hb=>h.inj a b (by simpa using ha) (by simpa using hb),fun t u z ht=>?_,h.mP,fun t u z j ht hs hj=>h.je t u z j ht hs (by simpa using hj),fun b hb=>h.mz b (by omega),h.gl.keep kp.m kp.qZ⟩,
  by simp,fun _ _=>rfl,fun t u z _ h=>⟨u,h,le_refl _,fun _=>rfl⟩,le_refl _,fun _=>le_refl _,pT,by omega,fun b hb hn=>?_,fun b hb=>.inl (by simpa using hb),ho,RU,o9,fun _=>vv,rfl⟩
 ·rw[length_set]
  by_cases sL:i=j
  ·subst sL;rw[List.getElem?_set_self cW] at hb
   cases hb
   exact⟨c',t,fr,r8,fun o ho=>g2 o (by omega),by omega,h1,fun j hj bK=>(hr j hj bK).keep kp,g5⟩
  ·rw[List.getElem?_set_ne sL] at hb;have hx:=h.box j b hb;have o6:=(List.getElem?_eq_some_iff.1 hb).1;have hnp:L.bL j≠L.bL i:=fun e=>sL (h.inj j i o6 cW e).symm;exact hx.stay kp o6 (dW _ hnp) id
 ·obtain⟨k1,k2⟩:=h.tok t u z ht;refine⟨k1,fun hs=>?_⟩;rw[dW _ (h.je t u z i ht hs cW)];exact k2 hs
 ·exact dW _ (fun e=>hn (.inl ⟨i,cW,e.symm⟩))
theorem al.grown {r:AV}{w:World}{ca:Array Value}(h:al P f args [] [] (Is r [] []))(hg:vW=[])(hs:ca.size=args.length)
  (hr:∀(j:Nat)(h:j<args.length)(h':j<ca.size),aZ (tV w) 0 [] w (args[j]'h) (ca[j]'h')) :
  Calls P f ca w fun e w'=>(∃cv L',e=.returned cv∧aZ L' 0 [] w' r cv)∧∃q RH,w'=Sort.grow (w.drewN q) RH:=by
 refine(h.2 (tV w) w ca (Ts w (by rw[hg];intro x hx;cases hx)) hs hr).mono ?_;rintro e w' ⟨r',H',T',L',cv,⟨rfl,rfl,rfl⟩,rfl,_,dF,dU⟩;refine⟨⟨cv,L',rfl,dF⟩,w'.drawn-w.drawn,w'.heap.extract w.heap.size w'.heap.size,?_⟩;have hd:=dU.drawn rfl;have gN:=dU.size;have hh:w'.heap=w.heap++w'.heap.extract w.heap.size w'.heap.size:=by
  apply Array.ext_getElem?;intro k
  by_cases hk:k<w.heap.size
  ·rw[Array.getElem?_append_left hk];exact dU.frame k hk (fun hw=>by
    rcases hw with⟨i,hi,_⟩|⟨t,u,z,ht,_⟩
    ·exact Nat.not_lt_zero _ hi
    ·simp at ht)
  ·rw[Array.getElem?_append_right (by omega)];rw[Array.getElem?_extract]
   by_cases da:k<w'.heap.size
   ·rw[if_pos (by omega)]
    congr 1
    omega
   ·rw[Array.getElem?_eq_none (by omega),if_neg (by omega)]
 unfold Sort.grow World.drewN;have e1:=dU.os;have e2:=dU.tape;have e3:=dU.output
 cases w' with
 |mk heap tape drawn os output=>
  simp only at *;subst e1;subst e2;subst e3;simp only[World.mk.injEq];refine⟨hh,trivial,by omega,trivial,trivial⟩
end
open Go.Proofs Go.Shelf Go.RowKit
structure Og {α:Type}(enc:α→List Value)(fO:α→List AV)(k:Nat):Prop where
 pos:0<k
 len:∀x,(enc x).length=k
 yI:∀x,(fO x).length=k
 one:∀x,∀v∈enc x,v.oneCell'=true
 rep:∀x (j:Nat),j<k→∀L N T w v,aZ L N T w ((fO x).getD j .top) v↔v=(enc x)[j]!
theorem rV {α:Type}{enc:α→List Value}{fO:α→List AV}{k:Nat}(he:Og enc fO k)(l:List α):(l.flatMap fO).length=l.length*k:=by
 induction l with
 |nil=>simp
 |cons x r ih=>rw[flatMap_cons,length_append,ih,he.yI,length_cons,add_mul,one_mul];omega
section
variable {α : Type} [Inhabited α] {enc : α → List Value} {fO : α → List AV} {k : Nat}
theorem uV (he:Og enc fO k):∀(l:List α)(t:Nat),t<l.length*k→(l.flatMap fO).getD t .top=(fO (l[t / k]!)).getD (t % k) .top
 |[],t,h=>by simp at h
 |x::r,t,h=>by
  rw[flatMap_cons]
  by_cases bh:t<k
  ·rw[Nat.div_eq_of_lt bh,Nat.mod_eq_of_lt bh];simp only[getD_eq_getElem?_getD];rw[List.getElem?_append_left (by rw[he.yI];exact bh)];simp
  ·rw[length_cons,add_mul,one_mul] at h;have ih:=uV he r (t-k) (by omega);rw[Nat.div_eq_sub_div he.pos (by omega),Nat.mod_eq_sub_mod (by omega)];simp only[getD_eq_getElem?_getD] at ih ⊢;rw[List.getElem?_append_right (by rw[he.yI];omega),he.yI,ih];simp
variable {P : Program} {L : Lay} {H : List aG} {T : ay} {w : World}
theorem bN.EI {i:Nat}{l:List α}{rest:List AV}(he:Og enc fO k)(h:bN L H T w)(hi:H[i]?=some (.cells (l.flatMap fO++rest))) :
  ∃c t fr,w.heap[L.bL i]?=some (.cells c t fr)∧(∀o,o<c.size→(fr.1≤o&&o<fr.2)=false)∧c.size=l.length*k+rest.length∧(∀(j:Nat)(h':j<c.size),(c[j]'h').oneCell'=true)∧
   (∀(j:Nat)(h':j<c.size),j<l.length*k→c[j]'h'=(enc (l[j / k]!))[j % k]!)∧
   (∀(j:Nat)(h':j<rest.length)(h'':l.length*k+j<c.size),aZ L H.length T w (rest[j]'h') (c[l.length*k+j]'h'')):=by
 obtain⟨c,t,fr,g1,g2,g3,vw,g4,g5⟩:=h.box i _ hi;have hf:=rV he l;rw[length_append,hf] at g3;refine⟨c,t,fr,g1,g2,g3,vw,fun j r7 hj=>?_,fun j hj r7=>?_⟩
 ·have o6:j<(l.flatMap fO++rest).length:=by rw[length_append];omega
  have r:=g4 j o6 r7;have e:(l.flatMap fO++rest)[j]'o6=(fO (l[j / k]!)).getD (j % k) .top:=by
   have bK:j<(l.flatMap fO).length:=by omega
   rw[←uV he l j hj,getElem_append_left bK,getD_eq_getElem?_getD,getElem?_eq_getElem bK];rfl
  rw[e,he.rep _ _ (mod_lt _ he.pos)] at r;exact r
 ·have o6:l.length*k+j<(l.flatMap fO++rest).length:=by rw[length_append];omega
  have r:=g4 _ o6 r7;rw[List.getElem_append_right (by omega)] at r;have e:l.length*k+j-(l.flatMap fO).length=j:=by omega
  simp only[e] at r;exact r
theorem bN.Cu {i:Nat}{l:List α}{rest:List AV}(he:Og enc fO k)(h:bN L H T w)(hi:H[i]?=some (.cells (l.flatMap fO++rest))):HoldsK enc k w (L.bL i) 0 l.toArray:=by
 obtain⟨c,t,fr,g1,g2,g3,_,g4,_⟩:=h.EI he hi;intro j hj;rw[size_flatK] at hj;have hj:j<l.length*k:=by simpa using hj
 have r7:j<c.size:=by omega
 rw[zero_add];refine⟨?_,?_⟩
 ·rw[fi g1,Array.getElem?_eq_getElem r7,g4 j r7 hj,get_flatK _ _ _ _ (by simpa using hj)];simp
 ·obtain⟨lo,et⟩:=fr;unfold World.frozen?;simp only[g1];exact g2 j r7
theorem bN.sorted {i n:Nat}{l l':List α}{rest:List AV}{os:Array Obj}(he:Og enc fO k)(h:bN L H T w)(hi:H[i]?=some (.cells (l.flatMap fO++rest)))(hl:l'.length=l.length) :
  ∃L',bN L' (H.set i (.cells (l'.flatMap fO++rest))) T (sortWorldK enc k w (L.bL i) 0 n l'.toArray os)∧
   Ev H.length T.length L H.length T w L' (H.set i (.cells (l'.flatMap fO++rest))).length T (sortWorldK enc k w (L.bL i) 0 n l'.toArray os)∧∀j,j<H.length→L'.bL j=L.bL j:=by
 have h1:bN L H T (Sort.ahead w n):=h.drew rfl;have N8:Ev H.length T.length L H.length T w L H.length T (Sort.ahead w n):=Ev.drew rfl rfl rfl rfl (Nat.le_add_right _ _);obtain⟨c,t,fr,g1,g2,g3,vw,g4,g5⟩:=h1.EI he hi;have gN:(putCells id 0 (flatK enc k l'.toArray) c).size=c.size:=by simp[putCells]
 have pK:=rV he l';have gR:∀(j:Nat) (h':j<(putCells id 0 (flatK enc k l'.toArray) c).size),(j<l.length*k→(putCells id 0 (flatK enc k l'.toArray) c)[j]'h'=(enc (l'[j / k]!))[j % k]!)∧
   (l.length*k≤j→(putCells id 0 (flatK enc k l'.toArray) c)[j]'h'=c[j]'(by rw[gN] at h';exact h')):=by
  intro j h';refine⟨fun hj=>?_,fun hj=>?_⟩
  ·simp only[putCells,Array.getElem_mapIdx];rw[if_pos ⟨zero_le _,by rw[size_flatK];simp[hl];exact hj⟩,Nat.sub_zero,get_flatK _ _ _ _ (by simpa[hl] using hj)];simp
  ·simp only[putCells,Array.getElem_mapIdx];rw[if_neg (by rw[size_flatK];simp[hl];omega)]
 have PR:∀(j:Nat) (h':j<(putCells id 0 (flatK enc k l'.toArray) c).size),((putCells id 0 (flatK enc k l'.toArray) c)[j]'h').oneCell'=true:=by
  intro j h';rcases lt_or_ge j (l.length*k) with hj|hj
  ·rw[(gR j h').1 hj];have hm:j % k<(enc (l'[j / k]!)).length:=by rw[he.len];exact mod_lt _ he.pos
   rw[getElem!_pos (enc (l'[j / k]!)) (j % k) hm];exact he.one _ _ (getElem_mem hm)
  ·rw[(gR j h').2 hj];exact vw _ _
 have yZ:=h1.SZ (w':=putRowK enc k (Sort.ahead w n) (L.bL i) 0 l'.toArray) (vs':=l'.flatMap fO++rest) (c':=putCells id 0 (flatK enc k l'.toArray) c) (t:=t) (fr:=fr) hi g1
  (by simp only[putRowK,putRow,mapBlock,Array.getElem?_modify,if_true];rw[g1];rfl) gN (by rw[length_append,length_append,pK,rV he,hl]) PR
  (fun j hj bK=>by
   rcases lt_or_ge j (l.length*k) with bh|ku
   ·have vx:j<(l'.flatMap fO).length:=by rw[pK,hl];exact bh
    have e:(l'.flatMap fO++rest)[j]'hj=(fO (l'[j / k]!)).getD (j % k) .top:=by
     rw[←uV he l' j (by rw[hl];exact bh),getElem_append_left vx,getD_eq_getElem?_getD,getElem?_eq_getElem vx];rfl
    rw[e,he.rep _ _ (mod_lt _ he.pos)];exact(gR j bK).1 bh
   ·rw[(gR j bK).2 ku];have r7:j<c.size:=by rw[gN] at bK;exact bK
    have r:=g5 (j-l.length*k) (by omega) (by omega);have e1:l.length*k+(j-l.length*k)=j:=by omega
    simp only[e1] at r;rw[List.getElem_append_right (by rw[pK,hl];exact ku)];have e2:j-(l'.flatMap fO).length=j-l.length*k:=by rw[pK,hl]
    simp only[e2];exact r)
  (fun x hx=>by simp[putRowK,putRow,mapBlock,Array.getElem?_modify,Ne.symm hx]) (by simp[putRowK]) rfl rfl rfl (le_refl _)
 obtain⟨L',c3,N7⟩:=bN.grown os.toList yZ.1;rw[Array.toArray_toList] at c3 N7;have Rn:=yZ.2;rw[length_set] at Rn N7 ⊢;exact⟨L',c3,(N8.trans Rn).trans N7,fun j hj=>((N8.trans Rn).trans N7).bL j hj⟩
theorem Ju {ρ:Ren}(Ly:SlLaysF0.n6 P ρ)(aE:∀w,(isAgg (ρ.t 24)).run P w=.ok true w)(zE:∀w,(Go.sizeOf (ρ.t 24)).run P w=.ok k w)(he:Og enc fO k)(NV:vW=[])
  (cf:α→α→Int) (hO:SWO (ltOf cf)) (hT:∀x y,(ltOf cf) x y=false→(ltOf cf) y x=false→x=y) (g:FuncId) (Iq:∀x y,al P g [.agg (fO x),.agg (fO y)] [] [] (Is (.int .i64 (cf x y)) [] []))
  (Ip:∀xs w,(callFunc (ρ.f 6) xs).run P w=.ok (.enter (ρ.f 6) xs) w) (l:List α) (rest:List AV) (i cap:Nat) (hi:H[i]?=some (.cells (l.flatMap fO++rest))) (gN:l.length<4611686018427387904) :
  al P (ρ.f 6) [.dP i l.length cap,.fn g [] []] H T (Is (.cJ []) (H.set i (.cells ((l.mergeSort fun x y=>!(ltOf cf) y x).flatMap fO++rest))) T):=by
 refine⟨Ip,fun L w ca hc hl hr=>?_⟩;have e0:ca=#[.slice (some ⟨L.bL i,0,none⟩) l.length cap,.func (.func g) #[] #[]]∧i<H.length:=by
  obtain⟨cl⟩:=ca;have jQ:cl.length=2:=by simpa using hl
  match cl,jQ with
  |[a,b],_=>
   have r0:=hr 0 (by simp) (by simp);have r1:=hr 1 (by simp) (by simp);simp at r0 r1;obtain⟨rfl,_,bh⟩:=r0.iH
   cases r1 with
   |fn _ _ _ fv cv h1 h2=>
    have:fv=#[]:=Array.eq_empty_of_size_eq_zero (by simpa using h1);subst this;have:cv=#[]:=Array.eq_empty_of_size_eq_zero (by simpa using h2);subst this;exact⟨rfl,bh⟩
 obtain⟨rfl,cW⟩:=e0;have yE:∀x,∀L N T w,aZ L N T w (.agg (fO x)) (.agg (enc x).toArray):=fun x L N T w=>by
  refine .agg _ _ (by simp[he.len,he.yI]) (fun j hj=>?_) (fun j hj bK=>?_)
  ·exact he.one x _ (by simp)
  ·have Lq:j<k:=by rw[he.yI] at hj;exact hj
   have:=(he.rep x j Lq L N T w (enc x)[j]!).2 rfl;rw[getD_eq_getElem?_getD,getElem?_eq_getElem hj] at this;simp only[Option.getD_some] at this;have h':j<(enc x).length:=by rw[he.len];exact Lq
   rw[getElem!_pos (enc x) j h'] at this;simpa using this
 have fS:CmpLays P g #[] enc k cf (L.bL i) 0 l.toArray.size w:=by
  intro m os dk hs x y;have h1:=(Iq x y).grown (w:=sortWorldK enc k w (L.bL i) 0 m dk os) (ca:=#[.agg (enc x).toArray,.agg (enc y).toArray]++#[]) NV (by simp) (fun j hj bK=>by
   match j,hj with
   |0,_=>exact yE x _ _ _ _
   |1,_=>exact yE y _ _ _ _)
  refine h1.mono ?_;rintro e w' ⟨⟨cv,L',rfl,dF⟩,q,RH,hw⟩
  cases dF
  exact⟨rfl,q,RH,hw⟩
 have p6:=AnyQ.slices_SortFunc_total Ly k aE zE enc he.len he.one cf hO g #[] (L.bL i) 0 cap l.toArray w (Iq default default).1 fS (hc.Cu he hi) (hc.ml cW) (by simpa using gN) hT;simp only[List.size_toArray] at p6;refine p6.mono ?_;rintro e w' ⟨rfl,n,os,rfl⟩;obtain⟨L',jz,dU,_⟩:=hc.sorted (n:=n) (os:=os) (l':=l.mergeSort fun x y=>!(ltOf cf) y x) he hi (List.length_mergeSort _);exact⟨_,_,T,L',_,⟨rfl,rfl,rfl⟩,rfl,jz,.cJ [] #[] rfl (fun j hj=>by simp at hj),dU⟩
theorem Jw {ρ:Ren}(Ly:SlLaysF0.n6 P ρ)(g:FuncId)(Ip:∀xs w,(callFunc (ρ.f 6) xs).run P w=.ok (.enter (ρ.f 6) xs) w)(tg:Tag):al P (ρ.f 6) [.sl 0 [] tg,.fn g [] []] H T (Is (.cJ []) H T):=by
 refine⟨Ip,fun L w ca hc hl hr=>?_⟩;have e0:∃a cap fv,ca=#[.slice a 0 cap,fv]:=by
  obtain⟨cl⟩:=ca;have jQ:cl.length=2:=by simpa using hl
  match cl,jQ with
  |[a,b],_=>
   have r0:=hr 0 (by simp) (by simp);simp at r0;obtain⟨a,cap,rfl,_⟩:=r0.eS;exact⟨a,cap,b,rfl⟩
 obtain⟨a,cap,fv,rfl⟩:=e0;refine(AnyF.slices_SortFunc_none Ly a cap fv w).mono ?_;rintro e w' ⟨rfl,rfl⟩;exact⟨_,H,T,L,_,⟨rfl,rfl,rfl⟩,rfl,hc,.cJ [] #[] rfl (fun j hj=>by simp at hj),Ev.refl (le_refl _) (le_refl _)⟩
end
section
variable {P : Program} {f : FuncId} {args : List AV} {H : List aG} {T : ay}
theorem al.Kv {n:Nat}{cs:List AV}(hb:aL H.length T.length cs)
  (h:al P f args H T (fun r H' T'=>(∃G,H'=H++G)∧(∃rT,T'=T++rT)∧((n=0∧cs=[]∧∃tg,r=.sl 0 [] tg)∨∃i cap rest,r=.dP i n cap∧H.length≤i∧H'[i]?=some (.cells (cs++rest))))) :
  al P f args H T (Is (.sl n cs .none) H T):=by
 refine⟨h.1,fun L w ca hc hl hr=>(h.2 L w ca hc hl hr).mono ?_⟩;rintro e w' ⟨r',H',T',L',cv,⟨⟨G,e1⟩,⟨rT,e2⟩,o5⟩,rfl,cQ,dF,dU⟩;subst e1;subst e2;have qY:bN L' H T w':=bN.front P cQ hc.fC;have e1:=dU.front (le_refl _) (le_refl _);rcases o5 with⟨rfl,rfl,tg,rfl⟩|⟨i,cap,rest,rfl,hi,Pg⟩
 ·have:=(dF.cC).drop (n:=H.length) (t:=T.length) (by simp);exact⟨_,H,T,L',cv,⟨rfl,rfl,rfl⟩,rfl,qY,by simpa using this,e1⟩
 ·obtain⟨rfl,bV,bh⟩:=dF.iH;have pf:=cQ.box i _ Pg;have Mi:=pf.lt;obtain⟨c,t,fr,g1,g2,g3,vw,g4,g5⟩:=pf;have BH:¬Wr L' H.length T (L'.bL i):=by
   rintro (⟨j,hj,e⟩|⟨t,u,z,ht,hs,e⟩)
   ·have:=cQ.inj j i (by rw[length_append];omega) bh e;omega
   ·exact cQ.je t u z i (by rw[List.getElem?_append_left (List.getElem?_eq_some_iff.1 ht).1];exact ht) hs bh e
  have lZ:=qY.Ax (k:=cs.length) Mi BH (by omega);have kp:dd L' H.length T w' (L'.bJ (L'.bL i) cs.length) H.length T w':=by
   refine⟨le_refl _,fun _ _=>rfl,fun t u z h=>⟨u,h,le_refl _,fun _=>rfl⟩,fun x=>?_,fun _ _ _=>rfl,rfl⟩;show L'.m x≤if x=L'.bL i then cs.length else L'.m x
   split
   ·rename_i e;rw[e,g5];exact zero_le _
   ·exact le_refl _
  rw[length_append] at g3;refine⟨_,H,T,L'.bJ (L'.bL i) cs.length,_,⟨rfl,rfl,rfl⟩,rfl,lZ,?_,?_⟩
  ·have O5:bW L' H.length T w' cs (c.toList.take cs.length):=by
    refine⟨by simp;omega,fun j hj=>?_,fun j hj bK=>?_⟩
    ·have r7:j<c.size:=by simp at hj;omega
     have:=vw j r7;rw[List.getElem_take,Array.getElem_toList];exact this
    ·have r7:j<c.size:=by omega
     have:=(g4 j (by rw[length_append];omega) r7)
     rw[getElem_append_left hj] at this;have:=this.drop (n:=H.length) (t:=T.length) (hb _ (getElem_mem hj));rw[List.getElem_take,Array.getElem_toList];simpa using this
   refine aZ.jW bV ?_ (O5.keep kp) (fun j hj=>?_) trivial
   ·show 0+cs.length≤if L'.bL i=L'.bL i then cs.length else _
    rw[if_pos rfl];omega
   ·rw[fi g1,zero_add,List.getElem?_take,if_pos hj];simp
  ·exact⟨e1.n,e1.bL,e1.tok,e1.t,fun b=>Nat.le_trans (e1.m b) (kp.m b),e1.qZ,e1.size,e1.frame,e1.wr,e1.os,e1.tape,e1.output,e1.drawn,e1.dr⟩
end
def Plain (v:AV):Prop:=∀L N T w c L' N' T' w',aZ L N T w v c→aZ L' N' T' w' v c
theorem Plain.int (k:IntKind)(n:Int):Plain (.int k n):=fun L N T w c L' N' T' w' h=>by cases h;exact .int k n
theorem Plain.str (s:List UInt8):Plain (.str s):=fun L N T w c L' N' T' w' h=>by cases h;exact .str s
theorem Plain.top:Plain .top:=fun L N T w c L' N' T' w' h=>.top c
def Vis (row HB:List AV):Prop:=HB.length=row.length∧∀j,j<row.length→HB.getD j .top=.top∨(HB.getD j .top=row.getD j .top∧Plain (row.getD j .top))
section
variable {P : Program} {L : Lay} {H : List aG} {T : ay} {w : World} {k : Nat}
theorem uU {κ:Type}(hp:0<k):∀(rows:List (κ×List AV)) (hk:∀x∈rows,x.2.length=k) (t:Nat) (h:t / k<rows.length),(rows.flatMap (·.2)).getD t .top=(rows[t / k]'h).2.getD (t % k) .top
 |[],_,t,h=>by simp at h
 |x::r,hk,t,h=>by
  have hx:=hk x (by simp);rw[flatMap_cons]
  by_cases bh:t<k
  ·have e1:=Nat.div_eq_of_lt bh;have e2:=Nat.mod_eq_of_lt bh;simp only[getD_eq_getElem?_getD,e1,e2];rw[List.getElem?_append_left (by rw[hx];exact bh)];rfl
  ·have e1:=Nat.div_eq_sub_div hp (by omega:k≤t);have e2:=Nat.mod_eq_sub_mod (by omega:k≤t);have hr:(t-k) / k<r.length:=by rw[e1] at h;simpa using h
   have ih:=uU hp r (fun y hy=>hk y (by simp[hy])) (t-k) hr;simp only[getD_eq_getElem?_getD] at ih ⊢;rw[List.getElem?_append_right (by rw[hx];omega),hx,ih];simp only[e1,e2,List.getElem_cons_succ]
theorem rU {κ:Type}:∀(rows:List (κ×List AV)) (hk:∀x∈rows,x.2.length=k),(rows.flatMap (·.2)).length=rows.length*k
 |[],_=>by simp
 |x::r,hk=>by rw[flatMap_cons,length_append,rU r (fun y hy=>hk y (by simp[hy])),hk x (by simp),length_cons,add_mul,one_mul];omega
theorem Jt {ρ : Ren} (Ly : SlLaysF0.n6 P ρ) (aE : ∀ w, (isAgg (ρ.t 24)).run P w = .ok true w) (zE : ∀ w, (Go.sizeOf (ρ.t 24)).run P w = .ok k w) (hp : 0 < k) (NV : vW = []) {κ : Type} (HB : κ → List AV)
    (cf : κ → κ → Int) (hO : SWO (ltOf cf)) (g : FuncId)
    (Ip : ∀ xs w, (callFunc (ρ.f 6) xs).run P w = .ok (.enter (ρ.f 6) xs) w) (rows : List (κ × List AV)) (dW : rows ≠ []) (hk : ∀ x ∈ rows, x.2.length = k) (hv : ∀ x ∈ rows, Vis x.2 (HB x.1))
    (hT : rows.Pairwise fun x y => ltOf cf x.1 y.1 = true ∨ ltOf cf y.1 x.1 = true)
    (Iq : ∀ x ∈ rows, ∀ y ∈ rows, al P g [.agg (HB x.1), .agg (HB y.1)] [] [] (Is (.int .i64 (cf x.1 y.1)) [] []))
    (rest : List AV) (i cap : Nat) (hi : H[i]? = some (.cells (rows.flatMap (·.2) ++ rest))) (gN : rows.length < 4611686018427387904) :
    al P (ρ.f 6) [.dP i rows.length cap, .fn g [] []] H T (Is (.cJ []) (H.set i (.cells ((rows.mergeSort fun x y => !(ltOf cf) y.1 x.1).flatMap (·.2) ++ rest))) T) := by
  refine ⟨Ip, fun L w ca hc hl hr => ?_⟩;have e0 : ca = #[.slice (some ⟨L.bL i, 0, none⟩) rows.length cap, .func (.func g) #[] #[]] ∧ i < H.length := by
    obtain ⟨cl⟩ := ca;have jQ : cl.length = 2 := by simpa using hl
    match cl, jQ with
    | [a, b], _ =>
      have r0 := hr 0 (by simp) (by simp)
      have r1 := hr 1 (by simp) (by simp)
      simp at r0 r1
      obtain ⟨rfl, _, bh⟩ := r0.iH
      cases r1 with
      | fn _ _ _ fv cv h1 h2 =>
        have : fv = #[] := Array.eq_empty_of_size_eq_zero (by simpa using h1)
        subst this
        have : cv = #[] := Array.eq_empty_of_size_eq_zero (by simpa using h2)
        subst this
        exact ⟨rfl, bh⟩
  obtain ⟨rfl, cW⟩ := e0;obtain ⟨c, ty, fr, g1, g2, g3, vw, g4, g5⟩ := hc.box i _ hi;have pK := rU rows hk;rw [length_append, pK] at g3;have DK : 0 < rows.length := List.length_pos_iff.2 dW;generalize hn : rows.length = n at *;have Ls : ∀ (x : Fin n) (j : Nat), j < k → x.val * k + j < n * k := fun x j hj => by
    have : (x.val + 1) * k ≤ n * k := Nat.mul_le_mul_right k x.isLt;rw [add_mul, one_mul] at this;omega
  letI : Inhabited (Fin n) := ⟨⟨0, DK⟩⟩
  let enc : Fin n → List Value := fun x => (List.range k).map fun j => c[x.val * k + j]!
  have Iw : ∀ x, (enc x).length = k := fun x => by simp [enc]
  have Ro : ∀ (x : Fin n) (j : Nat), j < k → (enc x)[j]! = c[x.val * k + j]! := fun x j hj => by
    have h' : j < (enc x).length := by rw [Iw]; exact hj
    rw [getElem!_pos (enc x) j h'];simp [enc]
  have P6 : ∀ x, ∀ v ∈ enc x, v.oneCell' = true := fun x v hv => by
    obtain ⟨j, hj, rfl⟩ := List.mem_map.1 hv;have bK := Ls x j (List.mem_range.1 hj);rw [getElem!_pos c _ (by omega)];exact vw _ _
  have tW : ∀ (x : Fin n) (j : Nat), j < k → ∀ h : x.val * k + j < (rows.flatMap (·.2) ++ rest).length, (rows.flatMap (·.2) ++ rest)[x.val * k + j]'h = (rows[x.val]'(by rw [hn]; exact x.isLt)).2.getD j .top := fun x j hj h => by
    have bK := Ls x j hj;have e1 : (x.val * k + j) / k = x.val := by rw [mul_comm, Nat.mul_add_div hp, Nat.div_eq_of_lt hj]; omega
    have e2 : (x.val * k + j) % k = j := by rw [mul_comm, Nat.mul_add_mod, Nat.mod_eq_of_lt hj]
    have := uU hp rows hk (x.val * k + j) (by rw [e1, hn]; exact x.isLt);simp only [e1, e2] at this;rw [getElem_append_left (by rw [pK]; exact bK), ← this, getD_eq_getElem?_getD, getElem?_eq_getElem (by rw [pK]; exact bK)];rfl
  have Tr : ∀ (x : Fin n) (j : Nat), j < k → aZ L H.length T w ((rows[x.val]'(by rw [hn]; exact x.isLt)).2.getD j .top) ((enc x)[j]!) := fun x j hj => by
    have bK := Ls x j hj;rw [Ro x j hj, getElem!_pos c _ (by omega), ← tW x j hj (by rw [length_append, pK]; omega)];exact g4 _ _ _
  let H7 : Fin n → Fin n → Int := fun x y => cf (rows[x.val]'(by rw [hn]; exact x.isLt)).1 (rows[y.val]'(by rw [hn]; exact y.isLt)).1
  have hO' : SWO (ltOf H7) := ⟨fun x => hO.1 _, fun x y z h1 h2 => hO.2 _ _ _ h1 h2, fun x y z h1 h2 => hO.3 _ _ _ h1 h2⟩
  have Z8 : ∀ x y, (ltOf H7) x y = false → (ltOf H7) y x = false → x = y := fun x y h1 h2 => by
    rw [List.pairwise_iff_getElem] at hT;rcases Nat.lt_trichotomy x.val y.val with e | e | e
    · rcases hT x.val y.val (by rw [hn]; exact x.isLt) (by rw [hn]; exact y.isLt) e with h | h
      · have : ltOf H7 x y = true := h;rw [h1] at this; cases this
      · have : ltOf H7 y x = true := h;rw [h2] at this; cases this
    · exact Fin.ext e
    · rcases hT y.val x.val (by rw [hn]; exact y.isLt) (by rw [hn]; exact x.isLt) e with h | h
      · have : ltOf H7 y x = true := h;rw [h2] at this; cases this
      · have : ltOf H7 x y = true := h;rw [h1] at this; cases this
  have yE : ∀ (x : Fin n) L' N' T' w', aZ L' N' T' w' (.agg (HB (rows[x.val]'(by rw [hn]; exact x.isLt)).1)) (.agg (enc x).toArray) := fun x L' N' T' w' => by
    have hx : (rows[x.val]'(by rw [hn]; exact x.isLt)) ∈ rows := getElem_mem _;obtain ⟨v1, v2⟩ := hv _ hx;have ZS := hk _ hx;refine .agg _ _ (by simp [Iw, v1, ZS]) (fun j hj => ?_) (fun j hj bK => ?_)
    · exact P6 x _ (by simp)
    · have Lq : j < k := by rw [v1, ZS] at hj; exact hj
      have r := Tr x j Lq;have h' : j < (enc x).length := by rw [Iw]; exact Lq
      rw [getElem!_pos (enc x) j h'] at r;have e : (HB (rows[x.val]'(by rw [hn]; exact x.isLt)).1)[j]'hj = (HB (rows[x.val]'(by rw [hn]; exact x.isLt)).1).getD j .top := by
        rw [getD_eq_getElem?_getD, getElem?_eq_getElem hj]; rfl
      rw [e];rcases v2 j (by rw [ZS]; exact Lq) with q | ⟨q1, q2⟩
      · rw [q]; exact .top _
      · rw [q1]; simpa using q2 _ _ _ _ _ L' N' T' w' r
  have DG : (List.finRange n).toArray.size = n := by simp
  have fS : CmpLays P g #[] enc k H7 (L.bL i) 0 (List.finRange n).toArray.size w := by
    intro m os dk hs x y;have h1 := (Iq _ (getElem_mem _) _ (getElem_mem _) : al P g [.agg (HB (rows[x.val]'(by rw [hn]; exact x.isLt)).1), .agg (HB (rows[y.val]'(by rw [hn]; exact y.isLt)).1)] [] [] _).grown (w := sortWorldK enc k w (L.bL i) 0 m dk os) (ca := #[.agg (enc x).toArray, .agg (enc y).toArray] ++ #[]) NV (by simp) (fun j hj bK => by
      match j, hj with
      | 0, _ => exact yE x _ _ _ _
      | 1, _ => exact yE y _ _ _ _)
    refine h1.mono ?_;rintro e w' ⟨⟨cv, L', rfl, dF⟩, q, RH, hw⟩
    cases dF
    exact ⟨rfl, q, RH, hw⟩
  have Qy : HoldsK enc k w (L.bL i) 0 (List.finRange n).toArray := by
    intro j hj;rw [size_flatK] at hj;have hj : j < n * k := by simpa using hj
    have r7 : j < c.size := by omega
    have hq : j / k < n := div_lt_of_lt_mul (by rw [mul_comm]; exact hj);rw [zero_add];refine ⟨?_, ?_⟩
    · rw [fi g1, Array.getElem?_eq_getElem r7, get_flatK _ _ _ _ (by simpa using hj)];have e1 : (List.finRange n).toArray[j / k]! = ⟨j / k, hq⟩ := by
        rw [getElem!_pos _ _ (by simpa using hq)]; simp
      rw [e1, Ro _ _ (mod_lt _ hp)];have e2 : j / k * k + j % k = j := by rw [mul_comm]; exact Nat.div_add_mod j k
      simp only [e2];rw [getElem!_pos c _ r7];rfl
    · obtain ⟨lo, et⟩ := fr;unfold World.frozen?;simp only [g1];exact g2 j r7
  have p6 := AnyQ.slices_SortFunc_total Ly k aE zE enc Iw P6 H7 hO' g #[] (L.bL i) 0 cap (List.finRange n).toArray w (Iq _ (getElem_mem (by rw [hn]; exact DK)) _ (getElem_mem (by rw [hn]; exact DK))).1 fS Qy (hc.ml cW) (by simpa using gN) Z8;simp only [DG] at p6;refine p6.mono ?_;rintro e w' ⟨rfl, nd, os, rfl⟩;generalize oM : (List.finRange n).mergeSort (fun x y => !(ltOf H7) y x) = l';have si : l'.length = n := by rw [← oM, List.length_mergeSort]; simp
  have Qu : l'.map (fun x => rows[x.val]'(by rw [hn]; exact x.isLt)) = rows.mergeSort fun x y => !(ltOf cf) y.1 x.1 := by
    have e1 : (List.finRange n).map (fun x => rows[x.val]'(by rw [hn]; exact x.isLt)) = rows := by
      apply List.ext_getElem
      · simp [hn]
      · intro j h1 h2; simp
    have e2 := List.map_mergeSort (r := fun x y => !(ltOf H7) y x) (s := fun (x y : κ × List AV) => !(ltOf cf) y.1 x.1) (f := fun x : Fin n => rows[x.val]'(by rw [hn]; exact x.isLt)) (l := List.finRange n) (fun a _ b _ => rfl);rw [← oM, e2, e1]
  have mL : ∀ x ∈ rows.mergeSort (fun x y => !(ltOf cf) y.1 x.1), x.2.length = k := fun x hx => hk x ((List.mergeSort_perm _ _).mem_iff.1 hx);rw [← Qu] at mL ⊢;have Fz := rU _ mL;rw [List.length_map, si] at Fz;have h1 : bN L H T (Sort.ahead w nd) := hc.drew rfl;have N8 : Ev H.length T.length L H.length T w L H.length T (Sort.ahead w nd) := Ev.drew rfl rfl rfl rfl (Nat.le_add_right _ _);have PH : (putCells id 0 (flatK enc k l'.toArray) c).size = c.size := by simp [putCells]
  have gR : ∀ (j : Nat) (h' : j < (putCells id 0 (flatK enc k l'.toArray) c).size), (∀ hj : j < n * k, (putCells id 0 (flatK enc k l'.toArray) c)[j]'h' = (enc (l'[j / k]'(by rw [si]; exact div_lt_of_lt_mul (by rw [mul_comm]; exact hj))))[j % k]!) ∧
      (n * k ≤ j → (putCells id 0 (flatK enc k l'.toArray) c)[j]'h' = c[j]'(by rw [PH] at h'; exact h')) := by
    intro j h';refine ⟨fun hj => ?_, fun hj => ?_⟩
    · have hq : j / k < l'.length := by rw [si]; exact div_lt_of_lt_mul (by rw [mul_comm]; exact hj)
      simp only [putCells, Array.getElem_mapIdx];rw [if_pos ⟨zero_le _, by rw [size_flatK]; simp [si]; exact hj⟩, Nat.sub_zero, get_flatK _ _ _ _ (by simpa [si] using hj)];have e1 : l'.toArray[j / k]! = l'[j / k]'hq := by
        rw [getElem!_pos _ _ (by simpa using hq)]; simp
      rw [e1]; rfl
    · simp only [putCells, Array.getElem_mapIdx];rw [if_neg (by rw [size_flatK]; simp [si]; omega)]
  have PR : ∀ (j : Nat) (h' : j < (putCells id 0 (flatK enc k l'.toArray) c).size), ((putCells id 0 (flatK enc k l'.toArray) c)[j]'h').oneCell' = true := by
    intro j h';rcases lt_or_ge j (n * k) with hj | hj
    · rw [(gR j h').1 hj];have hm : j % k < (enc (l'[j / k]'(by rw [si]; exact div_lt_of_lt_mul (by rw [mul_comm]; exact hj)))).length := by rw [Iw]; exact mod_lt _ hp
      rw [getElem!_pos _ (j % k) hm];exact P6 _ _ (getElem_mem hm)
    · rw [(gR j h').2 hj]; exact vw _ _
  have yZ := h1.SZ (w' := putRowK enc k (Sort.ahead w nd) (L.bL i) 0 l'.toArray) (vs' := (l'.map (fun x => rows[x.val]'(by rw [hn]; exact x.isLt))).flatMap (·.2) ++ rest) (c' := putCells id 0 (flatK enc k l'.toArray) c) (t := ty) (fr := fr) hi g1
    (by simp only [putRowK, putRow, mapBlock, Array.getElem?_modify, if_true]; rw [show (Sort.ahead w nd).heap = w.heap from rfl, g1]; rfl) PH (by rw [length_append, length_append, pK, Fz]) PR
    (fun j hj bK => by
      rcases lt_or_ge j (n * k) with bh | ku
      · have hq : j / k < l'.length := by rw [si]; exact div_lt_of_lt_mul (by rw [mul_comm]; exact bh)
        have e : ((l'.map (fun x => rows[x.val]'(by rw [hn]; exact x.isLt))).flatMap (·.2) ++ rest)[j]'hj = (rows[(l'[j / k]'hq).val]'(by rw [hn]; exact (l'[j / k]'hq).isLt)).2.getD (j % k) .top := by
          have := uU hp _ mL j (by rw [List.length_map]; exact hq);simp only [List.getElem_map] at this;rw [getElem_append_left (by rw [Fz]; exact bh), ← this, getD_eq_getElem?_getD, getElem?_eq_getElem (by rw [Fz]; exact bh)];rfl
        rw [e, (gR j bK).1 bh];exact (Tr _ _ (mod_lt _ hp)).keep N8.keeps
      · rw [(gR j bK).2 ku];have r7 : j < c.size := by rw [PH] at bK; exact bK
        have r := g4 j (by rw [length_append, pK]; omega) r7;have e1 : (rows.flatMap (·.2) ++ rest)[j]'(by rw [length_append, pK]; omega) = rest[j - n * k]'(by omega) := by
          rw [List.getElem_append_right (by rw [pK]; exact ku)]
          congr 1; rw [pK]
        have e2 : ((l'.map (fun x => rows[x.val]'(by rw [hn]; exact x.isLt))).flatMap (·.2) ++ rest)[j]'hj = rest[j - n * k]'(by omega) := by
          rw [List.getElem_append_right (by rw [Fz]; exact ku)]
          congr 1; rw [Fz]
        rw [e2, ← e1];exact r.keep N8.keeps)
    (fun x hx => by simp [putRowK, putRow, mapBlock, Array.getElem?_modify, Ne.symm hx]) (by simp [putRowK]) rfl rfl rfl (le_refl _)
  obtain ⟨L', c3, N7⟩ := bN.grown os.toList yZ.1;rw [Array.toArray_toList] at c3 N7;have Rn := yZ.2;rw [length_set] at Rn N7;refine ⟨_, _, T, L', _, ⟨rfl, rfl, rfl⟩, rfl, c3, .cJ [] #[] rfl (fun j hj => by simp at hj), ?_⟩;rw [length_set];exact (N8.trans Rn).trans N7
end
end Go.Am
