/- Blocks behind the heap, a box whose cells are written anew, and what a call that makes nothing leaves: for contracts that speak of worlds. Sorting a box that holds structs, by the library's contract. Sorting a box whose rows hold cells that the test does not look at, by the library's contract; the keys are different.
  Conditions: none; it speaks of every program. -/
import Derived.Sort.Grow
import Derived.Deep.Draws
import Derived.Test.YtneohapkboaplaaGreatAmC
import Derived.Shelf.SlSortCmp.NoneTotal
set_option linter.all false
open Nat (le_refl mul_comm mod_lt div_lt_of_lt_mul add_mul one_mul lt_or_ge zero_add zero_le)
open List (length_append getD_eq_getElem?_getD getElem_mem getElem?_eq_getElem getElem_append_left length_set flatMap_cons length_cons)
namespace Go.Am
open Go Go.Sort
section
variable {P : Program} {f : FuncId} {args : List AV} {H : List aA} {T : ar}
theorem HS (w:World)(l:List Obj)(o:Obj):Sort.grow w (o::l).toArray=Sort.grow (w.alloc o) l.toArray:=by
 unfold Sort.grow World.alloc
 congr 1
 apply Array.ext';simp
theorem bT.grown:∀(l:List Obj) {L:Lay} {w:World},bT L H T w→∃L',bT L' H T (Sort.grow w l.toArray)∧Ev H.length T.length L H.length T w L' H.length T (Sort.grow w l.toArray)
 |[],L,w,h=>by
  have e:Sort.grow w ([]:List Obj).toArray=w:=Sort.grow_empty w;rw[e];exact⟨L,h,Ev.refl (le_refl _) (le_refl _)⟩
 |o::l,L,w,h=>by
  obtain⟨L',h1,h2⟩:=bT.grown l (h.alloc o 0);rw[HS];exact⟨L',h1,(Ev.alloc h o 0).trans h2⟩
theorem bT.Th {L:Lay}{w w':World}(h:bT L H T w){i:Nat}{vs vs':List AV}{c c':Array Value}{t:TypeId}{fr:Nat×Nat}(hi:H[i]?=some (.cells vs))(hb:w.heap[L.bN i]?=some (.cells c t fr))
  (vN:w'.heap[L.bN i]?=some (.cells c' t fr)) (hc:c'.size=c.size) (hl:vs'.length=vs.length) (h1:∀(j:Nat)(h':j<c'.size),(c'[j]'h').oneCell'=true)
  (hr:∀(j:Nat)(h:j<vs'.length)(h':j<c'.size),bc L H.length T w (vs'[j]'h) (c'[j]'h'))
  (dA:∀x,x≠L.bN i→w'.heap[x]?=w.heap[x]?) (hz:w'.heap.size=w.heap.size) (ho:w'.os=w.os) (Sq:w'.tape=w.tape) (yp:w'.output=w.output) (oH:w.drawn≤w'.drawn) :
  bT L (H.set i (.cells vs')) T w'∧Ev H.length T.length L H.length T w L (H.set i (.cells vs')).length T w':=by
 have cC:=(List.getElem?_eq_some_iff.1 hi).1;obtain⟨c0,t0,fr0,g1,g2,g3,vO,g4,g5⟩:=h.box i _ hi;rw[hb] at g1
 cases g1
 have qq:∀b o',o'<L.m b→w'.cell? ⟨b,o',none⟩=w.cell? ⟨b,o',none⟩:=by
  intro b o' aZ;refine gW (dA _ ?_) o';rintro rfl;omega
 have kp:cS L H.length T w L H.length T w':=
  ⟨le_refl _,fun _ _=>rfl,fun t u z h=>⟨u,h,le_refl _,fun _=>rfl⟩,fun _=>le_refl _,qq,rfl⟩
 refine⟨⟨fun j b hb=>?_,fun a b ha hb=>h.inj a b (by simpa using ha) (by simpa using hb),fun t u z ht=>?_,h.nH,fun t u z j ht hs hj=>h.jv t u z j ht hs (by simpa using hj),fun b hb=>h.mz b (by omega),h.gl.keep kp.m kp.rz⟩,
  by simp,fun _ _=>rfl,fun t u z _ h=>⟨u,h,le_refl _,fun _=>rfl⟩,le_refl _,fun _=>le_refl _,qq,by omega,fun b hb hn=>?_,fun b hb=>.inl (by simpa using hb),ho,Sq,yp,fun _=>oH,rfl⟩
 ·rw[length_set]
  by_cases sZ:i=j
  ·subst sZ;rw[List.getElem?_set_self cC] at hb
   cases hb
   exact⟨c',t,fr,vN,fun o ho=>g2 o (by omega),by omega,h1,fun j hj bR=>(hr j hj bR).keep kp,g5⟩
  ·rw[List.getElem?_set_ne sZ] at hb;have hx:=h.box j b hb;have ph:=(List.getElem?_eq_some_iff.1 hb).1;have hnp:L.bN j≠L.bN i:=fun e=>sZ (h.inj j i ph cC e).symm;exact hx.stay kp ph (dA _ hnp) id
 ·obtain⟨k1,k2⟩:=h.tok t u z ht;refine⟨k1,fun hs=>?_⟩;rw[dA _ (h.jv t u z i ht hs cC)];exact k2 hs
 ·exact dA _ (fun e=>hn (.inl ⟨i,cC,e.symm⟩))
theorem aq.grown {r:AV}{w:World}{ca:Array Value}(h:aq P f args [] [] (Is r [] []))(hg:wQ=[])(hs:ca.size=args.length)
  (hr:∀(j:Nat)(h:j<args.length)(h':j<ca.size),bc (ui w) 0 [] w (args[j]'h) (ca[j]'h')) :
  Calls P f ca w fun e w'=>(∃cv L',e=.returned cv∧bc L' 0 [] w' r cv)∧∃q Sc,w'=Sort.grow (w.drewN q) Sc:=by
 refine(h.2 (ui w) w ca (TP w (by rw[hg];intro x hx;cases hx)) hs hr).mono ?_;rintro e w' ⟨r',H',T',L',cv,⟨rfl,rfl,rfl⟩,rfl,_,dI,dP⟩;refine⟨⟨cv,L',rfl,dI⟩,w'.drawn-w.drawn,w'.heap.extract w.heap.size w'.heap.size,?_⟩;have hd:=dP.drawn rfl;have iQ:=dP.size;have hh:w'.heap=w.heap++w'.heap.extract w.heap.size w'.heap.size:=by
  apply Array.ext_getElem?;intro k
  by_cases hk:k<w.heap.size
  ·rw[Array.getElem?_append_left hk];exact dP.frame k hk (fun hw=>by
    rcases hw with⟨i,hi,_⟩|⟨t,u,z,ht,_⟩
    ·exact Nat.not_lt_zero _ hi
    ·simp at ht)
  ·rw[Array.getElem?_append_right (by omega)];rw[Array.getElem?_extract]
   by_cases dg:k<w'.heap.size
   ·rw[if_pos (by omega)]
    congr 1
    omega
   ·rw[Array.getElem?_eq_none (by omega),if_neg (by omega)]
 unfold Sort.grow World.drewN;have e1:=dP.os;have e2:=dP.tape;have e3:=dP.output
 cases w' with
 |mk heap tape drawn os output=>
  simp only at *;subst e1;subst e2;subst e3;simp only[World.mk.injEq];refine⟨hh,trivial,by omega,trivial,trivial⟩
end
open Go.Proofs Go.Shelf Go.RowKit
structure OO {α:Type}(enc:α→List Value)(gp:α→List AV)(k:Nat):Prop where
 pos:0<k
 len:∀x,(enc x).length=k
 zH:∀x,(gp x).length=k
 one:∀x,∀v∈enc x,v.oneCell'=true
 rep:∀x (j:Nat),j<k→∀L N T w v,bc L N T w ((gp x).getD j .top) v↔v=(enc x)[j]!
theorem sb {α:Type}{enc:α→List Value}{gp:α→List AV}{k:Nat}(he:OO enc gp k)(l:List α):(l.flatMap gp).length=l.length*k:=by
 induction l with
 |nil=>simp
 |cons x r ih=>rw[flatMap_cons,length_append,ih,he.zH,length_cons,add_mul,one_mul];omega
section
variable {α : Type} [Inhabited α] {enc : α → List Value} {gp : α → List AV} {k : Nat}
theorem u7 (he:OO enc gp k):∀(l:List α)(t:Nat),t<l.length*k→(l.flatMap gp).getD t .top=(gp (l[t / k]!)).getD (t % k) .top
 |[],t,h=>by simp at h
 |x::r,t,h=>by
  rw[flatMap_cons]
  by_cases aZ:t<k
  ·rw[Nat.div_eq_of_lt aZ,Nat.mod_eq_of_lt aZ];simp only[getD_eq_getElem?_getD];rw[List.getElem?_append_left (by rw[he.zH];exact aZ)];simp
  ·rw[length_cons,add_mul,one_mul] at h;have ih:=u7 he r (t-k) (by omega);rw[Nat.div_eq_sub_div he.pos (by omega),Nat.mod_eq_sub_mod (by omega)];simp only[getD_eq_getElem?_getD] at ih ⊢;rw[List.getElem?_append_right (by rw[he.zH];omega),he.zH,ih];simp
variable {P : Program} {L : Lay} {H : List aA} {T : ar} {w : World}
theorem bT.Fq {i:Nat}{l:List α}{rest:List AV}(he:OO enc gp k)(h:bT L H T w)(hi:H[i]?=some (.cells (l.flatMap gp++rest))) :
  ∃c t fr,w.heap[L.bN i]?=some (.cells c t fr)∧(∀o,o<c.size→(fr.1≤o&&o<fr.2)=false)∧c.size=l.length*k+rest.length∧(∀(j:Nat)(h':j<c.size),(c[j]'h').oneCell'=true)∧
   (∀(j:Nat)(h':j<c.size),j<l.length*k→c[j]'h'=(enc (l[j / k]!))[j % k]!)∧
   (∀(j:Nat)(h':j<rest.length)(h'':l.length*k+j<c.size),bc L H.length T w (rest[j]'h') (c[l.length*k+j]'h'')):=by
 obtain⟨c,t,fr,g1,g2,g3,vO,g4,g5⟩:=h.box i _ hi;have hf:=sb he l;rw[length_append,hf] at g3;refine⟨c,t,fr,g1,g2,g3,vO,fun j so hj=>?_,fun j hj so=>?_⟩
 ·have ph:j<(l.flatMap gp++rest).length:=by rw[length_append];omega
  have r:=g4 j ph so;have e:(l.flatMap gp++rest)[j]'ph=(gp (l[j / k]!)).getD (j % k) .top:=by
   have bR:j<(l.flatMap gp).length:=by omega
   rw[←u7 he l j hj,getElem_append_left bR,getD_eq_getElem?_getD,getElem?_eq_getElem bR];rfl
  rw[e,he.rep _ _ (mod_lt _ he.pos)] at r;exact r
 ·have ph:l.length*k+j<(l.flatMap gp++rest).length:=by rw[length_append];omega
  have r:=g4 _ ph so;rw[List.getElem_append_right (by omega)] at r;have e:l.length*k+j-(l.flatMap gp).length=j:=by omega
  simp only[e] at r;exact r
theorem bT.C4 {i:Nat}{l:List α}{rest:List AV}(he:OO enc gp k)(h:bT L H T w)(hi:H[i]?=some (.cells (l.flatMap gp++rest))):HoldsK enc k w (L.bN i) 0 l.toArray:=by
 obtain⟨c,t,fr,g1,g2,g3,_,g4,_⟩:=h.Fq he hi;intro j hj;rw[size_flatK] at hj;have hj:j<l.length*k:=by simpa using hj
 have so:j<c.size:=by omega
 rw[zero_add];refine⟨?_,?_⟩
 ·rw[fo g1,Array.getElem?_eq_getElem so,g4 j so hj,get_flatK _ _ _ _ (by simpa using hj)];simp
 ·obtain⟨lo,gX⟩:=fr;unfold World.frozen?;simp only[g1];exact g2 j so
theorem bT.sorted {i n:Nat}{l l':List α}{rest:List AV}{os:Array Obj}(he:OO enc gp k)(h:bT L H T w)(hi:H[i]?=some (.cells (l.flatMap gp++rest)))(hl:l'.length=l.length) :
  ∃L',bT L' (H.set i (.cells (l'.flatMap gp++rest))) T (sortWorldK enc k w (L.bN i) 0 n l'.toArray os)∧
   Ev H.length T.length L H.length T w L' (H.set i (.cells (l'.flatMap gp++rest))).length T (sortWorldK enc k w (L.bN i) 0 n l'.toArray os)∧∀j,j<H.length→L'.bN j=L.bN j:=by
 have h1:bT L H T (Sort.ahead w n):=h.drew rfl;have wK:Ev H.length T.length L H.length T w L H.length T (Sort.ahead w n):=Ev.drew rfl rfl rfl rfl (Nat.le_add_right _ _);obtain⟨c,t,fr,g1,g2,g3,vO,g4,g5⟩:=h1.Fq he hi;have iQ:(putCells id 0 (flatK enc k l'.toArray) c).size=c.size:=by simp[putCells]
 have oG:=sb he l';have fP:∀(j:Nat) (h':j<(putCells id 0 (flatK enc k l'.toArray) c).size),(j<l.length*k→(putCells id 0 (flatK enc k l'.toArray) c)[j]'h'=(enc (l'[j / k]!))[j % k]!)∧
   (l.length*k≤j→(putCells id 0 (flatK enc k l'.toArray) c)[j]'h'=c[j]'(by rw[iQ] at h';exact h')):=by
  intro j h';refine⟨fun hj=>?_,fun hj=>?_⟩
  ·simp only[putCells,Array.getElem_mapIdx];rw[if_pos ⟨zero_le _,by rw[size_flatK];simp[hl];exact hj⟩,Nat.sub_zero,get_flatK _ _ _ _ (by simpa[hl] using hj)];simp
  ·simp only[putCells,Array.getElem_mapIdx];rw[if_neg (by rw[size_flatK];simp[hl];omega)]
 have Qc:∀(j:Nat) (h':j<(putCells id 0 (flatK enc k l'.toArray) c).size),((putCells id 0 (flatK enc k l'.toArray) c)[j]'h').oneCell'=true:=by
  intro j h';rcases lt_or_ge j (l.length*k) with hj|hj
  ·rw[(fP j h').1 hj];have hm:j % k<(enc (l'[j / k]!)).length:=by rw[he.len];exact mod_lt _ he.pos
   rw[getElem!_pos (enc (l'[j / k]!)) (j % k) hm];exact he.one _ _ (getElem_mem hm)
  ·rw[(fP j h').2 hj];exact vO _ _
 have z6:=h1.Th (w':=putRowK enc k (Sort.ahead w n) (L.bN i) 0 l'.toArray) (vs':=l'.flatMap gp++rest) (c':=putCells id 0 (flatK enc k l'.toArray) c) (t:=t) (fr:=fr) hi g1
  (by simp only[putRowK,putRow,mapBlock,Array.getElem?_modify,if_true];rw[g1];rfl) iQ (by rw[length_append,length_append,oG,sb he,hl]) Qc
  (fun j hj bR=>by
   rcases lt_or_ge j (l.length*k) with aZ|jE
   ·have vW:j<(l'.flatMap gp).length:=by rw[oG,hl];exact aZ
    have e:(l'.flatMap gp++rest)[j]'hj=(gp (l'[j / k]!)).getD (j % k) .top:=by
     rw[←u7 he l' j (by rw[hl];exact aZ),getElem_append_left vW,getD_eq_getElem?_getD,getElem?_eq_getElem vW];rfl
    rw[e,he.rep _ _ (mod_lt _ he.pos)];exact(fP j bR).1 aZ
   ·rw[(fP j bR).2 jE];have so:j<c.size:=by rw[iQ] at bR;exact bR
    have r:=g5 (j-l.length*k) (by omega) (by omega);have e1:l.length*k+(j-l.length*k)=j:=by omega
    simp only[e1] at r;rw[List.getElem_append_right (by rw[oG,hl];exact jE)];have e2:j-(l'.flatMap gp).length=j-l.length*k:=by rw[oG,hl]
    simp only[e2];exact r)
  (fun x hx=>by simp[putRowK,putRow,mapBlock,Array.getElem?_modify,Ne.symm hx]) (by simp[putRowK]) rfl rfl rfl (le_refl _)
 obtain⟨L',c3,OJ⟩:=bT.grown os.toList z6.1;rw[Array.toArray_toList] at c3 OJ;have RJ:=z6.2;rw[length_set] at RJ OJ ⊢;exact⟨L',c3,(wK.trans RJ).trans OJ,fun j hj=>((wK.trans RJ).trans OJ).bN j hj⟩
theorem Ks {ρ:Ren}(Ly:SlLaysF0.n6 P ρ)(aE:∀w,(isAgg (ρ.t 24)).run P w=.ok true w)(zE:∀w,(Go.sizeOf (ρ.t 24)).run P w=.ok k w)(he:OO enc gp k)(Zy:wQ=[])
  (cf:α→α→Int) (hO:SWO (ltOf cf)) (hT:∀x y,(ltOf cf) x y=false→(ltOf cf) y x=false→x=y) (g:FuncId) (Jk:∀x y,aq P g [.agg (gp x),.agg (gp y)] [] [] (Is (.int .i64 (cf x y)) [] []))
  (Jj:∀xs w,(callFunc (ρ.f 6) xs).run P w=.ok (.enter (ρ.f 6) xs) w) (l:List α) (rest:List AV) (i cap:Nat) (hi:H[i]?=some (.cells (l.flatMap gp++rest))) (iQ:l.length<4611686018427387904) :
  aq P (ρ.f 6) [.bJ i l.length cap,.fn g [] []] H T (Is (.df []) (H.set i (.cells ((l.mergeSort fun x y=>!(ltOf cf) y x).flatMap gp++rest))) T):=by
 refine⟨Jj,fun L w ca hc hl hr=>?_⟩;have e0:ca=#[.slice (some ⟨L.bN i,0,none⟩) l.length cap,.func (.func g) #[] #[]]∧i<H.length:=by
  obtain⟨cl⟩:=ca;have iD:cl.length=2:=by simpa using hl
  match cl,iD with
  |[a,b],_=>
   have r0:=hr 0 (by simp) (by simp);have r1:=hr 1 (by simp) (by simp);simp at r0 r1;obtain⟨rfl,_,aZ⟩:=r0.ir
   cases r1 with
   |fn _ _ _ fv cv h1 h2=>
    have:fv=#[]:=Array.eq_empty_of_size_eq_zero (by simpa using h1);subst this;have:cv=#[]:=Array.eq_empty_of_size_eq_zero (by simpa using h2);subst this;exact⟨rfl,aZ⟩
 obtain⟨rfl,cC⟩:=e0;have zC:∀x,∀L N T w,bc L N T w (.agg (gp x)) (.agg (enc x).toArray):=fun x L N T w=>by
  refine .agg _ _ (by simp[he.len,he.zH]) (fun j hj=>?_) (fun j hj bR=>?_)
  ·exact he.one x _ (by simp)
  ·have L5:j<k:=by rw[he.zH] at hj;exact hj
   have:=(he.rep x j L5 L N T w (enc x)[j]!).2 rfl;rw[getD_eq_getElem?_getD,getElem?_eq_getElem hj] at this;simp only[Option.getD_some] at this;have h':j<(enc x).length:=by rw[he.len];exact L5
   rw[getElem!_pos (enc x) j h'] at this;simpa using this
 have fK:CmpLays P g #[] enc k cf (L.bN i) 0 l.toArray.size w:=by
  intro m os dk hs x y;have h1:=(Jk x y).grown (w:=sortWorldK enc k w (L.bN i) 0 m dk os) (ca:=#[.agg (enc x).toArray,.agg (enc y).toArray]++#[]) Zy (by simp) (fun j hj bR=>by
   match j,hj with
   |0,_=>exact zC x _ _ _ _
   |1,_=>exact zC y _ _ _ _)
  refine h1.mono ?_;rintro e w' ⟨⟨cv,L',rfl,dI⟩,q,Sc,hw⟩
  cases dI
  exact⟨rfl,q,Sc,hw⟩
 have qC:=AnyQ.slices_SortFunc_total Ly k aE zE enc he.len he.one cf hO g #[] (L.bN i) 0 cap l.toArray w (Jk default default).1 fK (hc.C4 he hi) (hc.lE cC) (by simpa using iQ) hT;simp only[List.size_toArray] at qC;refine qC.mono ?_;rintro e w' ⟨rfl,n,os,rfl⟩;obtain⟨L',jT,dP,_⟩:=hc.sorted (n:=n) (os:=os) (l':=l.mergeSort fun x y=>!(ltOf cf) y x) he hi (List.length_mergeSort _);exact⟨_,_,T,L',_,⟨rfl,rfl,rfl⟩,rfl,jT,.df [] #[] rfl (fun j hj=>by simp at hj),dP⟩
theorem Ku {ρ:Ren}(Ly:SlLaysF0.n6 P ρ)(g:FuncId)(Jj:∀xs w,(callFunc (ρ.f 6) xs).run P w=.ok (.enter (ρ.f 6) xs) w)(tg:Tag):aq P (ρ.f 6) [.sl 0 [] tg,.fn g [] []] H T (Is (.df []) H T):=by
 refine⟨Jj,fun L w ca hc hl hr=>?_⟩;have e0:∃a cap fv,ca=#[.slice a 0 cap,fv]:=by
  obtain⟨cl⟩:=ca;have iD:cl.length=2:=by simpa using hl
  match cl,iD with
  |[a,b],_=>
   have r0:=hr 0 (by simp) (by simp);simp at r0;obtain⟨a,cap,rfl,_⟩:=r0.eO;exact⟨a,cap,b,rfl⟩
 obtain⟨a,cap,fv,rfl⟩:=e0;refine(AnyF.slices_SortFunc_none Ly a cap fv w).mono ?_;rintro e w' ⟨rfl,rfl⟩;exact⟨_,H,T,L,_,⟨rfl,rfl,rfl⟩,rfl,hc,.df [] #[] rfl (fun j hj=>by simp at hj),Ev.refl (le_refl _) (le_refl _)⟩
end
section
variable {P : Program} {f : FuncId} {args : List AV} {H : List aA} {T : ar}
theorem aq.Lj {n:Nat}{cs:List AV}(hb:aJ H.length T.length cs)
  (h:aq P f args H T (fun r H' T'=>(∃G,H'=H++G)∧(∃rT,T'=T++rT)∧((n=0∧cs=[]∧∃tg,r=.sl 0 [] tg)∨∃i cap rest,r=.bJ i n cap∧H.length≤i∧H'[i]?=some (.cells (cs++rest))))) :
  aq P f args H T (Is (.sl n cs .none) H T):=by
 refine⟨h.1,fun L w ca hc hl hr=>(h.2 L w ca hc hl hr).mono ?_⟩;rintro e w' ⟨r',H',T',L',cv,⟨⟨G,e1⟩,⟨rT,e2⟩,mY⟩,rfl,cT,dI,dP⟩;subst e1;subst e2;have nD:bT L' H T w':=bT.front P cT hc.iG;have e1:=dP.front (le_refl _) (le_refl _);rcases mY with⟨rfl,rfl,tg,rfl⟩|⟨i,cap,rest,rfl,hi,Pz⟩
 ·have:=(dI.cY).drop (n:=H.length) (t:=T.length) (by simp);exact⟨_,H,T,L',cv,⟨rfl,rfl,rfl⟩,rfl,nD,by simpa using this,e1⟩
 ·obtain⟨rfl,cg,aZ⟩:=dI.ir;have pS:=cT.box i _ Pz;have MT:=pS.lt;obtain⟨c,t,fr,g1,g2,g3,vO,g4,g5⟩:=pS;have Et:¬Wr L' H.length T (L'.bN i):=by
   rintro (⟨j,hj,e⟩|⟨t,u,z,ht,hs,e⟩)
   ·have:=cT.inj j i (by rw[length_append];omega) aZ e;omega
   ·exact cT.jv t u z i (by rw[List.getElem?_append_left (List.getElem?_eq_some_iff.1 ht).1];exact ht) hs aZ e
  have jg:=nD.Bi (k:=cs.length) MT Et (by omega);have kp:cS L' H.length T w' (L'.bQ (L'.bN i) cs.length) H.length T w':=by
   refine⟨le_refl _,fun _ _=>rfl,fun t u z h=>⟨u,h,le_refl _,fun _=>rfl⟩,fun x=>?_,fun _ _ _=>rfl,rfl⟩;show L'.m x≤if x=L'.bN i then cs.length else L'.m x
   split
   ·rename_i e;rw[e,g5];exact zero_le _
   ·exact le_refl _
  rw[length_append] at g3;refine⟨_,H,T,L'.bQ (L'.bN i) cs.length,_,⟨rfl,rfl,rfl⟩,rfl,jg,?_,?_⟩
  ·have Pu:cz L' H.length T w' cs (c.toList.take cs.length):=by
    refine⟨by simp;omega,fun j hj=>?_,fun j hj bR=>?_⟩
    ·have so:j<c.size:=by simp at hj;omega
     have:=vO j so;rw[List.getElem_take,Array.getElem_toList];exact this
    ·have so:j<c.size:=by omega
     have:=(g4 j (by rw[length_append];omega) so)
     rw[getElem_append_left hj] at this;have:=this.drop (n:=H.length) (t:=T.length) (hb _ (getElem_mem hj));rw[List.getElem_take,Array.getElem_toList];simpa using this
   refine bc.kV cg ?_ (Pu.keep kp) (fun j hj=>?_) trivial
   ·show 0+cs.length≤if L'.bN i=L'.bN i then cs.length else _
    rw[if_pos rfl];omega
   ·rw[fo g1,zero_add,List.getElem?_take,if_pos hj];simp
  ·exact⟨e1.n,e1.bN,e1.tok,e1.t,fun b=>Nat.le_trans (e1.m b) (kp.m b),e1.rz,e1.size,e1.frame,e1.wr,e1.os,e1.tape,e1.output,e1.drawn,e1.dr⟩
end
def Plain (v:AV):Prop:=∀L N T w c L' N' T' w',bc L N T w v c→bc L' N' T' w' v c
theorem Plain.int (k:IntKind)(n:Int):Plain (.int k n):=fun L N T w c L' N' T' w' h=>by cases h;exact .int k n
theorem Plain.str (s:List UInt8):Plain (.str s):=fun L N T w c L' N' T' w' h=>by cases h;exact .str s
theorem Plain.top:Plain .top:=fun L N T w c L' N' T' w' h=>.top c
def Z0 (row It:List AV):Prop:=It.length=row.length∧∀j,j<row.length→It.getD j .top=.top∨(It.getD j .top=row.getD j .top∧Plain (row.getD j .top))
section
variable {P : Program} {L : Lay} {H : List aA} {T : ar} {w : World} {k : Nat}
theorem u6 {κ:Type}(hp:0<k):∀(rows:List (κ×List AV)) (hk:∀x∈rows,x.2.length=k) (t:Nat) (h:t / k<rows.length),(rows.flatMap (·.2)).getD t .top=(rows[t / k]'h).2.getD (t % k) .top
 |[],_,t,h=>by simp at h
 |x::r,hk,t,h=>by
  have hx:=hk x (by simp);rw[flatMap_cons]
  by_cases aZ:t<k
  ·have e1:=Nat.div_eq_of_lt aZ;have e2:=Nat.mod_eq_of_lt aZ;simp only[getD_eq_getElem?_getD,e1,e2];rw[List.getElem?_append_left (by rw[hx];exact aZ)];rfl
  ·have e1:=Nat.div_eq_sub_div hp (by omega:k≤t);have e2:=Nat.mod_eq_sub_mod (by omega:k≤t);have hr:(t-k) / k<r.length:=by rw[e1] at h;simpa using h
   have ih:=u6 hp r (fun y hy=>hk y (by simp[hy])) (t-k) hr;simp only[getD_eq_getElem?_getD] at ih ⊢;rw[List.getElem?_append_right (by rw[hx];omega),hx,ih];simp only[e1,e2,List.getElem_cons_succ]
theorem sa {κ:Type}:∀(rows:List (κ×List AV)) (hk:∀x∈rows,x.2.length=k),(rows.flatMap (·.2)).length=rows.length*k
 |[],_=>by simp
 |x::r,hk=>by rw[flatMap_cons,length_append,sa r (fun y hy=>hk y (by simp[hy])),hk x (by simp),length_cons,add_mul,one_mul];omega
theorem Ay {ρ : Ren} (Ly : SlLaysF0.n6 P ρ) (aE : ∀ w, (isAgg (ρ.t 24)).run P w = .ok true w) (zE : ∀ w, (Go.sizeOf (ρ.t 24)).run P w = .ok k w) (hp : 0 < k) (Zy : wQ = []) {κ : Type} (It : κ → List AV)
    (cf : κ → κ → Int) (hO : SWO (ltOf cf)) (g : FuncId)
    (Jj : ∀ xs w, (callFunc (ρ.f 6) xs).run P w = .ok (.enter (ρ.f 6) xs) w) (rows : List (κ × List AV)) (dA : rows ≠ []) (hk : ∀ x ∈ rows, x.2.length = k) (hv : ∀ x ∈ rows, Z0 x.2 (It x.1))
    (hT : rows.Pairwise fun x y => ltOf cf x.1 y.1 = true ∨ ltOf cf y.1 x.1 = true)
    (Jk : ∀ x ∈ rows, ∀ y ∈ rows, aq P g [.agg (It x.1), .agg (It y.1)] [] [] (Is (.int .i64 (cf x.1 y.1)) [] []))
    (rest : List AV) (i cap : Nat) (hi : H[i]? = some (.cells (rows.flatMap (·.2) ++ rest))) (iQ : rows.length < 4611686018427387904) :
    aq P (ρ.f 6) [.bJ i rows.length cap, .fn g [] []] H T (Is (.df []) (H.set i (.cells ((rows.mergeSort fun x y => !(ltOf cf) y.1 x.1).flatMap (·.2) ++ rest))) T) := by
  refine ⟨Jj, fun L w ca hc hl hr => ?_⟩;have e0 : ca = #[.slice (some ⟨L.bN i, 0, none⟩) rows.length cap, .func (.func g) #[] #[]] ∧ i < H.length := by
    obtain ⟨cl⟩ := ca;have iD : cl.length = 2 := by simpa using hl
    match cl, iD with
    | [a, b], _ =>
      have r0 := hr 0 (by simp) (by simp)
      have r1 := hr 1 (by simp) (by simp)
      simp at r0 r1
      obtain ⟨rfl, _, aZ⟩ := r0.ir
      cases r1 with
      | fn _ _ _ fv cv h1 h2 =>
        have : fv = #[] := Array.eq_empty_of_size_eq_zero (by simpa using h1)
        subst this
        have : cv = #[] := Array.eq_empty_of_size_eq_zero (by simpa using h2)
        subst this
        exact ⟨rfl, aZ⟩
  obtain ⟨rfl, cC⟩ := e0;obtain ⟨c, ty, fr, g1, g2, g3, vO, g4, g5⟩ := hc.box i _ hi;have oG := sa rows hk;rw [length_append, oG] at g3;have Cq : 0 < rows.length := List.length_pos_iff.2 dA;generalize hn : rows.length = n at *;have Ew : ∀ (x : Fin n) (j : Nat), j < k → x.val * k + j < n * k := fun x j hj => by
    have : (x.val + 1) * k ≤ n * k := Nat.mul_le_mul_right k x.isLt;rw [add_mul, one_mul] at this;omega
  letI : Inhabited (Fin n) := ⟨⟨0, Cq⟩⟩
  let enc : Fin n → List Value := fun x => (List.range k).map fun j => c[x.val * k + j]!
  have Jp : ∀ x, (enc x).length = k := fun x => by simp [enc]
  have RK : ∀ (x : Fin n) (j : Nat), j < k → (enc x)[j]! = c[x.val * k + j]! := fun x j hj => by
    have h' : j < (enc x).length := by rw [Jp]; exact hj
    rw [getElem!_pos (enc x) j h'];simp [enc]
  have Qq : ∀ x, ∀ v ∈ enc x, v.oneCell' = true := fun x v hv => by
    obtain ⟨j, hj, rfl⟩ := List.mem_map.1 hv;have bR := Ew x j (List.mem_range.1 hj);rw [getElem!_pos c _ (by omega)];exact vO _ _
  have rE : ∀ (x : Fin n) (j : Nat), j < k → ∀ h : x.val * k + j < (rows.flatMap (·.2) ++ rest).length, (rows.flatMap (·.2) ++ rest)[x.val * k + j]'h = (rows[x.val]'(by rw [hn]; exact x.isLt)).2.getD j .top := fun x j hj h => by
    have bR := Ew x j hj;have e1 : (x.val * k + j) / k = x.val := by rw [mul_comm, Nat.mul_add_div hp, Nat.div_eq_of_lt hj]; omega
    have e2 : (x.val * k + j) % k = j := by rw [mul_comm, Nat.mul_add_mod, Nat.mod_eq_of_lt hj]
    have := u6 hp rows hk (x.val * k + j) (by rw [e1, hn]; exact x.isLt);simp only [e1, e2] at this;rw [getElem_append_left (by rw [oG]; exact bR), ← this, getD_eq_getElem?_getD, getElem?_eq_getElem (by rw [oG]; exact bR)];rfl
  have TN : ∀ (x : Fin n) (j : Nat), j < k → bc L H.length T w ((rows[x.val]'(by rw [hn]; exact x.isLt)).2.getD j .top) ((enc x)[j]!) := fun x j hj => by
    have bR := Ew x j hj;rw [RK x j hj, getElem!_pos c _ (by omega), ← rE x j hj (by rw [length_append, oG]; omega)];exact g4 _ _ _
  let I3 : Fin n → Fin n → Int := fun x y => cf (rows[x.val]'(by rw [hn]; exact x.isLt)).1 (rows[y.val]'(by rw [hn]; exact y.isLt)).1
  have hO' : SWO (ltOf I3) := ⟨fun x => hO.1 _, fun x y z h1 h2 => hO.2 _ _ _ h1 h2, fun x y z h1 h2 => hO.3 _ _ _ h1 h2⟩
  have hT' : ∀ x y, (ltOf I3) x y = false → (ltOf I3) y x = false → x = y := fun x y h1 h2 => by
    rw [List.pairwise_iff_getElem] at hT;rcases Nat.lt_trichotomy x.val y.val with e | e | e
    · rcases hT x.val y.val (by rw [hn]; exact x.isLt) (by rw [hn]; exact y.isLt) e with h | h
      · have : ltOf I3 x y = true := h;rw [h1] at this; cases this
      · have : ltOf I3 y x = true := h;rw [h2] at this; cases this
    · exact Fin.ext e
    · rcases hT y.val x.val (by rw [hn]; exact y.isLt) (by rw [hn]; exact x.isLt) e with h | h
      · have : ltOf I3 y x = true := h;rw [h2] at this; cases this
      · have : ltOf I3 x y = true := h;rw [h1] at this; cases this
  have zC : ∀ (x : Fin n) L' N' T' w', bc L' N' T' w' (.agg (It (rows[x.val]'(by rw [hn]; exact x.isLt)).1)) (.agg (enc x).toArray) := fun x L' N' T' w' => by
    have hx : (rows[x.val]'(by rw [hn]; exact x.isLt)) ∈ rows := getElem_mem _;obtain ⟨v1, v2⟩ := hv _ hx;have Zu := hk _ hx;refine .agg _ _ (by simp [Jp, v1, Zu]) (fun j hj => ?_) (fun j hj bR => ?_)
    · exact Qq x _ (by simp)
    · have L5 : j < k := by rw [v1, Zu] at hj; exact hj
      have r := TN x j L5;have h' : j < (enc x).length := by rw [Jp]; exact L5
      rw [getElem!_pos (enc x) j h'] at r;have e : (It (rows[x.val]'(by rw [hn]; exact x.isLt)).1)[j]'hj = (It (rows[x.val]'(by rw [hn]; exact x.isLt)).1).getD j .top := by
        rw [getD_eq_getElem?_getD, getElem?_eq_getElem hj]; rfl
      rw [e];rcases v2 j (by rw [Zu]; exact L5) with q | ⟨q1, q2⟩
      · rw [q]; exact .top _
      · rw [q1]; simpa using q2 _ _ _ _ _ L' N' T' w' r
  have Ml : (List.finRange n).toArray.size = n := by simp
  have fK : CmpLays P g #[] enc k I3 (L.bN i) 0 (List.finRange n).toArray.size w := by
    intro m os dk hs x y;have h1 := (Jk _ (getElem_mem _) _ (getElem_mem _) : aq P g [.agg (It (rows[x.val]'(by rw [hn]; exact x.isLt)).1), .agg (It (rows[y.val]'(by rw [hn]; exact y.isLt)).1)] [] [] _).grown (w := sortWorldK enc k w (L.bN i) 0 m dk os) (ca := #[.agg (enc x).toArray, .agg (enc y).toArray] ++ #[]) Zy (by simp) (fun j hj bR => by
      match j, hj with
      | 0, _ => exact zC x _ _ _ _
      | 1, _ => exact zC y _ _ _ _)
    refine h1.mono ?_;rintro e w' ⟨⟨cv, L', rfl, dI⟩, q, Sc, hw⟩
    cases dI
    exact ⟨rfl, q, Sc, hw⟩
  have QQ : HoldsK enc k w (L.bN i) 0 (List.finRange n).toArray := by
    intro j hj;rw [size_flatK] at hj;have hj : j < n * k := by simpa using hj
    have so : j < c.size := by omega
    have hq : j / k < n := div_lt_of_lt_mul (by rw [mul_comm]; exact hj);rw [zero_add];refine ⟨?_, ?_⟩
    · rw [fo g1, Array.getElem?_eq_getElem so, get_flatK _ _ _ _ (by simpa using hj)];have e1 : (List.finRange n).toArray[j / k]! = ⟨j / k, hq⟩ := by
        rw [getElem!_pos _ _ (by simpa using hq)]; simp
      rw [e1, RK _ _ (mod_lt _ hp)];have e2 : j / k * k + j % k = j := by rw [mul_comm]; exact Nat.div_add_mod j k
      simp only [e2];rw [getElem!_pos c _ so];rfl
    · obtain ⟨lo, gX⟩ := fr;unfold World.frozen?;simp only [g1];exact g2 j so
  have qC := AnyQ.slices_SortFunc_total Ly k aE zE enc Jp Qq I3 hO' g #[] (L.bN i) 0 cap (List.finRange n).toArray w (Jk _ (getElem_mem (by rw [hn]; exact Cq)) _ (getElem_mem (by rw [hn]; exact Cq))).1 fK QQ (hc.lE cC) (by simpa using iQ) hT';simp only [Ml] at qC;refine qC.mono ?_;rintro e w' ⟨rfl, nd, os, rfl⟩;generalize mO : (List.finRange n).mergeSort (fun x y => !(ltOf I3) y x) = l';have sy : l'.length = n := by rw [← mO, List.length_mergeSort]; simp
  have QL : l'.map (fun x => rows[x.val]'(by rw [hn]; exact x.isLt)) = rows.mergeSort fun x y => !(ltOf cf) y.1 x.1 := by
    have e1 : (List.finRange n).map (fun x => rows[x.val]'(by rw [hn]; exact x.isLt)) = rows := by
      apply List.ext_getElem
      · simp [hn]
      · intro j h1 h2; simp
    have e2 := List.map_mergeSort (r := fun x y => !(ltOf I3) y x) (s := fun (x y : κ × List AV) => !(ltOf cf) y.1 x.1) (f := fun x : Fin n => rows[x.val]'(by rw [hn]; exact x.isLt)) (l := List.finRange n) (fun a _ b _ => rfl);rw [← mO, e2, e1]
  have mi : ∀ x ∈ rows.mergeSort (fun x y => !(ltOf cf) y.1 x.1), x.2.length = k := fun x hx => hk x ((List.mergeSort_perm _ _).mem_iff.1 hx);rw [← QL] at mi ⊢;have F7 := sa _ mi;rw [List.length_map, sy] at F7;have h1 : bT L H T (Sort.ahead w nd) := hc.drew rfl;have wK : Ev H.length T.length L H.length T w L H.length T (Sort.ahead w nd) := Ev.drew rfl rfl rfl rfl (Nat.le_add_right _ _);have P6 : (putCells id 0 (flatK enc k l'.toArray) c).size = c.size := by simp [putCells]
  have fP : ∀ (j : Nat) (h' : j < (putCells id 0 (flatK enc k l'.toArray) c).size), (∀ hj : j < n * k, (putCells id 0 (flatK enc k l'.toArray) c)[j]'h' = (enc (l'[j / k]'(by rw [sy]; exact div_lt_of_lt_mul (by rw [mul_comm]; exact hj))))[j % k]!) ∧
      (n * k ≤ j → (putCells id 0 (flatK enc k l'.toArray) c)[j]'h' = c[j]'(by rw [P6] at h'; exact h')) := by
    intro j h';refine ⟨fun hj => ?_, fun hj => ?_⟩
    · have hq : j / k < l'.length := by rw [sy]; exact div_lt_of_lt_mul (by rw [mul_comm]; exact hj)
      simp only [putCells, Array.getElem_mapIdx];rw [if_pos ⟨zero_le _, by rw [size_flatK]; simp [sy]; exact hj⟩, Nat.sub_zero, get_flatK _ _ _ _ (by simpa [sy] using hj)];have e1 : l'.toArray[j / k]! = l'[j / k]'hq := by
        rw [getElem!_pos _ _ (by simpa using hq)]; simp
      rw [e1]; rfl
    · simp only [putCells, Array.getElem_mapIdx];rw [if_neg (by rw [size_flatK]; simp [sy]; omega)]
  have Qc : ∀ (j : Nat) (h' : j < (putCells id 0 (flatK enc k l'.toArray) c).size), ((putCells id 0 (flatK enc k l'.toArray) c)[j]'h').oneCell' = true := by
    intro j h';rcases lt_or_ge j (n * k) with hj | hj
    · rw [(fP j h').1 hj];have hm : j % k < (enc (l'[j / k]'(by rw [sy]; exact div_lt_of_lt_mul (by rw [mul_comm]; exact hj)))).length := by rw [Jp]; exact mod_lt _ hp
      rw [getElem!_pos _ (j % k) hm];exact Qq _ _ (getElem_mem hm)
    · rw [(fP j h').2 hj]; exact vO _ _
  have z6 := h1.Th (w' := putRowK enc k (Sort.ahead w nd) (L.bN i) 0 l'.toArray) (vs' := (l'.map (fun x => rows[x.val]'(by rw [hn]; exact x.isLt))).flatMap (·.2) ++ rest) (c' := putCells id 0 (flatK enc k l'.toArray) c) (t := ty) (fr := fr) hi g1
    (by simp only [putRowK, putRow, mapBlock, Array.getElem?_modify, if_true]; rw [show (Sort.ahead w nd).heap = w.heap from rfl, g1]; rfl) P6 (by rw [length_append, length_append, oG, F7]) Qc
    (fun j hj bR => by
      rcases lt_or_ge j (n * k) with aZ | jE
      · have hq : j / k < l'.length := by rw [sy]; exact div_lt_of_lt_mul (by rw [mul_comm]; exact aZ)
        have e : ((l'.map (fun x => rows[x.val]'(by rw [hn]; exact x.isLt))).flatMap (·.2) ++ rest)[j]'hj = (rows[(l'[j / k]'hq).val]'(by rw [hn]; exact (l'[j / k]'hq).isLt)).2.getD (j % k) .top := by
          have := u6 hp _ mi j (by rw [List.length_map]; exact hq);simp only [List.getElem_map] at this;rw [getElem_append_left (by rw [F7]; exact aZ), ← this, getD_eq_getElem?_getD, getElem?_eq_getElem (by rw [F7]; exact aZ)];rfl
        rw [e, (fP j bR).1 aZ];exact (TN _ _ (mod_lt _ hp)).keep wK.keeps
      · rw [(fP j bR).2 jE];have so : j < c.size := by rw [P6] at bR; exact bR
        have r := g4 j (by rw [length_append, oG]; omega) so;have e1 : (rows.flatMap (·.2) ++ rest)[j]'(by rw [length_append, oG]; omega) = rest[j - n * k]'(by omega) := by
          rw [List.getElem_append_right (by rw [oG]; exact jE)]
          congr 1; rw [oG]
        have e2 : ((l'.map (fun x => rows[x.val]'(by rw [hn]; exact x.isLt))).flatMap (·.2) ++ rest)[j]'hj = rest[j - n * k]'(by omega) := by
          rw [List.getElem_append_right (by rw [F7]; exact jE)]
          congr 1; rw [F7]
        rw [e2, ← e1];exact r.keep wK.keeps)
    (fun x hx => by simp [putRowK, putRow, mapBlock, Array.getElem?_modify, Ne.symm hx]) (by simp [putRowK]) rfl rfl rfl (le_refl _)
  obtain ⟨L', c3, OJ⟩ := bT.grown os.toList z6.1;rw [Array.toArray_toList] at c3 OJ;have RJ := z6.2;rw [length_set] at RJ OJ;refine ⟨_, _, T, L', _, ⟨rfl, rfl, rfl⟩, rfl, c3, .df [] #[] rfl (fun j hj => by simp at hj), ?_⟩;rw [length_set];exact (wK.trans RJ).trans OJ
end
end Go.Am
