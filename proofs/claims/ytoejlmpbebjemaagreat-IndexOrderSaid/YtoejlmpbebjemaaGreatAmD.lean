/- Blocks behind the heap, a box whose cells are written anew, and what a call that makes nothing leaves: for contracts that speak of worlds. Sorting a box that holds structs, by the library's contract. Sorting a box whose rows hold cells that the test does not look at, by the library's contract; the keys are different.
  Conditions: as the theorems say. -/
import Derived.Sort.Grow
import Derived.Deep.Draws
import Derived.Test.YtoejlmpbebjemaaGreatAmC
import Derived.Shelf.SlSortCmp.NoneTotal
set_option linter.all false
open Nat (one_mul)

namespace Go.Am
open Go Go.Sort
section
variable {P : Program} {f : FuncId} {args : List AV} {H : List az} {T : au}
def Mx (w:World)(l:List Obj)(o:Obj):Sort.grow w (o::l).toArray=Sort.grow (w.alloc o) l.toArray:=by
 unfold Sort.grow World.alloc
 congr 1
 apply Array.ext';simp
theorem bW.grown:∀(l:List Obj) {L:Lay} {w:World},bW L H T w->∃L',bW L' H T (Sort.grow w l.toArray)/\Ev H.length T.length L H.length T w L' H.length T (Sort.grow w l.toArray)
 |[],L,w,h=>by
  have e:Sort.grow w ([]:List Obj).toArray=w:=Sort.grow_empty w;rw[e];exact⟨L,h,Ev.refl (ahj _) (ahj _)⟩
 |o::l,L,w,h=>by
  obtain⟨L',h1,h2⟩:=bW.grown l (h.alloc o 0);rw[Mx];exact⟨L',h1,(Ev.alloc h o 0).trans h2⟩
def bW.Y9 {L:Lay}{w w':World}(h:bW L H T w){i:Nat}{vs vs':List AV}{c c':Array Value}{t:TypeId}{fr:Nat×Nat}(hi:H[i]?=some (.cells vs))(hb:w.heap[L.bO i]?=some (.cells c t fr))
  (hb':w'.heap[L.bO i]?=some (.cells c' t fr)) (hc:c'.size=c.size) (hl:vs'.length=vs.length) (h1:∀(j:Nat)(h':j<c'.size),(c'[j]'h').oneCell'=true)
  (hr:∀(j:Nat)(h:j<vs'.length)(h':j<c'.size),aY L H.length T w (vs'[j]'h) (c'[j]'h'))
  (hne:∀x,x≠L.bO i->w'.heap[x]?=w.heap[x]?) (hz:w'.heap.size=w.heap.size) (ho:w'.os=w.os) (Ys:w'.tape=w.tape) (Bl:w'.output=w.output) (hdr:w.drawn<=w'.drawn) :
  bW L (H.set i (.cells vs')) T w'/\Ev H.length T.length L H.length T w L (H.set i (.cells vs')).length T w':=by
 have eN:=(ahh.1 hi).1;obtain⟨c0,t0,fr0,g1,g2,g3,wg,g4,g5⟩:=h.box i _ hi;rw[hb] at g1
 cases g1
 have sD:∀b o',o'<L.m b->w'.cell? ⟨b,o',none⟩=w.cell? ⟨b,o',none⟩:=by
  intro b o' hlt;refine jl (hne _ ?_) o';rintro rfl;omega
 have kp:cX L H.length T w L H.length T w':=
  ⟨ahj _,λ_ _=>rfl,λt u z h=>⟨u,h,ahj _,λ_=>rfl⟩,λ_=>ahj _,sD,rfl⟩
 refine⟨⟨λj b hb=>?_,λa b ha hb=>h.inj a b (by simpa using ha) (by simpa using hb),λt u z ht=>?_,h.po,λt u z j ht hs hj=>h.kD t u z j ht hs (by simpa using hj),λb hb=>h.mz b (by omega),h.gl.keep kp.m kp.tS⟩,
  by simp,λ_ _=>rfl,λt u z _ h=>⟨u,h,ahj _,λ_=>rfl⟩,ahj _,λ_=>ahj _,sD,by omega,λb hb hn=>?_,λb hb=>.inl (by simpa using hb),ho,Ys,Bl,λ_=>hdr,rfl⟩
 ·rw[aiE]
  by_cases hji:i=j
  ·subst hji;rw[ahK eN] at hb
   cases hb
   exact⟨c',t,fr,hb',λo ho=>g2 o (by omega),by omega,h1,λj hj hj'=>(hr j hj hj').keep kp,g5⟩
  ·rw[ah7 hji] at hb;have hx:=h.box j b hb;have qN:=(ahh.1 hb).1;have hnp:L.bO j≠L.bO i:=λe=>hji (h.inj j i qN eN e).symm;exact hx.stay kp qN (hne _ hnp) id
 ·obtain⟨k1,k2⟩:=h.tok t u z ht;refine⟨k1,λhs=>?_⟩;rw[hne _ (h.kD t u z i ht hs eN)];exact k2 hs
 ·exact hne _ (λe=>hn (.inl ⟨i,eN,e.symm⟩))
theorem ar.grown {r:AV}{w:World}{ca:Array Value}(h:ar P f args [] [] (Is r [] []))(hg:zN=[])(hs:ca.size=args.length)
  (hr:∀(j:Nat)(h:j<args.length)(h':j<ca.size),aY (vU w) 0 [] w (args[j]'h) (ca[j]'h')) :
  Calls P f ca w λe w'=>(∃cv L',e=.returned cv/\aY L' 0 [] w' r cv)/\∃q os',w'=Sort.grow (w.drewN q) os':=by
 refine(h.2 (vU w) w ca (ZK w (by rw[hg];intro x hx;cases hx)) hs hr).mono ?_;rintro e w' ⟨r',H',T',L',cv,⟨rfl,rfl,rfl⟩,rfl,_,dI,dD⟩;refine⟨⟨cv,L',rfl,dI⟩,w'.drawn-w.drawn,w'.heap.extract w.heap.size w'.heap.size,?_⟩;have hd:=dD.drawn rfl;have hsz:=dD.size;have hh:w'.heap=w.heap++w'.heap.extract w.heap.size w'.heap.size:=by
  apply Array.ext_getElem?;intro k
  by_cases hk:k<w.heap.size
  ·rw[Array.getElem?_append_left hk];exact dD.frame k hk (λhw=>by
    rcases hw with⟨i,hi,_⟩|⟨t,u,z,ht,_⟩
    ·exact ahO _ hi
    ·simp at ht)
  ·rw[Array.getElem?_append_right (by omega)];rw[Array.getElem?_extract]
   by_cases gq:k<w'.heap.size
   ·rw[ahs (by omega)]
    congr 1
    omega
   ·rw[aiO (by omega),ahq (by omega)]
 unfold Sort.grow World.drewN;have e1:=dD.os;have e2:=dD.tape;have e3:=dD.output
 cases w' with
 |mk heap tape drawn os output=>
  simp only at *;subst e1;subst e2;subst e3;simp only[World.mk.injEq];refine⟨hh,trivial,by omega,trivial,trivial⟩
end
open Go.Proofs Go.Shelf Go.RowKit
structure Sc {α:Type}(enc:α->List Value)(iq:α->List AV)(k:Nat):Prop where
 pos:0<k
 len:∀x,(enc x).length=k
 Bi:∀x,(iq x).length=k
 one:∀x,∀v∈enc x,v.oneCell'=true
 rep:∀x (j:Nat),j<k->∀L N T w v,aY L N T w ((iq x).getD j .top) v↔v=(enc x)[j]!
theorem uR {α:Type}{enc:α->List Value}{iq:α->List AV}{k:Nat}(he:Sc enc iq k)(l:List α):(l.flatMap iq).length=l.length*k:=by
 induction l with
 |nil=>simp
 |cons x r ih=>rw[ahy,ahk,ih,he.Bi,ahS,aiA,one_mul];omega
section
variable {α : Type} [Inhabited α] {enc : α -> List Value} {iq : α -> List AV} {k : Nat}
theorem xS (he:Sc enc iq k):∀(l:List α)(t:Nat),t<l.length*k->(l.flatMap iq).getD t .top=(iq (l[t / k]!)).getD (t % k) .top
 |[],t,h=>by simp at h
 |x::r,t,h=>by
  rw[ahy]
  by_cases hlt:t<k
  ·rw[Nat.div_eq_of_lt hlt,Nat.mod_eq_of_lt hlt];simp only[ahg];rw[ahp (by rw[he.Bi];exact hlt)];simp
  ·rw[ahS,aiA,one_mul] at h;have ih:=xS he r (t-k) (by omega);rw[Nat.div_eq_sub_div he.pos (by omega),Nat.mod_eq_sub_mod (by omega)];simp only[ahg] at ih ⊢;rw[ahC (by rw[he.Bi];omega),he.Bi,ih];simp
variable {P : Program} {L : Lay} {H : List az} {T : au} {w : World}
def bW.JU {i:Nat}{l:List α}{rest:List AV}(he:Sc enc iq k)(h:bW L H T w)(hi:H[i]?=some (.cells (l.flatMap iq++rest))) :
  ∃c t fr,w.heap[L.bO i]?=some (.cells c t fr)/\(∀o,o<c.size->(fr.1<=o&&o<fr.2)=false)/\c.size=l.length*k+rest.length/\(∀(j:Nat)(h':j<c.size),(c[j]'h').oneCell'=true)/\
   (∀(j:Nat)(h':j<c.size),j<l.length*k->c[j]'h'=(enc (l[j / k]!))[j % k]!)/\
   (∀(j:Nat)(h':j<rest.length)(h'':l.length*k+j<c.size),aY L H.length T w (rest[j]'h') (c[l.length*k+j]'h'')):=by
 obtain⟨c,t,fr,g1,g2,g3,wg,g4,g5⟩:=h.box i _ hi;have hf:=uR he l;rw[ahk,hf] at g3;refine⟨c,t,fr,g1,g2,g3,wg,λj u9 hj=>?_,λj hj u9=>?_⟩
 ·have qN:j<(l.flatMap iq++rest).length:=by rw[ahk];omega
  have r:=g4 j qN u9;have e:(l.flatMap iq++rest)[j]'qN=(iq (l[j / k]!)).getD (j % k) .top:=by
   have hj':j<(l.flatMap iq).length:=by omega
   rw[<-xS he l j hj,aiz hj',ahg,ahi hj'];rfl
  rw[e,he.rep _ _ (ajx _ he.pos)] at r;exact r
 ·have qN:l.length*k+j<(l.flatMap iq++rest).length:=by rw[ahk];omega
  have r:=g4 _ qN u9;rw[ajn (by omega)] at r;have e:l.length*k+j-(l.flatMap iq).length=j:=by omega
  simp only[e] at r;exact r
def bW.xm {i:Nat}{l:List α}{rest:List AV}(he:Sc enc iq k)(h:bW L H T w)(hi:H[i]?=some (.cells (l.flatMap iq++rest))):HoldsK enc k w (L.bO i) 0 l.toArray:=by
 obtain⟨c,t,fr,g1,g2,g3,_,g4,_⟩:=h.JU he hi;intro j hj;rw[size_flatK] at hj;have hj:j<l.length*k:=by simpa using hj
 have u9:j<c.size:=by omega
 rw[aiv];refine⟨?_,?_⟩
 ·rw[gE g1,ai7 u9,g4 j u9 hj,nY _ _ _ _ (by simpa using hj)];simp
 ·obtain⟨lo,iV⟩:=fr;unfold World.frozen?;simp only[g1];exact g2 j u9
def bW.sorted {i n:Nat}{l l':List α}{rest:List AV}{os:Array Obj}(he:Sc enc iq k)(h:bW L H T w)(hi:H[i]?=some (.cells (l.flatMap iq++rest)))(hl:l'.length=l.length) :
  ∃L',bW L' (H.set i (.cells (l'.flatMap iq++rest))) T (sortWorldK enc k w (L.bO i) 0 n l'.toArray os)/\
   Ev H.length T.length L H.length T w L' (H.set i (.cells (l'.flatMap iq++rest))).length T (sortWorldK enc k w (L.bO i) 0 n l'.toArray os)/\∀j,j<H.length->L'.bO j=L.bO j:=by
 have h1:bW L H T (Sort.ahead w n):=h.drew rfl;have zC:Ev H.length T.length L H.length T w L H.length T (Sort.ahead w n):=Ev.drew rfl rfl rfl rfl (Nat.le_add_right _ _);obtain⟨c,t,fr,g1,g2,g3,wg,g4,g5⟩:=h1.JU he hi;have hsz:(putCells id 0 (flatK enc k l'.toArray) c).size=c.size:=by simp[putCells]
 have su:=uR he l';have jv:∀(j:Nat) (h':j<(putCells id 0 (flatK enc k l'.toArray) c).size),(j<l.length*k->(putCells id 0 (flatK enc k l'.toArray) c)[j]'h'=(enc (l'[j / k]!))[j % k]!)/\
   (l.length*k<=j->(putCells id 0 (flatK enc k l'.toArray) c)[j]'h'=c[j]'(by rw[hsz] at h';exact h')):=by
  intro j h';refine⟨λhj=>?_,λhj=>?_⟩
  ·simp only[putCells,Array.getElem_mapIdx];rw[ahs ⟨ahu _,by rw[size_flatK];simp[hl];exact hj⟩,Nat.sub_zero,nY _ _ _ _ (by simpa[hl] using hj)];simp
  ·simp only[putCells,Array.getElem_mapIdx];rw[ahq (by rw[size_flatK];simp[hl];omega)]
 have Kt:∀(j:Nat) (h':j<(putCells id 0 (flatK enc k l'.toArray) c).size),((putCells id 0 (flatK enc k l'.toArray) c)[j]'h').oneCell'=true:=by
  intro j h';rcases ahr j (l.length*k) with hj|hj
  ·rw[(jv j h').1 hj];have hm:j % k<(enc (l'[j / k]!)).length:=by rw[he.len];exact ajx _ he.pos
   rw[ajh (enc (l'[j / k]!)) (j % k) hm];exact he.one _ _ (ahP hm)
  ·rw[(jv j h').2 hj];exact wg _ _
 have Dr:=h1.Y9 (w':=putRowK enc k (Sort.ahead w n) (L.bO i) 0 l'.toArray) (vs':=l'.flatMap iq++rest) (c':=putCells id 0 (flatK enc k l'.toArray) c) (t:=t) (fr:=fr) hi g1
  (by simp only[putRowK,putRow,mapBlock,ajs,ai1];rw[g1];rfl) hsz (by rw[ahk,ahk,su,uR he,hl]) Kt
  (λj hj hj'=>by
   rcases ahr j (l.length*k) with hlt|hge
   ·have hj2:j<(l'.flatMap iq).length:=by rw[su,hl];exact hlt
    have e:(l'.flatMap iq++rest)[j]'hj=(iq (l'[j / k]!)).getD (j % k) .top:=by
     rw[<-xS he l' j (by rw[hl];exact hlt),aiz hj2,ahg,ahi hj2];rfl
    rw[e,he.rep _ _ (ajx _ he.pos)];exact(jv j hj').1 hlt
   ·rw[(jv j hj').2 hge];have u9:j<c.size:=by rw[hsz] at hj';exact hj'
    have r:=g5 (j-l.length*k) (by omega) (by omega);have e1:l.length*k+(j-l.length*k)=j:=by omega
    simp only[e1] at r;rw[ajn (by rw[su,hl];exact hge)];have e2:j-(l'.flatMap iq).length=j-l.length*k:=by rw[su,hl]
    simp only[e2];exact r)
  (λx hx=>by simp[putRowK,putRow,mapBlock,ajs,Ne.symm hx]) (by simp[putRowK]) rfl rfl rfl (ahj _)
 obtain⟨L',c3,UU⟩:=bW.grown os.toList Dr.1;rw[Array.toArray_toList] at c3 UU;have XT:=Dr.2;rw[aiE] at XT UU ⊢;exact⟨L',c3,(zC.trans XT).trans UU,λj hj=>((zC.trans XT).trans UU).bO j hj⟩
theorem PC {ρ:Ren}(Ly:SlLaysF0.n6 P ρ)(aE:∀w,(isAgg (ρ.t 24)).run P w=.ok true w)(zE:∀w,(Go.sizeOf (ρ.t 24)).run P w=.ok k w)(he:Sc enc iq k)(hg0:zN=[])
  (cf:α->α->Int) (hO:SWO (ltOf cf)) (hT:∀x y,(ltOf cf) x y=false->(ltOf cf) y x=false->x=y) (g:FuncId) (hcmp:∀x y,ar P g [.agg (iq x),.agg (iq y)] [] [] (Is (.int .i64 (cf x y)) [] []))
  (N5:∀xs w,(callFunc (ρ.f 6) xs).run P w=.ok (.enter (ρ.f 6) xs) w) (l:List α) (rest:List AV) (i cap:Nat) (hi:H[i]?=some (.cells (l.flatMap iq++rest))) (hsz:l.length<4611686018427387904) :
  ar P (ρ.f 6) [.bG i l.length cap,.fn g [] []] H T (Is (.df []) (H.set i (.cells ((l.mergeSort λx y=>!(ltOf cf) y x).flatMap iq++rest))) T):=by
 refine⟨N5,λL w ca hc hl hr=>?_⟩;have e0:ca=#[.slice (some ⟨L.bO i,0,none⟩) l.length cap,.func (.func g) #[] #[]]/\i<H.length:=by
  obtain⟨cl⟩:=ca;have jH:cl.length=2:=by simpa using hl
  match cl,jH with
  |[a,b],_=>
   have r0:=hr 0 (by simp) (by simp);have r1:=hr 1 (by simp) (by simp);simp at r0 r1;obtain⟨rfl,_,hlt⟩:=r0.iv
   cases r1 with
   |fn _ _ _ fv cv h1 h2=>
    have:fv=#[]:=ajo (by simpa using h1);subst this;have:cv=#[]:=ajo (by simpa using h2);subst this;exact⟨rfl,hlt⟩
 obtain⟨rfl,eN⟩:=e0;have CU:∀x,∀L N T w,aY L N T w (.agg (iq x)) (.agg (enc x).toArray):=λx L N T w=>by
  refine .agg _ _ (by simp[he.len,he.Bi]) (λj hj=>?_) (λj hj hj'=>?_)
  ·exact he.one x _ (by simp)
  ·have hjk:j<k:=by rw[he.Bi] at hj;exact hj
   have:=(he.rep x j hjk L N T w (enc x)[j]!).2 rfl;rw[ahg,ahi hj] at this;simp only[aiU] at this;have h':j<(enc x).length:=by rw[he.len];exact hjk
   rw[ajh (enc x) j h'] at this;simpa using this
 have hcl:CmpLays P g #[] enc k cf (L.bO i) 0 l.toArray.size w:=by
  intro m os dk hs x y;have h1:=(hcmp x y).grown (w:=sortWorldK enc k w (L.bO i) 0 m dk os) (ca:=#[.agg (enc x).toArray,.agg (enc y).toArray]++#[]) hg0 (by simp) (λj hj hj'=>by
   match j,hj with
   |0,_=>exact CU x _ _ _ _
   |1,_=>exact CU y _ _ _ _)
  refine h1.mono ?_;rintro e w' ⟨⟨cv,L',rfl,dI⟩,q,os',hw⟩
  cases dI
  exact⟨rfl,q,os',hw⟩
 have nI:=AnyQ.slices_SortFunc_total Ly k aE zE enc he.len he.one cf hO g #[] (L.bO i) 0 cap l.toArray w (hcmp default default).1 hcl (hc.xm he hi) (hc.me eN) (by simpa using hsz) hT;simp only[List.size_toArray] at nI;refine nI.mono ?_;rintro e w' ⟨rfl,n,os,rfl⟩;obtain⟨L',jt,dD,_⟩:=hc.sorted (n:=n) (os:=os) (l':=l.mergeSort λx y=>!(ltOf cf) y x) he hi (ajq _);exact⟨_,_,T,L',_,⟨rfl,rfl,rfl⟩,rfl,jt,.df [] #[] rfl (λj hj=>by simp at hj),dD⟩
theorem PE {ρ:Ren}(Ly:SlLaysF0.n6 P ρ)(g:FuncId)(N5:∀xs w,(callFunc (ρ.f 6) xs).run P w=.ok (.enter (ρ.f 6) xs) w)(tg:Tag):ar P (ρ.f 6) [.sl 0 [] tg,.fn g [] []] H T (Is (.df []) H T):=by
 refine⟨N5,λL w ca hc hl hr=>?_⟩;have e0:∃a cap fv,ca=#[.slice a 0 cap,fv]:=by
  obtain⟨cl⟩:=ca;have jH:cl.length=2:=by simpa using hl
  match cl,jH with
  |[a,b],_=>
   have r0:=hr 0 (by simp) (by simp);simp at r0;obtain⟨a,cap,rfl,_⟩:=r0.fM;exact⟨a,cap,b,rfl⟩
 obtain⟨a,cap,fv,rfl⟩:=e0;refine(AnyF.slices_SortFunc_none Ly a cap fv w).mono ?_;rintro e w' ⟨rfl,rfl⟩;exact⟨_,H,T,L,_,⟨rfl,rfl,rfl⟩,rfl,hc,.df [] #[] rfl (λj hj=>by simp at hj),Ev.refl (ahj _) (ahj _)⟩
end
section
variable {P : Program} {f : FuncId} {args : List AV} {H : List az} {T : au}
def ar.Qy {n:Nat}{cs:List AV}(hb:aK H.length T.length cs)
  (h:ar P f args H T (λr H' T'=>(∃G,H'=H++G)/\(∃rT,T'=T++rT)/\((n=0/\cs=[]/\∃tg,r=.sl 0 [] tg)\/∃i cap rest,r=.bG i n cap/\H.length<=i/\H'[i]?=some (.cells (cs++rest))))) :
  ar P f args H T (Is (.sl n cs .none) H T):=by
 refine⟨h.1,λL w ca hc hl hr=>(h.2 L w ca hc hl hr).mono ?_⟩;rintro e w' ⟨r',H',T',L',cv,⟨⟨G,e1⟩,⟨rT,e2⟩,tW⟩,rfl,cO,dI,dD⟩;subst e1;subst e2;have hc1:bW L' H T w':=bW.front P cO hc.jK;have e1:=dD.front (ahj _) (ahj _);rcases tW with⟨rfl,rfl,tg,rfl⟩|⟨i,cap,rest,rfl,hi,VV⟩
 ·have:=(dI.cG).drop (n:=H.length) (t:=T.length) (by simp);exact⟨_,H,T,L',cv,⟨rfl,rfl,rfl⟩,rfl,hc1,by simpa using this,e1⟩
 ·obtain⟨rfl,hcap,hlt⟩:=dI.iv;have rG:=cO.box i _ VV;have Sl:=rG.lt;obtain⟨c,t,fr,g1,g2,g3,wg,g4,g5⟩:=rG;have I3:¬Wr L' H.length T (L'.bO i):=by
   rintro (⟨j,hj,e⟩|⟨t,u,z,ht,hs,e⟩)
   ·have:=cO.inj j i (by rw[ahk];omega) hlt e;omega
   ·exact cO.kD t u z i (by rw[ahp (ahh.1 ht).1];exact ht) hs hlt e
  have hc2:=hc1.EU (k:=cs.length) Sl I3 (by omega);have kp:cX L' H.length T w' (L'.bS (L'.bO i) cs.length) H.length T w':=by
   refine⟨ahj _,λ_ _=>rfl,λt u z h=>⟨u,h,ahj _,λ_=>rfl⟩,λx=>?_,λ_ _ _=>rfl,rfl⟩;show L'.m x<=if x=L'.bO i then cs.length else L'.m x
   split
   ·rename_i e;rw[e,g5];exact ahu _
   ·exact ahj _
  rw[ahk] at g3;refine⟨_,H,T,L'.bS (L'.bO i) cs.length,_,⟨rfl,rfl,rfl⟩,rfl,hc2,?_,?_⟩
  ·have VM:cF L' H.length T w' cs (c.toList.take cs.length):=by
    refine⟨by simp;omega,λj hj=>?_,λj hj hj'=>?_⟩
    ·have u9:j<c.size:=by simp at hj;omega
     have:=wg j u9;rw[ajy,aif];exact this
    ·have u9:j<c.size:=by omega
     have:=(g4 j (by rw[ahk];omega) u9)
     rw[aiz hj] at this;have:=this.drop (n:=H.length) (t:=T.length) (hb _ (ahP hj));rw[ajy,aif];simpa using this
   refine aY.mM hcap ?_ (VM.keep kp) (λj hj=>?_) trivial
   ·show 0+cs.length<=if L'.bO i=L'.bO i then cs.length else _
    rw[ahs rfl];omega
   ·rw[gE g1,aiv,ah9,ahs hj];simp
  ·exact⟨e1.n,e1.bO,e1.tok,e1.t,λb=>aho (e1.m b) (kp.m b),e1.tS,e1.size,e1.frame,e1.wr,e1.os,e1.tape,e1.output,e1.drawn,e1.dr⟩
end
def Plain (v:AV):Prop:=∀L N T w c L' N' T' w',aY L N T w v c->aY L' N' T' w' v c
theorem Plain.int (k:IntKind)(n:Int):Plain (.int k n):=λL N T w c L' N' T' w' h=>by cases h;exact .int k n
theorem Plain.str (s:List UInt8):Plain (.str s):=λL N T w c L' N' T' w' h=>by cases h;exact .str s
def Plain.top:Plain .top:=λL N T w c L' N' T' w' h=>.top c
def Vis (row Nd:List AV):Prop:=Nd.length=row.length/\∀j,j<row.length->Nd.getD j .top=.top\/(Nd.getD j .top=row.getD j .top/\Plain (row.getD j .top))
section
variable {P : Program} {L : Lay} {H : List az} {T : au} {w : World} {k : Nat}
theorem xR {κ:Type}(hp:0<k):∀(rows:List (κ×List AV)) (hk:∀x∈rows,x.2.length=k) (t:Nat) (h:t / k<rows.length),(rows.flatMap (·.2)).getD t .top=(rows[t / k]'h).2.getD (t % k) .top
 |[],_,t,h=>by simp at h
 |x::r,hk,t,h=>by
  have hx:=hk x (by simp);rw[ahy]
  by_cases hlt:t<k
  ·have e1:=Nat.div_eq_of_lt hlt;have e2:=Nat.mod_eq_of_lt hlt;simp only[ahg,e1,e2];rw[ahp (by rw[hx];exact hlt)];rfl
  ·have e1:=Nat.div_eq_sub_div hp (by omega:k<=t);have e2:=Nat.mod_eq_sub_mod (by omega:k<=t);have hr:(t-k) / k<r.length:=by rw[e1] at h;simpa using h
   have ih:=xR hp r (λy hy=>hk y (by simp[hy])) (t-k) hr;simp only[ahg] at ih ⊢;rw[ahC (by rw[hx];omega),hx,ih];simp only[e1,e2,ajj]
theorem uQ {κ:Type}:∀(rows:List (κ×List AV)) (hk:∀x∈rows,x.2.length=k),(rows.flatMap (·.2)).length=rows.length*k
 |[],_=>by simp
 |x::r,hk=>by rw[ahy,ahk,uQ r (λy hy=>hk y (by simp[hy])),hk x (by simp),ahS,aiA,one_mul];omega
theorem DV {ρ : Ren} (Ly : SlLaysF0.n6 P ρ) (aE : ∀ w, (isAgg (ρ.t 24)).run P w = .ok true w) (zE : ∀ w, (Go.sizeOf (ρ.t 24)).run P w = .ok k w) (hp : 0 < k) (hg0 : zN = []) {κ : Type} (Nd : κ -> List AV)
    (cf : κ -> κ -> Int) (hO : SWO (ltOf cf)) (g : FuncId)
    (N5 : ∀ xs w, (callFunc (ρ.f 6) xs).run P w = .ok (.enter (ρ.f 6) xs) w) (rows : List (κ × List AV)) (hne : rows ≠ []) (hk : ∀ x ∈ rows, x.2.length = k) (hv : ∀ x ∈ rows, Vis x.2 (Nd x.1))
    (hT : rows.Pairwise λx y => ltOf cf x.1 y.1 = true \/ ltOf cf y.1 x.1 = true)
    (hcmp : ∀ x ∈ rows, ∀ y ∈ rows, ar P g [.agg (Nd x.1), .agg (Nd y.1)] [] [] (Is (.int .i64 (cf x.1 y.1)) [] []))
    (rest : List AV) (i cap : Nat) (hi : H[i]? = some (.cells (rows.flatMap (·.2) ++ rest))) (hsz : rows.length < 4611686018427387904) :
    ar P (ρ.f 6) [.bG i rows.length cap, .fn g [] []] H T (Is (.df []) (H.set i (.cells ((rows.mergeSort λx y => !(ltOf cf) y.1 x.1).flatMap (·.2) ++ rest))) T) := by
  refine ⟨N5, λL w ca hc hl hr => ?_⟩;have e0 : ca = #[.slice (some ⟨L.bO i, 0, none⟩) rows.length cap, .func (.func g) #[] #[]] /\ i < H.length := by
    obtain ⟨cl⟩ := ca;have jH : cl.length = 2 := by simpa using hl
    match cl, jH with
    | [a, b], _ =>
      have r0 := hr 0 (by simp) (by simp)
      have r1 := hr 1 (by simp) (by simp)
      simp at r0 r1
      obtain ⟨rfl, _, hlt⟩ := r0.iv
      cases r1 with
      | fn _ _ _ fv cv h1 h2 =>
        have : fv = #[] := ajo (by simpa using h1)
        subst this
        have : cv = #[] := ajo (by simpa using h2)
        subst this
        exact ⟨rfl, hlt⟩
  obtain ⟨rfl, eN⟩ := e0;obtain ⟨c, ty, fr, g1, g2, g3, wg, g4, g5⟩ := hc.box i _ hi;have su := uQ rows hk;rw [ahk, su] at g3;have hn0 : 0 < rows.length := ait.2 hne;generalize hn : rows.length = n at *;have tY : ∀ (x : Fin n) (j : Nat), j < k -> x.val * k + j < n * k := λx j hj => by
    have : (x.val + 1) * k <= n * k := ail k x.isLt;rw [aiA, one_mul] at this;omega
  letI : Inhabited (Fin n) := ⟨⟨0, hn0⟩⟩
  let enc : Fin n -> List Value := λx => (List.range k).map λj => c[x.val * k + j]!
  have N9 : ∀ x, (enc x).length = k := λx => by simp [enc]
  have XU : ∀ (x : Fin n) (j : Nat), j < k -> (enc x)[j]! = c[x.val * k + j]! := λx j hj => by
    have h' : j < (enc x).length := by rw [N9]; exact hj
    rw [ajh (enc x) j h'];simp [enc]
  have WE : ∀ x, ∀ v ∈ enc x, v.oneCell' = true := λx v hv => by
    obtain ⟨j, hj, rfl⟩ := ahl.1 hv;have hj' := tY x j (ahI.1 hj);rw [ajh c _ (by omega)];exact wg _ _
  have ua : ∀ (x : Fin n) (j : Nat), j < k -> ∀ h : x.val * k + j < (rows.flatMap (·.2) ++ rest).length, (rows.flatMap (·.2) ++ rest)[x.val * k + j]'h = (rows[x.val]'(by rw [hn]; exact x.isLt)).2.getD j .top := λx j hj h => by
    have hj' := tY x j hj;have e1 : (x.val * k + j) / k = x.val := by rw [ajK, Nat.mul_add_div hp, Nat.div_eq_of_lt hj]; omega
    have e2 : (x.val * k + j) % k = j := by rw [ajK, Nat.mul_add_mod, Nat.mod_eq_of_lt hj]
    have := xR hp rows hk (x.val * k + j) (by rw [e1, hn]; exact x.isLt);simp only [e1, e2] at this;rw [aiz (by rw [su]; exact hj'), <- this, ahg, ahi (by rw [su]; exact hj')];rfl
  have ZG : ∀ (x : Fin n) (j : Nat), j < k -> aY L H.length T w ((rows[x.val]'(by rw [hn]; exact x.isLt)).2.getD j .top) ((enc x)[j]!) := λx j hj => by
    have hj' := tY x j hj;rw [XU x j hj, ajh c _ (by omega), <- ua x j hj (by rw [ahk, su]; omega)];exact g4 _ _ _
  let cf' : Fin n -> Fin n -> Int := λx y => cf (rows[x.val]'(by rw [hn]; exact x.isLt)).1 (rows[y.val]'(by rw [hn]; exact y.isLt)).1
  have hO' : SWO (ltOf cf') := ⟨λx => hO.1 _, λx y z h1 h2 => hO.2 _ _ _ h1 h2, λx y z h1 h2 => hO.3 _ _ _ h1 h2⟩
  have hT' : ∀ x y, (ltOf cf') x y = false -> (ltOf cf') y x = false -> x = y := λx y h1 h2 => by
    rw [ahN] at hT;rcases aiM x.val y.val with e | e | e
    · rcases hT x.val y.val (by rw [hn]; exact x.isLt) (by rw [hn]; exact y.isLt) e with h | h
      · have : ltOf cf' x y = true := h;rw [h1] at this; cases this
      · have : ltOf cf' y x = true := h;rw [h2] at this; cases this
    · exact Fin.ext e
    · rcases hT y.val x.val (by rw [hn]; exact y.isLt) (by rw [hn]; exact x.isLt) e with h | h
      · have : ltOf cf' y x = true := h;rw [h2] at this; cases this
      · have : ltOf cf' x y = true := h;rw [h1] at this; cases this
  have CU : ∀ (x : Fin n) L' N' T' w', aY L' N' T' w' (.agg (Nd (rows[x.val]'(by rw [hn]; exact x.isLt)).1)) (.agg (enc x).toArray) := λx L' N' T' w' => by
    have hx : (rows[x.val]'(by rw [hn]; exact x.isLt)) ∈ rows := ahP _;obtain ⟨v1, v2⟩ := hv _ hx;have hkx := hk _ hx;refine .agg _ _ (by simp [N9, v1, hkx]) (λj hj => ?_) (λj hj hj' => ?_)
    · exact WE x _ (by simp)
    · have hjk : j < k := by rw [v1, hkx] at hj; exact hj
      have r := ZG x j hjk;have h' : j < (enc x).length := by rw [N9]; exact hjk
      rw [ajh (enc x) j h'] at r;have e : (Nd (rows[x.val]'(by rw [hn]; exact x.isLt)).1)[j]'hj = (Nd (rows[x.val]'(by rw [hn]; exact x.isLt)).1).getD j .top := by
        rw [ahg, ahi hj]; rfl
      rw [e];rcases v2 j (by rw [hkx]; exact hjk) with q | ⟨q1, q2⟩
      · rw [q]; exact .top _
      · rw [q1]; simpa using q2 _ _ _ _ _ L' N' T' w' r
  have XC : (List.finRange n).toArray.size = n := by simp
  have hcl : CmpLays P g #[] enc k cf' (L.bO i) 0 (List.finRange n).toArray.size w := by
    intro m os dk hs x y;have h1 := (hcmp _ (ahP _) _ (ahP _) : ar P g [.agg (Nd (rows[x.val]'(by rw [hn]; exact x.isLt)).1), .agg (Nd (rows[y.val]'(by rw [hn]; exact y.isLt)).1)] [] [] _).grown (w := sortWorldK enc k w (L.bO i) 0 m dk os) (ca := #[.agg (enc x).toArray, .agg (enc y).toArray] ++ #[]) hg0 (by simp) (λj hj hj' => by
      match j, hj with
      | 0, _ => exact CU x _ _ _ _
      | 1, _ => exact CU y _ _ _ _)
    refine h1.mono ?_;rintro e w' ⟨⟨cv, L', rfl, dI⟩, q, os', hw⟩
    cases dI
    exact ⟨rfl, q, os', hw⟩
  have Xf : HoldsK enc k w (L.bO i) 0 (List.finRange n).toArray := by
    intro j hj;rw [size_flatK] at hj;have hj : j < n * k := by simpa using hj
    have u9 : j < c.size := by omega
    have hq : j / k < n := ajL (by rw [ajK]; exact hj);rw [aiv];refine ⟨?_, ?_⟩
    · rw [gE g1, ai7 u9, nY _ _ _ _ (by simpa using hj)];have e1 : (List.finRange n).toArray[j / k]! = ⟨j / k, hq⟩ := by
        rw [ajh _ _ (by simpa using hq)]; simp
      rw [e1, XU _ _ (ajx _ hp)];have e2 : j / k * k + j % k = j := by rw [ajK]; exact Nat.div_add_mod j k
      simp only [e2];rw [ajh c _ u9];rfl
    · obtain ⟨lo, iV⟩ := fr;unfold World.frozen?;simp only [g1];exact g2 j u9
  have nI := AnyQ.slices_SortFunc_total Ly k aE zE enc N9 WE cf' hO' g #[] (L.bO i) 0 cap (List.finRange n).toArray w (hcmp _ (ahP (by rw [hn]; exact hn0)) _ (ahP (by rw [hn]; exact hn0))).1 hcl Xf (hc.me eN) (by simpa using hsz) hT';simp only [XC] at nI;refine nI.mono ?_;rintro e w' ⟨rfl, nd, os, rfl⟩;generalize jR : (List.finRange n).mergeSort (λx y => !(ltOf cf') y x) = l';have vh : l'.length = n := by rw [<- jR, ajq]; simp
  have Xa : l'.map (λx => rows[x.val]'(by rw [hn]; exact x.isLt)) = rows.mergeSort λx y => !(ltOf cf) y.1 x.1 := by
    have e1 : (List.finRange n).map (λx => rows[x.val]'(by rw [hn]; exact x.isLt)) = rows := by
      apply ajd
      · simp [hn]
      · intro j h1 h2; simp
    have e2 := List.map_mergeSort (r := λx y => !(ltOf cf') y x) (s := λ(x y : κ × List AV) => !(ltOf cf) y.1 x.1) (f := λx : Fin n => rows[x.val]'(by rw [hn]; exact x.isLt)) (l := List.finRange n) (λa _ b _ => rfl);rw [<- jR, e2, e1]
  have nB : ∀ x ∈ rows.mergeSort (λx y => !(ltOf cf) y.1 x.1), x.2.length = k := λx hx => hk x ((ajl _ _).mem_iff.1 hx);rw [<- Xa] at nB ⊢;have Kw := uQ _ nB;rw [ahz, vh] at Kw;have h1 : bW L H T (Sort.ahead w nd) := hc.drew rfl;have zC : Ev H.length T.length L H.length T w L H.length T (Sort.ahead w nd) := Ev.drew rfl rfl rfl rfl (Nat.le_add_right _ _);have Wi : (putCells id 0 (flatK enc k l'.toArray) c).size = c.size := by simp [putCells]
  have jv : ∀ (j : Nat) (h' : j < (putCells id 0 (flatK enc k l'.toArray) c).size), (∀ hj : j < n * k, (putCells id 0 (flatK enc k l'.toArray) c)[j]'h' = (enc (l'[j / k]'(by rw [vh]; exact ajL (by rw [ajK]; exact hj))))[j % k]!) /\
      (n * k <= j -> (putCells id 0 (flatK enc k l'.toArray) c)[j]'h' = c[j]'(by rw [Wi] at h'; exact h')) := by
    intro j h';refine ⟨λhj => ?_, λhj => ?_⟩
    · have hq : j / k < l'.length := by rw [vh]; exact ajL (by rw [ajK]; exact hj)
      simp only [putCells, Array.getElem_mapIdx];rw [ahs ⟨ahu _, by rw [size_flatK]; simp [vh]; exact hj⟩, Nat.sub_zero, nY _ _ _ _ (by simpa [vh] using hj)];have e1 : l'.toArray[j / k]! = l'[j / k]'hq := by
        rw [ajh _ _ (by simpa using hq)]; simp
      rw [e1]; rfl
    · simp only [putCells, Array.getElem_mapIdx];rw [ahq (by rw [size_flatK]; simp [vh]; omega)]
  have Kt : ∀ (j : Nat) (h' : j < (putCells id 0 (flatK enc k l'.toArray) c).size), ((putCells id 0 (flatK enc k l'.toArray) c)[j]'h').oneCell' = true := by
    intro j h';rcases ahr j (n * k) with hj | hj
    · rw [(jv j h').1 hj];have hm : j % k < (enc (l'[j / k]'(by rw [vh]; exact ajL (by rw [ajK]; exact hj)))).length := by rw [N9]; exact ajx _ hp
      rw [ajh _ (j % k) hm];exact WE _ _ (ahP hm)
    · rw [(jv j h').2 hj]; exact wg _ _
  have Dr := h1.Y9 (w' := putRowK enc k (Sort.ahead w nd) (L.bO i) 0 l'.toArray) (vs' := (l'.map (λx => rows[x.val]'(by rw [hn]; exact x.isLt))).flatMap (·.2) ++ rest) (c' := putCells id 0 (flatK enc k l'.toArray) c) (t := ty) (fr := fr) hi g1
    (by simp only [putRowK, putRow, mapBlock, ajs, ai1]; rw [show (Sort.ahead w nd).heap = w.heap from rfl, g1]; rfl) Wi (by rw [ahk, ahk, su, Kw]) Kt
    (λj hj hj' => by
      rcases ahr j (n * k) with hlt | hge
      · have hq : j / k < l'.length := by rw [vh]; exact ajL (by rw [ajK]; exact hlt)
        have e : ((l'.map (λx => rows[x.val]'(by rw [hn]; exact x.isLt))).flatMap (·.2) ++ rest)[j]'hj = (rows[(l'[j / k]'hq).val]'(by rw [hn]; exact (l'[j / k]'hq).isLt)).2.getD (j % k) .top := by
          have := xR hp _ nB j (by rw [ahz]; exact hq);simp only [aia] at this;rw [aiz (by rw [Kw]; exact hlt), <- this, ahg, ahi (by rw [Kw]; exact hlt)];rfl
        rw [e, (jv j hj').1 hlt];exact (ZG _ _ (ajx _ hp)).keep zC.keeps
      · rw [(jv j hj').2 hge];have u9 : j < c.size := by rw [Wi] at hj'; exact hj'
        have r := g4 j (by rw [ahk, su]; omega) u9;have e1 : (rows.flatMap (·.2) ++ rest)[j]'(by rw [ahk, su]; omega) = rest[j - n * k]'(by omega) := by
          rw [ajn (by rw [su]; exact hge)]
          congr 1; rw [su]
        have e2 : ((l'.map (λx => rows[x.val]'(by rw [hn]; exact x.isLt))).flatMap (·.2) ++ rest)[j]'hj = rest[j - n * k]'(by omega) := by
          rw [ajn (by rw [Kw]; exact hge)]
          congr 1; rw [Kw]
        rw [e2, <- e1];exact r.keep zC.keeps)
    (λx hx => by simp [putRowK, putRow, mapBlock, ajs, Ne.symm hx]) (by simp [putRowK]) rfl rfl rfl (ahj _)
  obtain ⟨L', c3, UU⟩ := bW.grown os.toList Dr.1;rw [Array.toArray_toList] at c3 UU;have XT := Dr.2;rw [aiE] at XT UU;refine ⟨_, _, T, L', _, ⟨rfl, rfl, rfl⟩, rfl, c3, .df [] #[] rfl (λj hj => by simp at hj), ?_⟩;rw [aiE];exact (zC.trans XT).trans UU
end
end Go.Am
