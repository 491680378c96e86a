/- Blocks behind the heap, a box whose cells are written anew, and what a call that makes nothing leaves: for contracts that speak of worlds. Sorting a box that holds structs, by the library's contract. Sorting a box whose rows hold cells that the test does not look at, by the library's contract; the keys are different.
  Conditions: as the theorems say. -/
import Derived.Sort.Grow
import Derived.Deep.Draws
import Derived.Test.YtoejlmpbebjemaaGreatAmC
import Derived.Shelf.SlSortCmp.NoneTotal
set_option linter.all false
open Nat (one_mul)

namespace Go.Am
open Go Go.Sort
section
variable {P : Program} {f : FuncId} {args : List AV} {H : List aA} {T : au}
def LJ (w:World)(l:List Obj)(o:Obj):Sort.grow w (o::l).toArray=Sort.grow (w.alloc o) l.toArray:=by
 unfold Sort.grow World.alloc
 congr 1
 apply Array.ext';simp
theorem cg.grown:∀(l:List Obj) {L:Lay} {w:World},cg L H T w->∃L',cg L' H T (Sort.grow w l.toArray)/\Ev H.length T.length L H.length T w L' H.length T (Sort.grow w l.toArray)
 |[],L,w,h=>by
  have e:Sort.grow w ([]:List Obj).toArray=w:=Sort.grow_empty w;rw[e];exact⟨L,h,Ev.refl (agE _) (agE _)⟩
 |o::l,L,w,h=>by
  obtain⟨L',h1,h2⟩:=cg.grown l (h.alloc o 0);rw[LJ];exact⟨L',h1,(Ev.alloc h o 0).trans h2⟩
def cg.Yq {L:Lay}{w w':World}(h:cg L H T w){i:Nat}{vs vs':List AV}{c c':Array Value}{t:TypeId}{fr:Nat×Nat}(hi:H[i]?=some (.cells vs))(hb:w.heap[L.bS i]?=some (.cells c t fr))
  (yF:w'.heap[L.bS i]?=some (.cells c' t fr)) (hc:c'.size=c.size) (hl:vs'.length=vs.length) (h1:∀(j:Nat)(h':j<c'.size),(c'[j]'h').oneCell'=true)
  (hr:∀(j:Nat)(h:j<vs'.length)(h':j<c'.size),ba L H.length T w (vs'[j]'h) (c'[j]'h'))
  (dN:∀x,x≠L.bS i->w'.heap[x]?=w.heap[x]?) (hz:w'.heap.size=w.heap.size) (ho:w'.os=w.os) (XH:w'.tape=w.tape) (A5:w'.output=w.output) (qc:w.drawn<=w'.drawn) :
  cg L (H.set i (.cells vs')) T w'/\Ev H.length T.length L H.length T w L (H.set i (.cells vs')).length T w':=by
 have eH:=(agC.1 hi).1;obtain⟨c0,t0,fr0,g1,g2,g3,vW,g4,g5⟩:=h.box i _ hi;rw[hb] at g1
 cases g1
 have so:∀b o',o'<L.m b->w'.cell? ⟨b,o',none⟩=w.cell? ⟨b,o',none⟩:=by
  intro b o' aZ;refine je (dN _ ?_) o';rintro rfl;omega
 have kp:cX L H.length T w L H.length T w':=
  ⟨agE _,λ_ _=>rfl,λt u z h=>⟨u,h,agE _,λ_=>rfl⟩,λ_=>agE _,so,rfl⟩
 refine⟨⟨λj b hb=>?_,λa b ha hb=>h.inj a b (by simpa using ha) (by simpa using hb),λt u z ht=>?_,h.pg,λt u z j ht hs hj=>h.kq t u z j ht hs (by simpa using hj),λb hb=>h.mz b (by omega),h.gl.keep kp.m kp.tF⟩,
  by simp,λ_ _=>rfl,λt u z _ h=>⟨u,h,agE _,λ_=>rfl⟩,agE _,λ_=>agE _,so,by omega,λb hb hn=>?_,λb hb=>.inl (by simpa using hb),ho,XH,A5,λ_=>qc,rfl⟩
 ·rw[ahY]
  by_cases rp:i=j
  ·subst rp;rw[ag4 eH] at hb
   cases hb
   exact⟨c',t,fr,yF,λo ho=>g2 o (by omega),by omega,h1,λj hj bQ=>(hr j hj bQ).keep kp,g5⟩
  ·rw[ahs rp] at hb;have hx:=h.box j b hb;have qJ:=(agC.1 hb).1;have hnp:L.bS j≠L.bS i:=λe=>rp (h.inj j i qJ eH e).symm;exact hx.stay kp qJ (dN _ hnp) id
 ·obtain⟨k1,k2⟩:=h.tok t u z ht;refine⟨k1,λhs=>?_⟩;rw[dN _ (h.kq t u z i ht hs eH)];exact k2 hs
 ·exact dN _ (λe=>hn (.inl ⟨i,eH,e.symm⟩))
theorem ar.grown {r:AV}{w:World}{ca:Array Value}(h:ar P f args [] [] (Is r [] []))(hg:zC=[])(hs:ca.size=args.length)
  (hr:∀(j:Nat)(h:j<args.length)(h':j<ca.size),ba (vL w) 0 [] w (args[j]'h) (ca[j]'h')) :
  Calls P f ca w λe w'=>(∃cv L',e=.returned cv/\ba L' 0 [] w' r cv)/\∃q Xr,w'=Sort.grow (w.drewN q) Xr:=by
 refine(h.2 (vL w) w ca (Y0 w (by rw[hg];intro x hx;cases hx)) hs hr).mono ?_;rintro e w' ⟨r',H',T',L',cv,⟨rfl,rfl,rfl⟩,rfl,_,dG,dB⟩;refine⟨⟨cv,L',rfl,dG⟩,w'.drawn-w.drawn,w'.heap.extract w.heap.size w'.heap.size,?_⟩;have hd:=dB.drawn rfl;have gu:=dB.size;have hh:w'.heap=w.heap++w'.heap.extract w.heap.size w'.heap.size:=by
  apply Array.ext_getElem?;intro k
  by_cases hk:k<w.heap.size
  ·rw[Array.getElem?_append_left hk];exact dB.frame k hk (λhw=>by
    rcases hw with⟨i,hi,_⟩|⟨t,u,z,ht,_⟩
    ·exact ag9 _ hi
    ·simp at ht)
  ·rw[Array.getElem?_append_right (by omega)];rw[Array.getElem?_extract]
   by_cases fX:k<w'.heap.size
   ·rw[agN (by omega)]
    congr 1
    omega
   ·rw[ah8 (by omega),agL (by omega)]
 unfold Sort.grow World.drewN;have e1:=dB.os;have e2:=dB.tape;have e3:=dB.output
 cases w' with
 |mk heap tape drawn os output=>
  simp only at *;subst e1;subst e2;subst e3;simp only[World.mk.injEq];refine⟨hh,trivial,by omega,trivial,trivial⟩
end
open Go.Proofs Go.Shelf Go.RowKit
structure Ri {α:Type}(enc:α->List Value)(ic:α->List AV)(k:Nat):Prop where
 pos:0<k
 len:∀x,(enc x).length=k
 A2:∀x,(ic x).length=k
 one:∀x,∀v∈enc x,v.oneCell'=true
 rep:∀x (j:Nat),j<k->∀L N T w v,ba L N T w ((ic x).getD j .top) v↔v=(enc x)[j]!
theorem uG {α:Type}{enc:α->List Value}{ic:α->List AV}{k:Nat}(he:Ri enc ic k)(l:List α):(l.flatMap ic).length=l.length*k:=by
 induction l with
 |nil=>simp
 |cons x r ih=>rw[agT,agF,ih,he.A2,ahd,ahU,one_mul];omega
section
variable {α : Type} [Inhabited α] {enc : α -> List Value} {ic : α -> List AV} {k : Nat}
theorem xE (he:Ri enc ic k):∀(l:List α)(t:Nat),t<l.length*k->(l.flatMap ic).getD t .top=(ic (l[t / k]!)).getD (t % k) .top
 |[],t,h=>by simp at h
 |x::r,t,h=>by
  rw[agT]
  by_cases aZ:t<k
  ·rw[Nat.div_eq_of_lt aZ,Nat.mod_eq_of_lt aZ];simp only[agB];rw[agK (by rw[he.A2];exact aZ)];simp
  ·rw[ahd,ahU,one_mul] at h;have ih:=xE he r (t-k) (by omega);rw[Nat.div_eq_sub_div he.pos (by omega),Nat.mod_eq_sub_mod (by omega)];simp only[agB] at ih ⊢;rw[agX (by rw[he.A2];omega),he.A2,ih];simp
variable {P : Program} {L : Lay} {H : List aA} {T : au} {w : World}
def cg.I8 {i:Nat}{l:List α}{rest:List AV}(he:Ri enc ic k)(h:cg L H T w)(hi:H[i]?=some (.cells (l.flatMap ic++rest))) :
  ∃c t fr,w.heap[L.bS i]?=some (.cells c t fr)/\(∀o,o<c.size->(fr.1<=o&&o<fr.2)=false)/\c.size=l.length*k+rest.length/\(∀(j:Nat)(h':j<c.size),(c[j]'h').oneCell'=true)/\
   (∀(j:Nat)(h':j<c.size),j<l.length*k->c[j]'h'=(enc (l[j / k]!))[j % k]!)/\
   (∀(j:Nat)(h':j<rest.length)(h'':l.length*k+j<c.size),ba L H.length T w (rest[j]'h') (c[l.length*k+j]'h'')):=by
 obtain⟨c,t,fr,g1,g2,g3,vW,g4,g5⟩:=h.box i _ hi;have hf:=uG he l;rw[agF,hf] at g3;refine⟨c,t,fr,g1,g2,g3,vW,λj uU hj=>?_,λj hj uU=>?_⟩
 ·have qJ:j<(l.flatMap ic++rest).length:=by rw[agF];omega
  have r:=g4 j qJ uU;have e:(l.flatMap ic++rest)[j]'qJ=(ic (l[j / k]!)).getD (j % k) .top:=by
   have bQ:j<(l.flatMap ic).length:=by omega
   rw[<-xE he l j hj,ahS bQ,agB,agD bQ];rfl
  rw[e,he.rep _ _ (aiS _ he.pos)] at r;exact r
 ·have qJ:l.length*k+j<(l.flatMap ic++rest).length:=by rw[agF];omega
  have r:=g4 _ qJ uU;rw[aiI (by omega)] at r;have e:l.length*k+j-(l.flatMap ic).length=j:=by omega
  simp only[e] at r;exact r
def cg.wZ {i:Nat}{l:List α}{rest:List AV}(he:Ri enc ic k)(h:cg L H T w)(hi:H[i]?=some (.cells (l.flatMap ic++rest))):HoldsK enc k w (L.bS i) 0 l.toArray:=by
 obtain⟨c,t,fr,g1,g2,g3,_,g4,_⟩:=h.I8 he hi;intro j hj;rw[size_flatK] at hj;have hj:j<l.length*k:=by simpa using hj
 have uU:j<c.size:=by omega
 rw[ahO];refine⟨?_,?_⟩
 ·rw[gp g1,ais uU,g4 j uU hj,get_flatK _ _ _ _ (by simpa using hj)];simp
 ·obtain⟨lo,iP⟩:=fr;unfold World.frozen?;simp only[g1];exact g2 j uU
def cg.sorted {i n:Nat}{l l':List α}{rest:List AV}{os:Array Obj}(he:Ri enc ic k)(h:cg L H T w)(hi:H[i]?=some (.cells (l.flatMap ic++rest)))(hl:l'.length=l.length) :
  ∃L',cg L' (H.set i (.cells (l'.flatMap ic++rest))) T (sortWorldK enc k w (L.bS i) 0 n l'.toArray os)/\
   Ev H.length T.length L H.length T w L' (H.set i (.cells (l'.flatMap ic++rest))).length T (sortWorldK enc k w (L.bS i) 0 n l'.toArray os)/\∀j,j<H.length->L'.bS j=L.bS j:=by
 have h1:cg L H T (Sort.ahead w n):=h.drew rfl;have zp:Ev H.length T.length L H.length T w L H.length T (Sort.ahead w n):=Ev.drew rfl rfl rfl rfl (Nat.le_add_right _ _);obtain⟨c,t,fr,g1,g2,g3,vW,g4,g5⟩:=h1.I8 he hi;have gu:(putCells id 0 (flatK enc k l'.toArray) c).size=c.size:=by simp[putCells]
 have sb:=uG he l';have jl:∀(j:Nat) (h':j<(putCells id 0 (flatK enc k l'.toArray) c).size),(j<l.length*k->(putCells id 0 (flatK enc k l'.toArray) c)[j]'h'=(enc (l'[j / k]!))[j % k]!)/\
   (l.length*k<=j->(putCells id 0 (flatK enc k l'.toArray) c)[j]'h'=c[j]'(by rw[gu] at h';exact h')):=by
  intro j h';refine⟨λhj=>?_,λhj=>?_⟩
  ·simp only[putCells,Array.getElem_mapIdx];rw[agN ⟨agP _,by rw[size_flatK];simp[hl];exact hj⟩,Nat.sub_zero,get_flatK _ _ _ _ (by simpa[hl] using hj)];simp
  ·simp only[putCells,Array.getElem_mapIdx];rw[agL (by rw[size_flatK];simp[hl];omega)]
 have JC:∀(j:Nat) (h':j<(putCells id 0 (flatK enc k l'.toArray) c).size),((putCells id 0 (flatK enc k l'.toArray) c)[j]'h').oneCell'=true:=by
  intro j h';rcases agM j (l.length*k) with hj|hj
  ·rw[(jl j h').1 hj];have hm:j % k<(enc (l'[j / k]!)).length:=by rw[he.len];exact aiS _ he.pos
   rw[aiC (enc (l'[j / k]!)) (j % k) hm];exact he.one _ _ (ahb hm)
  ·rw[(jl j h').2 hj];exact vW _ _
 have CY:=h1.Yq (w':=putRowK enc k (Sort.ahead w n) (L.bS i) 0 l'.toArray) (vs':=l'.flatMap ic++rest) (c':=putCells id 0 (flatK enc k l'.toArray) c) (t:=t) (fr:=fr) hi g1
  (by simp only[putRowK,putRow,mapBlock,aiO,ain];rw[g1];rfl) gu (by rw[agF,agF,sb,uG he,hl]) JC
  (λj hj bQ=>by
   rcases agM j (l.length*k) with aZ|od
   ·have yy:j<(l'.flatMap ic).length:=by rw[sb,hl];exact aZ
    have e:(l'.flatMap ic++rest)[j]'hj=(ic (l'[j / k]!)).getD (j % k) .top:=by
     rw[<-xE he l' j (by rw[hl];exact aZ),ahS yy,agB,agD yy];rfl
    rw[e,he.rep _ _ (aiS _ he.pos)];exact(jl j bQ).1 aZ
   ·rw[(jl j bQ).2 od];have uU:j<c.size:=by rw[gu] at bQ;exact bQ
    have r:=g5 (j-l.length*k) (by omega) (by omega);have e1:l.length*k+(j-l.length*k)=j:=by omega
    simp only[e1] at r;rw[aiI (by rw[sb,hl];exact od)];have e2:j-(l'.flatMap ic).length=j-l.length*k:=by rw[sb,hl]
    simp only[e2];exact r)
  (λx hx=>by simp[putRowK,putRow,mapBlock,aiO,Ne.symm hx]) (by simp[putRowK]) rfl rfl rfl (agE _)
 obtain⟨L',c3,TY⟩:=cg.grown os.toList CY.1;rw[Array.toArray_toList] at c3 TY;have W7:=CY.2;rw[ahY] at W7 TY ⊢;exact⟨L',c3,(zp.trans W7).trans TY,λj hj=>((zp.trans W7).trans TY).bS j hj⟩
theorem OK {ρ:Ren}(Ly:SlLaysF0.n6 P ρ)(aE:∀w,(isAgg (ρ.t 24)).run P w=.ok true w)(zE:∀w,(Go.sizeOf (ρ.t 24)).run P w=.ok k w)(he:Ri enc ic k)(hg0:zC=[])
  (cf:α->α->Int) (hO:SWO (ltOf cf)) (hT:∀x y,(ltOf cf) x y=false->(ltOf cf) y x=false->x=y) (g:FuncId) (Nf:∀x y,ar P g [.agg (ic x),.agg (ic y)] [] [] (Is (.int .i64 (cf x y)) [] []))
  (Nd:∀xs w,(callFunc (ρ.f 6) xs).run P w=.ok (.enter (ρ.f 6) xs) w) (l:List α) (rest:List AV) (i cap:Nat) (hi:H[i]?=some (.cells (l.flatMap ic++rest))) (gu:l.length<4611686018427387904) :
  ar P (ρ.f 6) [.bJ i l.length cap,.fn g [] []] H T (Is (.df []) (H.set i (.cells ((l.mergeSort λx y=>!(ltOf cf) y x).flatMap ic++rest))) T):=by
 refine⟨Nd,λL w ca hc hl hr=>?_⟩;have e0:ca=#[.slice (some ⟨L.bS i,0,none⟩) l.length cap,.func (.func g) #[] #[]]/\i<H.length:=by
  obtain⟨cl⟩:=ca;have jy:cl.length=2:=by simpa using hl
  match cl,jy with
  |[a,b],_=>
   have r0:=hr 0 (by simp) (by simp);have r1:=hr 1 (by simp) (by simp);simp at r0 r1;obtain⟨rfl,_,aZ⟩:=r0.ij
   cases r1 with
   |fn _ _ _ fv cv h1 h2=>
    have:fv=#[]:=aiJ (by simpa using h1);subst this;have:cv=#[]:=aiJ (by simpa using h2);subst this;exact⟨rfl,aZ⟩
 obtain⟨rfl,eH⟩:=e0;have Cw:∀x,∀L N T w,ba L N T w (.agg (ic x)) (.agg (enc x).toArray):=λx L N T w=>by
  refine .agg _ _ (by simp[he.len,he.A2]) (λj hj=>?_) (λj hj bQ=>?_)
  ·exact he.one x _ (by simp)
  ·have Jq:j<k:=by rw[he.A2] at hj;exact hj
   have:=(he.rep x j Jq L N T w (enc x)[j]!).2 rfl;rw[agB,agD hj] at this;simp only[aie] at this;have h':j<(enc x).length:=by rw[he.len];exact Jq
   rw[aiC (enc x) j h'] at this;simpa using this
 have gC:CmpLays P g #[] enc k cf (L.bS i) 0 l.toArray.size w:=by
  intro m os dk hs x y;have h1:=(Nf x y).grown (w:=sortWorldK enc k w (L.bS i) 0 m dk os) (ca:=#[.agg (enc x).toArray,.agg (enc y).toArray]++#[]) hg0 (by simp) (λj hj bQ=>by
   match j,hj with
   |0,_=>exact Cw x _ _ _ _
   |1,_=>exact Cw y _ _ _ _)
  refine h1.mono ?_;rintro e w' ⟨⟨cv,L',rfl,dG⟩,q,Xr,hw⟩
  cases dG
  exact⟨rfl,q,Xr,hw⟩
 have nF:=AnyQ.slices_SortFunc_total Ly k aE zE enc he.len he.one cf hO g #[] (L.bS i) 0 cap l.toArray w (Nf default default).1 gC (hc.wZ he hi) (hc.lX eH) (by simpa using gu) hT;simp only[List.size_toArray] at nF;refine nF.mono ?_;rintro e w' ⟨rfl,n,os,rfl⟩;obtain⟨L',jk,dB,_⟩:=hc.sorted (n:=n) (os:=os) (l':=l.mergeSort λx y=>!(ltOf cf) y x) he hi (aiL _);exact⟨_,_,T,L',_,⟨rfl,rfl,rfl⟩,rfl,jk,.df [] #[] rfl (λj hj=>by simp at hj),dB⟩
theorem OM {ρ:Ren}(Ly:SlLaysF0.n6 P ρ)(g:FuncId)(Nd:∀xs w,(callFunc (ρ.f 6) xs).run P w=.ok (.enter (ρ.f 6) xs) w)(tg:Tag):ar P (ρ.f 6) [.sl 0 [] tg,.fn g [] []] H T (Is (.df []) H T):=by
 refine⟨Nd,λL w ca hc hl hr=>?_⟩;have e0:∃a cap fv,ca=#[.slice a 0 cap,fv]:=by
  obtain⟨cl⟩:=ca;have jy:cl.length=2:=by simpa using hl
  match cl,jy with
  |[a,b],_=>
   have r0:=hr 0 (by simp) (by simp);simp at r0;obtain⟨a,cap,rfl,_⟩:=r0.fF;exact⟨a,cap,b,rfl⟩
 obtain⟨a,cap,fv,rfl⟩:=e0;refine(AnyF.slices_SortFunc_none Ly a cap fv w).mono ?_;rintro e w' ⟨rfl,rfl⟩;exact⟨_,H,T,L,_,⟨rfl,rfl,rfl⟩,rfl,hc,.df [] #[] rfl (λj hj=>by simp at hj),Ev.refl (agE _) (agE _)⟩
end
section
variable {P : Program} {f : FuncId} {args : List AV} {H : List aA} {T : au}
def ar.PF {n:Nat}{cs:List AV}(hb:aM H.length T.length cs)
  (h:ar P f args H T (λr H' T'=>(∃G,H'=H++G)/\(∃rT,T'=T++rT)/\((n=0/\cs=[]/\∃tg,r=.sl 0 [] tg)\/∃i cap rest,r=.bJ i n cap/\H.length<=i/\H'[i]?=some (.cells (cs++rest))))) :
  ar P f args H T (Is (.sl n cs .none) H T):=by
 refine⟨h.1,λL w ca hc hl hr=>(h.2 L w ca hc hl hr).mono ?_⟩;rintro e w' ⟨r',H',T',L',cv,⟨⟨G,e1⟩,⟨rT,e2⟩,tJ⟩,rfl,cR,dG,dB⟩;subst e1;subst e2;have Ia:cg L' H T w':=cg.front P cR hc.jC;have e1:=dB.front (agE _) (agE _);rcases tJ with⟨rfl,rfl,tg,rfl⟩|⟨i,cap,rest,rfl,hi,UZ⟩
 ·have:=(dG.cK).drop (n:=H.length) (t:=T.length) (by simp);exact⟨_,H,T,L',cv,⟨rfl,rfl,rfl⟩,rfl,Ia,by simpa using this,e1⟩
 ·obtain⟨rfl,cE,aZ⟩:=dG.ij;have rE:=cR.box i _ UZ;have Rq:=rE.lt;obtain⟨c,t,fr,g1,g2,g3,vW,g4,g5⟩:=rE;have H9:¬Wr L' H.length T (L'.bS i):=by
   rintro (⟨j,hj,e⟩|⟨t,u,z,ht,hs,e⟩)
   ·have:=cR.inj j i (by rw[agF];omega) aZ e;omega
   ·exact cR.kq t u z i (by rw[agK (agC.1 ht).1];exact ht) hs aZ e
  have oU:=Ia.Er (k:=cs.length) Rq H9 (by omega);have kp:cX L' H.length T w' (L'.bW (L'.bS i) cs.length) H.length T w':=by
   refine⟨agE _,λ_ _=>rfl,λt u z h=>⟨u,h,agE _,λ_=>rfl⟩,λx=>?_,λ_ _ _=>rfl,rfl⟩;show L'.m x<=if x=L'.bS i then cs.length else L'.m x
   split
   ·rename_i e;rw[e,g5];exact agP _
   ·exact agE _
  rw[agF] at g3;refine⟨_,H,T,L'.bW (L'.bS i) cs.length,_,⟨rfl,rfl,rfl⟩,rfl,oU,?_,?_⟩
  ·have UN:cJ L' H.length T w' cs (c.toList.take cs.length):=by
    refine⟨by simp;omega,λj hj=>?_,λj hj bQ=>?_⟩
    ·have uU:j<c.size:=by simp at hj;omega
     have:=vW j uU;rw[aiT,ahA];exact this
    ·have uU:j<c.size:=by omega
     have:=(g4 j (by rw[agF];omega) uU)
     rw[ahS hj] at this;have:=this.drop (n:=H.length) (t:=T.length) (hb _ (ahb hj));rw[aiT,ahA];simpa using this
   refine ba.mD cE ?_ (UN.keep kp) (λj hj=>?_) trivial
   ·show 0+cs.length<=if L'.bS i=L'.bS i then cs.length else _
    rw[agN rfl];omega
   ·rw[gp g1,ahO,ahu,agN hj];simp
  ·exact⟨e1.n,e1.bS,e1.tok,e1.t,λb=>agJ (e1.m b) (kp.m b),e1.tF,e1.size,e1.frame,e1.wr,e1.os,e1.tape,e1.output,e1.drawn,e1.dr⟩
end
def Plain (v:AV):Prop:=∀L N T w c L' N' T' w',ba L N T w v c->ba L' N' T' w' v c
theorem Plain.int (k:IntKind)(n:Int):Plain (.int k n):=λL N T w c L' N' T' w' h=>by cases h;exact .int k n
theorem Plain.str (s:List UInt8):Plain (.str s):=λL N T w c L' N' T' w' h=>by cases h;exact .str s
def Plain.top:Plain .top:=λL N T w c L' N' T' w' h=>.top c
def Vis (row Mn:List AV):Prop:=Mn.length=row.length/\∀j,j<row.length->Mn.getD j .top=.top\/(Mn.getD j .top=row.getD j .top/\Plain (row.getD j .top))
section
variable {P : Program} {L : Lay} {H : List aA} {T : au} {w : World} {k : Nat}
theorem xD {κ:Type}(hp:0<k):∀(rows:List (κ×List AV)) (hk:∀x∈rows,x.2.length=k) (t:Nat) (h:t / k<rows.length),(rows.flatMap (·.2)).getD t .top=(rows[t / k]'h).2.getD (t % k) .top
 |[],_,t,h=>by simp at h
 |x::r,hk,t,h=>by
  have hx:=hk x (by simp);rw[agT]
  by_cases aZ:t<k
  ·have e1:=Nat.div_eq_of_lt aZ;have e2:=Nat.mod_eq_of_lt aZ;simp only[agB,e1,e2];rw[agK (by rw[hx];exact aZ)];rfl
  ·have e1:=Nat.div_eq_sub_div hp (by omega:k<=t);have e2:=Nat.mod_eq_sub_mod (by omega:k<=t);have hr:(t-k) / k<r.length:=by rw[e1] at h;simpa using h
   have ih:=xD hp r (λy hy=>hk y (by simp[hy])) (t-k) hr;simp only[agB] at ih ⊢;rw[agX (by rw[hx];omega),hx,ih];simp only[e1,e2,aiE]
theorem uF {κ:Type}:∀(rows:List (κ×List AV)) (hk:∀x∈rows,x.2.length=k),(rows.flatMap (·.2)).length=rows.length*k
 |[],_=>by simp
 |x::r,hk=>by rw[agT,agF,uF r (λy hy=>hk y (by simp[hy])),hk x (by simp),ahd,ahU,one_mul];omega
theorem Dr {ρ : Ren} (Ly : SlLaysF0.n6 P ρ) (aE : ∀ w, (isAgg (ρ.t 24)).run P w = .ok true w) (zE : ∀ w, (Go.sizeOf (ρ.t 24)).run P w = .ok k w) (hp : 0 < k) (hg0 : zC = []) {κ : Type} (Mn : κ -> List AV)
    (cf : κ -> κ -> Int) (hO : SWO (ltOf cf)) (g : FuncId)
    (Nd : ∀ xs w, (callFunc (ρ.f 6) xs).run P w = .ok (.enter (ρ.f 6) xs) w) (rows : List (κ × List AV)) (dN : rows ≠ []) (hk : ∀ x ∈ rows, x.2.length = k) (hv : ∀ x ∈ rows, Vis x.2 (Mn x.1))
    (hT : rows.Pairwise λx y => ltOf cf x.1 y.1 = true \/ ltOf cf y.1 x.1 = true)
    (Nf : ∀ x ∈ rows, ∀ y ∈ rows, ar P g [.agg (Mn x.1), .agg (Mn y.1)] [] [] (Is (.int .i64 (cf x.1 y.1)) [] []))
    (rest : List AV) (i cap : Nat) (hi : H[i]? = some (.cells (rows.flatMap (·.2) ++ rest))) (gu : rows.length < 4611686018427387904) :
    ar P (ρ.f 6) [.bJ i rows.length cap, .fn g [] []] H T (Is (.df []) (H.set i (.cells ((rows.mergeSort λx y => !(ltOf cf) y.1 x.1).flatMap (·.2) ++ rest))) T) := by
  refine ⟨Nd, λL w ca hc hl hr => ?_⟩;have e0 : ca = #[.slice (some ⟨L.bS i, 0, none⟩) rows.length cap, .func (.func g) #[] #[]] /\ i < H.length := by
    obtain ⟨cl⟩ := ca;have jy : cl.length = 2 := by simpa using hl
    match cl, jy with
    | [a, b], _ =>
      have r0 := hr 0 (by simp) (by simp)
      have r1 := hr 1 (by simp) (by simp)
      simp at r0 r1
      obtain ⟨rfl, _, aZ⟩ := r0.ij
      cases r1 with
      | fn _ _ _ fv cv h1 h2 =>
        have : fv = #[] := aiJ (by simpa using h1)
        subst this
        have : cv = #[] := aiJ (by simpa using h2)
        subst this
        exact ⟨rfl, aZ⟩
  obtain ⟨rfl, eH⟩ := e0;obtain ⟨c, ty, fr, g1, g2, g3, vW, g4, g5⟩ := hc.box i _ hi;have sb := uF rows hk;rw [agF, sb] at g3;have FE : 0 < rows.length := ahN.2 dN;generalize hn : rows.length = n at *;have tL : ∀ (x : Fin n) (j : Nat), j < k -> x.val * k + j < n * k := λx j hj => by
    have : (x.val + 1) * k <= n * k := ahF k x.isLt;rw [ahU, one_mul] at this;omega
  letI : Inhabited (Fin n) := ⟨⟨0, FE⟩⟩
  let enc : Fin n -> List Value := λx => (List.range k).map λj => c[x.val * k + j]!
  have Nj : ∀ x, (enc x).length = k := λx => by simp [enc]
  have W8 : ∀ (x : Fin n) (j : Nat), j < k -> (enc x)[j]! = c[x.val * k + j]! := λx j hj => by
    have h' : j < (enc x).length := by rw [Nj]; exact hj
    rw [aiC (enc x) j h'];simp [enc]
  have VN : ∀ x, ∀ v ∈ enc x, v.oneCell' = true := λx v hv => by
    obtain ⟨j, hj, rfl⟩ := agG.1 hv;have bQ := tL x j (ag3.1 hj);rw [aiC c _ (by omega)];exact vW _ _
  have tO : ∀ (x : Fin n) (j : Nat), j < k -> ∀ h : x.val * k + j < (rows.flatMap (·.2) ++ rest).length, (rows.flatMap (·.2) ++ rest)[x.val * k + j]'h = (rows[x.val]'(by rw [hn]; exact x.isLt)).2.getD j .top := λx j hj h => by
    have bQ := tL x j hj;have e1 : (x.val * k + j) / k = x.val := by rw [ai4, Nat.mul_add_div hp, Nat.div_eq_of_lt hj]; omega
    have e2 : (x.val * k + j) % k = j := by rw [ai4, Nat.mul_add_mod, Nat.mod_eq_of_lt hj]
    have := xD hp rows hk (x.val * k + j) (by rw [e1, hn]; exact x.isLt);simp only [e1, e2] at this;rw [ahS (by rw [sb]; exact bQ), <- this, agB, agD (by rw [sb]; exact bQ)];rfl
  have YW : ∀ (x : Fin n) (j : Nat), j < k -> ba L H.length T w ((rows[x.val]'(by rw [hn]; exact x.isLt)).2.getD j .top) ((enc x)[j]!) := λx j hj => by
    have bQ := tL x j hj;rw [W8 x j hj, aiC c _ (by omega), <- tO x j hj (by rw [agF, sb]; omega)];exact g4 _ _ _
  let MZ : Fin n -> Fin n -> Int := λx y => cf (rows[x.val]'(by rw [hn]; exact x.isLt)).1 (rows[y.val]'(by rw [hn]; exact y.isLt)).1
  have hO' : SWO (ltOf MZ) := ⟨λx => hO.1 _, λx y z h1 h2 => hO.2 _ _ _ h1 h2, λx y z h1 h2 => hO.3 _ _ _ h1 h2⟩
  have hT' : ∀ x y, (ltOf MZ) x y = false -> (ltOf MZ) y x = false -> x = y := λx y h1 h2 => by
    rw [ag8] at hT;rcases ah6 x.val y.val with e | e | e
    · rcases hT x.val y.val (by rw [hn]; exact x.isLt) (by rw [hn]; exact y.isLt) e with h | h
      · have : ltOf MZ x y = true := h;rw [h1] at this; cases this
      · have : ltOf MZ y x = true := h;rw [h2] at this; cases this
    · exact Fin.ext e
    · rcases hT y.val x.val (by rw [hn]; exact y.isLt) (by rw [hn]; exact x.isLt) e with h | h
      · have : ltOf MZ y x = true := h;rw [h2] at this; cases this
      · have : ltOf MZ x y = true := h;rw [h1] at this; cases this
  have Cw : ∀ (x : Fin n) L' N' T' w', ba L' N' T' w' (.agg (Mn (rows[x.val]'(by rw [hn]; exact x.isLt)).1)) (.agg (enc x).toArray) := λx L' N' T' w' => by
    have hx : (rows[x.val]'(by rw [hn]; exact x.isLt)) ∈ rows := ahb _;obtain ⟨v1, v2⟩ := hv _ hx;have hkx := hk _ hx;refine .agg _ _ (by simp [Nj, v1, hkx]) (λj hj => ?_) (λj hj bQ => ?_)
    · exact VN x _ (by simp)
    · have Jq : j < k := by rw [v1, hkx] at hj; exact hj
      have r := YW x j Jq;have h' : j < (enc x).length := by rw [Nj]; exact Jq
      rw [aiC (enc x) j h'] at r;have e : (Mn (rows[x.val]'(by rw [hn]; exact x.isLt)).1)[j]'hj = (Mn (rows[x.val]'(by rw [hn]; exact x.isLt)).1).getD j .top := by
        rw [agB, agD hj]; rfl
      rw [e];rcases v2 j (by rw [hkx]; exact Jq) with q | ⟨q1, q2⟩
      · rw [q]; exact .top _
      · rw [q1]; simpa using q2 _ _ _ _ _ L' N' T' w' r
  have WM : (List.finRange n).toArray.size = n := by simp
  have gC : CmpLays P g #[] enc k MZ (L.bS i) 0 (List.finRange n).toArray.size w := by
    intro m os dk hs x y;have h1 := (Nf _ (ahb _) _ (ahb _) : ar P g [.agg (Mn (rows[x.val]'(by rw [hn]; exact x.isLt)).1), .agg (Mn (rows[y.val]'(by rw [hn]; exact y.isLt)).1)] [] [] _).grown (w := sortWorldK enc k w (L.bS i) 0 m dk os) (ca := #[.agg (enc x).toArray, .agg (enc y).toArray] ++ #[]) hg0 (by simp) (λj hj bQ => by
      match j, hj with
      | 0, _ => exact Cw x _ _ _ _
      | 1, _ => exact Cw y _ _ _ _)
    refine h1.mono ?_;rintro e w' ⟨⟨cv, L', rfl, dG⟩, q, Xr, hw⟩
    cases dG
    exact ⟨rfl, q, Xr, hw⟩
  have Wm : HoldsK enc k w (L.bS i) 0 (List.finRange n).toArray := by
    intro j hj;rw [size_flatK] at hj;have hj : j < n * k := by simpa using hj
    have uU : j < c.size := by omega
    have hq : j / k < n := ai6 (by rw [ai4]; exact hj);rw [ahO];refine ⟨?_, ?_⟩
    · rw [gp g1, ais uU, get_flatK _ _ _ _ (by simpa using hj)];have e1 : (List.finRange n).toArray[j / k]! = ⟨j / k, hq⟩ := by
        rw [aiC _ _ (by simpa using hq)]; simp
      rw [e1, W8 _ _ (aiS _ hp)];have e2 : j / k * k + j % k = j := by rw [ai4]; exact Nat.div_add_mod j k
      simp only [e2];rw [aiC c _ uU];rfl
    · obtain ⟨lo, iP⟩ := fr;unfold World.frozen?;simp only [g1];exact g2 j uU
  have nF := AnyQ.slices_SortFunc_total Ly k aE zE enc Nj VN MZ hO' g #[] (L.bS i) 0 cap (List.finRange n).toArray w (Nf _ (ahb (by rw [hn]; exact FE)) _ (ahb (by rw [hn]; exact FE))).1 gC Wm (hc.lX eH) (by simpa using gu) hT';simp only [WM] at nF;refine nF.mono ?_;rintro e w' ⟨rfl, nd, os, rfl⟩;generalize jJ : (List.finRange n).mergeSort (λx y => !(ltOf MZ) y x) = l';have u4 : l'.length = n := by rw [<- jJ, aiL]; simp
  have Wh : l'.map (λx => rows[x.val]'(by rw [hn]; exact x.isLt)) = rows.mergeSort λx y => !(ltOf cf) y.1 x.1 := by
    have e1 : (List.finRange n).map (λx => rows[x.val]'(by rw [hn]; exact x.isLt)) = rows := by
      apply aiy
      · simp [hn]
      · intro j h1 h2; simp
    have e2 := List.map_mergeSort (r := λx y => !(ltOf MZ) y x) (s := λ(x y : κ × List AV) => !(ltOf cf) y.1 x.1) (f := λx : Fin n => rows[x.val]'(by rw [hn]; exact x.isLt)) (l := List.finRange n) (λa _ b _ => rfl);rw [<- jJ, e2, e1]
  have nw : ∀ x ∈ rows.mergeSort (λx y => !(ltOf cf) y.1 x.1), x.2.length = k := λx hx => hk x ((aiG _ _).mem_iff.1 hx);rw [<- Wh] at nw ⊢;have JG := uF _ nw;rw [agU, u4] at JG;have h1 : cg L H T (Sort.ahead w nd) := hc.drew rfl;have zp : Ev H.length T.length L H.length T w L H.length T (Sort.ahead w nd) := Ev.drew rfl rfl rfl rfl (Nat.le_add_right _ _);have Vp : (putCells id 0 (flatK enc k l'.toArray) c).size = c.size := by simp [putCells]
  have jl : ∀ (j : Nat) (h' : j < (putCells id 0 (flatK enc k l'.toArray) c).size), (∀ hj : j < n * k, (putCells id 0 (flatK enc k l'.toArray) c)[j]'h' = (enc (l'[j / k]'(by rw [u4]; exact ai6 (by rw [ai4]; exact hj))))[j % k]!) /\
      (n * k <= j -> (putCells id 0 (flatK enc k l'.toArray) c)[j]'h' = c[j]'(by rw [Vp] at h'; exact h')) := by
    intro j h';refine ⟨λhj => ?_, λhj => ?_⟩
    · have hq : j / k < l'.length := by rw [u4]; exact ai6 (by rw [ai4]; exact hj)
      simp only [putCells, Array.getElem_mapIdx];rw [agN ⟨agP _, by rw [size_flatK]; simp [u4]; exact hj⟩, Nat.sub_zero, get_flatK _ _ _ _ (by simpa [u4] using hj)];have e1 : l'.toArray[j / k]! = l'[j / k]'hq := by
        rw [aiC _ _ (by simpa using hq)]; simp
      rw [e1]; rfl
    · simp only [putCells, Array.getElem_mapIdx];rw [agL (by rw [size_flatK]; simp [u4]; omega)]
  have JC : ∀ (j : Nat) (h' : j < (putCells id 0 (flatK enc k l'.toArray) c).size), ((putCells id 0 (flatK enc k l'.toArray) c)[j]'h').oneCell' = true := by
    intro j h';rcases agM j (n * k) with hj | hj
    · rw [(jl j h').1 hj];have hm : j % k < (enc (l'[j / k]'(by rw [u4]; exact ai6 (by rw [ai4]; exact hj)))).length := by rw [Nj]; exact aiS _ hp
      rw [aiC _ (j % k) hm];exact VN _ _ (ahb hm)
    · rw [(jl j h').2 hj]; exact vW _ _
  have CY := h1.Yq (w' := putRowK enc k (Sort.ahead w nd) (L.bS i) 0 l'.toArray) (vs' := (l'.map (λx => rows[x.val]'(by rw [hn]; exact x.isLt))).flatMap (·.2) ++ rest) (c' := putCells id 0 (flatK enc k l'.toArray) c) (t := ty) (fr := fr) hi g1
    (by simp only [putRowK, putRow, mapBlock, aiO, ain]; rw [show (Sort.ahead w nd).heap = w.heap from rfl, g1]; rfl) Vp (by rw [agF, agF, sb, JG]) JC
    (λj hj bQ => by
      rcases agM j (n * k) with aZ | od
      · have hq : j / k < l'.length := by rw [u4]; exact ai6 (by rw [ai4]; exact aZ)
        have e : ((l'.map (λx => rows[x.val]'(by rw [hn]; exact x.isLt))).flatMap (·.2) ++ rest)[j]'hj = (rows[(l'[j / k]'hq).val]'(by rw [hn]; exact (l'[j / k]'hq).isLt)).2.getD (j % k) .top := by
          have := xD hp _ nw j (by rw [agU]; exact hq);simp only [ahv] at this;rw [ahS (by rw [JG]; exact aZ), <- this, agB, agD (by rw [JG]; exact aZ)];rfl
        rw [e, (jl j bQ).1 aZ];exact (YW _ _ (aiS _ hp)).keep zp.keeps
      · rw [(jl j bQ).2 od];have uU : j < c.size := by rw [Vp] at bQ; exact bQ
        have r := g4 j (by rw [agF, sb]; omega) uU;have e1 : (rows.flatMap (·.2) ++ rest)[j]'(by rw [agF, sb]; omega) = rest[j - n * k]'(by omega) := by
          rw [aiI (by rw [sb]; exact od)]
          congr 1; rw [sb]
        have e2 : ((l'.map (λx => rows[x.val]'(by rw [hn]; exact x.isLt))).flatMap (·.2) ++ rest)[j]'hj = rest[j - n * k]'(by omega) := by
          rw [aiI (by rw [JG]; exact od)]
          congr 1; rw [JG]
        rw [e2, <- e1];exact r.keep zp.keeps)
    (λx hx => by simp [putRowK, putRow, mapBlock, aiO, Ne.symm hx]) (by simp [putRowK]) rfl rfl rfl (agE _)
  obtain ⟨L', c3, TY⟩ := cg.grown os.toList CY.1;rw [Array.toArray_toList] at c3 TY;have W7 := CY.2;rw [ahY] at W7 TY;refine ⟨_, _, T, L', _, ⟨rfl, rfl, rfl⟩, rfl, c3, .df [] #[] rfl (λj hj => by simp at hj), ?_⟩;rw [ahY];exact (zp.trans W7).trans TY
end
end Go.Am
