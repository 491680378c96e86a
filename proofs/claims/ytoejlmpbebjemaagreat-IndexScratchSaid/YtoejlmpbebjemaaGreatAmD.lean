/- Blocks behind the heap, a box whose cells are written anew, and what a call that makes nothing leaves: for contracts that speak of worlds. Sorting a box that holds structs, by the library's contract. Sorting a box whose rows hold cells that the test does not look at, by the library's contract; the keys are different.
  Conditions: as the theorems say. -/
import Derived.Sort.Grow
import Derived.Deep.Draws
import Derived.Test.YtoejlmpbebjemaaGreatAmC
import Derived.Shelf.SlSortCmp.NoneTotal
set_option linter.all false
open Nat (one_mul)

namespace Go.Am
open Go Go.Sort
section
variable {P : Program} {f : FuncId} {args : List AV} {H : List aA} {T : au}
def Mr (w:World)(l:List Obj)(o:Obj):Sort.grow w (o::l).toArray=Sort.grow (w.alloc o) l.toArray:=by
 unfold Sort.grow World.alloc
 congr 1
 apply Array.ext';simp
theorem cz.grown:∀(l:List Obj) {L:Lay} {w:World},cz L H T w->∃L',cz L' H T (Sort.grow w l.toArray)/\Ev H.length T.length L H.length T w L' H.length T (Sort.grow w l.toArray)
 |[],L,w,h=>by
  have e:Sort.grow w ([]:List Obj).toArray=w:=Sort.grow_empty w;rw[e];exact⟨L,h,Ev.refl (ahv _) (ahv _)⟩
 |o::l,L,w,h=>by
  obtain⟨L',h1,h2⟩:=cz.grown l (h.alloc o 0);rw[Mr];exact⟨L',h1,(Ev.alloc h o 0).trans h2⟩
def cz.Zd {L:Lay}{w w':World}(h:cz L H T w){i:Nat}{vs vs':List AV}{c c':Array Value}{t:TypeId}{fr:Nat×Nat}(hi:H[i]?=some (.cells vs))(hb:w.heap[L.bW i]?=some (.cells c t fr))
  (wZ:w'.heap[L.bW i]?=some (.cells c' t fr)) (hc:c'.size=c.size) (hl:vs'.length=vs.length) (h1:∀(j:Nat)(h':j<c'.size),(c'[j]'h').oneCell'=true)
  (hr:∀(j:Nat)(h:j<vs'.length)(h':j<c'.size),bt L H.length T w (vs'[j]'h) (c'[j]'h'))
  (dM:∀x,x≠L.bW i->w'.heap[x]?=w.heap[x]?) (hz:w'.heap.size=w.heap.size) (ho:w'.os=w.os) (Yu:w'.tape=w.tape) (BE:w'.output=w.output) (qE:w.drawn<=w'.drawn) :
  cz L (H.set i (.cells vs')) T w'/\Ev H.length T.length L H.length T w L (H.set i (.cells vs')).length T w':=by
 have eM:=(aht.1 hi).1;obtain⟨c0,t0,fr0,g1,g2,g3,wC,g4,g5⟩:=h.box i _ hi;rw[hb] at g1
 cases g1
 have sR:∀b o',o'<L.m b->w'.cell? ⟨b,o',none⟩=w.cell? ⟨b,o',none⟩:=by
  intro b o' bp;refine jz (dM _ ?_) o';rintro rfl;omega
 have kp:dh L H.length T w L H.length T w':=
  ⟨ahv _,λ_ _=>rfl,λt u z h=>⟨u,h,ahv _,λ_=>rfl⟩,λ_=>ahv _,sR,rfl⟩
 refine⟨⟨λj b hb=>?_,λa b ha hb=>h.inj a b (zU ha) (zU hb),λt u z ht=>?_,h.pG,λt u z j ht hs hj=>h.kY t u z j ht hs (zU hj),λb hb=>h.mz b zO,h.gl.keep kp.m kp.uh⟩,
  by simp,λ_ _=>rfl,λt u z _ h=>⟨u,h,ahv _,λ_=>rfl⟩,ahv _,λ_=>ahv _,sR,zO,λb hb hn=>?_,λb hb=>.inl (zU hb),ho,Yu,BE,λ_=>qE,rfl⟩
 ·rw[aiR]
  by_cases rW:i=j
  ·subst rW;rw[ahZ eM] at hb
   cases hb
   exact⟨c',t,fr,wZ,λo ho=>g2 o zO,zO,h1,λj hj bU=>(hr j hj bU).keep kp,g5⟩
  ·rw[ail rW] at hb;have hx:=h.box j b hb;have ru:=(aht.1 hb).1;have hnp:L.bW j≠L.bW i:=λe=>rW (h.inj j i ru eM e).symm;exact hx.stay kp ru (dM _ hnp) id
 ·obtain⟨k1,k2⟩:=h.tok t u z ht;refine⟨k1,λhs=>?_⟩;rw[dM _ (h.kY t u z i ht hs eM)];exact k2 hs
 ·exact dM _ (λe=>hn (.inl ⟨i,eM,e.symm⟩))
theorem aq.grown {r:AV}{w:World}{ca:Array Value}(h:aq P f args [] [] (Is r [] []))(hg:Ah=[])(hs:ca.size=args.length)
  (hr:∀(j:Nat)(h:j<args.length)(h':j<ca.size),bt (wb w) 0 [] w (args[j]'h) (ca[j]'h')) :
  Calls P f ca w λe w'=>(∃cv L',e=.returned cv/\bt L' 0 [] w' r cv)/\∃q Yf,w'=Sort.grow (w.drewN q) Yf:=by
 refine(h.2 (wb w) w ca (ZO w (by rw[hg];intro x hx;cases hx)) hs hr).mono ?_;rintro e w' ⟨r',H',T',L',cv,⟨rfl,rfl,rfl⟩,rfl,_,dO,dI⟩;refine⟨⟨cv,L',rfl,dO⟩,w'.drawn-w.drawn,w'.heap.extract w.heap.size w'.heap.size,?_⟩;have hd:=dI.drawn rfl;have gj:=dI.size;have hh:w'.heap=w.heap++w'.heap.extract w.heap.size w'.heap.size:=by
  apply Array.ext_getElem?;intro k
  by_cases hk:k<w.heap.size
  ·rw[Array.getElem?_append_left hk];exact dI.frame k hk (λhw=>by
    rcases hw with⟨i,hi,_⟩|⟨t,u,z,ht,_⟩
    ·exact ahT _ hi
    ·simp at ht)
  ·rw[Array.getElem?_append_right zO];rw[Array.getElem?_extract]
   by_cases eL:k<w'.heap.size
   ·rw[ahF zO]
    congr 1
    omega
   ·rw[ai0 zO,ahC zO]
 unfold Sort.grow World.drewN;have e1:=dI.os;have e2:=dI.tape;have e3:=dI.output
 cases w' with
 |mk heap tape drawn os output=>
  simp only at *;subst e1;subst e2;subst e3;simp only[World.mk.injEq];refine⟨hh,trivial,zO,trivial,trivial⟩
end
open Go.Proofs Go.Shelf Go.RowKit
structure Sa {α:Type}(enc:α->List Value)(iF:α->List AV)(k:Nat):Prop where
 pos:0<k
 len:∀x,(enc x).length=k
 BB:∀x,(iF x).length=k
 one:∀x,∀v∈enc x,v.oneCell'=true
 rep:∀x (j:Nat),j<k->∀L N T w v,bt L N T w ((iF x).getD j .top) v↔v=(enc x)[j]!
theorem u4 {α:Type}{enc:α->List Value}{iF:α->List AV}{k:Nat}(he:Sa enc iF k)(l:List α):(l.flatMap iF).length=l.length*k:=by
 induction l with
 |nil=>simp
 |cons x r ih=>rw[ahK,ahw,ih,he.BB,ahY,aiM,one_mul];omega
section
variable {α : Type} [Inhabited α] {enc : α -> List Value} {iF : α -> List AV} {k : Nat}
theorem x6 (he:Sa enc iF k):∀(l:List α)(t:Nat),t<l.length*k->(l.flatMap iF).getD t .top=(iF (l[t / k]!)).getD (t % k) .top
 |[],t,h=>by simp at h
 |x::r,t,h=>by
  rw[ahK]
  by_cases bp:t<k
  ·rw[Nat.div_eq_of_lt bp,Nat.mod_eq_of_lt bp];simp only[ahs];rw[ahB (by rw[he.BB];exact bp)];simp
  ·rw[ahY,aiM,one_mul] at h;have ih:=x6 he r (t-k) zO;rw[Nat.div_eq_sub_div he.pos zO,Nat.mod_eq_sub_mod zO];simp only[ahs] at ih ⊢;rw[ahP (by rw[he.BB];omega),he.BB,ih];simp
variable {P : Program} {L : Lay} {H : List aA} {T : au} {w : World}
def cz.JF {i:Nat}{l:List α}{rest:List AV}(he:Sa enc iF k)(h:cz L H T w)(hi:H[i]?=some (.cells (l.flatMap iF++rest))) :
  ∃c t fr,w.heap[L.bW i]?=some (.cells c t fr)/\(∀o,o<c.size->(fr.1<=o&&o<fr.2)=false)/\c.size=l.length*k+rest.length/\(∀(j:Nat)(h':j<c.size),(c[j]'h').oneCell'=true)/\
   (∀(j:Nat)(h':j<c.size),j<l.length*k->c[j]'h'=(enc (l[j / k]!))[j % k]!)/\
   (∀(j:Nat)(h':j<rest.length)(h'':l.length*k+j<c.size),bt L H.length T w (rest[j]'h') (c[l.length*k+j]'h'')):=by
 obtain⟨c,t,fr,g1,g2,g3,wC,g4,g5⟩:=h.box i _ hi;have hf:=u4 he l;rw[ahw,hf] at g3;refine⟨c,t,fr,g1,g2,g3,wC,λj vu hj=>?_,λj hj vu=>?_⟩
 ·have ru:j<(l.flatMap iF++rest).length:=by rw[ahw];omega
  have r:=g4 j ru vu;have e:(l.flatMap iF++rest)[j]'ru=(iF (l[j / k]!)).getD (j % k) .top:=by
   have bU:j<(l.flatMap iF).length:=zO;rw[<-x6 he l j hj,aiL bU,ahs,ahu bU];rfl
  rw[e,he.rep _ _ (ajJ _ he.pos)] at r;exact r
 ·have ru:l.length*k+j<(l.flatMap iF++rest).length:=by rw[ahw];omega
  have r:=g4 _ ru vu;rw[ajB zO] at r;have e:l.length*k+j-(l.flatMap iF).length=j:=zO;simp only[e] at r;exact r
def cz.xC {i:Nat}{l:List α}{rest:List AV}(he:Sa enc iF k)(h:cz L H T w)(hi:H[i]?=some (.cells (l.flatMap iF++rest))):HoldsK enc k w (L.bW i) 0 l.toArray:=by
 obtain⟨c,t,fr,g1,g2,g3,_,g4,_⟩:=h.JF he hi;intro j hj;rw[size_flatK] at hj;have hj:j<l.length*k:=by simpa using hj
 have vu:j<c.size:=zO;rw[aiH];refine⟨?_,?_⟩
 ·rw[gI g1,ajj vu,g4 j vu hj,get_flatK _ _ _ _ (zU hj)];simp
 ·obtain⟨lo,jf⟩:=fr;unfold World.frozen?;simp only[g1];exact g2 j vu
def cz.sorted {i n:Nat}{l l':List α}{rest:List AV}{os:Array Obj}(he:Sa enc iF k)(h:cz L H T w)(hi:H[i]?=some (.cells (l.flatMap iF++rest)))(hl:l'.length=l.length) :
  ∃L',cz L' (H.set i (.cells (l'.flatMap iF++rest))) T (sortWorldK enc k w (L.bW i) 0 n l'.toArray os)/\
   Ev H.length T.length L H.length T w L' (H.set i (.cells (l'.flatMap iF++rest))).length T (sortWorldK enc k w (L.bW i) 0 n l'.toArray os)/\∀j,j<H.length->L'.bW j=L.bW j:=by
 have h1:cz L H T (Sort.ahead w n):=h.drew rfl;have z7:Ev H.length T.length L H.length T w L H.length T (Sort.ahead w n):=Ev.drew rfl rfl rfl rfl (Nat.le_add_right _ _);obtain⟨c,t,fr,g1,g2,g3,wC,g4,g5⟩:=h1.JF he hi;have gj:(putCells id 0 (flatK enc k l'.toArray) c).size=c.size:=by simp[putCells]
 have sK:=u4 he l';have gA:∀(j:Nat) (h':j<(putCells id 0 (flatK enc k l'.toArray) c).size),(j<l.length*k->(putCells id 0 (flatK enc k l'.toArray) c)[j]'h'=(enc (l'[j / k]!))[j % k]!)/\
   (l.length*k<=j->(putCells id 0 (flatK enc k l'.toArray) c)[j]'h'=c[j]'(by rw[gj] at h';exact h')):=by
  intro j h';refine⟨λhj=>?_,λhj=>?_⟩
  ·simp only[putCells,Array.getElem_mapIdx];rw[ahF ⟨ahE _,by rw[size_flatK];simp[hl];exact hj⟩,Nat.sub_zero,get_flatK _ _ _ _ (by simpa[hl] using hj)];simp
  ·simp only[putCells,Array.getElem_mapIdx];rw[ahC (by rw[size_flatK];simp[hl];omega)]
 have Kk:∀(j:Nat) (h':j<(putCells id 0 (flatK enc k l'.toArray) c).size),((putCells id 0 (flatK enc k l'.toArray) c)[j]'h').oneCell'=true:=by
  intro j h';rcases ahD j (l.length*k) with hj|hj
  ·rw[(gA j h').1 hj];have hm:j % k<(enc (l'[j / k]!)).length:=by rw[he.len];exact ajJ _ he.pos
   rw[ajv (enc (l'[j / k]!)) (j % k) hm];exact he.one _ _ (ah2 hm)
  ·rw[(gA j h').2 hj];exact wC _ _
 have DC:=h1.Zd (w':=putRowK enc k (Sort.ahead w n) (L.bW i) 0 l'.toArray) (vs':=l'.flatMap iF++rest) (c':=putCells id 0 (flatK enc k l'.toArray) c) (t:=t) (fr:=fr) hi g1
  (by simp only[putRowK,putRow,mapBlock,ajG,ajc];rw[g1];rfl) gj (by rw[ahw,ahw,sK,u4 he,hl]) Kk
  (λj hj bU=>by
   rcases ahD j (l.length*k) with bp|oG
   ·have y5:j<(l'.flatMap iF).length:=by rw[sK,hl];exact bp
    have e:(l'.flatMap iF++rest)[j]'hj=(iF (l'[j / k]!)).getD (j % k) .top:=by
     rw[<-x6 he l' j (by rw[hl];exact bp),aiL y5,ahs,ahu y5];rfl
    rw[e,he.rep _ _ (ajJ _ he.pos)];exact(gA j bU).1 bp
   ·rw[(gA j bU).2 oG];have vu:j<c.size:=by rw[gj] at bU;exact bU
    have r:=g5 (j-l.length*k) zO zO;have e1:l.length*k+(j-l.length*k)=j:=zO;simp only[e1] at r;rw[ajB (by rw[sK,hl];exact oG)];have e2:j-(l'.flatMap iF).length=j-l.length*k:=by rw[sK,hl]
    simp only[e2];exact r)
  (λx hx=>by simp[putRowK,putRow,mapBlock,ajG,Ne.symm hx]) (by simp[putRowK]) rfl rfl rfl (ahv _)
 obtain⟨L',c3,UF⟩:=cz.grown os.toList DC.1;rw[Array.toArray_toList] at c3 UF;have XW:=DC.2;rw[aiR] at XW UF ⊢;exact⟨L',c3,(z7.trans XW).trans UF,λj hj=>((z7.trans XW).trans UF).bW j hj⟩
theorem Pp {ρ:Ren}(Ly:SlLaysF0.n6 P ρ)(aE:∀w,(isAgg (ρ.t 24)).run P w=.ok true w)(zE:∀w,(Go.sizeOf (ρ.t 24)).run P w=.ok k w)(he:Sa enc iF k)(hg0:Ah=[])
  (cf:α->α->Int) (hO:SWO (ltOf cf)) (hT:∀x y,(ltOf cf) x y=false->(ltOf cf) y x=false->x=y) (g:FuncId) (NX:∀x y,aq P g [.agg (iF x),.agg (iF y)] [] [] (Is (.int .i64 (cf x y)) [] []))
  (NW:∀xs w,(callFunc (ρ.f 6) xs).run P w=.ok (.enter (ρ.f 6) xs) w) (l:List α) (rest:List AV) (i cap:Nat) (hi:H[i]?=some (.cells (l.flatMap iF++rest))) (gj:l.length<4611686018427387904) :
  aq P (ρ.f 6) [.bQ i l.length cap,.fn g [] []] H T (Is (.dn []) (H.set i (.cells ((l.mergeSort λx y=>!(ltOf cf) y x).flatMap iF++rest))) T):=by
 refine⟨NW,λL w ca hc hl hr=>?_⟩;have e0:ca=#[.slice (some ⟨L.bW i,0,none⟩) l.length cap,.func (.func g) #[] #[]]/\i<H.length:=by
  obtain⟨cl⟩:=ca;have jT:cl.length=2:=by simpa using hl
  match cl,jT with
  |[a,b],_=>
   have r0:=hr 0 zS zS;have r1:=hr 1 zS zS;simp at r0 r1;obtain⟨rfl,_,bp⟩:=r0.iI
   cases r1 with
   |fn _ _ _ fv cv h1 h2=>
    have:fv=#[]:=ajC (zU h1);subst this;have:cv=#[]:=ajC (zU h2);subst this;exact⟨rfl,bp⟩
 obtain⟨rfl,eM⟩:=e0;have C9:∀x,∀L N T w,bt L N T w (.agg (iF x)) (.agg (enc x).toArray):=λx L N T w=>by
  refine .agg _ _ (by simp[he.len,he.BB]) (λj hj=>?_) (λj hj bU=>?_)
  ·exact he.one x _ zS
  ·have JY:j<k:=by rw[he.BB] at hj;exact hj
   have:=(he.rep x j JY L N T w (enc x)[j]!).2 rfl;rw[ahs,ahu hj] at this;simp only[ai5] at this;have h':j<(enc x).length:=by rw[he.len];exact JY
   rw[ajv (enc x) j h'] at this;simpa using this
 have gg:CmpLays P g #[] enc k cf (L.bW i) 0 l.toArray.size w:=by
  intro m os dk hs x y;have h1:=(NX x y).grown (w:=sortWorldK enc k w (L.bW i) 0 m dk os) (ca:=#[.agg (enc x).toArray,.agg (enc y).toArray]++#[]) hg0 zS (λj hj bU=>by
   match j,hj with
   |0,_=>exact C9 x _ _ _ _
   |1,_=>exact C9 y _ _ _ _)
  refine h1.mono ?_;rintro e w' ⟨⟨cv,L',rfl,dO⟩,q,Yf,hw⟩
  cases dO
  exact⟨rfl,q,Yf,hw⟩
 have n9:=AnyQ.slices_SortFunc_total Ly k aE zE enc he.len he.one cf hO g #[] (L.bW i) 0 cap l.toArray w (NX default default).1 gg (hc.xC he hi) (hc.mD eM) (zU gj) hT;simp only[List.size_toArray] at n9;refine n9.mono ?_;rintro e w' ⟨rfl,n,os,rfl⟩;obtain⟨L',jH,dI,_⟩:=hc.sorted (n:=n) (os:=os) (l':=l.mergeSort λx y=>!(ltOf cf) y x) he hi (ajE _);exact⟨_,_,T,L',_,⟨rfl,rfl,rfl⟩,rfl,jH,.dn [] #[] rfl (λj hj=>by simp at hj),dI⟩
theorem Pr {ρ:Ren}(Ly:SlLaysF0.n6 P ρ)(g:FuncId)(NW:∀xs w,(callFunc (ρ.f 6) xs).run P w=.ok (.enter (ρ.f 6) xs) w)(tg:Tag):aq P (ρ.f 6) [.sl 0 [] tg,.fn g [] []] H T (Is (.dn []) H T):=by
 refine⟨NW,λL w ca hc hl hr=>?_⟩;have e0:∃a cap fv,ca=#[.slice a 0 cap,fv]:=by
  obtain⟨cl⟩:=ca;have jT:cl.length=2:=by simpa using hl
  match cl,jT with
  |[a,b],_=>
   have r0:=hr 0 zS zS;simp at r0;obtain⟨a,cap,rfl,_⟩:=r0.fN;exact⟨a,cap,b,rfl⟩
 obtain⟨a,cap,fv,rfl⟩:=e0;refine(AnyF.slices_SortFunc_none Ly a cap fv w).mono ?_;rintro e w' ⟨rfl,rfl⟩;exact⟨_,H,T,L,_,⟨rfl,rfl,rfl⟩,rfl,hc,.dn [] #[] rfl (λj hj=>by simp at hj),Ev.refl (ahv _) (ahv _)⟩
end
section
variable {P : Program} {f : FuncId} {args : List AV} {H : List aA} {T : au}
def aq.Qk {n:Nat}{cs:List AV}(hb:aL H.length T.length cs)
  (h:aq P f args H T (λr H' T'=>(∃G,H'=H++G)/\(∃rT,T'=T++rT)/\((n=0/\cs=[]/\∃tg,r=.sl 0 [] tg)\/∃i cap rest,r=.bQ i n cap/\H.length<=i/\H'[i]?=some (.cells (cs++rest))))) :
  aq P f args H T (Is (.sl n cs .none) H T):=by
 refine⟨h.1,λL w ca hc hl hr=>(h.2 L w ca hc hl hr).mono ?_⟩;rintro e w' ⟨r',H',T',L',cv,⟨⟨G,e1⟩,⟨rT,e2⟩,uj⟩,rfl,cY,dO,dI⟩;subst e1;subst e2;have IJ:cz L' H T w':=cz.front P cY hc.je;have e1:=dI.front (ahv _) (ahv _);rcases uj with⟨rfl,rfl,tg,rfl⟩|⟨i,cap,rest,rfl,hi,VP⟩
 ·have:=(dO.cL).drop (n:=H.length) (t:=T.length) zS;exact⟨_,H,T,L',cv,⟨rfl,rfl,rfl⟩,rfl,IJ,by simpa using this,e1⟩
 ·obtain⟨rfl,cK,bp⟩:=dO.iI;have r8:=cY.box i _ VP;have Sj:=r8.lt;obtain⟨c,t,fr,g1,g2,g3,wC,g4,g5⟩:=r8;have II:¬Wr L' H.length T (L'.bW i):=by
   rintro (⟨j,hj,e⟩|⟨t,u,z,ht,hs,e⟩)
   ·have:=cY.inj j i (by rw[ahw];omega) bp e;omega
   ·exact cY.kY t u z i (by rw[ahB (aht.1 ht).1];exact ht) hs bp e
  have pn:=IJ.Fb (k:=cs.length) Sj II zO;have kp:dh L' H.length T w' (L'.bZ (L'.bW i) cs.length) H.length T w':=by
   refine⟨ahv _,λ_ _=>rfl,λt u z h=>⟨u,h,ahv _,λ_=>rfl⟩,λx=>?_,λ_ _ _=>rfl,rfl⟩;show L'.m x<=if x=L'.bW i then cs.length else L'.m x
   split
   ·rename_i e;rw[e,g5];exact ahE _
   ·exact ahv _
  rw[ahw] at g3;refine⟨_,H,T,L'.bZ (L'.bW i) cs.length,_,⟨rfl,rfl,rfl⟩,rfl,pn,?_,?_⟩
  ·have VE:cS L' H.length T w' cs (c.toList.take cs.length):=by
    refine⟨by simp;omega,λj hj=>?_,λj hj bU=>?_⟩
    ·have vu:j<c.size:=by simp at hj;omega
     have:=wC j vu;rw[ajK,aiv];exact this
    ·have vu:j<c.size:=zO;have:=(g4 j (by rw[ahw];omega) vu)
     rw[aiL hj] at this;have:=this.drop (n:=H.length) (t:=T.length) (hb _ (ah2 hj));rw[ajK,aiv];simpa using this
   refine bt.nr cK ?_ (VE.keep kp) (λj hj=>?_) trivial
   ·show 0+cs.length<=if L'.bW i=L'.bW i then cs.length else _
    rw[ahF rfl];omega
   ·rw[gI g1,aiH,aim,ahF hj];simp
  ·exact⟨e1.n,e1.bW,e1.tok,e1.t,λb=>ahA (e1.m b) (kp.m b),e1.uh,e1.size,e1.frame,e1.wr,e1.os,e1.tape,e1.output,e1.drawn,e1.dr⟩
end
def Plain (v:AV):Prop:=∀L N T w c L' N' T' w',bt L N T w v c->bt L' N' T' w' v c
theorem Plain.int (k:IntKind)(n:Int):Plain (.int k n):=λL N T w c L' N' T' w' h=>by cases h;exact .int k n
theorem Plain.str (s:List UInt8):Plain (.str s):=λL N T w c L' N' T' w' h=>by cases h;exact .str s
def Plain.top:Plain .top:=λL N T w c L' N' T' w' h=>.top c
def Vis (row M5:List AV):Prop:=M5.length=row.length/\∀j,j<row.length->M5.getD j .top=.top\/(M5.getD j .top=row.getD j .top/\Plain (row.getD j .top))
section
variable {P : Program} {L : Lay} {H : List aA} {T : au} {w : World} {k : Nat}
theorem x5 {κ:Type}(hp:0<k):∀(rows:List (κ×List AV)) (hk:∀x∈rows,x.2.length=k) (t:Nat) (h:t / k<rows.length),(rows.flatMap (·.2)).getD t .top=(rows[t / k]'h).2.getD (t % k) .top
 |[],_,t,h=>by simp at h
 |x::r,hk,t,h=>by
  have hx:=hk x zS;rw[ahK]
  by_cases bp:t<k
  ·have e1:=Nat.div_eq_of_lt bp;have e2:=Nat.mod_eq_of_lt bp;simp only[ahs,e1,e2];rw[ahB (by rw[hx];exact bp)];rfl
  ·have e1:=Nat.div_eq_sub_div hp (by omega:k<=t);have e2:=Nat.mod_eq_sub_mod (by omega:k<=t);have hr:(t-k) / k<r.length:=by rw[e1] at h;simpa using h
   have ih:=x5 hp r (λy hy=>hk y (by simp[hy])) (t-k) hr;simp only[ahs] at ih ⊢;rw[ahP (by rw[hx];omega),hx,ih];simp only[e1,e2,ajx]
theorem uZ {κ:Type}:∀(rows:List (κ×List AV)) (hk:∀x∈rows,x.2.length=k),(rows.flatMap (·.2)).length=rows.length*k
 |[],_=>by simp
 |x::r,hk=>by rw[ahK,ahw,uZ r (λy hy=>hk y (by simp[hy])),hk x zS,ahY,aiM,one_mul];omega
theorem Ed {ρ : Ren} (Ly : SlLaysF0.n6 P ρ) (aE : ∀ w, (isAgg (ρ.t 24)).run P w = .ok true w) (zE : ∀ w, (Go.sizeOf (ρ.t 24)).run P w = .ok k w) (hp : 0 < k) (hg0 : Ah = []) {κ : Type} (M5 : κ -> List AV)
    (cf : κ -> κ -> Int) (hO : SWO (ltOf cf)) (g : FuncId)
    (NW : ∀ xs w, (callFunc (ρ.f 6) xs).run P w = .ok (.enter (ρ.f 6) xs) w) (rows : List (κ × List AV)) (dM : rows ≠ []) (hk : ∀ x ∈ rows, x.2.length = k) (hv : ∀ x ∈ rows, Vis x.2 (M5 x.1))
    (hT : rows.Pairwise λx y => ltOf cf x.1 y.1 = true \/ ltOf cf y.1 x.1 = true)
    (NX : ∀ x ∈ rows, ∀ y ∈ rows, aq P g [.agg (M5 x.1), .agg (M5 y.1)] [] [] (Is (.int .i64 (cf x.1 y.1)) [] []))
    (rest : List AV) (i cap : Nat) (hi : H[i]? = some (.cells (rows.flatMap (·.2) ++ rest))) (gj : rows.length < 4611686018427387904) :
    aq P (ρ.f 6) [.bQ i rows.length cap, .fn g [] []] H T (Is (.dn []) (H.set i (.cells ((rows.mergeSort λx y => !(ltOf cf) y.1 x.1).flatMap (·.2) ++ rest))) T) := by
  refine ⟨NW, λL w ca hc hl hr => ?_⟩;have e0 : ca = #[.slice (some ⟨L.bW i, 0, none⟩) rows.length cap, .func (.func g) #[] #[]] /\ i < H.length := by
    obtain ⟨cl⟩ := ca;have jT : cl.length = 2 := by simpa using hl
    match cl, jT with
    | [a, b], _ =>
      have r0 := hr 0 (by simp) (by simp)
      have r1 := hr 1 (by simp) (by simp)
      simp at r0 r1
      obtain ⟨rfl, _, bp⟩ := r0.iI
      cases r1 with
      | fn _ _ _ fv cv h1 h2 =>
        have : fv = #[] := ajC (by simpa using h1)
        subst this
        have : cv = #[] := ajC (by simpa using h2)
        subst this
        exact ⟨rfl, bp⟩
  obtain ⟨rfl, eM⟩ := e0;obtain ⟨c, ty, fr, g1, g2, g3, wC, g4, g5⟩ := hc.box i _ hi;have sK := uZ rows hk;rw [ahw, sK] at g3;have CS : 0 < rows.length := aiV.2 dM;generalize hn : rows.length = n at *;have um : ∀ (x : Fin n) (j : Nat), j < k -> x.val * k + j < n * k := λx j hj => by
    have : (x.val + 1) * k <= n * k := aiz k x.isLt;rw [aiM, one_mul] at this;omega
  letI : Inhabited (Fin n) := ⟨⟨0, CS⟩⟩
  let enc : Fin n -> List Value := λx => (List.range k).map λj => c[x.val * k + j]!
  have N3 : ∀ x, (enc x).length = k := λx => by simp [enc]
  have XX : ∀ (x : Fin n) (j : Nat), j < k -> (enc x)[j]! = c[x.val * k + j]! := λx j hj => by
    have h' : j < (enc x).length := by rw [N3]; exact hj
    rw [ajv (enc x) j h'];simp [enc]
  have WB : ∀ x, ∀ v ∈ enc x, v.oneCell' = true := λx v hv => by
    obtain ⟨j, hj, rfl⟩ := ahz.1 hv;have bU := um x j (ahV.1 hj);rw [ajv c _ (by omega)];exact wC _ _
  have uv : ∀ (x : Fin n) (j : Nat), j < k -> ∀ h : x.val * k + j < (rows.flatMap (·.2) ++ rest).length, (rows.flatMap (·.2) ++ rest)[x.val * k + j]'h = (rows[x.val]'(by rw [hn]; exact x.isLt)).2.getD j .top := λx j hj h => by
    have bU := um x j hj;have e1 : (x.val * k + j) / k = x.val := by rw [ajX, Nat.mul_add_div hp, Nat.div_eq_of_lt hj]; omega
    have e2 : (x.val * k + j) % k = j := by rw [ajX, Nat.mul_add_mod, Nat.mod_eq_of_lt hj]
    have := x5 hp rows hk (x.val * k + j) (by rw [e1, hn]; exact x.isLt);simp only [e1, e2] at this;rw [aiL (by rw [sK]; exact bU), <- this, ahs, ahu (by rw [sK]; exact bU)];rfl
  have ZK : ∀ (x : Fin n) (j : Nat), j < k -> bt L H.length T w ((rows[x.val]'(by rw [hn]; exact x.isLt)).2.getD j .top) ((enc x)[j]!) := λx j hj => by
    have bU := um x j hj;rw [XX x j hj, ajv c _ (by omega), <- uv x j hj (by rw [ahw, sK]; omega)];exact g4 _ _ _
  let NJ : Fin n -> Fin n -> Int := λx y => cf (rows[x.val]'(by rw [hn]; exact x.isLt)).1 (rows[y.val]'(by rw [hn]; exact y.isLt)).1
  have hO' : SWO (ltOf NJ) := ⟨λx => hO.1 _, λx y z h1 h2 => hO.2 _ _ _ h1 h2, λx y z h1 h2 => hO.3 _ _ _ h1 h2⟩
  have hT' : ∀ x y, (ltOf NJ) x y = false -> (ltOf NJ) y x = false -> x = y := λx y h1 h2 => by
    rw [ah6] at hT;rcases ai7 x.val y.val with e | e | e
    · rcases hT x.val y.val (by rw [hn]; exact x.isLt) (by rw [hn]; exact y.isLt) e with h | h
      · have : ltOf NJ x y = true := h;rw [h1] at this; cases this
      · have : ltOf NJ y x = true := h;rw [h2] at this; cases this
    · exact Fin.ext e
    · rcases hT y.val x.val (by rw [hn]; exact y.isLt) (by rw [hn]; exact x.isLt) e with h | h
      · have : ltOf NJ y x = true := h;rw [h2] at this; cases this
      · have : ltOf NJ x y = true := h;rw [h1] at this; cases this
  have C9 : ∀ (x : Fin n) L' N' T' w', bt L' N' T' w' (.agg (M5 (rows[x.val]'(by rw [hn]; exact x.isLt)).1)) (.agg (enc x).toArray) := λx L' N' T' w' => by
    have hx : (rows[x.val]'(by rw [hn]; exact x.isLt)) ∈ rows := ah2 _;obtain ⟨v1, v2⟩ := hv _ hx;have hkx := hk _ hx;refine .agg _ _ (by simp [N3, v1, hkx]) (λj hj => ?_) (λj hj bU => ?_)
    · exact WB x _ (by simp)
    · have JY : j < k := by rw [v1, hkx] at hj; exact hj
      have r := ZK x j JY;have h' : j < (enc x).length := by rw [N3]; exact JY
      rw [ajv (enc x) j h'] at r;have e : (M5 (rows[x.val]'(by rw [hn]; exact x.isLt)).1)[j]'hj = (M5 (rows[x.val]'(by rw [hn]; exact x.isLt)).1).getD j .top := by
        rw [ahs, ahu hj]; rfl
      rw [e];rcases v2 j (by rw [hkx]; exact JY) with q | ⟨q1, q2⟩
      · rw [q]; exact .top _
      · rw [q1]; simpa using q2 _ _ _ _ _ L' N' T' w' r
  have XC : (List.finRange n).toArray.size = n := by simp
  have gg : CmpLays P g #[] enc k NJ (L.bW i) 0 (List.finRange n).toArray.size w := by
    intro m os dk hs x y;have h1 := (NX _ (ah2 _) _ (ah2 _) : aq P g [.agg (M5 (rows[x.val]'(by rw [hn]; exact x.isLt)).1), .agg (M5 (rows[y.val]'(by rw [hn]; exact y.isLt)).1)] [] [] _).grown (w := sortWorldK enc k w (L.bW i) 0 m dk os) (ca := #[.agg (enc x).toArray, .agg (enc y).toArray] ++ #[]) hg0 (by simp) (λj hj bU => by
      match j, hj with
      | 0, _ => exact C9 x _ _ _ _
      | 1, _ => exact C9 y _ _ _ _)
    refine h1.mono ?_;rintro e w' ⟨⟨cv, L', rfl, dO⟩, q, Yf, hw⟩
    cases dO
    exact ⟨rfl, q, Yf, hw⟩
  have Xc : HoldsK enc k w (L.bW i) 0 (List.finRange n).toArray := by
    intro j hj;rw [size_flatK] at hj;have hj : j < n * k := by simpa using hj
    have vu : j < c.size := by omega
    have hq : j / k < n := ajY (by rw [ajX]; exact hj);rw [aiH];refine ⟨?_, ?_⟩
    · rw [gI g1, ajj vu, get_flatK _ _ _ _ (by simpa using hj)];have e1 : (List.finRange n).toArray[j / k]! = ⟨j / k, hq⟩ := by
        rw [ajv _ _ (by simpa using hq)]; simp
      rw [e1, XX _ _ (ajJ _ hp)];have e2 : j / k * k + j % k = j := by rw [ajX]; exact Nat.div_add_mod j k
      simp only [e2];rw [ajv c _ vu];rfl
    · obtain ⟨lo, jf⟩ := fr;unfold World.frozen?;simp only [g1];exact g2 j vu
  have n9 := AnyQ.slices_SortFunc_total Ly k aE zE enc N3 WB NJ hO' g #[] (L.bW i) 0 cap (List.finRange n).toArray w (NX _ (ah2 (by rw [hn]; exact CS)) _ (ah2 (by rw [hn]; exact CS))).1 gg Xc (hc.mD eM) (by simpa using gj) hT';simp only [XC] at n9;refine n9.mono ?_;rintro e w' ⟨rfl, nd, os, rfl⟩;generalize jY : (List.finRange n).mergeSort (λx y => !(ltOf NJ) y x) = l';have vz : l'.length = n := by rw [<- jY, ajE]; simp
  have W7 : l'.map (λx => rows[x.val]'(by rw [hn]; exact x.isLt)) = rows.mergeSort λx y => !(ltOf cf) y.1 x.1 := by
    have e1 : (List.finRange n).map (λx => rows[x.val]'(by rw [hn]; exact x.isLt)) = rows := by
      apply ajq
      · simp [hn]
      · intro j h1 h2; simp
    have e2 := List.map_mergeSort (r := λx y => !(ltOf NJ) y x) (s := λ(x y : κ × List AV) => !(ltOf cf) y.1 x.1) (f := λx : Fin n => rows[x.val]'(by rw [hn]; exact x.isLt)) (l := List.finRange n) (λa _ b _ => rfl);rw [<- jY, e2, e1]
  have nV : ∀ x ∈ rows.mergeSort (λx y => !(ltOf cf) y.1 x.1), x.2.length = k := λx hx => hk x ((ajz _ _).mem_iff.1 hx);rw [<- W7] at nV ⊢;have Kp := uZ _ nV;rw [ahL, vz] at Kp;have h1 : cz L H T (Sort.ahead w nd) := hc.drew rfl;have z7 : Ev H.length T.length L H.length T w L H.length T (Sort.ahead w nd) := Ev.drew rfl rfl rfl rfl (Nat.le_add_right _ _);have Wf : (putCells id 0 (flatK enc k l'.toArray) c).size = c.size := by simp [putCells]
  have gA : ∀ (j : Nat) (h' : j < (putCells id 0 (flatK enc k l'.toArray) c).size), (∀ hj : j < n * k, (putCells id 0 (flatK enc k l'.toArray) c)[j]'h' = (enc (l'[j / k]'(by rw [vz]; exact ajY (by rw [ajX]; exact hj))))[j % k]!) /\
      (n * k <= j -> (putCells id 0 (flatK enc k l'.toArray) c)[j]'h' = c[j]'(by rw [Wf] at h'; exact h')) := by
    intro j h';refine ⟨λhj => ?_, λhj => ?_⟩
    · have hq : j / k < l'.length := by rw [vz]; exact ajY (by rw [ajX]; exact hj)
      simp only [putCells, Array.getElem_mapIdx];rw [ahF ⟨ahE _, by rw [size_flatK]; simp [vz]; exact hj⟩, Nat.sub_zero, get_flatK _ _ _ _ (by simpa [vz] using hj)];have e1 : l'.toArray[j / k]! = l'[j / k]'hq := by
        rw [ajv _ _ (by simpa using hq)]; simp
      rw [e1]; rfl
    · simp only [putCells, Array.getElem_mapIdx];rw [ahC (by rw [size_flatK]; simp [vz]; omega)]
  have Kk : ∀ (j : Nat) (h' : j < (putCells id 0 (flatK enc k l'.toArray) c).size), ((putCells id 0 (flatK enc k l'.toArray) c)[j]'h').oneCell' = true := by
    intro j h';rcases ahD j (n * k) with hj | hj
    · rw [(gA j h').1 hj];have hm : j % k < (enc (l'[j / k]'(by rw [vz]; exact ajY (by rw [ajX]; exact hj)))).length := by rw [N3]; exact ajJ _ hp
      rw [ajv _ (j % k) hm];exact WB _ _ (ah2 hm)
    · rw [(gA j h').2 hj]; exact wC _ _
  have DC := h1.Zd (w' := putRowK enc k (Sort.ahead w nd) (L.bW i) 0 l'.toArray) (vs' := (l'.map (λx => rows[x.val]'(by rw [hn]; exact x.isLt))).flatMap (·.2) ++ rest) (c' := putCells id 0 (flatK enc k l'.toArray) c) (t := ty) (fr := fr) hi g1
    (by simp only [putRowK, putRow, mapBlock, ajG, ajc]; rw [show (Sort.ahead w nd).heap = w.heap from rfl, g1]; rfl) Wf (by rw [ahw, ahw, sK, Kp]) Kk
    (λj hj bU => by
      rcases ahD j (n * k) with bp | oG
      · have hq : j / k < l'.length := by rw [vz]; exact ajY (by rw [ajX]; exact bp)
        have e : ((l'.map (λx => rows[x.val]'(by rw [hn]; exact x.isLt))).flatMap (·.2) ++ rest)[j]'hj = (rows[(l'[j / k]'hq).val]'(by rw [hn]; exact (l'[j / k]'hq).isLt)).2.getD (j % k) .top := by
          have := x5 hp _ nV j (by rw [ahL]; exact hq);simp only [aip] at this;rw [aiL (by rw [Kp]; exact bp), <- this, ahs, ahu (by rw [Kp]; exact bp)];rfl
        rw [e, (gA j bU).1 bp];exact (ZK _ _ (ajJ _ hp)).keep z7.keeps
      · rw [(gA j bU).2 oG];have vu : j < c.size := by rw [Wf] at bU; exact bU
        have r := g4 j (by rw [ahw, sK]; omega) vu;have e1 : (rows.flatMap (·.2) ++ rest)[j]'(by rw [ahw, sK]; omega) = rest[j - n * k]'(by omega) := by
          rw [ajB (by rw [sK]; exact oG)]
          congr 1; rw [sK]
        have e2 : ((l'.map (λx => rows[x.val]'(by rw [hn]; exact x.isLt))).flatMap (·.2) ++ rest)[j]'hj = rest[j - n * k]'(by omega) := by
          rw [ajB (by rw [Kp]; exact oG)]
          congr 1; rw [Kp]
        rw [e2, <- e1];exact r.keep z7.keeps)
    (λx hx => by simp [putRowK, putRow, mapBlock, ajG, Ne.symm hx]) (by simp [putRowK]) rfl rfl rfl (ahv _)
  obtain ⟨L', c3, UF⟩ := cz.grown os.toList DC.1;rw [Array.toArray_toList] at c3 UF;have XW := DC.2;rw [aiR] at XW UF;refine ⟨_, _, T, L', _, ⟨rfl, rfl, rfl⟩, rfl, c3, .dn [] #[] rfl (λj hj => by simp at hj), ?_⟩;rw [aiR];exact (z7.trans XW).trans UF
end
end Go.Am
