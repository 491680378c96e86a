/- segment.Build (layer 39): what is gathered in its maps; one word. segment.Build (layer 39): one word. segment.Build (layer 39): the words of a zone, the zones of a document. segment.Build (layer 39): one number.
  Conditions: lengths below 400 or 1000, as each theorem says. -/
import Derived.Test.YtneohapkboaplaaGreatGC
import Derived.Test.YtneohapkboaplaaGreatGSR
import Derived.Test.YtneohapkboaplaaGreatAmC
import Derived.Test.YtneohapkboaplaaGreatAmA
set_option linter.all false
set_option maxRecDepth 100000
set_option maxHeartbeats 16000000
open List (getD_eq_getElem?_getD map_append append_assoc mem_append_left length_append map_cons nodup_append mem_append mem_cons perm_append_singleton sublist_cons_self find?_append find?_eq_none)
namespace eJ
open Go Go.Am
structure En where
 k:Ky
 dJ:List (Ps×Tag)
 d:Int
 at_:List Int
 tk:Nat
 i:Nat
 cap:Nat
 rest:List AV
def En.n (e:En):Nat:=e.dJ.length+1
def En.pl (e:En):List Ps:=e.dJ.map (·.1)++[(e.d,e.at_)]
abbrev WO (x:Ps×Tag):List AV:=[.int .i64 x.1.1,.sl x.1.2.length (ints x.1.2) x.2]
def j8 (l:List (Ps×Tag)):List AV:=l.flatMap WO
theorem yP:eC WO 2:=fun _=>rfl
theorem kx (l:List (Ps×Tag)):(j8 l).length=l.length*2:=b9 yP l
def iN (d:Int)(at_:List Int)(tg:Tag):List AV:=[.int .i64 d,.sl at_.length (ints at_) tg]
def fS (dJ:List (Ps×Tag))(d:Int)(at_:List Int)(tg:Tag)(rest:List AV):aA:=.cells (j8 dJ++(iN d at_ tg++rest))
def En.nf (e:En):aA:=fS e.dJ e.d e.at_ (.own e.tk) e.rest
def lA (k:Ky):cN:=.agg [.int .i64 k.1,.str k.2]
theorem uZ {a b:Ky}:lA a=lA b↔a=b:=by
 obtain⟨a1,a2⟩:=a;obtain⟨b1,b2⟩:=b;simp[lA]
def cj (E:List En):List (cN×AV):=E.map fun e=>(lA e.k,.bJ e.i e.n e.cap)
def dD (E:List En):List (Nat×aA):=E.map fun e=>(e.i,e.nf)
def jj (E:List En):List (Nat×(Nat×Nat)):=E.map fun e=>(e.tk,(e.at_.length,1))
structure CT (nb tb N:Nat)(e:En):Prop where
 r:e.rest.length=(e.cap-e.n)*2
 c:e.n≤e.cap
 n:e.n≤N
 a:e.at_.length≤N
 i:nb≤e.i
 t:tb≤e.tk
def LW (E:List En)(k:Ky):List Ps:=match E.find? (fun e=>e.k==k) with
 |some e=>e.pl
 |none=>[]
def ur (l:List Ps)(d p:Int):List Ps:=match l.getLast? with
 |some q=>if q.1=d then l.dropLast++[(q.1,q.2++[p])] else l++[(d,[p])]
 |none=>[(d,[p])]
theorem pe (l:List Ps)(d0:Int)(a:List Int)(d p:Int):ur (l++[(d0,a)]) d p=if d0=d then l++[(d0,a++[p])] else (l++[(d0,a)])++[(d,[p])]:=by
 simp[ur]
structure mT (E:List En)(k:Ky)(d p:Int)(E':List En):Prop where
 lk:∀k',LW E' k'=if k'=k then ur (LW E k) d p else LW E k'
 nd:(E'.map (·.k)).Nodup
 ks:∀k',k'∈E'.map (·.k)↔k'=k∨k'∈E.map (·.k)
theorem om {E1 E2:List En}{e:En}(h:((E1++e::E2).map (·.k)).Nodup)(k:Ky):(E1++e::E2).find? (fun x=>x.k==k)=if k=e.k then some e else (E1++E2).find? (fun x=>x.k==k):=by
 have h1:∀x∈E1,x.k≠e.k:=fun x hx=>by
  rw[map_append,nodup_append] at h;exact h.2.2 x.k (List.mem_map.2 ⟨x,hx,rfl⟩) e.k (by simp)
 rw[find?_append,List.find?_cons,find?_append]
 by_cases hk:k=e.k
 ·subst hk;have:E1.find? (fun x=>x.k==e.k)=none:=by
   rw[find?_eq_none];intro x hx;simpa using h1 x hx
  rw[this];simp
 ·rw[if_neg hk,beq_eq_false_iff_ne.2 (Ne.symm hk)]
theorem mT.sT {E1 E2:List En}{e e':En}{d p:Int}(h:((E1++e::E2).map (·.k)).Nodup)(hk:e'.k=e.k)(hp:e'.pl=ur e.pl d p):mT (E1++e::E2) e.k d p (E1++e'::E2):=by
 have h':((E1++e'::E2).map (·.k)).Nodup:=by
  rw[map_append,map_cons,hk];rwa [map_append,map_cons] at h
 refine⟨fun k'=>?_,h',fun k'=>?_⟩
 ·unfold LW;rw[om h',om h,om h,hk]
  by_cases hh:k'=e.k
  ·subst hh;simp[hp]
  ·simp only[if_neg hh]
 ·simp only[map_append,map_cons,hk,mem_append,mem_cons]
  constructor
  ·exact .inr
  ·rintro (rfl|hh)
   ·exact .inr (.inl rfl)
   ·exact hh
theorem mT.add {E:List En}{e':En}{d p:Int}(h:(E.map (·.k)).Nodup)(hk:e'.k∉E.map (·.k))(hp:e'.pl=[(d,[p])]):mT E e'.k d p (E++[e']):=by
 have h':((E++e'::[]).map (·.k)).Nodup:=by
  rw[map_append,nodup_append];exact⟨h,by simp,fun a ha b hb=>by simp at hb;rintro rfl;rw[hb] at ha;exact hk ha⟩
 have hn:E.find? (fun x=>x.k==e'.k)=none:=by
  rw[find?_eq_none];intro x hx;have:x.k≠e'.k:=fun ee=>hk (List.mem_map.2 ⟨x,hx,ee⟩);simpa using this
 refine⟨fun k'=>?_,h',fun k'=>?_⟩
 ·unfold LW;rw[om h']
  by_cases hh:k'=e'.k
  ·subst hh;rw[hn];simp[hp,ur]
  ·simp only[if_neg hh,List.append_nil]
 ·simp[or_comm]
end eJ
namespace Go.Proofs.YtneohapkboaplaaGreat
open Go Go.Am iF eJ
theorem lY {α β:Type}{f:α→β}(hf:∀a b,f a=f b→a=b){l:List α}(h:l.Nodup):(l.map f).Nodup:=by
 rw[List.Nodup,List.pairwise_map];exact h.imp fun iZ he=>iZ (hf _ _ he)
theorem xM (E:List En):(cj E).map (·.1)=(E.map (·.k)).map lA:=by simp[cj,Function.comp_def]
theorem Lq {E1 E2:List En}{e:En}(h:((E1++e::E2).map (·.k)).Nodup):tm (cj (E1++e::E2)) (lA e.k)=some (.bJ e.i e.n e.cap):=by
 have hn:((cj (E1++e::E2)).map (·.1)).Nodup:=by
  rw[xM];exact lY (fun a b iZ=>uZ.1 iZ) h
 have hj:E1.length<(cj (E1++e::E2)).length:=by simp[cj]
 have he:(cj (E1++e::E2))[E1.length]'hj=(lA e.k,.bJ e.i e.n e.cap):=by simp[cj]
 rw[tO hn hj (by rw[he]),he]
theorem Lp {E1 E2:List En}{e:En}(h:((E1++e::E2).map (·.k)).Nodup)(e':En)(hk:e'.k=e.k):jH (cj (E1++e::E2)) (lA e.k) (.bJ e'.i e'.n e'.cap)=cj (E1++e'::E2):=by
 have hn:((cj (E1++e::E2)).map (·.1)).Nodup:=by
  rw[xM];exact lY (fun a b iZ=>uZ.1 iZ) h
 have hj:E1.length<(cj (E1++e::E2)).length:=by simp[cj]
 have he:(cj (E1++e::E2))[E1.length]'hj=(lA e.k,.bJ e.i e.n e.cap):=by simp[cj]
 rw[yS hn hj (by rw[he])];simp[cj,hk]
theorem xL {E:List En}{k:Ky}(h:k∉E.map (·.k)):∀x∈cj E,x.1≠lA k:=by
 intro x hx;obtain⟨e,he,rfl⟩:=List.mem_map.1 hx;exact fun hh=>h (List.mem_map.2 ⟨e,he,uZ.1 hh⟩)
theorem Lr {E:List En}(e':En)(h:e'.k∉E.map (·.k)):jH (cj E) (lA e'.k) (.bJ e'.i e'.n e'.cap)=cj (E++[e']):=by
 rw[lZ (xL h)];simp[cj]
theorem Ec {E:List En}{n t:Nat}(h:∀e∈E,e.i<n):aJ n t ((cj E).map (·.2)):=by
 intro v hv;simp only[cj,List.map_map,List.mem_map,Function.comp] at hv;obtain⟨e,he,rfl⟩:=hv;exact .bJ _ _ _ (h e he)
theorem TM (k:Ky)(hk:-9223372036854775808≤k.1∧k.1≤9223372036854775807)(hs:k.2.length≤maxLen):kX Tryz.prog 111 (lA k)=true:=by
 have hu:=Tryz.underlying111;have h3:Tryz.prog.underlying 3=some (.int .i64):=by kernel_rfl
 have h9:Tryz.prog.underlying 9=some .string:=by kernel_rfl
 have c3:Tryz.prog.cellsOf 3=1:=by kernel_rfl
 have c9:Tryz.prog.cellsOf 9=1:=by kernel_rfl
 have Rt:Tryz.prog.keyType 111=true:=by kernel_rfl
 have iQ:Tryz.prog.types.size=287:=by kernel_rfl
 have Sl:(Lit.int .i64 k.1).wf=true:=by
  simp only[Lit.wf,Bool.and_eq_true,decide_eq_true_eq];exact hk
 have e1:Tryz.prog.keyLits 287 3 [.int .i64 k.1]=some [.int .i64 k.1]:=by
  show Tryz.prog.keyLits (286+1) 3 _=_;unfold Program.keyLits;rw[h3];simp only[Sl,and_self,if_true]
 have e2:Tryz.prog.keyLits 287 9 [.string ⟨k.2.toArray⟩]=some [.string k.2]:=by
  show Tryz.prog.keyLits (286+1) 9 _=_;unfold Program.keyLits;rw[h9];have:(⟨k.2.toArray⟩:ByteArray).size≤maxLen:=by
   show k.2.toArray.size≤maxLen;simpa using hs
  simp only[this,if_true]
 have hl:Tryz.prog.keyLits (287+1) 111 [.int .i64 k.1,.string ⟨k.2.toArray⟩]=some [.int .i64 k.1,.string k.2]:=by
  unfold Program.keyLits;rw[hu];simp[Bp,c3,c9,e1,e2]
 unfold kX keyOf;rw[hu];have hf:(cN.val (lA k)).formed Tryz.prog 111=true:=by
  simp[lA,cN.val,KC.val,Value.formed,hu,Bp]
 simp only[Rt,hf,Bool.and_self,if_true,iQ];have:(cN.val (lA k)).cells.toList=[.int .i64 k.1,.string ⟨k.2.toArray⟩]:=rfl;rw[this,hl];rfl
end Go.Proofs.YtneohapkboaplaaGreat
namespace Go.Am
def eT {α:Type}(H K:List α):Prop:=∃X,K=H++X
section
variable {α : Type} {H K : List α}
theorem eT.app (h:eT H K)(X:List α):eT H (K++X):=by
 obtain⟨Y,rfl⟩:=h;exact⟨Y++X,by rw[append_assoc]⟩
theorem eT.set (h:eT H K){i:Nat}(hi:H.length≤i)(x:α):eT H (K.set i x):=by
 obtain⟨Y,rfl⟩:=h;exact⟨Y.set (i-H.length) x,by rw[List.set_append_right _ _ hi]⟩
theorem aV {i:Nat}{b:α}(g:K[i]?=some b):∀h:i<K.length,K[i]'h=b:=fun h=>by rw[List.getElem?_eq_getElem h] at g;exact Option.some.inj g
theorem eT.le (h:eT H K):H.length≤K.length:=by
 obtain⟨Y,rfl⟩:=h;simp
end
end Go.Am
namespace Go.Proofs.YtneohapkboaplaaGreat
open Go Go.Am iF eJ
theorem Ke (dJ:List (Ps×Tag))(d:Int)(at_:List Int)(tg:Tag)(rest:List AV):(j8 dJ++(iN d at_ tg++rest)).getD (dJ.length*2) .top=.int .i64 d∧(j8 dJ++(iN d at_ tg++rest)).getD (dJ.length*2+1) .top=.sl at_.length (ints at_) tg:=by
 have h:=kx dJ
 constructor
 ·rw[getD_eq_getElem?_getD,List.getElem?_append_right (by omega),h,Nat.sub_self];rfl
 ·rw[getD_eq_getElem?_getD,List.getElem?_append_right (by omega),h,show dJ.length*2+1-dJ.length*2=1 by omega];rfl
theorem Oe (dJ:List (Ps×Tag))(d:Int)(at_ Tc:List Int)(tg Mg:Tag)(rest:List AV):(j8 dJ++(iN d at_ tg++rest)).set (dJ.length*2+1) (.sl Tc.length (ints Tc) Mg)=j8 dJ++(iN d Tc Mg++rest):=by
 have h:=kx dJ;rw[List.set_append_right _ _ (by omega),h,show dJ.length*2+1-dJ.length*2=1 by omega];rfl
theorem xh (dJ:List (Ps×Tag))(d:Int)(at_:List Int)(tg:Tag):j8 dJ++iN d at_ tg=j8 (dJ++[((d,at_),tg)]):=by simp[j8,iN]
attribute [-simp] getD_eq_getElem?_getD in
theorem uN (H:List aA)(T:ar)(nb tb N:Nat)(fO:nb≤H.length)(eS:tb≤T.length)(L:List Dc)(zs:List Zn)(ws:List Wd)(vi vj vk b2 b4 b5 b6 b8 rA Cu zx:Nat)(id f:Int)(s:Bs)(p:Int)(E1 E2:List En)(es:List (cN×AV))(J:List aA)(U:ar)(R:List (Nat×aA))(RT:List (Nat×(Nat×Nat)))
  (i cap:Nat) (dJ:List (Ps×Tag)) (rest:List AV) (px:List Int) (tg:Tag)
  (hJ:Has J (R++(b5,.map es)::(dD E1++(i,fS dJ id px tg rest)::dD E2)))
  (hU:(px=[]∧tg=.full∧Has U (RT++(jj E1++jj E2)))∨∃tk,tg=.own tk∧Has U (RT++(jj E1++(tk,(px.length,1))::jj E2))∧T.length≤tk)
  (hE:∀e,e∈E1∨e∈E2→CT H.length T.length (N+1) e) (hN:N≤1099511627776) (hr:rest.length=(cap-(dJ.length+1))*2) (cg:dJ.length+1≤cap) (hn:dJ.length≤N) (ha:px.length≤N) (hi:H.length≤i)
  (ia:jH es (lA (f,s)) (.bJ i (dJ.length+1) cap)=cj (E1++⟨(f,s),dJ,id,px++[p],0,i,cap,rest⟩::E2)) (kL:cW Tryz.prog 111 es=true)
  (E:List En) (z8:∀FR:En,FR.k=(f,s)→FR.pl=dJ.map (·.1)++[(id,px++[p])]→mT E (f,s) id p (E1++FR::E2))
  (ME:(Cu,.cells [.str s,.int .i64 p])∈R) (CJ:(zx,.cells [.int .i64 f,.str s])∈R) (FL:H.length≤b5) (iD:b2<J.length) (Rr:b4<J.length) (W5:b6<J.length) (hl8:b8<J.length) (Tw:rA<J.length)
  (hf:-9223372036854775808≤f∧f≤9223372036854775807) (hs:s.length≤maxLen) (IH:eT H J) (wJ:eT T U) (HO:bC J U) (Q:Exit→St→Prop)
  (go:∀(e:Env)(J':List aA)(U':ar)(E':List En),Has J' (R++(b5,.map (cj E'))::dD E')→Has U' (RT++jj E')→(∀e∈E',CT H.length T.length (N+1) e)→cW Tryz.prog 111 (cj E')=true→mT E (f,s) id p E'→eT H J'→eT T U'→J.length≤J'.length→U.length≤U'.length→bC J' U'→
   bt J'.length U'.length e [(0,.sl L.length (aM L) .none),(2,.ptr b2 0),(4,.ptr b4 0),(5,.aO b5),(6,.aO b6),(8,.ptr b8 0),(10,.ptr rA 0),(34,.sl L.length (aM L) .none),(35,.int .i64 (L.length:Nat)),(36,.int .i64 (vi:Nat)),(63,.sl zs.length (dS zs) .none),(64,.int .i64 (zs.length:Nat)),(65,.int .i64 (vj:Nat)),(70,.sl ws.length (cJ ws) .none),(71,.int .i64 (ws.length:Nat)),(72,.int .i64 (vk:Nat))]→Q .normal ⟨e,J',U'⟩) :
  AW ⟨Tryz.prog,192,152,nb,tb,[100104,100147,100166]⟩ (du [1,1,1,1,1,1,1,1,0,1,0,0,1,1,0,0,1,1,1,0,1,0,0,1,1,0,0,1,1,0,0,1,1,0,0,1,1,1,1] (Tryz.f13.body.getD .skip)) Q ⟨[(14,.bJ i (dJ.length+1) cap),(12,.ptr Cu 0),(13,.ptr zx 0),(0,.sl L.length (aM L) .none),(2,.ptr b2 0),(4,.ptr b4 0),(5,.aO b5),(6,.aO b6),(8,.ptr b8 0),(10,.ptr rA 0),(34,.sl L.length (aM L) .none),(35,.int .i64 (L.length:Nat)),(36,.int .i64 (vi:Nat)),(63,.sl zs.length (dS zs) .none),(64,.int .i64 (zs.length:Nat)),(65,.int .i64 (vj:Nat)),(70,.sl ws.length (cJ ws) .none),(71,.int .i64 (ws.length:Nat)),(72,.int .i64 (vk:Nat))],J,U⟩:=by
 conv=>arg 2;whnf
 have gi:=hJ.get (i:=i) (b:=fS dJ id px tg rest) (by simp);have g5:=hJ.get (i:=b5) (b:=.map es) (by simp);have g12:=hJ.get (mem_append_left _ ME);have g13:=hJ.get (mem_append_left _ CJ);have li:=(List.getElem?_eq_some_iff.1 gi).1;have l5:=(List.getElem?_eq_some_iff.1 g5).1;have l12:=(List.getElem?_eq_some_iff.1 g12).1;have WT:=(List.getElem?_eq_some_iff.1 g13).1;have lH:=IH.le;have lT:=wJ.le;have ei:=aV gi;have e5:=aV g5;have Xl:=aV g12;have FQ:=aV g13;have vX:=TM (f,s) hf hs;have jK:lA (f,s)=.agg [.int .i64 f,.str s]:=rfl;rw[jK] at vX;rw[jK] at ia;obtain⟨oI,iE⟩:=Ke dJ id px tg rest;have sr:(j8 dJ++(iN id px tg++rest)).length=dJ.length*2+(2+rest.length):=by rw[length_append,kx,length_append];rfl
 unfold fS at ei;have Mx:=fun Tc Mg=>Oe dJ id px Tc tg Mg rest;refine aI [14,17] [0,0,0,0,0,0,0,0,0,0,0,0,0,0,0,1,1,1] [[0,1,2,3],[]] al (by kernel_rfl) (by kernel_rfl) fun K hK=>?_;have fin:∀(e':Env)(U':ar)(Cn:Nat),Has U' (RT++(jj E1++(Cn,((px++[p]).length,1))::jj E2))→T.length≤Cn→eT T U'→U.length≤U'.length→
   bt J.length U'.length e' [(14,.bJ i (dJ.length+1) cap),(13,.ptr zx 0),(0,.sl L.length (aM L) .none),(2,.ptr b2 0),(4,.ptr b4 0),(5,.aO b5),(6,.aO b6),(8,.ptr b8 0),(10,.ptr rA 0),(34,.sl L.length (aM L) .none),(35,.int .i64 (L.length:Nat)),(36,.int .i64 (vi:Nat)),(63,.sl zs.length (dS zs) .none),(64,.int .i64 (zs.length:Nat)),(65,.int .i64 (vj:Nat)),(70,.sl ws.length (cJ ws) .none),(71,.int .i64 (ws.length:Nat)),(72,.int .i64 (vk:Nat))]→K ⟨e',J.set i (.cells (j8 dJ++(iN id (px++[p]) (.own Cn)++rest))),U'⟩:=by
  intro e' U' Cn Xe Z9 aaR PB s9;have gL:Has (J.set i (fS dJ id (px++[p]) (.own Cn) rest)) (R++(b5,.map es)::(dD E1++(i,fS dJ id (px++[p]) (.own Cn) rest)::dD E2)):=by
   have:=Has.set (A:=R++(b5,.map es)::dD E1) (B:=dD E2) (by simpa using hJ) (fS dJ id (px++[p]) (.own Cn) rest);simpa using this
  have oJ:eT H (J.set i (fS dJ id (px++[p]) (.own Cn) rest)):=IH.set hi _;have hl:(J.set i (fS dJ id (px++[p]) (.own Cn) rest)).length=J.length:=by simp
  rw[show aA.cells (j8 dJ++(iN id (px++[p]) (.own Cn)++rest))=fS dJ id (px++[p]) (.own Cn) rest from rfl];generalize J.set i (fS dJ id (px++[p]) (.own Cn) rest)=J2 at *;refine hK _ (cZ fun dy=>aH ⟨[(14,.bJ i (dJ.length+1) cap),(13,.ptr zx 0),(0,.sl L.length (aM L) .none),(2,.ptr b2 0),(4,.ptr b4 0),(5,.aO b5),(6,.aO b6),(8,.ptr b8 0),(10,.ptr rA 0),(34,.sl L.length (aM L) .none),(35,.int .i64 (L.length:Nat)),(36,.int .i64 (vi:Nat)),(63,.sl zs.length (dS zs) .none),(64,.int .i64 (zs.length:Nat)),(65,.int .i64 (vj:Nat)),(70,.sl ws.length (cJ ws) .none),(71,.int .i64 (ws.length:Nat)),(72,.int .i64 (vk:Nat))],J2,U'⟩ (ag [] [] (by simp) (by simp) (by show nb≤_;omega) (by show tb≤_;omega) dy (by rw[hl];exact s9)) ?_);simp only at dy;have g5:=gL.get (i:=b5) (b:=.map es) (by simp);have g13:=gL.get (mem_append_left _ CJ);have l5:=(List.getElem?_eq_some_iff.1 g5).1;have WT:=(List.getElem?_eq_some_iff.1 g13).1;have e5:=aV g5;have FQ:=aV g13;clear g5 g13 ei Xl gi;refine cZ fun nG=>?_;obtain⟨ee,qj⟩:∃ee:En,ee=⟨(f,s),dJ,id,px++[p],Cn,i,cap,rest⟩:=⟨_,rfl⟩
  have CG:cj (E1++⟨(f,s),dJ,id,px++[p],0,i,cap,rest⟩::E2)=cj (E1++ee::E2):=by rw[qj];simp[cj,En.n]
  rw[CG] at ia;have CR:cW Tryz.prog 111 (cj (E1++ee::E2))=true:=by rw[←ia];exact oC kL vX
  have hS:dD (E1++ee::E2)=dD E1++(i,fS dJ id (px++[p]) (.own Cn) rest)::dD E2:=by rw[qj];simp[dD,En.nf]
  have hT:jj (E1++ee::E2)=jj E1++(Cn,((px++[p]).length,1))::jj E2:=by rw[qj];simp[jj]
  rw[←hS] at gL;rw[←hT] at Xe;refine au fun K hK=>?_;simp(disch:=omega)[tR,e5,FQ,vX,kL,ia];apply hK;clear hK K;have zt:=gL.set (.map (cj (E1++ee::E2)));have hb:∀e∈E1++ee::E2,e.i<J2.length:=fun e he=>gL.lt (b:=e.nf) (by simp only[mem_append,mem_cons];exact .inr (.inr (List.mem_map.2 ⟨e,he,rfl⟩)));refine go _ _ _ (E1++ee::E2) zt Xe (fun e he=>?_) CR (z8 ee (by rw[qj]) (by rw[qj];rfl)) (oJ.set FL _) aaR (by simp;omega) PB (dy.pX (Ec hb)) ?_
  ·rcases List.mem_append.1 he with he|he
   ·exact hE e (.inl he)
   ·rcases List.mem_cons.1 he with rfl|he
    ·rw[qj];exact⟨hr,cg,by show dJ.length+1≤_;omega,by show (px++[p]).length≤_;simp;omega,hi,Z9⟩
    ·exact hE e (.inr he)
  ·simp;omega
 rcases hU with⟨rfl,rfl,hU⟩|⟨tk,rfl,hU,eN⟩
 ·have Jx:(j8 dJ++(iN id [] .full++rest)).set (dJ.length*2+1) (.sl 1 [.int .i64 p] (.own U.length))=j8 dJ++(iN id ([]++[p]) (.own U.length)++rest):=Mx [p] _;simp(disch:=omega)[ei,Xl,oI,iE,sr];rw[Jx];refine fin _ _ U.length ?_ lT (wJ.app _) (by simp) ?_
  ·refine(hU.new (1,1)).perm ?_;simp only[append_assoc];exact((perm_append_singleton _ _).symm.append_left _).append_left _
  ·simp;omega
 ·have Jx:(j8 dJ++(iN id px (.own tk)++rest)).set (dJ.length*2+1) (.sl (px.length+1) (ints px++[.int .i64 p]) (.own tk))=j8 dJ++(iN id (px++[p]) (.own tk)++rest):=by
   rw[cX];have:=Mx (px++[p]) (.own tk)
   rwa [length_append] at this
  have gU:=hU.get (i:=tk) (b:=(px.length,1)) (by simp);have lU:=(List.getElem?_eq_some_iff.1 gU).1;have eU:=aV gU;simp(disch:=omega)[ei,Xl,oI,iE,sr,eU];rw[Jx];refine fin _ _ tk ?_ eN (wJ.set eN _) (by simp) ?_
  ·have:=Has.set (A:=RT++jj E1) (B:=jj E2) (by simpa using hU) (px.length+1,1);simpa using this
  ·simp;omega
theorem Gq (H : List aA) (T : ar) (nb tb N : Nat) (fO : nb ≤ H.length) (eS : tb ≤ T.length) (L : List Dc) (zs : List Zn) (ws : List Wd) (vi vj vk b2 b4 b5 b6 b8 rA Cu zx : Nat) (id f : Int) (s : Bs) (p : Int) (zv nv : AV) (E : List En) (J : List aA) (U : ar) (R : List (Nat × aA)) (RT : List (Nat × (Nat × Nat)))
    (hJ : Has J (R ++ (b5, .map (cj E)) :: dD E)) (hU : Has U (RT ++ jj E)) (hE : ∀ e ∈ E, CT H.length T.length N e) (hN : N ≤ 1099511627776) (lr : (E.map (·.k)).Nodup) (kL : cW Tryz.prog 111 (cj E) = true)
    (h8 : (b8, .cells [.int .i64 id, zv, nv]) ∈ R) (ME : (Cu, .cells [.str s, .int .i64 p]) ∈ R) (CJ : (zx, .cells [.int .i64 f, .str s]) ∈ R) (FL : H.length ≤ b5) (iD : b2 < J.length) (Rr : b4 < J.length) (W5 : b6 < J.length) (Tw : rA < J.length)
    (hf : -9223372036854775808 ≤ f ∧ f ≤ 9223372036854775807) (hs : s.length ≤ maxLen) (IH : eT H J) (wJ : eT T U) (Q : Exit → St → Prop)
    (go : ∀ (e : Env) (J' : List aA) (U' : ar) (E' : List En), Has J' (R ++ (b5, .map (cj E')) :: dD E') → Has U' (RT ++ jj E') → (∀ e ∈ E', CT H.length T.length (N + 1) e) → cW Tryz.prog 111 (cj E') = true → mT E (f, s) id p E' → eT H J' → eT T U' → J.length ≤ J'.length → U.length ≤ U'.length → bC J' U' →
      bt J'.length U'.length e [(0, .sl L.length (aM L) .none), (2, .ptr b2 0), (4, .ptr b4 0), (5, .aO b5), (6, .aO b6), (8, .ptr b8 0), (10, .ptr rA 0), (34, .sl L.length (aM L) .none), (35, .int .i64 (L.length : Nat)), (36, .int .i64 (vi : Nat)), (63, .sl zs.length (dS zs) .none), (64, .int .i64 (zs.length : Nat)), (65, .int .i64 (vj : Nat)), (70, .sl ws.length (cJ ws) .none), (71, .int .i64 (ws.length : Nat)), (72, .int .i64 (vk : Nat))] → Q .normal ⟨e, J', U'⟩) :
    AW ⟨Tryz.prog, 192, 152, nb, tb, [100104, 100147, 100166]⟩ (du [1, 1, 1, 1, 1, 1, 1, 1, 0, 1, 0, 0, 1, 1, 0, 0, 1, 1, 1, 0, 1, 0, 0, 1, 1, 0, 0, 1, 1, 0, 0, 1, 1, 0, 0, 1, 1] (Tryz.f13.body.getD .skip)) Q ⟨[(12, .ptr Cu 0), (13, .ptr zx 0), (0, .sl L.length (aM L) .none), (2, .ptr b2 0), (4, .ptr b4 0), (5, .aO b5), (6, .aO b6), (8, .ptr b8 0), (10, .ptr rA 0), (34, .sl L.length (aM L) .none), (35, .int .i64 (L.length : Nat)), (36, .int .i64 (vi : Nat)), (63, .sl zs.length (dS zs) .none), (64, .int .i64 (zs.length : Nat)), (65, .int .i64 (vj : Nat)), (70, .sl ws.length (cJ ws) .none), (71, .int .i64 (ws.length : Nat)), (72, .int .i64 (vk : Nat))], J, U⟩ := by
  conv => arg 2; whnf
  have g5 := hJ.get (i := b5) (b := .map (cj E)) (by simp);have g8 := hJ.get (mem_append_left _ h8);have g12 := hJ.get (mem_append_left _ ME);have g13 := hJ.get (mem_append_left _ CJ);have l5 := (List.getElem?_eq_some_iff.1 g5).1;have l8 := (List.getElem?_eq_some_iff.1 g8).1;have l12 := (List.getElem?_eq_some_iff.1 g12).1;have WT := (List.getElem?_eq_some_iff.1 g13).1;have lH := IH.le;have lT := wJ.le;have e5 := aV g5;have e8 := aV g8;have Xl := aV g12;have FQ := aV g13;have vX := TM (f, s) hf hs;have jK : lA (f, s) = .agg [.int .i64 f, .str s] := rfl;rw [jK] at vX;refine cZ fun HO => ?_;simp only at HO
  by_cases hex : (f, s) ∈ E.map (·.k)
  rotate_left
  · have dH : gS (cj E) (.agg [.int .i64 f, .str s]) (.sl 0 [] .full) false = .sl 0 [] .full := by
      unfold gS;rw [← jK, oW (xL hex)];rfl
    refine ae fun K hK => ?_; simp (maxSteps := 1000000) (disch := omega) [-getD_eq_getElem?_getD, tR, Ag, vX, kL, e5, FQ, dH]; refine hK _ ?_; clear hK K;refine af fun K1 aQ => ?_;refine aI [] [] [] al (by kernel_rfl) (by kernel_rfl) fun K hK => ?_; simp (maxSteps := 1000000) (disch := omega) [-getD_eq_getElem?_getD];refine hK _ ?_; clear hK K;refine aN rfl (fun h => ?_) (fun h => absurd h (by simp));refine au fun K hK => ?_; simp (maxSteps := 1000000) (disch := omega) [-getD_eq_getElem?_getD, e8];intro nc kT;refine hK _ ?_; clear hK K;refine aQ _ ?_; clear aQ;have zq : aA.cells (.int .i64 id :: .sl 0 [] .full :: List.replicate ((nc - 1) * 2) .top) = fS [] id [] .full (List.replicate ((nc - 1) * 2) .top) := rfl;rw [zq];have gL := hJ.new (fS [] id [] .full (List.replicate ((nc - 1) * 2) .top));have oJ := IH.app [fS [] id [] .full (List.replicate ((nc - 1) * 2) .top)];have aaq : (J ++ [fS [] id [] .full (List.replicate ((nc - 1) * 2) .top)]).length = J.length + 1 := by simp
    obtain ⟨i, hi⟩ : ∃ i, i = J.length := ⟨_, rfl⟩
    rw [← hi] at gL;simp only [← hi];generalize J ++ [fS [] id [] .full (List.replicate ((nc - 1) * 2) .top)] = J2 at *;refine cZ fun dy => ?_;simp only at dy;refine aH ⟨[(14, .bJ i (([] : List (Ps × Tag)).length + 1) nc), (12, .ptr Cu 0), (13, .ptr zx 0), (0, .sl L.length (aM L) .none), (2, .ptr b2 0), (4, .ptr b4 0), (5, .aO b5), (6, .aO b6), (8, .ptr b8 0), (10, .ptr rA 0), (34, .sl L.length (aM L) .none), (35, .int .i64 (L.length : Nat)), (36, .int .i64 (vi : Nat)), (63, .sl zs.length (dS zs) .none), (64, .int .i64 (zs.length : Nat)), (65, .int .i64 (vj : Nat)), (70, .sl ws.length (cJ ws) .none), (71, .int .i64 (ws.length : Nat)), (72, .int .i64 (vk : Nat))], J2, U⟩ (ag [] [] (by simp) (by simp) (by show nb ≤ _; omega) (by show tb ≤ _; omega) dy (by simp; omega)) ?_;have ace : ((E ++ [(⟨(f, s), [], id, [p], 0, i, nc, []⟩ : En)]).map (·.k)).Nodup := by
      rw [map_append, nodup_append];exact ⟨lr, by simp, fun a ha b hb => by simp at hb; rintro rfl; rw [hb] at ha; exact hex ha⟩
    exact uN H T nb tb N fO eS L zs ws vi vj vk b2 b4 b5 b6 b8 rA Cu zx id f s p E [] (cj E) J2 U R RT i nc [] (List.replicate ((nc - 1) * 2) .top) [] .full (by simpa [dD] using gL) (.inl ⟨rfl, rfl, by simpa [jj] using hU⟩)
      (fun e he => by
        rcases he with he | he
        · have := hE e he; exact ⟨this.r, this.c, Nat.le_succ_of_le this.n, Nat.le_succ_of_le this.a, this.i, this.t⟩
        · simp at he) hN (by simp) kT (Nat.zero_le _) (Nat.zero_le _) (by omega) (Lr ⟨(f, s), [], id, [] ++ [p], 0, i, nc, List.replicate ((nc - 1) * 2) .top⟩ hex) kL E
      (fun FR hk hp => by have := mT.add (e' := FR) (d := id) (p := p) lr (by rw [hk]; exact hex) (by rw [hp]; rfl); rwa [hk] at this)
      ME CJ FL (by omega) (by omega) (by omega) (by omega) (by omega) hf hs oJ wJ dy Q (fun e J' U' E' a1 a2 a3 a4 a5 a6 a7 a8 => go e J' U' E' a1 a2 a3 a4 a5 a6 a7 (by omega))
  · obtain ⟨e, IY, ry⟩ := List.mem_map.1 hex;obtain ⟨E1, E2, rfl⟩ := List.append_of_mem IY;obtain ⟨k0, dJ, d, at_, tk, i, cap, rest⟩ := e;simp only at ry;subst ry;have iG := hE _ IY;have S0 : ∀ e, e ∈ E1 ∨ e ∈ E2 → CT H.length T.length (N + 1) e := fun e he => by
      have := hE e (by rcases he with he | he <;> simp [he]); exact ⟨this.r, this.c, Nat.le_succ_of_le this.n, Nat.le_succ_of_le this.a, this.i, this.t⟩
    obtain ⟨q1, q2, q3, q4, q5, q6⟩ := iG;simp only [En.n] at q1 q2 q3 q4 q5 q6;have IJ : Has J (R ++ (b5, .map (cj (E1 ++ ⟨(f, s), dJ, d, at_, tk, i, cap, rest⟩ :: E2))) :: (dD E1 ++ (i, fS dJ d at_ (.own tk) rest) :: dD E2)) := by simpa [dD, En.nf] using hJ
    have hUb : Has U (RT ++ (jj E1 ++ (tk, (at_.length, 1)) :: jj E2)) := by simpa [jj] using hU
    have gi := IJ.get (i := i) (b := fS dJ d at_ (.own tk) rest) (by simp);have li := (List.getElem?_eq_some_iff.1 gi).1;have ei := aV gi;unfold fS at ei gi;obtain ⟨oI, iE⟩ := Ke dJ d at_ (.own tk) rest;have sr : (j8 dJ ++ (iN d at_ (.own tk) ++ rest)).length = dJ.length * 2 + (2 + rest.length) := by rw [length_append, kx, length_append]; rfl
    have kb := Lq lr;simp only [En.n] at kb;have dH : gS (cj (E1 ++ ⟨(f, s), dJ, d, at_, tk, i, cap, rest⟩ :: E2)) (.agg [.int .i64 f, .str s]) (.sl 0 [] .full) false = .bJ i (dJ.length + 1) cap := by
      unfold gS;rw [← jK, kb];rfl
    have uy := fun e' hk => Lp lr e' hk;have hold := fun e' p' hk hp => mT.sT (d := id) (p := p') lr (e' := e') hk hp;simp only at uy hold;generalize hEE : cj (E1 ++ ⟨(f, s), dJ, d, at_, tk, i, cap, rest⟩ :: E2) = es at *;refine ae fun K hK => ?_; simp (maxSteps := 1000000) (disch := omega) [-getD_eq_getElem?_getD, tR, Ag, vX, kL, e5, FQ, dH]; refine hK _ ?_; clear hK K;refine af fun K1 aQ => ?_;have bn : (((dJ.length : Int) + 1) == 0) = false := beq_eq_false_iff_ne.2 (by omega);have S8 : ¬ ((dJ.length : Int) + 1) = 0 := by omega
    by_cases hd : d = id
    · subst hd;have bd : (d != d) = false := by simp
      refine aI [] [] [] al (by kernel_rfl) (by kernel_rfl) fun K hK => ?_; simp (maxSteps := 1000000) (disch := omega) [-getD_eq_getElem?_getD, bn, S8, ei, e8, oI, sr, bd];refine hK _ ?_; clear hK K;refine aN rfl (fun h => absurd h (by simp)) (fun h => ?_);apply ai; simp (maxSteps := 1000000) (disch := omega) [-getD_eq_getElem?_getD];refine aQ _ ?_; clear aQ;refine aH ⟨[(14, .bJ i (dJ.length + 1) cap), (12, .ptr Cu 0), (13, .ptr zx 0), (0, .sl L.length (aM L) .none), (2, .ptr b2 0), (4, .ptr b4 0), (5, .aO b5), (6, .aO b6), (8, .ptr b8 0), (10, .ptr rA 0), (34, .sl L.length (aM L) .none), (35, .int .i64 (L.length : Nat)), (36, .int .i64 (vi : Nat)), (63, .sl zs.length (dS zs) .none), (64, .int .i64 (zs.length : Nat)), (65, .int .i64 (vj : Nat)), (70, .sl ws.length (cJ ws) .none), (71, .int .i64 (ws.length : Nat)), (72, .int .i64 (vk : Nat))], J, U⟩ (ag [] [] (by simp) (by simp) (by show nb ≤ _; omega) (by show tb ≤ _; omega) HO (by simp; omega)) ?_;refine uN H T nb tb N fO eS L zs ws vi vj vk b2 b4 b5 b6 b8 rA Cu zx d f s p E1 E2 es J U R RT i cap dJ rest at_ (.own tk) IJ (.inr ⟨tk, rfl, hUb, q6⟩)
        S0 hN q1 q2 (by omega) q4 q5 (uy ⟨(f, s), dJ, d, at_ ++ [p], 0, i, cap, rest⟩ rfl) kL _
        (fun FR hk hp => ?_)
        ME CJ FL iD Rr W5 l8 Tw hf hs IH wJ HO Q go
      exact hold FR p hk (by rw [hp]; show _ = ur (dJ.map (·.1) ++ [(d, at_)]) d p; rw [pe, if_pos rfl])
    · have bd : (d != id) = true := by simpa using hd
      have ZF : Has U (RT ++ (jj E1 ++ jj E2)) := hUb.sub (List.Sublist.append_left (List.Sublist.append_left (sublist_cons_self _ _) _) _);have z8 : ∀ FR : En, FR.k = (f, s) → FR.pl = (dJ ++ [((d, at_), Tag.own tk)]).map (·.1) ++ [(id, [] ++ [p])] → mT (E1 ++ ⟨(f, s), dJ, d, at_, tk, i, cap, rest⟩ :: E2) (f, s) id p (E1 ++ FR :: E2) := fun FR hk hp =>
        hold FR p hk (by rw [hp]; show _ = ur (dJ.map (·.1) ++ [(d, at_)]) id p; rw [pe, if_neg hd]; simp)
      have zL := fun (J2 : List aA) (i2 fk : Nat) (dm : List AV) (hl : J.length ≤ J2.length) (gL : Has J2 (R ++ (b5, .map es) :: (dD E1 ++ (i2, fS (dJ ++ [((d, at_), Tag.own tk)]) id [] .full dm) :: dD E2))) (dy : bC J2 U) (oJ : eT H J2) (mN : dm.length = (fk - (dJ.length + 2)) * 2) (jg : dJ.length + 2 ≤ fk) (dY : H.length ≤ i2) =>
        uN H T nb tb N fO eS L zs ws vi vj vk b2 b4 b5 b6 b8 rA Cu zx id f s p E1 E2 es J2 U R RT i2 fk (dJ ++ [((d, at_), Tag.own tk)]) dm [] .full gL (.inl ⟨rfl, rfl, ZF⟩)
          S0 hN (by rw [mN]; simp) (by simpa using jg) (by simp; omega) (Nat.zero_le _) dY (by have := uy ⟨(f, s), dJ ++ [((d, at_), Tag.own tk)], id, [] ++ [p], 0, i2, fk, dm⟩ rfl; exact this) kL _ z8
          ME CJ FL (by omega) (by omega) (by omega) (by omega) (by omega) hf hs oJ wJ dy Q (fun e J' U' E' a1 a2 a3 a4 a5 a6 a7 a8 => go e J' U' E' a1 a2 a3 a4 a5 a6 a7 (by omega))
      have eN : (j8 dJ ++ (iN d at_ (.own tk) ++ rest)).take ((dJ.length + 1) * 2) = j8 (dJ ++ [((d, at_), Tag.own tk)]) := by
        rw [← append_assoc, xh, List.take_left' (by rw [kx]; simp)]
      have oH : (j8 dJ ++ (iN d at_ (.own tk) ++ rest)).drop ((dJ.length + 1 + 1) * 2) = rest.drop 2 := by
        rw [← append_assoc, xh, List.drop_append, List.drop_of_length_le (by rw [kx, length_append, List.length_singleton]; omega), List.nil_append, kx]
        congr 1; simp; omega
      refine aI [] [] [] al (by kernel_rfl) (by kernel_rfl) fun K hK => ?_; simp (maxSteps := 1000000) (disch := omega) [-getD_eq_getElem?_getD, bn, S8, ei, e8, oI, sr, bd];refine hK _ ?_; clear hK K;refine aN rfl (fun h => ?_) (fun h => absurd h (by simp));refine au fun K hK => ?_; simp (maxSteps := 1000000) (disch := omega) [-getD_eq_getElem?_getD, e8];refine ⟨112, _, [.int .i64 id, .sl 0 [] .full], 1, by kernel_rfl, gi, by rw [sr, vh]; omega, by simp, by simp; omega, by omega, by kernel_rfl, by simp, fun hle => ?_, fun nc aZ kT => ?_⟩
      · simp only [vh, eN, oH];rw [show aA.cells (j8 (dJ ++ [((d, at_), Tag.own tk)]) ++ [.int .i64 id, .sl 0 [] .full] ++ rest.drop 2) = fS (dJ ++ [((d, at_), Tag.own tk)]) id [] .full (rest.drop 2) by rw [append_assoc]; rfl];have gL : Has (J.set i (fS (dJ ++ [((d, at_), Tag.own tk)]) id [] .full (rest.drop 2))) (R ++ (b5, .map es) :: (dD E1 ++ (i, fS (dJ ++ [((d, at_), Tag.own tk)]) id [] .full (rest.drop 2)) :: dD E2)) := by
          have := Has.set (A := R ++ (b5, .map es) :: dD E1) (B := dD E2) (by simpa using IJ) (fS (dJ ++ [((d, at_), Tag.own tk)]) id [] .full (rest.drop 2));simpa using this
        have oJ := IH.set q5 (fS (dJ ++ [((d, at_), Tag.own tk)]) id [] .full (rest.drop 2));have hl : J.length = (J.set i (fS (dJ ++ [((d, at_), Tag.own tk)]) id [] .full (rest.drop 2))).length := by simp
        generalize J.set i (fS (dJ ++ [((d, at_), Tag.own tk)]) id [] .full (rest.drop 2)) = J2 at *;simp (maxSteps := 1000000) (disch := omega) [-getD_eq_getElem?_getD];refine hK _ ?_; clear hK K;refine aQ _ ?_; clear aQ;refine cZ fun dy => ?_;simp only at dy;refine aH ⟨[(14, .bJ i ((dJ ++ [((d, at_), Tag.own tk)]).length + 1) cap), (12, .ptr Cu 0), (13, .ptr zx 0), (0, .sl L.length (aM L) .none), (2, .ptr b2 0), (4, .ptr b4 0), (5, .aO b5), (6, .aO b6), (8, .ptr b8 0), (10, .ptr rA 0), (34, .sl L.length (aM L) .none), (35, .int .i64 (L.length : Nat)), (36, .int .i64 (vi : Nat)), (63, .sl zs.length (dS zs) .none), (64, .int .i64 (zs.length : Nat)), (65, .int .i64 (vj : Nat)), (70, .sl ws.length (cJ ws) .none), (71, .int .i64 (ws.length : Nat)), (72, .int .i64 (vk : Nat))], J2, U⟩ (ag [] [] (by simp) (by simp) (by show nb ≤ _; omega) (by show tb ≤ _; omega) dy (by simp; omega)) ?_;exact zL J2 i cap (rest.drop 2) (by omega) gL dy oJ (by rw [List.length_drop]; omega) (by omega) q5
      · simp only [vh, eN];obtain ⟨r2, mN⟩ : ∃ r2, r2 = List.replicate ((nc - (dJ.length + 1 + 1)) * 2) AV.top := ⟨_, rfl⟩
        have Jc : r2.length = (nc - (dJ.length + 2)) * 2 := by rw [mN]; simp
        rw [← mN];rw [show aA.cells (j8 (dJ ++ [((d, at_), Tag.own tk)]) ++ [.int .i64 id, .sl 0 [] .full] ++ r2) = fS (dJ ++ [((d, at_), Tag.own tk)]) id [] .full r2 by rw [append_assoc]; rfl];have gL : Has (J ++ [fS (dJ ++ [((d, at_), Tag.own tk)]) id [] .full r2]) (R ++ (b5, .map es) :: (dD E1 ++ (J.length, fS (dJ ++ [((d, at_), Tag.own tk)]) id [] .full r2) :: dD E2)) := by
          have h0 : Has J (R ++ (b5, .map es) :: (dD E1 ++ dD E2)) := IJ.sub (List.Sublist.append_left (List.Sublist.cons_cons _ (List.Sublist.append_left (sublist_cons_self _ _) _)) _);refine (h0.new _).perm ?_;simp only [append_assoc, List.cons_append];exact (((perm_append_singleton _ _).symm.append_left _).cons _).append_left _
        have oJ := IH.app [fS (dJ ++ [((d, at_), Tag.own tk)]) id [] .full r2];have aaq : (J ++ [fS (dJ ++ [((d, at_), Tag.own tk)]) id [] .full r2]).length = J.length + 1 := by simp
        obtain ⟨i2, dY⟩ : ∃ i, i = J.length := ⟨_, rfl⟩
        rw [← dY] at gL;simp only [← dY];generalize J ++ [fS (dJ ++ [((d, at_), Tag.own tk)]) id [] .full r2] = J2 at *;simp (maxSteps := 1000000) (disch := omega) [-getD_eq_getElem?_getD];refine hK _ ?_; clear hK K;refine aQ _ ?_; clear aQ;refine cZ fun dy => ?_;simp only at dy;refine aH ⟨[(14, .bJ i2 ((dJ ++ [((d, at_), Tag.own tk)]).length + 1) nc), (12, .ptr Cu 0), (13, .ptr zx 0), (0, .sl L.length (aM L) .none), (2, .ptr b2 0), (4, .ptr b4 0), (5, .aO b5), (6, .aO b6), (8, .ptr b8 0), (10, .ptr rA 0), (34, .sl L.length (aM L) .none), (35, .int .i64 (L.length : Nat)), (36, .int .i64 (vi : Nat)), (63, .sl zs.length (dS zs) .none), (64, .int .i64 (zs.length : Nat)), (65, .int .i64 (vj : Nat)), (70, .sl ws.length (cJ ws) .none), (71, .int .i64 (ws.length : Nat)), (72, .int .i64 (vk : Nat))], J2, U⟩ (ag [] [] (by simp) (by simp) (by show nb ≤ _; omega) (by show tb ≤ _; omega) dy (by simp; omega)) ?_;exact zL J2 i2 nc r2 (by omega) gL dy oJ Jc (by omega) (by omega)
end Go.Proofs.YtneohapkboaplaaGreat
namespace eJ
open Go Go.Am
inductive mr (id:Int):List En→List (Ky×Int)→List En→Prop
 |nil (E:List En):mr id E [] E
 |snoc {E E1 E2:List En} {l:List (Ky×Int)} {k:Ky} {p:Int} (h:mr id E l E1) (h2:mT E1 k id p E2):mr id E (l++[(k,p)]) E2
theorem mr.trans {id:Int}{E E1 E2:List En}{l m:List (Ky×Int)}(h:mr id E l E1)(k:mr id E1 m E2):mr id E (l++m) E2:=by
 induction k with
 |nil=>simpa using h
 |snoc _ h2 ih=>rw[←append_assoc];exact ih.snoc h2
def nh (f:Int)(ws:List Wd):List (Ky×Int):=ws.map fun w=>((f,w.1),w.2)
def et (zs:List Zn):List (Ky×Int):=zs.flatMap fun z=>nh z.f z.ws
theorem Gk (f:Int)(ws:List Wd)(k:Nat)(h:k<ws.length):nh f (ws.take k)++[((f,(ws.getD k w0).1),(ws.getD k w0).2)]=nh f (ws.take (k+1)):=by
 rw[bf ws k w0 h];simp[nh]
theorem HZ (zs:List Zn)(k:Nat)(h:k<zs.length):et (zs.take k)++nh (zs.getD k z0).f (zs.getD k z0).ws=et (zs.take (k+1)):=by
 rw[bf zs k z0 h];simp[et]
end eJ
namespace Go.Proofs.YtneohapkboaplaaGreat
open Go Go.Am iF eJ
structure BI (H:List aA)(T:ar)(R:List (Nat×aA))(RT:List (Nat×(Nat×Nat)))(b5 N:Nat)(J:List aA)(U:ar)(E:List En):Prop where
 hJ:Has J (R++(b5,.map (cj E))::dD E)
 hU:Has U (RT++jj E)
 hE:∀e∈E,CT H.length T.length N e
 nd:(E.map (·.k)).Nodup
 ft:cW Tryz.prog 111 (cj E)=true
 pJ:eT H J
 pU:eT T U
 ok:bC J U
theorem BI.more {H:List aA}{T:ar}{R:List (Nat×aA)}{RT:List (Nat×(Nat×Nat))}{b5 N:Nat}{J:List aA}{U:ar}{E:List En}(h:BI H T R RT b5 N J U E){M:Nat}(hm:N≤M):BI H T R RT b5 M J U E:=
 ⟨h.hJ,h.hU,fun e he=>have q:=h.hE e he;⟨q.r,q.c,Nat.le_trans q.n hm,Nat.le_trans q.a hm,q.i,q.t⟩,h.nd,h.ft,h.pJ,h.pU,h.ok⟩
theorem BI.sub {H:List aA}{T:ar}{R R':List (Nat×aA)}{RT:List (Nat×(Nat×Nat))}{b5 N:Nat}{J:List aA}{U:ar}{E:List En}(h:BI H T R RT b5 N J U E)(hs:R'.Sublist R):BI H T R' RT b5 N J U E:=
 ⟨h.hJ.sub (hs.append_right _),h.hU,h.hE,h.nd,h.ft,h.pJ,h.pU,h.ok⟩
theorem BI.new {H:List aA}{T:ar}{R:List (Nat×aA)}{RT:List (Nat×(Nat×Nat))}{b5 N:Nat}{J:List aA}{U:ar}{E:List En}(h:BI H T R RT b5 N J U E)(b:aA)(ho:bC (J++[b]) U):BI H T ((J.length,b)::R) RT b5 N (J++[b]) U E:=by
 refine⟨?_,h.hU,h.hE,h.nd,h.ft,h.pJ.app _,h.pU,ho⟩;exact(h.hJ.new b).perm (perm_append_singleton _ _).symm
theorem Gr (H:List aA)(T:ar)(nb tb N:Nat)(fO:nb≤H.length)(eS:tb≤T.length)(L:List Dc)(zs:List Zn)(ws:List Wd)(vi vj vk b2 b4 b5 b6 b8 rA:Nat)(id f:Int)(zv nv wv:AV)(E:List En)(J:List aA)(U:ar)(R:List (Nat×aA))(RT:List (Nat×(Nat×Nat)))
  (hB:BI H T R RT b5 N J U E) (hN:N≤1099511627776) (hk:vk<ws.length) (gB:ws.length≤1099511627776)
  (h8:(b8,.cells [.int .i64 id,zv,nv])∈R) (I0:(rA,.cells [.int .i64 f,wv])∈R) (FL:H.length≤b5) (iD:b2<J.length) (Rr:b4<J.length) (W5:b6<J.length)
  (hf:-9223372036854775808≤f∧f≤9223372036854775807) (hs:(ws.getD vk w0).1.length≤maxLen) (Q:Exit→St→Prop)
  (go:∀(e:Env)(J':List aA)(U':ar)(E':List En),BI H T R RT b5 (N+1) J' U' E'→mT E (f,(ws.getD vk w0).1) id (ws.getD vk w0).2 E'→J.length≤J'.length→bt J'.length U'.length e [(0,.sl L.length (aM L) .none),(2,.ptr b2 0),(4,.ptr b4 0),(5,.aO b5),(6,.aO b6),(8,.ptr b8 0),(10,.ptr rA 0),(34,.sl L.length (aM L) .none),(35,.int .i64 (L.length:Nat)),(36,.int .i64 (vi:Nat)),(63,.sl zs.length (dS zs) .none),(64,.int .i64 (zs.length:Nat)),(65,.int .i64 (vj:Nat)),(70,.sl ws.length (cJ ws) .none),(71,.int .i64 (ws.length:Nat)),(72,.int .i64 (vk:Nat))]→Q .normal ⟨e,J',U'⟩) :
  AW ⟨Tryz.prog,192,152,nb,tb,[100104,100147,100166]⟩ (du [1,1,1,1,1,1,1,1,0,1,0,0,1,1,0,0,1,1,1,0,1,0,0,1,1,0,0,1,1,0,0,1,1,0,0] (Tryz.f13.body.getD .skip)) Q ⟨[(0,.sl L.length (aM L) .none),(2,.ptr b2 0),(4,.ptr b4 0),(5,.aO b5),(6,.aO b6),(8,.ptr b8 0),(10,.ptr rA 0),(34,.sl L.length (aM L) .none),(35,.int .i64 (L.length:Nat)),(36,.int .i64 (vi:Nat)),(63,.sl zs.length (dS zs) .none),(64,.int .i64 (zs.length:Nat)),(65,.int .i64 (vj:Nat)),(70,.sl ws.length (cJ ws) .none),(71,.int .i64 (ws.length:Nat)),(72,.int .i64 (vk:Nat))],J,U⟩:=by
 conv=>arg 2;whnf
 have g10:=hB.hJ.get (mem_append_left _ I0);have g8:=hB.hJ.get (mem_append_left _ h8);have l10:=(List.getElem?_eq_some_iff.1 g10).1;have l8:=(List.getElem?_eq_some_iff.1 g8).1;have l5:=hB.hJ.lt (i:=b5) (b:=.map (cj E)) (by simp);have S7:=aV g10;have lH:=hB.pJ.le;have lT:=hB.pU.le;have bA:=uO ws vk hk;have HO:=hB.ok;generalize ws.getD vk w0=x at *;obtain⟨s,p⟩:=x;simp only at bA hs go;refine ae fun K hK=>?_;simp(disch:=omega)[-getD_eq_getElem?_getD,bA,dV];apply hK;clear hK K;refine ae fun K hK=>?_;simp(disch:=omega)[-getD_eq_getElem?_getD,S7,List.getElem?_append_left,List.getElem_append_left];apply hK;clear hK K;have pH:bC (J++[.cells [.str s,.int .i64 p]]) U:=HO.snoc (by simp);have Pw:bC ((J++[.cells [.str s,.int .i64 p]])++[.cells [.int .i64 f,.str s]]) U:=pH.snoc (by simp);have Ct:=(hB.new (.cells [.str s,.int .i64 p]) pH).new (.cells [.int .i64 f,.str s]) Pw;have wG:((J++[aA.cells [.str s,.int .i64 p]])++[aA.cells [.int .i64 f,.str s]]).length=J.length+2:=by simp
 rw[show (J++[aA.cells [.str s,.int .i64 p]]).length=J.length+1 by simp] at Ct;have PA:J++[aA.cells [.str s,.int .i64 p],aA.cells [.int .i64 f,.str s]]=(J++[aA.cells [.str s,.int .i64 p]])++[aA.cells [.int .i64 f,.str s]]:=by simp
 rw[PA];obtain⟨Cu,ME⟩:∃i,i=J.length:=⟨_,rfl⟩
 obtain⟨zx,CJ⟩:∃i,i=J.length+1:=⟨_,rfl⟩
 rw[←CJ,←ME] at Ct;simp only[←CJ,←ME];generalize (J++[aA.cells [.str s,.int .i64 p]])++[aA.cells [.int .i64 f,.str s]]=J2 at *;refine aH ⟨[(12,.ptr Cu 0),(13,.ptr zx 0),(0,.sl L.length (aM L) .none),(2,.ptr b2 0),(4,.ptr b4 0),(5,.aO b5),(6,.aO b6),(8,.ptr b8 0),(10,.ptr rA 0),(34,.sl L.length (aM L) .none),(35,.int .i64 (L.length:Nat)),(36,.int .i64 (vi:Nat)),(63,.sl zs.length (dS zs) .none),(64,.int .i64 (zs.length:Nat)),(65,.int .i64 (vj:Nat)),(70,.sl ws.length (cJ ws) .none),(71,.int .i64 (ws.length:Nat)),(72,.int .i64 (vk:Nat))],J2,U⟩ (ag [] [] (by simp) (by simp) (by show nb≤_;omega) (by show tb≤_;omega) Ct.ok (by simp;omega)) ?_;exact Gq H T nb tb N fO eS L zs ws vi vj vk b2 b4 b5 b6 b8 rA Cu zx id f s p zv nv E J2 U _ RT Ct.hJ Ct.hU Ct.hE hN Ct.nd Ct.ft (by simp[h8]) (by simp) (by simp) FL (by omega) (by omega) (by omega) (by omega) hf hs Ct.pJ Ct.pU Q
  (fun e J' U' E' a1 a2 a3 a4 a5 a6 a7 a8 a9 a10 a11=>go e J' U' E' (BI.sub ⟨a1,a2,a3,a5.nd,a4,a6,a7,a10⟩ (by simp)) a5 (by omega) a11)
attribute [-simp] getD_eq_getElem?_getD in
theorem Gl (H:List aA)(T:ar)(nb tb N:Nat)(fO:nb≤H.length)(eS:tb≤T.length)(L:List Dc)(zs:List Zn)(vi vj b2 b4 b5 b6 b8:Nat)(id:Int)(zv nv:AV)(E:List En)(J:List aA)(U:ar)(R:List (Nat×aA))(RT:List (Nat×(Nat×Nat)))
  (hB:BI H T R RT b5 N J U E) (hk:vj<zs.length) (hN:N+(zs.getD vj z0).ws.length≤1099511627776)
  (h8:(b8,.cells [.int .i64 id,zv,nv])∈R) (FL:H.length≤b5) (iD:b2<J.length) (Rr:b4<J.length) (W5:b6<J.length)
  (hf:-9223372036854775808≤(zs.getD vj z0).f∧(zs.getD vj z0).f≤9223372036854775807) (hs:∀w∈(zs.getD vj z0).ws,w.1.length≤maxLen) (Q:Exit→St→Prop)
  (go:∀(e:Env)(J':List aA)(U':ar)(E':List En),BI H T R RT b5 (N+(zs.getD vj z0).ws.length) J' U' E'→mr id E (nh (zs.getD vj z0).f (zs.getD vj z0).ws) E'→J.length≤J'.length→bt J'.length U'.length e [(0,.sl L.length (aM L) .none),(2,.ptr b2 0),(4,.ptr b4 0),(5,.aO b5),(6,.aO b6),(8,.ptr b8 0),(34,.sl L.length (aM L) .none),(35,.int .i64 (L.length:Nat)),(36,.int .i64 (vi:Nat)),(63,.sl zs.length (dS zs) .none),(64,.int .i64 (zs.length:Nat)),(65,.int .i64 (vj:Nat))]→Q .normal ⟨e,J',U'⟩) :
  AW ⟨Tryz.prog,192,152,nb,tb,[100104,100147,100166]⟩ (du [1,1,1,1,1,1,1,1,0,1,0,0,1,1,0,0,1,1,1,0,1,0,0,1,1,0,0] (Tryz.f13.body.getD .skip)) Q ⟨[(0,.sl L.length (aM L) .none),(2,.ptr b2 0),(4,.ptr b4 0),(5,.aO b5),(6,.aO b6),(8,.ptr b8 0),(34,.sl L.length (aM L) .none),(35,.int .i64 (L.length:Nat)),(36,.int .i64 (vi:Nat)),(63,.sl zs.length (dS zs) .none),(64,.int .i64 (zs.length:Nat)),(65,.int .i64 (vj:Nat))],J,U⟩:=by
 conv=>arg 2;whnf
 have l8:=hB.hJ.lt (mem_append_left _ h8);have l5:=hB.hJ.lt (i:=b5) (b:=.map (cj E)) (by simp);have lH:=hB.pJ.le;have lT:=hB.pU.le;have bA:=qQ zs vj hk;have HO:=hB.ok;generalize zs.getD vj z0=z at *;obtain⟨f,ws⟩:=z;simp only at bA hs hf hN go;refine ae fun K hK=>?_;simp(disch:=omega)[bA,fm];apply hK;clear hK K;apply ae;intro K h;simp(disch:=omega);apply h;clear h K;have pH:bC (J++[.cells [.int .i64 f,.sl ws.length (cJ ws) .none]]) U:=HO.snoc (by simp);have Ct:=hB.new _ pH;have wG:(J++[aA.cells [.int .i64 f,.sl ws.length (cJ ws) .none]]).length=J.length+1:=by simp
 obtain⟨rA,I0⟩:∃i,i=J.length:=⟨_,rfl⟩
 rw[←I0] at Ct;simp only[←I0];generalize J++[aA.cells [.int .i64 f,.sl ws.length (cJ ws) .none]]=J1 at *;apply ah;refine aG (X:=Nat×List aA×ar×List En) (fun x=>⟨[(0,.sl L.length (aM L) .none),(2,.ptr b2 0),(4,.ptr b4 0),(5,.aO b5),(6,.aO b6),(8,.ptr b8 0),(10,.ptr rA 0),(34,.sl L.length (aM L) .none),(35,.int .i64 (L.length:Nat)),(36,.int .i64 (vi:Nat)),(63,.sl zs.length (dS zs) .none),(64,.int .i64 (zs.length:Nat)),(65,.int .i64 (vj:Nat)),(70,.sl ws.length (cJ ws) .none),(71,.int .i64 (ws.length:Nat)),(72,.int .i64 (x.1:Nat))],x.2.1,x.2.2.1⟩)
  (fun x=>x.1≤ws.length∧BI H T ((rA,.cells [.int .i64 f,.sl ws.length (cJ ws) .none])::R) RT b5 (N+x.1) x.2.1 x.2.2.1 x.2.2.2∧mr id E (nh f (ws.take x.1)) x.2.2.2∧J1.length≤x.2.1.length) (fun x=>ws.length-x.1) (0,J1,U,E) ?_ ?_ ?_
 ·exact⟨Nat.zero_le _,Ct,.nil E,Nat.le_refl _⟩
 ·refine ag [] [] ?_ ?_ ?_ ?_ Ct.ok ?_
  all_goals simp
  all_goals omega
 ·rintro⟨k,J2,U2,E2⟩ ⟨k1,k2,k3,k4⟩;simp only at k1 k2 k3 k4;have Iv:=k2.pJ.le;have LX:=k2.pU.le;apply ae;intro K h;simp(disch:=omega);apply h;clear h K;refine af fun K2 aW=>?_;refine aN rfl (fun fD=>?_) (fun fD=>?_)
  ·simp  at fD;apply ai;simp(disch:=omega) ;apply aW;clear aW;refine af fun K3 bz=>?_;apply ah;refine aH ⟨[(0,.sl L.length (aM L) .none),(2,.ptr b2 0),(4,.ptr b4 0),(5,.aO b5),(6,.aO b6),(8,.ptr b8 0),(10,.ptr rA 0),(34,.sl L.length (aM L) .none),(35,.int .i64 (L.length:Nat)),(36,.int .i64 (vi:Nat)),(63,.sl zs.length (dS zs) .none),(64,.int .i64 (zs.length:Nat)),(65,.int .i64 (vj:Nat)),(70,.sl ws.length (cJ ws) .none),(71,.int .i64 (ws.length:Nat)),(72,.int .i64 (k:Nat))],J2,U2⟩ (ag [] [] (by simp) (by simp) (by show nb≤_;omega) (by show tb≤_;omega) k2.ok (by simp;omega)) ?_;refine Gr H T nb tb (N+k) fO eS L zs ws vi vj k b2 b4 b5 b6 b8 rA id f zv nv (.sl ws.length (cJ ws) .none) E2 J2 U2 _ RT k2 (by omega) fD (by omega) (by simp[h8]) (by simp) FL (by omega) (by omega) (by omega) hf (hs _ (aR ws k w0 fD)) _ fun e J' U' E' a1 a2 a3 a4=>?_;have FE:=a1.pJ.le;have FD:=a1.pU.le;refine bz _ (aH ⟨[(0,.sl L.length (aM L) .none),(2,.ptr b2 0),(4,.ptr b4 0),(5,.aO b5),(6,.aO b6),(8,.ptr b8 0),(10,.ptr rA 0),(34,.sl L.length (aM L) .none),(35,.int .i64 (L.length:Nat)),(36,.int .i64 (vi:Nat)),(63,.sl zs.length (dS zs) .none),(64,.int .i64 (zs.length:Nat)),(65,.int .i64 (vj:Nat)),(70,.sl ws.length (cJ ws) .none),(71,.int .i64 (ws.length:Nat)),(72,.int .i64 (k:Nat))],J',U'⟩ (ag [] [] (by simp) (by simp) (by show nb≤_;omega) (by show tb≤_;omega) a1.ok a4) ?_);clear bz;refine au fun K hK=>?_;simp(disch:=omega) ;apply hK;clear hK K;refine⟨(k+1,J',U',E'),⟨by show k+1≤_;omega,a1,?_,by show J1.length≤J'.length;omega⟩,by show ws.length-(k+1)<ws.length-k;omega,?_⟩
   ·show mr id E (nh f (ws.take (k+1))) E';rw[←Gk f ws k fD];exact k3.snoc a2
   ·refine ag [] [] ?_ ?_ ?_ ?_ a1.ok ?_
    all_goals simp
    all_goals omega
  ·simp  at fD;have pI:k=ws.length:=by omega
   subst pI;apply aC;simp(disch:=omega) ;rw[List.take_length] at k3;refine go _ J2 U2 E2 (k2.sub (by simp)) k3 (by omega) ?_;simp;omega
end Go.Proofs.YtneohapkboaplaaGreat
namespace eJ
open Go Go.Am
structure Ef where
 f:Int
 x:List Nm
 i:Nat
 cap:Nat
 rest:List AV
end eJ
namespace Go.Proofs.YtneohapkboaplaaGreat
open Go Go.Am iF eJ
def Ef.nf (e:Ef):aA:=.cells (aU e.x++e.rest)
def jI (f:Int):cN:=.one (.int .i64 f)
def bL (F:List Ef):List (cN×AV):=F.map fun e=>(jI e.f,.bJ e.i e.x.length e.cap)
def gR (F:List Ef):List (Nat×aA):=F.map fun e=>(e.i,Ef.nf e)
structure M9 (nb N:Nat)(e:Ef):Prop where
 r:e.rest.length=(e.cap-e.x.length)*2
 c:e.x.length≤e.cap
 n:e.x.length≤N
 i:nb≤e.i
 p:0<e.x.length
def Mj (F:List Ef)(f:Int):List Nm:=match F.find? (fun e=>e.f==f) with
 |some e=>e.x
 |none=>[]
structure qG (F:List Ef)(f:Int)(it:Nm)(F':List Ef):Prop where
 lk:∀f',Mj F' f'=if f'=f then Mj F f++[it] else Mj F f'
 nd:(F'.map (·.f)).Nodup
 ks:∀f',f'∈F'.map (·.f)↔f'=f∨f'∈F.map (·.f)
theorem l0 {E1 E2:List Ef}{e:Ef}(h:((E1++e::E2).map (·.f)).Nodup)(k:Int):(E1++e::E2).find? (fun x=>x.f==k)=if k=e.f then some e else (E1++E2).find? (fun x=>x.f==k):=by
 have h1:∀x∈E1,x.f≠e.f:=fun x hx=>by
  rw[map_append,nodup_append] at h;exact h.2.2 x.f (List.mem_map.2 ⟨x,hx,rfl⟩) e.f (by simp)
 rw[find?_append,List.find?_cons,find?_append]
 by_cases hk:k=e.f
 ·subst hk;have:E1.find? (fun x=>x.f==e.f)=none:=by
   rw[find?_eq_none];intro x hx;simpa using h1 x hx
  rw[this];simp
 ·rw[if_neg hk,beq_eq_false_iff_ne.2 (Ne.symm hk)]
theorem qG.sT {E1 E2:List Ef}{e e':Ef}{it:Nm}(h:((E1++e::E2).map (·.f)).Nodup)(hk:e'.f=e.f)(hp:e'.x=e.x++[it]):qG (E1++e::E2) e.f it (E1++e'::E2):=by
 have h':((E1++e'::E2).map (·.f)).Nodup:=by
  rw[map_append,map_cons,hk];rwa [map_append,map_cons] at h
 refine⟨fun k'=>?_,h',fun k'=>?_⟩
 ·unfold Mj;rw[l0 h',l0 h,l0 h,hk]
  by_cases hh:k'=e.f
  ·subst hh;simp[hp]
  ·simp only[if_neg hh]
 ·simp only[map_append,map_cons,hk,mem_append,mem_cons]
  constructor
  ·exact .inr
  ·rintro (rfl|hh)
   ·exact .inr (.inl rfl)
   ·exact hh
theorem qG.add {E:List Ef}{e':Ef}{it:Nm}(h:(E.map (·.f)).Nodup)(hk:e'.f∉E.map (·.f))(hp:e'.x=[it]):qG E e'.f it (E++[e']):=by
 have h':((E++e'::[]).map (·.f)).Nodup:=by
  rw[map_append,nodup_append];exact⟨h,by simp,fun a ha b hb=>by simp at hb;rintro rfl;rw[hb] at ha;exact hk ha⟩
 have hn:E.find? (fun x=>x.f==e'.f)=none:=by
  rw[find?_eq_none];intro x hx;have:x.f≠e'.f:=fun ee=>hk (List.mem_map.2 ⟨x,hx,ee⟩);simpa using this
 refine⟨fun k'=>?_,h',fun k'=>?_⟩
 ·unfold Mj;rw[l0 h']
  by_cases hh:k'=e'.f
  ·subst hh;rw[hn];simp[hp]
  ·simp only[if_neg hh,List.append_nil]
 ·simp[or_comm]
theorem oj {a b:Int}:jI a=jI b↔a=b:=by simp[jI]
theorem xN (F:List Ef):(bL F).map (·.1)=(F.map (·.f)).map jI:=by simp[bL,Function.comp_def]
theorem Bc {E1 E2:List Ef}{e:Ef}(h:((E1++e::E2).map (·.f)).Nodup):tm (bL (E1++e::E2)) (jI e.f)=some (.bJ e.i e.x.length e.cap):=by
 have hn:((bL (E1++e::E2)).map (·.1)).Nodup:=by
  rw[xN];exact lY (fun a b iZ=>oj.1 iZ) h
 have hj:E1.length<(bL (E1++e::E2)).length:=by simp[bL]
 have he:(bL (E1++e::E2))[E1.length]'hj=(jI e.f,.bJ e.i e.x.length e.cap):=by simp[bL]
 rw[tO hn hj (by rw[he]),he]
theorem Ls {E1 E2:List Ef}{e:Ef}(h:((E1++e::E2).map (·.f)).Nodup)(e':Ef)(hk:e'.f=e.f):jH (bL (E1++e::E2)) (jI e.f) (.bJ e'.i e'.x.length e'.cap)=bL (E1++e'::E2):=by
 have hn:((bL (E1++e::E2)).map (·.1)).Nodup:=by
  rw[xN];exact lY (fun a b iZ=>oj.1 iZ) h
 have hj:E1.length<(bL (E1++e::E2)).length:=by simp[bL]
 have he:(bL (E1++e::E2))[E1.length]'hj=(jI e.f,.bJ e.i e.x.length e.cap):=by simp[bL]
 rw[yS hn hj (by rw[he])];simp[bL,hk]
theorem se {E:List Ef}{k:Int}(h:k∉E.map (·.f)):∀x∈bL E,x.1≠jI k:=by
 intro x hx;obtain⟨e,he,rfl⟩:=List.mem_map.1 hx;exact fun hh=>h (List.mem_map.2 ⟨e,he,oj.1 hh⟩)
theorem Lt {E:List Ef}(e':Ef)(h:e'.f∉E.map (·.f)):jH (bL E) (jI e'.f) (.bJ e'.i e'.x.length e'.cap)=bL (E++[e']):=by
 rw[lZ (se h)];simp[bL]
theorem vB {E:List Ef}{n t:Nat}(h:∀e∈E,e.i<n):aJ n t ((bL E).map (·.2)):=by
 intro v hv;simp only[bL,List.map_map,List.mem_map,Function.comp] at hv;obtain⟨e,he,rfl⟩:=hv;exact .bJ _ _ _ (h e he)
theorem Gd (f:Int)(hf:-9223372036854775808≤f∧f≤9223372036854775807):kX Tryz.prog 3 (jI f)=true:=by
 have hu:Tryz.prog.underlying 3=some (.int .i64):=by kernel_rfl
 have Sl:(Lit.int .i64 f).wf=true:=by
  simp only[Lit.wf,Bool.and_eq_true,decide_eq_true_eq];exact hf
 unfold kX keyOf mapKey;rw[hu];simp[jI,cN.val,KC.val,Sl]
structure BF (H:List aA)(T:ar)(R:List (Nat×aA))(b6 N:Nat)(J:List aA)(U:ar)(F:List Ef):Prop where
 hJ:Has J (R++(b6,.map (bL F))::gR F)
 hF:∀e∈F,M9 H.length N e
 nd:(F.map (·.f)).Nodup
 ft:cW Tryz.prog 3 (bL F)=true
 pJ:eT H J
 pU:eT T U
 ok:bC J U
attribute [-simp] getD_eq_getElem?_getD in
theorem KV (H:List aA)(T:ar)(nb tb N:Nat)(fO:nb≤H.length)(eS:tb≤T.length)(L:List Dc)(ns:List Nm)(vi vk b2 b4 b5 b6 b8:Nat)(id:Int)(zv nv:AV)(F:List Ef)(J:List aA)(U:ar)(R:List (Nat×aA))
  (hB:BF H T R b6 N J U F) (hN:N≤1099511627776) (hk:vk<ns.length) (gB:ns.length≤1099511627776)
  (h8:(b8,.cells [.int .i64 id,zv,nv])∈R) (Cr:H.length≤b6) (iD:b2<J.length) (Rr:b4<J.length) (Zt:b5<J.length)
  (hf:-9223372036854775808≤(ns.getD vk n0).1∧(ns.getD vk n0).1≤9223372036854775807) (Q:Exit→St→Prop)
  (go:∀(e:Env)(J':List aA)(F':List Ef),BF H T R b6 (N+1) J' U F'→qG F (ns.getD vk n0).1 ((ns.getD vk n0).2,id) F'→J.length≤J'.length→bt J'.length U.length e [(0,.sl L.length (aM L) .none),(2,.ptr b2 0),(4,.ptr b4 0),(5,.aO b5),(6,.aO b6),(8,.ptr b8 0),(34,.sl L.length (aM L) .none),(35,.int .i64 (L.length:Nat)),(36,.int .i64 (vi:Nat)),(128,.sl ns.length (aU ns) .none),(129,.int .i64 (ns.length:Nat)),(130,.int .i64 (vk:Nat))]→Q .normal ⟨e,J',U⟩) :
  AW ⟨Tryz.prog,192,152,nb,tb,[100104,100147,100166]⟩ (du [1,1,1,1,1,1,1,1,0,1,0,0,1,1,0,0,1,1,1,1,1,0,0,1,1,0,0] (Tryz.f13.body.getD .skip)) Q ⟨[(0,.sl L.length (aM L) .none),(2,.ptr b2 0),(4,.ptr b4 0),(5,.aO b5),(6,.aO b6),(8,.ptr b8 0),(34,.sl L.length (aM L) .none),(35,.int .i64 (L.length:Nat)),(36,.int .i64 (vi:Nat)),(128,.sl ns.length (aU ns) .none),(129,.int .i64 (ns.length:Nat)),(130,.int .i64 (vk:Nat))],J,U⟩:=by
 conv=>arg 2;whnf
 have lH:=hB.pJ.le;have lT:=hB.pU.le;have bA:=eA ns vk hk;have HO:=hB.ok;generalize ns.getD vk n0=x at *;obtain⟨f,n⟩:=x;simp only at bA hf go;have l8:=hB.hJ.lt (mem_append_left _ h8);have l6:=hB.hJ.lt (i:=b6) (b:=.map (bL F)) (by simp);refine ae fun K hK=>?_;simp(disch:=omega)[bA,bG];apply hK;clear hK K;have pH:bC (J++[.cells [.int .i64 f,.int .i64 n]]) U:=HO.snoc (by simp);obtain⟨q1,q2,q3,q4,q5,q6,q7⟩:=hB;have q1:Has (J++[.cells [.int .i64 f,.int .i64 n]]) (((J.length,.cells [.int .i64 f,.int .i64 n])::R)++(b6,.map (bL F))::gR F):=(q1.new (.cells [.int .i64 f,.int .i64 n])).perm (perm_append_singleton _ _).symm;have q5:=q5.app [aA.cells [.int .i64 f,.int .i64 n]];have wG:(J++[aA.cells [.int .i64 f,.int .i64 n]]).length=J.length+1:=by simp
 obtain⟨IQ,h16⟩:∃i,i=J.length:=⟨_,rfl⟩
 rw[←h16] at q1;simp only[←h16];generalize J++[aA.cells [.int .i64 f,.int .i64 n]]=J1 at *;refine aH ⟨[(16,.ptr IQ 0),(0,.sl L.length (aM L) .none),(2,.ptr b2 0),(4,.ptr b4 0),(5,.aO b5),(6,.aO b6),(8,.ptr b8 0),(34,.sl L.length (aM L) .none),(35,.int .i64 (L.length:Nat)),(36,.int .i64 (vi:Nat)),(128,.sl ns.length (aU ns) .none),(129,.int .i64 (ns.length:Nat)),(130,.int .i64 (vk:Nat))],J1,U⟩ (ag [] [] (by simp) (by simp) (by show nb≤_;omega) (by show tb≤_;omega) pH (by simp;omega)) ?_;have g6:=q1.get (i:=b6) (b:=.map (bL F)) (by simp);have g8:=q1.get (i:=b8) (b:=.cells [.int .i64 id,zv,nv]) (by simp[h8]);have g16:=q1.get (i:=IQ) (b:=.cells [.int .i64 f,.int .i64 n]) (by simp);have l6:=(List.getElem?_eq_some_iff.1 g6).1;have l8:=(List.getElem?_eq_some_iff.1 g8).1;have l16:=(List.getElem?_eq_some_iff.1 g16).1;have e6:=aV g6;have e8:=aV g8;have S6:=aV g16;have vX:=Gd f hf;have jK:jI f=.one (.int .i64 f):=rfl;rw[jK] at vX
 by_cases hex:f∈F.map (·.f)
 rotate_left
 ·have dH:gS (bL F) (.one (.int .i64 f)) (.sl 0 [] .full) false=.sl 0 [] .full:=by
   unfold gS;rw[←jK,oW (se hex)];rfl
  refine o8 13 [13,14] [0,0,0,0,0,0,0,0,0,0,0,0,0,0,1] [[0,1,2],[]] al (by kernel_rfl) (by kernel_rfl) (by kernel_rfl) fun K hK=>?_;simp(disch:=omega)[tQ,qR,vX,q4,e6,e8,S6,dH,List.getElem?_append_left,List.getElem_append_left];intro nc kT;refine hK _ ?_;obtain⟨ee,qj⟩:∃ee:Ef,ee=⟨f,[(n,id)],J1.length,nc,List.replicate ((nc-1)*2) .top⟩:=⟨_,rfl⟩
  have ia:jH (bL F) (.one (.int .i64 f)) (.bJ J1.length 1 nc)=bL (F++[ee]):=by
   have:=Lt (E:=F) ee (by rw[qj];exact hex);rw[qj] at this ⊢;exact this
  have CR:cW Tryz.prog 3 (bL (F++[ee]))=true:=by rw[←ia];exact oC q4 vX
  rw[ia,show aA.cells (.int .i64 n::.int .i64 id::List.replicate ((nc-1)*2) .top)=Ef.nf ee by rw[qj];rfl,←List.set_append_left _ _ l6];have gL:=q1.new (Ef.nf ee);rw[show J1.length=ee.i by rw[qj]] at gL;have zt:Has ((J1++[Ef.nf ee]).set b6 (.map (bL (F++[ee])))) (((IQ,.cells [.int .i64 f,.int .i64 n])::R)++(b6,.map (bL (F++[ee])))::gR (F++[ee])):=by
   have:=Has.set (A:=(IQ,.cells [.int .i64 f,.int .i64 n])::R) (B:=gR (F++[ee])) (b:=.map (bL F)) (by simpa[gR] using gL) (.map (bL (F++[ee])));exact this
  have Pw:bC (J1++[Ef.nf ee]) U:=by
   refine pH.snoc ?_;rw[qj];simp
  have F3:(J1++[Ef.nf ee]).length=J1.length+1:=by simp
  have hb:∀e∈F++[ee],e.i<(J1++[Ef.nf ee]).length:=fun e he=>by
   have:=zt.lt (i:=e.i) (b:=Ef.nf e) (by simp only[mem_append,mem_cons];exact .inr (.inr (List.mem_map.2 ⟨e,he,rfl⟩)));simpa using this
  refine go _ _ (F++[ee]) ⟨zt.sub ((sublist_cons_self _ _).append_right _),fun e he=>?_,(qG.add (it:=(n,id)) q3 (by rw[qj];exact hex) (by rw[qj])).nd,CR,(q5.app _).set Cr _,q6,Pw.pX (vB hb)⟩ ?_ (by simp;omega) ?_
  ·rcases List.mem_append.1 he with he|he
   ·have:=q2 e he;exact⟨this.r,this.c,Nat.le_succ_of_le this.n,this.i,this.p⟩
   ·simp at he;subst he;rw[qj];exact⟨by simp,kT,by simp,by show H.length≤J1.length;omega,by simp⟩
  ·have:=qG.add (e':=ee) (it:=(n,id)) q3 (by rw[qj];exact hex) (by rw[qj])
   rwa [show ee.f=f by rw[qj]] at this
  ·simp;omega
 ·obtain⟨e,IY,ry⟩:=List.mem_map.1 hex;obtain⟨E1,E2,rfl⟩:=List.append_of_mem IY;obtain⟨f0,xs,i,cap,rest⟩:=e;simp only at ry;subst ry;obtain⟨k1,k2,k3,k4,k5⟩:=q2 _ IY;simp only at k1 k2 k3 k4 k5;have S0:∀e,e∈E1∨e∈E2→M9 H.length (N+1) e:=fun e he=>by
   have:=q2 e (by rcases he with he|he<;>simp[he]);exact⟨this.r,this.c,Nat.le_succ_of_le this.n,this.i,this.p⟩
  have IJ:Has J1 (((IQ,.cells [.int .i64 f0,.int .i64 n])::R)++(b6,.map (bL (E1++⟨f0,xs,i,cap,rest⟩::E2)))::(gR E1++(i,.cells (aU xs++rest))::gR E2)):=by
   have:=q1;simpa[gR,Ef.nf] using this
  have gi:=IJ.get (i:=i) (b:=.cells (aU xs++rest)) (by simp);have li:=(List.getElem?_eq_some_iff.1 gi).1;have ei:=aV gi;have sr:(aU xs++rest).length=xs.length*2+rest.length:=by rw[length_append,bG]
  have kb:=Bc q3;simp only at kb;have dH:gS (bL (E1++⟨f0,xs,i,cap,rest⟩::E2)) (.one (.int .i64 f0)) (.sl 0 [] .full) false=.bJ i xs.length cap:=by
   unfold gS;rw[←jK,kb];rfl
  have uy:=fun e' hk=>Ls q3 e' hk;have hold:=fun e' hk hp=>qG.sT (it:=(n,id)) q3 (e':=e') hk hp;simp only at uy hold;rw[jK] at uy;have eN:(aU xs++rest).take (xs.length*2)=aU xs:=List.take_left' (by rw[bG]);have oH:(aU xs++rest).drop ((xs.length+1)*2)=rest.drop 2:=by
   rw[List.drop_append,List.drop_of_length_le (by rw[bG];omega),List.nil_append,bG]
   congr 1;omega
  have fO:∀r,aJ J1.length U.length r→True:=fun _ _=>trivial;have fin:∀(e:Env)(J2:List aA)(i2 fk:Nat)(dm:List AV),Has J2 (((IQ,.cells [.int .i64 f0,.int .i64 n])::R)++(b6,.map (bL (E1++⟨f0,xs,i,cap,rest⟩::E2)))::(gR E1++(i2,.cells (aU (xs++[(n,id)])++dm))::gR E2))→bC J2 U→eT H J2→J1.length≤J2.length→dm.length=(fk-(xs.length+1))*2→xs.length+1≤fk→H.length≤i2→
    bt J2.length U.length e [(0,.sl L.length (aM L) .none),(2,.ptr b2 0),(4,.ptr b4 0),(5,.aO b5),(6,.aO b6),(8,.ptr b8 0),(34,.sl L.length (aM L) .none),(35,.int .i64 (L.length:Nat)),(36,.int .i64 (vi:Nat)),(128,.sl ns.length (aU ns) .none),(129,.int .i64 (ns.length:Nat)),(130,.int .i64 (vk:Nat))]→Q .normal ⟨e,J2.set b6 (.map (jH (bL (E1++⟨f0,xs,i,cap,rest⟩::E2)) (.one (.int .i64 f0)) (.bJ i2 (xs.length+1) fk))),U⟩:=by
   intro e J2 i2 fk dm gL Cs oJ iD mN jg dY he;obtain⟨ee,qj⟩:∃ee:Ef,ee=⟨f0,xs++[(n,id)],i2,fk,dm⟩:=⟨_,rfl⟩
   have ia:jH (bL (E1++⟨f0,xs,i,cap,rest⟩::E2)) (.one (.int .i64 f0)) (.bJ i2 (xs.length+1) fk)=bL (E1++ee::E2):=by
    have:=uy ee (by rw[qj]);rw[qj] at this ⊢;simpa using this
   have CR:cW Tryz.prog 3 (bL (E1++ee::E2))=true:=by rw[←ia];exact oC q4 vX
   rw[ia];have hS:gR (E1++ee::E2)=gR E1++(i2,.cells (aU (xs++[(n,id)])++dm))::gR E2:=by rw[qj];simp[gR,Ef.nf]
   rw[←hS] at gL;have zt:=gL.set (.map (bL (E1++ee::E2)));have hb:∀e∈E1++ee::E2,e.i<J2.length:=fun e he=>gL.lt (b:=Ef.nf e) (by simp only[mem_append,mem_cons];exact .inr (.inr (List.mem_map.2 ⟨e,he,rfl⟩)));refine go _ _ (E1++ee::E2) ⟨zt.sub ((sublist_cons_self _ _).append_right _),fun e he=>?_,(hold ee (by rw[qj]) (by rw[qj])).nd,CR,oJ.set Cr _,q6,Cs.pX (vB hb)⟩ (hold ee (by rw[qj]) (by rw[qj])) (by simp;omega) (by simpa using he);rcases List.mem_append.1 he with he|he
   ·exact S0 e (.inl he)
   ·rcases List.mem_cons.1 he with rfl|he
    ·rw[qj];exact⟨by simp[mN],by simpa using jg,by simp;omega,dY,by simp⟩
    ·exact S0 e (.inr he)
  refine o8 13 [13,14] [0,0,0,0,0,0,0,0,0,0,0,0,0,0,1] [[0,1,2],[]] al (by kernel_rfl) (by kernel_rfl) (by kernel_rfl) fun K hK=>?_;simp(disch:=omega)[tQ,qR,vX,q4,e6,e8,S6,dH];refine⟨aU xs++rest,ei li,by rw[sr];omega,[.int .i64 n,.int .i64 id],1,⟨rfl,rfl⟩,by omega,by omega,fun hle=>?_,fun nc aZ kT=>?_⟩
  ·rw[eN,oH];rw[show aA.cells (aU xs++([.int .i64 n,.int .i64 id]++rest.drop 2))=.cells (aU (xs++[(n,id)])++rest.drop 2) by rw[←append_assoc,oV xs (n,id)]];have gL:Has (J1.set i (.cells (aU (xs++[(n,id)])++rest.drop 2))) (((IQ,.cells [.int .i64 f0,.int .i64 n])::R)++(b6,.map (bL (E1++⟨f0,xs,i,cap,rest⟩::E2)))::(gR E1++(i,.cells (aU (xs++[(n,id)])++rest.drop 2))::gR E2)):=by
    have:=Has.set (A:=((IQ,.cells [.int .i64 f0,.int .i64 n])::R)++(b6,.map (bL (E1++⟨f0,xs,i,cap,rest⟩::E2)))::gR E1) (B:=gR E2) (by simpa using IJ) (.cells (aU (xs++[(n,id)])++rest.drop 2));simpa using this
   have oJ:=q5.set k4 (.cells (aU (xs++[(n,id)])++rest.drop 2));have Cs:bC (J1.set i (.cells (aU (xs++[(n,id)])++rest.drop 2))) U:=by
    refine pH.set ?_;have:=pH i (.cells (aU xs++rest)) gi;simp only[aA.yl] at this;intro v hv;rcases List.mem_append.1 hv with hv|hv
    ·exact ri _ _ _ v hv
    ·exact this v (List.mem_append_right _ (List.mem_of_mem_drop hv))
   have hl:J1.length=(J1.set i (.cells (aU (xs++[(n,id)])++rest.drop 2))).length:=by simp
   have wi:=fun e=>fin e _ i cap (rest.drop 2) gL Cs oJ (by omega) (by rw[List.length_drop];omega) (by omega) k4;generalize J1.set i (.cells (aU (xs++[(n,id)])++rest.drop 2))=J2 at *;have g6:=gL.get (i:=b6) (b:=.map (bL (E1++⟨f0,xs,i,cap,rest⟩::E2))) (by simp);have g16:=gL.get (i:=IQ) (b:=.cells [.int .i64 f0,.int .i64 n]) (by simp);have l6:=(List.getElem?_eq_some_iff.1 g6).1;have l16:=(List.getElem?_eq_some_iff.1 g16).1;have e6:=aV g6;have S6:=aV g16;simp(disch:=omega)[q4,e6,S6];refine hK _ (wi _ ?_);simp;omega
  ·rw[eN];obtain⟨r2,mN⟩:∃r2,r2=List.replicate ((nc-(xs.length+1))*2) AV.top:=⟨_,rfl⟩
   have Jc:r2.length=(nc-(xs.length+1))*2:=by rw[mN];simp
   have Qb:aJ (J1.length+1) U.length r2:=by rw[mN];simp
   rw[←mN];rw[show aA.cells (aU xs++([.int .i64 n,.int .i64 id]++r2))=.cells (aU (xs++[(n,id)])++r2) by rw[←append_assoc,oV xs (n,id)]];have gL:Has (J1++[.cells (aU (xs++[(n,id)])++r2)]) (((IQ,.cells [.int .i64 f0,.int .i64 n])::R)++(b6,.map (bL (E1++⟨f0,xs,i,cap,rest⟩::E2)))::(gR E1++(J1.length,.cells (aU (xs++[(n,id)])++r2))::gR E2)):=by
    have h0:Has J1 (((IQ,.cells [.int .i64 f0,.int .i64 n])::R)++(b6,.map (bL (E1++⟨f0,xs,i,cap,rest⟩::E2)))::(gR E1++gR E2)):=IJ.sub (List.Sublist.append_left (List.Sublist.cons_cons _ (List.Sublist.append_left (sublist_cons_self _ _) _)) _);refine(h0.new _).perm ?_;simp only[append_assoc,List.cons_append];exact((((perm_append_singleton _ _).symm.append_left _).cons _).append_left _).cons _
   have oJ:=q5.app [aA.cells (aU (xs++[(n,id)])++r2)];have Cs:bC (J1++[.cells (aU (xs++[(n,id)])++r2)]) U:=pH.snoc (by simp[Qb]);have hl:(J1++[aA.cells (aU (xs++[(n,id)])++r2)]).length=J1.length+1:=by simp
   have wi:=fun e=>fin e _ J1.length nc r2 gL Cs oJ (by omega) Jc (by omega) (by omega)
   (try simp(disch:=omega)[q4,e6,S6])
   refine hK _ ?_;rw[←List.set_append_left _ _ l6];refine wi _ ?_;simp;omega
end Go.Proofs.YtneohapkboaplaaGreat
