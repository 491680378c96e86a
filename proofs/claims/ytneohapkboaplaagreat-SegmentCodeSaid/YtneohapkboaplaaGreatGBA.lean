/- segment.Build (layer 39): what is gathered in its maps; one word. segment.Build (layer 39): one word. segment.Build (layer 39): the words of a zone, the zones of a document. segment.Build (layer 39): one number.
  Conditions: lengths below 400 or 1000, as each theorem says. -/
import Derived.Test.YtneohapkboaplaaGreatGC
import Derived.Test.YtneohapkboaplaaGreatGSR
import Derived.Test.YtneohapkboaplaaGreatAmC
import Derived.Test.YtneohapkboaplaaGreatAmA
set_option linter.all false
set_option maxRecDepth 100000
set_option maxHeartbeats 16000000
open List (getD_eq_getElem?_getD map_append append_assoc mem_append_left length_append map_cons nodup_append mem_append mem_cons perm_append_singleton sublist_cons_self find?_append find?_eq_none)
namespace eB
open Go Go.Am
structure En where
 k:Ky
 dQ:List (Ps×Tag)
 d:Int
 at_:List Int
 tk:Nat
 i:Nat
 cap:Nat
 rest:List AV
def En.n (e:En):Nat:=e.dQ.length+1
def En.pl (e:En):List Ps:=e.dQ.map (·.1)++[(e.d,e.at_)]
abbrev WM (x:Ps×Tag):List AV:=[.int .i64 x.1.1,.sl x.1.2.length (ints x.1.2) x.2]
def jS (l:List (Ps×Tag)):List AV:=l.flatMap WM
theorem xV:fI WM 2:=fun _=>rfl
theorem j7 (l:List (Ps×Tag)):(jS l).length=l.length*2:=dm xV l
def iu (d:Int)(at_:List Int)(tg:Tag):List AV:=[.int .i64 d,.sl at_.length (ints at_) tg]
def fE (dQ:List (Ps×Tag))(d:Int)(at_:List Int)(tg:Tag)(rest:List AV):aG:=.cells (jS dQ++(iu d at_ tg++rest))
def En.mO (e:En):aG:=fE e.dQ e.d e.at_ (.own e.tk) e.rest
def kW (k:Ky):cY:=.agg [.int .i64 k.1,.str k.2]
theorem uR {a b:Ky}:kW a=kW b↔a=b:=by
 obtain⟨a1,a2⟩:=a;obtain⟨b1,b2⟩:=b;simp[kW]
def bR (E:List En):List (cY×AV):=E.map fun e=>(kW e.k,.dP e.i e.n e.cap)
def dH (E:List En):List (Nat×aG):=E.map fun e=>(e.i,e.mO)
def iO (E:List En):List (Nat×(Nat×Nat)):=E.map fun e=>(e.tk,(e.at_.length,1))
structure Cj (nb tb N:Nat)(e:En):Prop where
 r:e.rest.length=(e.cap-e.n)*2
 c:e.n≤e.cap
 n:e.n≤N
 a:e.at_.length≤N
 i:nb≤e.i
 t:tb≤e.tk
def Lj (E:List En)(k:Ky):List Ps:=match E.find? (fun e=>e.k==k) with
 |some e=>e.pl
 |none=>[]
def uh (l:List Ps)(d p:Int):List Ps:=match l.getLast? with
 |some q=>if q.1=d then l.dropLast++[(q.1,q.2++[p])] else l++[(d,[p])]
 |none=>[(d,[p])]
theorem oJ (l:List Ps)(d0:Int)(a:List Int)(d p:Int):uh (l++[(d0,a)]) d p=if d0=d then l++[(d0,a++[p])] else (l++[(d0,a)])++[(d,[p])]:=by
 simp[uh]
structure mG (E:List En)(k:Ky)(d p:Int)(E':List En):Prop where
 lk:∀k',Lj E' k'=if k'=k then uh (Lj E k) d p else Lj E k'
 nd:(E'.map (·.k)).Nodup
 ks:∀k',k'∈E'.map (·.k)↔k'=k∨k'∈E.map (·.k)
theorem nO {E1 E2:List En}{e:En}(h:((E1++e::E2).map (·.k)).Nodup)(k:Ky):(E1++e::E2).find? (fun x=>x.k==k)=if k=e.k then some e else (E1++E2).find? (fun x=>x.k==k):=by
 have h1:∀x∈E1,x.k≠e.k:=fun x hx=>by
  rw[map_append,nodup_append] at h;exact h.2.2 x.k (List.mem_map.2 ⟨x,hx,rfl⟩) e.k (by simp)
 rw[find?_append,List.find?_cons,find?_append]
 by_cases hk:k=e.k
 ·subst hk;have:E1.find? (fun x=>x.k==e.k)=none:=by
   rw[find?_eq_none];intro x hx;simpa using h1 x hx
  rw[this];simp
 ·rw[if_neg hk,beq_eq_false_iff_ne.2 (Ne.symm hk)]
theorem mG.th {E1 E2:List En}{e e':En}{d p:Int}(h:((E1++e::E2).map (·.k)).Nodup)(hk:e'.k=e.k)(hp:e'.pl=uh e.pl d p):mG (E1++e::E2) e.k d p (E1++e'::E2):=by
 have h':((E1++e'::E2).map (·.k)).Nodup:=by
  rw[map_append,map_cons,hk];rwa [map_append,map_cons] at h
 refine⟨fun k'=>?_,h',fun k'=>?_⟩
 ·unfold Lj;rw[nO h',nO h,nO h,hk]
  by_cases hh:k'=e.k
  ·subst hh;simp[hp]
  ·simp only[if_neg hh]
 ·simp only[map_append,map_cons,hk,mem_append,mem_cons]
  constructor
  ·exact .inr
  ·rintro (rfl|hh)
   ·exact .inr (.inl rfl)
   ·exact hh
theorem mG.add {E:List En}{e':En}{d p:Int}(h:(E.map (·.k)).Nodup)(hk:e'.k∉E.map (·.k))(hp:e'.pl=[(d,[p])]):mG E e'.k d p (E++[e']):=by
 have h':((E++e'::[]).map (·.k)).Nodup:=by
  rw[map_append,nodup_append];exact⟨h,by simp,fun a ha b hb=>by simp at hb;rintro rfl;rw[hb] at ha;exact hk ha⟩
 have hn:E.find? (fun x=>x.k==e'.k)=none:=by
  rw[find?_eq_none];intro x hx;have:x.k≠e'.k:=fun ee=>hk (List.mem_map.2 ⟨x,hx,ee⟩);simpa using this
 refine⟨fun k'=>?_,h',fun k'=>?_⟩
 ·unfold Lj;rw[nO h']
  by_cases hh:k'=e'.k
  ·subst hh;rw[hn];simp[hp,uh]
  ·simp only[if_neg hh,List.append_nil]
 ·simp[or_comm]
end eB
namespace Go.Proofs.YtneohapkboaplaaGreat
open Go Go.Am gH eB
theorem ou {α β:Type}{f:α→β}(hf:∀a b,f a=f b→a=b){l:List α}(h:l.Nodup):(l.map f).Nodup:=by
 rw[List.Nodup,List.pairwise_map];exact h.imp fun jA he=>jA (hf _ _ he)
theorem wW (E:List En):(bR E).map (·.1)=(E.map (·.k)).map kW:=by simp[bR,Function.comp_def]
theorem KF {E1 E2:List En}{e:En}(h:((E1++e::E2).map (·.k)).Nodup):sQ (bR (E1++e::E2)) (kW e.k)=some (.dP e.i e.n e.cap):=by
 have hn:((bR (E1++e::E2)).map (·.1)).Nodup:=by
  rw[wW];exact ou (fun a b jA=>uR.1 jA) h
 have hj:E1.length<(bR (E1++e::E2)).length:=by simp[bR]
 have he:(bR (E1++e::E2))[E1.length]'hj=(kW e.k,.dP e.i e.n e.cap):=by simp[bR]
 rw[xZ hn hj (by rw[he]),he]
theorem KE {E1 E2:List En}{e:En}(h:((E1++e::E2).map (·.k)).Nodup)(e':En)(hk:e'.k=e.k):jU (bR (E1++e::E2)) (kW e.k) (.dP e'.i e'.n e'.cap)=bR (E1++e'::E2):=by
 have hn:((bR (E1++e::E2)).map (·.1)).Nodup:=by
  rw[wW];exact ou (fun a b jA=>uR.1 jA) h
 have hj:E1.length<(bR (E1++e::E2)).length:=by simp[bR]
 have he:(bR (E1++e::E2))[E1.length]'hj=(kW e.k,.dP e.i e.n e.cap):=by simp[bR]
 rw[xY hn hj (by rw[he])];simp[bR,hk]
theorem wV {E:List En}{k:Ky}(h:k∉E.map (·.k)):∀x∈bR E,x.1≠kW k:=by
 intro x hx;obtain⟨e,he,rfl⟩:=List.mem_map.1 hx;exact fun hh=>h (List.mem_map.2 ⟨e,he,uR.1 hh⟩)
theorem KG {E:List En}(e':En)(h:e'.k∉E.map (·.k)):jU (bR E) (kW e'.k) (.dP e'.i e'.n e'.cap)=bR (E++[e']):=by
 rw[oz (wV h)];simp[bR]
theorem Dw {E:List En}{n t:Nat}(h:∀e∈E,e.i<n):aL n t ((bR E).map (·.2)):=by
 intro v hv;simp only[bR,List.map_map,List.mem_map,Function.comp] at hv;obtain⟨e,he,rfl⟩:=hv;exact .dP _ _ _ (h e he)
theorem Tp (k:Ky)(hk:-9223372036854775808≤k.1∧k.1≤9223372036854775807)(hs:k.2.length≤maxLen):kM Tryz.prog 111 (kW k)=true:=by
 have hu:=Tryz.underlying111;have h3:Tryz.prog.underlying 3=some (.int .i64):=by kernel_rfl
 have h9:Tryz.prog.underlying 9=some .string:=by kernel_rfl
 have c3:Tryz.prog.cellsOf 3=1:=by kernel_rfl
 have c9:Tryz.prog.cellsOf 9=1:=by kernel_rfl
 have Q5:Tryz.prog.keyType 111=true:=by kernel_rfl
 have gN:Tryz.prog.types.size=287:=by kernel_rfl
 have RR:(Lit.int .i64 k.1).wf=true:=by
  simp only[Lit.wf,Bool.and_eq_true,decide_eq_true_eq];exact hk
 have e1:Tryz.prog.keyLits 287 3 [.int .i64 k.1]=some [.int .i64 k.1]:=by
  show Tryz.prog.keyLits (286+1) 3 _=_;unfold Program.keyLits;rw[h3];simp only[RR,and_self,if_true]
 have e2:Tryz.prog.keyLits 287 9 [.string ⟨k.2.toArray⟩]=some [.string k.2]:=by
  show Tryz.prog.keyLits (286+1) 9 _=_;unfold Program.keyLits;rw[h9];have:(⟨k.2.toArray⟩:ByteArray).size≤maxLen:=by
   show k.2.toArray.size≤maxLen;simpa using hs
  simp only[this,if_true]
 have hl:Tryz.prog.keyLits (287+1) 111 [.int .i64 k.1,.string ⟨k.2.toArray⟩]=some [.int .i64 k.1,.string k.2]:=by
  unfold Program.keyLits;rw[hu];simp[AD,c3,c9,e1,e2]
 unfold kM keyOf;rw[hu];have hf:(cY.val (kW k)).formed Tryz.prog 111=true:=by
  simp[kW,cY.val,KC.val,Value.formed,hu,AD]
 simp only[Q5,hf,Bool.and_self,if_true,gN];have:(cY.val (kW k)).cells.toList=[.int .i64 k.1,.string ⟨k.2.toArray⟩]:=rfl;rw[this,hl];rfl
end Go.Proofs.YtneohapkboaplaaGreat
namespace Go.Am
def gP {α:Type}(H K:List α):Prop:=∃X,K=H++X
section
variable {α : Type} {H K : List α}
theorem gP.app (h:gP H K)(X:List α):gP H (K++X):=by
 obtain⟨Y,rfl⟩:=h;exact⟨Y++X,by rw[append_assoc]⟩
theorem gP.set (h:gP H K){i:Nat}(hi:H.length≤i)(x:α):gP H (K.set i x):=by
 obtain⟨Y,rfl⟩:=h;exact⟨Y.set (i-H.length) x,by rw[List.set_append_right _ _ hi]⟩
theorem bT {i:Nat}{b:α}(g:K[i]?=some b):∀h:i<K.length,K[i]'h=b:=fun h=>by rw[List.getElem?_eq_getElem h] at g;exact Option.some.inj g
theorem gP.le (h:gP H K):H.length≤K.length:=by
 obtain⟨Y,rfl⟩:=h;simp
end
end Go.Am
namespace Go.Proofs.YtneohapkboaplaaGreat
open Go Go.Am gH eB
theorem Je (dQ:List (Ps×Tag))(d:Int)(at_:List Int)(tg:Tag)(rest:List AV):(jS dQ++(iu d at_ tg++rest)).getD (dQ.length*2) .top=.int .i64 d∧(jS dQ++(iu d at_ tg++rest)).getD (dQ.length*2+1) .top=.sl at_.length (ints at_) tg:=by
 have h:=j7 dQ
 constructor
 ·rw[getD_eq_getElem?_getD,List.getElem?_append_right (by omega),h,Nat.sub_self];rfl
 ·rw[getD_eq_getElem?_getD,List.getElem?_append_right (by omega),h,show dQ.length*2+1-dQ.length*2=1 by omega];rfl
theorem NA (dQ:List (Ps×Tag))(d:Int)(at_ SP:List Int)(tg LH:Tag)(rest:List AV):(jS dQ++(iu d at_ tg++rest)).set (dQ.length*2+1) (.sl SP.length (ints SP) LH)=jS dQ++(iu d SP LH++rest):=by
 have h:=j7 dQ;rw[List.set_append_right _ _ (by omega),h,show dQ.length*2+1-dQ.length*2=1 by omega];rfl
theorem wD (dQ:List (Ps×Tag))(d:Int)(at_:List Int)(tg:Tag):jS dQ++iu d at_ tg=jS (dQ++[((d,at_),tg)]):=by simp[jS,iu]
attribute [-simp] getD_eq_getElem?_getD in
theorem uG (H:List aG)(T:ay)(nb tb N:Nat)(iD:nb≤H.length)(iq:tb≤T.length)(L:List Dc)(zs:List Zn)(ws:List Wd)(vi vj vk b2 b4 b5 b6 b8 qT BO yB:Nat)(id f:Int)(s:Bs)(p:Int)(E1 E2:List En)(es:List (cY×AV))(J:List aG)(U:ay)(R:List (Nat×aG))(RT:List (Nat×(Nat×Nat)))
  (i cap:Nat) (dQ:List (Ps×Tag)) (rest:List AV) (oU:List Int) (tg:Tag)
  (hJ:Has J (R++(b5,.map es)::(dH E1++(i,fE dQ id oU tg rest)::dH E2)))
  (hU:(oU=[]∧tg=.full∧Has U (RT++(iO E1++iO E2)))∨∃tk,tg=.own tk∧Has U (RT++(iO E1++(tk,(oU.length,1))::iO E2))∧T.length≤tk)
  (hE:∀e,e∈E1∨e∈E2→Cj H.length T.length (N+1) e) (hN:N≤1099511627776) (hr:rest.length=(cap-(dQ.length+1))*2) (bV:dQ.length+1≤cap) (hn:dQ.length≤N) (ha:oU.length≤N) (hi:H.length≤i)
  (jf:jU es (kW (f,s)) (.dP i (dQ.length+1) cap)=bR (E1++⟨(f,s),dQ,id,oU++[p],0,i,cap,rest⟩::E2)) (vy:dw Tryz.prog 111 es=true)
  (E:List En) (IE:∀Fk:En,Fk.k=(f,s)→Fk.pl=dQ.map (·.1)++[(id,oU++[p])]→mG E (f,s) id p (E1++Fk::E2))
  (L5:(BO,.cells [.str s,.int .i64 p])∈R) (B4:(yB,.cells [.int .i64 f,.str s])∈R) (Fc:H.length≤b5) (jQ:b2<J.length) (Q4:b4<J.length) (Lo:b6<J.length) (hl8:b8<J.length) (Td:qT<J.length)
  (hf:-9223372036854775808≤f∧f≤9223372036854775807) (hs:s.length≤maxLen) (NY:gP H J) (xo:gP T U) (HO:bM J U) (Q:Exit→St→Prop)
  (go:∀(e:Env)(J':List aG)(U':ay)(E':List En),Has J' (R++(b5,.map (bR E'))::dH E')→Has U' (RT++iO E')→(∀e∈E',Cj H.length T.length (N+1) e)→dw Tryz.prog 111 (bR E')=true→mG E (f,s) id p E'→gP H J'→gP T U'→J.length≤J'.length→U.length≤U'.length→bM J' U'→
   b9 J'.length U'.length e [(0,.sl L.length (bC L) .none),(2,.ptr b2 0),(4,.ptr b4 0),(5,.aV b5),(6,.aV b6),(8,.ptr b8 0),(10,.ptr qT 0),(34,.sl L.length (bC L) .none),(35,.int .i64 (L.length:Nat)),(36,.int .i64 (vi:Nat)),(63,.sl zs.length (fN zs) .none),(64,.int .i64 (zs.length:Nat)),(65,.int .i64 (vj:Nat)),(70,.sl ws.length (gS ws) .none),(71,.int .i64 (ws.length:Nat)),(72,.int .i64 (vk:Nat))]→Q .normal ⟨e,J',U'⟩) :
  AW ⟨Tryz.prog,192,152,nb,tb,[100104,100147,100166]⟩ (iN [1,1,1,1,1,1,1,1,0,1,0,0,1,1,0,0,1,1,1,0,1,0,0,1,1,0,0,1,1,0,0,1,1,0,0,1,1,1,1] (Tryz.f13.body.getD .skip)) Q ⟨[(14,.dP i (dQ.length+1) cap),(12,.ptr BO 0),(13,.ptr yB 0),(0,.sl L.length (bC L) .none),(2,.ptr b2 0),(4,.ptr b4 0),(5,.aV b5),(6,.aV b6),(8,.ptr b8 0),(10,.ptr qT 0),(34,.sl L.length (bC L) .none),(35,.int .i64 (L.length:Nat)),(36,.int .i64 (vi:Nat)),(63,.sl zs.length (fN zs) .none),(64,.int .i64 (zs.length:Nat)),(65,.int .i64 (vj:Nat)),(70,.sl ws.length (gS ws) .none),(71,.int .i64 (ws.length:Nat)),(72,.int .i64 (vk:Nat))],J,U⟩:=by
 conv=>arg 2;whnf
 have gi:=hJ.get (i:=i) (b:=fE dQ id oU tg rest) (by simp);have g5:=hJ.get (i:=b5) (b:=.map es) (by simp);have g12:=hJ.get (mem_append_left _ L5);have g13:=hJ.get (mem_append_left _ B4);have li:=(List.getElem?_eq_some_iff.1 gi).1;have l5:=(List.getElem?_eq_some_iff.1 g5).1;have l12:=(List.getElem?_eq_some_iff.1 g12).1;have WU:=(List.getElem?_eq_some_iff.1 g13).1;have lH:=NY.le;have lT:=xo.le;have ei:=bT gi;have e5:=bT g5;have Xo:=bT g12;have Fj:=bT g13;have vz:=Tp (f,s) hf hs;have mS:kW (f,s)=.agg [.int .i64 f,.str s]:=rfl;rw[mS] at vz;rw[mS] at jf;obtain⟨qR,fW⟩:=Je dQ id oU tg rest;have o7:(jS dQ++(iu id oU tg++rest)).length=dQ.length*2+(2+rest.length):=by rw[length_append,j7,length_append];rfl
 unfold fE at ei;have BX:=fun SP LH=>NA dQ id oU SP tg LH rest;refine aM [14,17] [0,0,0,0,0,0,0,0,0,0,0,0,0,0,0,1,1,1] [[0,1,2,3],[]] au (by kernel_rfl) (by kernel_rfl) fun K hK=>?_;have fin:∀(e':Env)(U':ay)(BN:Nat),Has U' (RT++(iO E1++(BN,((oU++[p]).length,1))::iO E2))→T.length≤BN→gP T U'→U.length≤U'.length→
   b9 J.length U'.length e' [(14,.dP i (dQ.length+1) cap),(13,.ptr yB 0),(0,.sl L.length (bC L) .none),(2,.ptr b2 0),(4,.ptr b4 0),(5,.aV b5),(6,.aV b6),(8,.ptr b8 0),(10,.ptr qT 0),(34,.sl L.length (bC L) .none),(35,.int .i64 (L.length:Nat)),(36,.int .i64 (vi:Nat)),(63,.sl zs.length (fN zs) .none),(64,.int .i64 (zs.length:Nat)),(65,.int .i64 (vj:Nat)),(70,.sl ws.length (gS ws) .none),(71,.int .i64 (ws.length:Nat)),(72,.int .i64 (vk:Nat))]→K ⟨e',J.set i (.cells (jS dQ++(iu id (oU++[p]) (.own BN)++rest))),U'⟩:=by
  intro e' U' BN hU' aao aaV hUl sM;have kT:Has (J.set i (fE dQ id (oU++[p]) (.own BN) rest)) (R++(b5,.map es)::(dH E1++(i,fE dQ id (oU++[p]) (.own BN) rest)::dH E2)):=by
   have:=Has.set (A:=R++(b5,.map es)::dH E1) (B:=dH E2) (by simpa using hJ) (fE dQ id (oU++[p]) (.own BN) rest);simpa using this
  have oT:gP H (J.set i (fE dQ id (oU++[p]) (.own BN) rest)):=NY.set hi _;have hl:(J.set i (fE dQ id (oU++[p]) (.own BN) rest)).length=J.length:=by simp
  rw[show aG.cells (jS dQ++(iu id (oU++[p]) (.own BN)++rest))=fE dQ id (oU++[p]) (.own BN) rest from rfl];generalize J.set i (fE dQ id (oU++[p]) (.own BN) rest)=J2 at *;refine hK _ (lg fun fD=>aQ ⟨[(14,.dP i (dQ.length+1) cap),(13,.ptr yB 0),(0,.sl L.length (bC L) .none),(2,.ptr b2 0),(4,.ptr b4 0),(5,.aV b5),(6,.aV b6),(8,.ptr b8 0),(10,.ptr qT 0),(34,.sl L.length (bC L) .none),(35,.int .i64 (L.length:Nat)),(36,.int .i64 (vi:Nat)),(63,.sl zs.length (fN zs) .none),(64,.int .i64 (zs.length:Nat)),(65,.int .i64 (vj:Nat)),(70,.sl ws.length (gS ws) .none),(71,.int .i64 (ws.length:Nat)),(72,.int .i64 (vk:Nat))],J2,U'⟩ (ag [] [] (by simp) (by simp) (by show nb≤_;omega) (by show tb≤_;omega) fD (by rw[hl];exact sM)) ?_);simp only at fD;have g5:=kT.get (i:=b5) (b:=.map es) (by simp);have g13:=kT.get (mem_append_left _ B4);have l5:=(List.getElem?_eq_some_iff.1 g5).1;have WU:=(List.getElem?_eq_some_iff.1 g13).1;have e5:=bT g5;have Fj:=bT g13;clear g5 g13 ei Xo gi;refine lg fun SY=>?_;obtain⟨ee,pL⟩:∃ee:En,ee=⟨(f,s),dQ,id,oU++[p],BN,i,cap,rest⟩:=⟨_,rfl⟩
  have HX:bR (E1++⟨(f,s),dQ,id,oU++[p],0,i,cap,rest⟩::E2)=bR (E1++ee::E2):=by rw[pL];simp[bR,En.n]
  rw[HX] at jf;have Ce:dw Tryz.prog 111 (bR (E1++ee::E2))=true:=by rw[←jf];exact nW vy vz
  have hS:dH (E1++ee::E2)=dH E1++(i,fE dQ id (oU++[p]) (.own BN) rest)::dH E2:=by rw[pL];simp[dH,En.mO]
  have hT:iO (E1++ee::E2)=iO E1++(BN,((oU++[p]).length,1))::iO E2:=by rw[pL];simp[iO]
  rw[←hS] at kT;rw[←hT] at hU';refine ar fun K hK=>?_;simp(disch:=omega)[tI,e5,Fj,vz,vy,jf];apply hK;clear hK K;have Fi:=kT.set (.map (bR (E1++ee::E2)));have hb:∀e∈E1++ee::E2,e.i<J2.length:=fun e he=>kT.lt (b:=e.mO) (by simp only[mem_append,mem_cons];exact .inr (.inr (List.mem_map.2 ⟨e,he,rfl⟩)));refine go _ _ _ (E1++ee::E2) Fi hU' (fun e he=>?_) Ce (IE ee (by rw[pL]) (by rw[pL];rfl)) (oT.set Fc _) aaV (by simp;omega) hUl (fD.po (Dw hb)) ?_
  ·rcases List.mem_append.1 he with he|he
   ·exact hE e (.inl he)
   ·rcases List.mem_cons.1 he with rfl|he
    ·rw[pL];exact⟨hr,bV,by show dQ.length+1≤_;omega,by show (oU++[p]).length≤_;simp;omega,hi,aao⟩
    ·exact hE e (.inr he)
  ·simp;omega
 rcases hU with⟨rfl,rfl,hU⟩|⟨tk,rfl,hU,kS⟩
 ·have IG:(jS dQ++(iu id [] .full++rest)).set (dQ.length*2+1) (.sl 1 [.int .i64 p] (.own U.length))=jS dQ++(iu id ([]++[p]) (.own U.length)++rest):=BX [p] _;simp(disch:=omega)[ei,Xo,qR,fW,o7];rw[IG];refine fin _ _ U.length ?_ lT (xo.app _) (by simp) ?_
  ·refine(hU.new (1,1)).perm ?_;simp only[append_assoc];exact((perm_append_singleton _ _).symm.append_left _).append_left _
  ·simp;omega
 ·have IG:(jS dQ++(iu id oU (.own tk)++rest)).set (dQ.length*2+1) (.sl (oU.length+1) (ints oU++[.int .i64 p]) (.own tk))=jS dQ++(iu id (oU++[p]) (.own tk)++rest):=by
   rw[cN];have:=BX (oU++[p]) (.own tk)
   rwa [length_append] at this
  have gU:=hU.get (i:=tk) (b:=(oU.length,1)) (by simp);have lU:=(List.getElem?_eq_some_iff.1 gU).1;have eU:=bT gU;simp(disch:=omega)[ei,Xo,qR,fW,o7,eU];rw[IG];refine fin _ _ tk ?_ kS (xo.set kS _) (by simp) ?_
  ·have:=Has.set (A:=RT++iO E1) (B:=iO E2) (by simpa using hU) (oU.length+1,1);simpa using this
  ·simp;omega
theorem FO (H : List aG) (T : ay) (nb tb N : Nat) (iD : nb ≤ H.length) (iq : tb ≤ T.length) (L : List Dc) (zs : List Zn) (ws : List Wd) (vi vj vk b2 b4 b5 b6 b8 qT BO yB : Nat) (id f : Int) (s : Bs) (p : Int) (zv nv : AV) (E : List En) (J : List aG) (U : ay) (R : List (Nat × aG)) (RT : List (Nat × (Nat × Nat)))
    (hJ : Has J (R ++ (b5, .map (bR E)) :: dH E)) (hU : Has U (RT ++ iO E)) (hE : ∀ e ∈ E, Cj H.length T.length N e) (hN : N ≤ 1099511627776) (BK : (E.map (·.k)).Nodup) (vy : dw Tryz.prog 111 (bR E) = true)
    (h8 : (b8, .cells [.int .i64 id, zv, nv]) ∈ R) (L5 : (BO, .cells [.str s, .int .i64 p]) ∈ R) (B4 : (yB, .cells [.int .i64 f, .str s]) ∈ R) (Fc : H.length ≤ b5) (jQ : b2 < J.length) (Q4 : b4 < J.length) (Lo : b6 < J.length) (Td : qT < J.length)
    (hf : -9223372036854775808 ≤ f ∧ f ≤ 9223372036854775807) (hs : s.length ≤ maxLen) (NY : gP H J) (xo : gP T U) (Q : Exit → St → Prop)
    (go : ∀ (e : Env) (J' : List aG) (U' : ay) (E' : List En), Has J' (R ++ (b5, .map (bR E')) :: dH E') → Has U' (RT ++ iO E') → (∀ e ∈ E', Cj H.length T.length (N + 1) e) → dw Tryz.prog 111 (bR E') = true → mG E (f, s) id p E' → gP H J' → gP T U' → J.length ≤ J'.length → U.length ≤ U'.length → bM J' U' →
      b9 J'.length U'.length e [(0, .sl L.length (bC L) .none), (2, .ptr b2 0), (4, .ptr b4 0), (5, .aV b5), (6, .aV b6), (8, .ptr b8 0), (10, .ptr qT 0), (34, .sl L.length (bC L) .none), (35, .int .i64 (L.length : Nat)), (36, .int .i64 (vi : Nat)), (63, .sl zs.length (fN zs) .none), (64, .int .i64 (zs.length : Nat)), (65, .int .i64 (vj : Nat)), (70, .sl ws.length (gS ws) .none), (71, .int .i64 (ws.length : Nat)), (72, .int .i64 (vk : Nat))] → Q .normal ⟨e, J', U'⟩) :
    AW ⟨Tryz.prog, 192, 152, nb, tb, [100104, 100147, 100166]⟩ (iN [1, 1, 1, 1, 1, 1, 1, 1, 0, 1, 0, 0, 1, 1, 0, 0, 1, 1, 1, 0, 1, 0, 0, 1, 1, 0, 0, 1, 1, 0, 0, 1, 1, 0, 0, 1, 1] (Tryz.f13.body.getD .skip)) Q ⟨[(12, .ptr BO 0), (13, .ptr yB 0), (0, .sl L.length (bC L) .none), (2, .ptr b2 0), (4, .ptr b4 0), (5, .aV b5), (6, .aV b6), (8, .ptr b8 0), (10, .ptr qT 0), (34, .sl L.length (bC L) .none), (35, .int .i64 (L.length : Nat)), (36, .int .i64 (vi : Nat)), (63, .sl zs.length (fN zs) .none), (64, .int .i64 (zs.length : Nat)), (65, .int .i64 (vj : Nat)), (70, .sl ws.length (gS ws) .none), (71, .int .i64 (ws.length : Nat)), (72, .int .i64 (vk : Nat))], J, U⟩ := by
  conv => arg 2; whnf
  have g5 := hJ.get (i := b5) (b := .map (bR E)) (by simp);have g8 := hJ.get (mem_append_left _ h8);have g12 := hJ.get (mem_append_left _ L5);have g13 := hJ.get (mem_append_left _ B4);have l5 := (List.getElem?_eq_some_iff.1 g5).1;have l8 := (List.getElem?_eq_some_iff.1 g8).1;have l12 := (List.getElem?_eq_some_iff.1 g12).1;have WU := (List.getElem?_eq_some_iff.1 g13).1;have lH := NY.le;have lT := xo.le;have e5 := bT g5;have e8 := bT g8;have Xo := bT g12;have Fj := bT g13;have vz := Tp (f, s) hf hs;have mS : kW (f, s) = .agg [.int .i64 f, .str s] := rfl;rw [mS] at vz;refine lg fun HO => ?_;simp only at HO
  by_cases hex : (f, s) ∈ E.map (·.k)
  rotate_left
  · have fw : ir (bR E) (.agg [.int .i64 f, .str s]) (.sl 0 [] .full) false = .sl 0 [] .full := by
      unfold ir;rw [← mS, oA (wV hex)];rfl
    refine ae fun K hK => ?_; simp (maxSteps := 1000000) (disch := omega) [-getD_eq_getElem?_getD, tI, zd, vz, vy, e5, Fj, fw]; refine hK _ ?_; clear hK K;refine af fun K1 aO => ?_;refine aM [] [] [] au (by kernel_rfl) (by kernel_rfl) fun K hK => ?_; simp (maxSteps := 1000000) (disch := omega) [-getD_eq_getElem?_getD];refine hK _ ?_; clear hK K;refine aP rfl (fun h => ?_) (fun h => absurd h (by simp));refine ar fun K hK => ?_; simp (maxSteps := 1000000) (disch := omega) [-getD_eq_getElem?_getD, e8];intro nc mK;refine hK _ ?_; clear hK K;refine aO _ ?_; clear aO;have Pf : aG.cells (.int .i64 id :: .sl 0 [] .full :: List.replicate ((nc - 1) * 2) .top) = fE [] id [] .full (List.replicate ((nc - 1) * 2) .top) := rfl;rw [Pf];have kT := hJ.new (fE [] id [] .full (List.replicate ((nc - 1) * 2) .top));have oT := NY.app [fE [] id [] .full (List.replicate ((nc - 1) * 2) .top)];have aaD : (J ++ [fE [] id [] .full (List.replicate ((nc - 1) * 2) .top)]).length = J.length + 1 := by simp
    obtain ⟨i, hi⟩ : ∃ i, i = J.length := ⟨_, rfl⟩
    rw [← hi] at kT;simp only [← hi];generalize J ++ [fE [] id [] .full (List.replicate ((nc - 1) * 2) .top)] = J2 at *;refine lg fun fD => ?_;simp only at fD;refine aQ ⟨[(14, .dP i (([] : List (Ps × Tag)).length + 1) nc), (12, .ptr BO 0), (13, .ptr yB 0), (0, .sl L.length (bC L) .none), (2, .ptr b2 0), (4, .ptr b4 0), (5, .aV b5), (6, .aV b6), (8, .ptr b8 0), (10, .ptr qT 0), (34, .sl L.length (bC L) .none), (35, .int .i64 (L.length : Nat)), (36, .int .i64 (vi : Nat)), (63, .sl zs.length (fN zs) .none), (64, .int .i64 (zs.length : Nat)), (65, .int .i64 (vj : Nat)), (70, .sl ws.length (gS ws) .none), (71, .int .i64 (ws.length : Nat)), (72, .int .i64 (vk : Nat))], J2, U⟩ (ag [] [] (by simp) (by simp) (by show nb ≤ _; omega) (by show tb ≤ _; omega) fD (by simp; omega)) ?_;have acm : ((E ++ [(⟨(f, s), [], id, [p], 0, i, nc, []⟩ : En)]).map (·.k)).Nodup := by
      rw [map_append, nodup_append];exact ⟨BK, by simp, fun a ha b hb => by simp at hb; rintro rfl; rw [hb] at ha; exact hex ha⟩
    exact uG H T nb tb N iD iq L zs ws vi vj vk b2 b4 b5 b6 b8 qT BO yB id f s p E [] (bR E) J2 U R RT i nc [] (List.replicate ((nc - 1) * 2) .top) [] .full (by simpa [dH] using kT) (.inl ⟨rfl, rfl, by simpa [iO] using hU⟩)
      (fun e he => by
        rcases he with he | he
        · have := hE e he; exact ⟨this.r, this.c, Nat.le_succ_of_le this.n, Nat.le_succ_of_le this.a, this.i, this.t⟩
        · simp at he) hN (by simp) mK (Nat.zero_le _) (Nat.zero_le _) (by omega) (KG ⟨(f, s), [], id, [] ++ [p], 0, i, nc, List.replicate ((nc - 1) * 2) .top⟩ hex) vy E
      (fun Fk hk hp => by have := mG.add (e' := Fk) (d := id) (p := p) BK (by rw [hk]; exact hex) (by rw [hp]; rfl); rwa [hk] at this)
      L5 B4 Fc (by omega) (by omega) (by omega) (by omega) (by omega) hf hs oT xo fD Q (fun e J' U' E' a1 a2 a3 a4 a5 a6 a7 a8 => go e J' U' E' a1 a2 a3 a4 a5 a6 a7 (by omega))
  · obtain ⟨e, HY, qO⟩ := List.mem_map.1 hex;obtain ⟨E1, E2, rfl⟩ := List.append_of_mem HY;obtain ⟨k0, dQ, d, at_, tk, i, cap, rest⟩ := e;simp only at qO;subst qO;have fC := hE _ HY;have SG : ∀ e, e ∈ E1 ∨ e ∈ E2 → Cj H.length T.length (N + 1) e := fun e he => by
      have := hE e (by rcases he with he | he <;> simp [he]); exact ⟨this.r, this.c, Nat.le_succ_of_le this.n, Nat.le_succ_of_le this.a, this.i, this.t⟩
    obtain ⟨q1, q2, q3, q4, q5, q6⟩ := fC;simp only [En.n] at q1 q2 q3 q4 q5 q6;have N3 : Has J (R ++ (b5, .map (bR (E1 ++ ⟨(f, s), dQ, d, at_, tk, i, cap, rest⟩ :: E2))) :: (dH E1 ++ (i, fE dQ d at_ (.own tk) rest) :: dH E2)) := by simpa [dH, En.mO] using hJ
    have hUb : Has U (RT ++ (iO E1 ++ (tk, (at_.length, 1)) :: iO E2)) := by simpa [iO] using hU
    have gi := N3.get (i := i) (b := fE dQ d at_ (.own tk) rest) (by simp);have li := (List.getElem?_eq_some_iff.1 gi).1;have ei := bT gi;unfold fE at ei gi;obtain ⟨qR, fW⟩ := Je dQ d at_ (.own tk) rest;have o7 : (jS dQ ++ (iu d at_ (.own tk) ++ rest)).length = dQ.length * 2 + (2 + rest.length) := by rw [length_append, j7, length_append]; rfl
    have jV := KF BK;simp only [En.n] at jV;have fw : ir (bR (E1 ++ ⟨(f, s), dQ, d, at_, tk, i, cap, rest⟩ :: E2)) (.agg [.int .i64 f, .str s]) (.sl 0 [] .full) false = .dP i (dQ.length + 1) cap := by
      unfold ir;rw [← mS, jV];rfl
    have uk := fun e' hk => KE BK e' hk;have hold := fun e' p' hk hp => mG.th (d := id) (p := p') BK (e' := e') hk hp;simp only at uk hold;generalize hEE : bR (E1 ++ ⟨(f, s), dQ, d, at_, tk, i, cap, rest⟩ :: E2) = es at *;refine ae fun K hK => ?_; simp (maxSteps := 1000000) (disch := omega) [-getD_eq_getElem?_getD, tI, zd, vz, vy, e5, Fj, fw]; refine hK _ ?_; clear hK K;refine af fun K1 aO => ?_;have bn : (((dQ.length : Int) + 1) == 0) = false := beq_eq_false_iff_ne.2 (by omega);have bn' : ¬ ((dQ.length : Int) + 1) = 0 := by omega
    by_cases hd : d = id
    · subst hd;have bd : (d != d) = false := by simp
      refine aM [] [] [] au (by kernel_rfl) (by kernel_rfl) fun K hK => ?_; simp (maxSteps := 1000000) (disch := omega) [-getD_eq_getElem?_getD, bn, bn', ei, e8, qR, o7, bd];refine hK _ ?_; clear hK K;refine aP rfl (fun h => absurd h (by simp)) (fun h => ?_);apply ak; simp (maxSteps := 1000000) (disch := omega) [-getD_eq_getElem?_getD];refine aO _ ?_; clear aO;refine aQ ⟨[(14, .dP i (dQ.length + 1) cap), (12, .ptr BO 0), (13, .ptr yB 0), (0, .sl L.length (bC L) .none), (2, .ptr b2 0), (4, .ptr b4 0), (5, .aV b5), (6, .aV b6), (8, .ptr b8 0), (10, .ptr qT 0), (34, .sl L.length (bC L) .none), (35, .int .i64 (L.length : Nat)), (36, .int .i64 (vi : Nat)), (63, .sl zs.length (fN zs) .none), (64, .int .i64 (zs.length : Nat)), (65, .int .i64 (vj : Nat)), (70, .sl ws.length (gS ws) .none), (71, .int .i64 (ws.length : Nat)), (72, .int .i64 (vk : Nat))], J, U⟩ (ag [] [] (by simp) (by simp) (by show nb ≤ _; omega) (by show tb ≤ _; omega) HO (by simp; omega)) ?_;refine uG H T nb tb N iD iq L zs ws vi vj vk b2 b4 b5 b6 b8 qT BO yB d f s p E1 E2 es J U R RT i cap dQ rest at_ (.own tk) N3 (.inr ⟨tk, rfl, hUb, q6⟩)
        SG hN q1 q2 (by omega) q4 q5 (uk ⟨(f, s), dQ, d, at_ ++ [p], 0, i, cap, rest⟩ rfl) vy _
        (fun Fk hk hp => ?_)
        L5 B4 Fc jQ Q4 Lo l8 Td hf hs NY xo HO Q go
      exact hold Fk p hk (by rw [hp]; show _ = uh (dQ.map (·.1) ++ [(d, at_)]) d p; rw [oJ, if_pos rfl])
    · have bd : (d != id) = true := by simpa using hd
      have hU0 : Has U (RT ++ (iO E1 ++ iO E2)) := hUb.sub (List.Sublist.append_left (List.Sublist.append_left (sublist_cons_self _ _) _) _);have IE : ∀ Fk : En, Fk.k = (f, s) → Fk.pl = (dQ ++ [((d, at_), Tag.own tk)]).map (·.1) ++ [(id, [] ++ [p])] → mG (E1 ++ ⟨(f, s), dQ, d, at_, tk, i, cap, rest⟩ :: E2) (f, s) id p (E1 ++ Fk :: E2) := fun Fk hk hp =>
        hold Fk p hk (by rw [hp]; show _ = uh (dQ.map (·.1) ++ [(d, at_)]) id p; rw [oJ, if_neg hd]; simp)
      have pe := fun (J2 : List aG) (i2 pj : Nat) (ly : List AV) (hl : J.length ≤ J2.length) (kT : Has J2 (R ++ (b5, .map es) :: (dH E1 ++ (i2, fE (dQ ++ [((d, at_), Tag.own tk)]) id [] .full ly) :: dH E2))) (fD : bM J2 U) (oT : gP H J2) (o4 : ly.length = (pj - (dQ.length + 2)) * 2) (lZ : dQ.length + 2 ≤ pj) (eE : H.length ≤ i2) =>
        uG H T nb tb N iD iq L zs ws vi vj vk b2 b4 b5 b6 b8 qT BO yB id f s p E1 E2 es J2 U R RT i2 pj (dQ ++ [((d, at_), Tag.own tk)]) ly [] .full kT (.inl ⟨rfl, rfl, hU0⟩)
          SG hN (by rw [o4]; simp) (by simpa using lZ) (by simp; omega) (Nat.zero_le _) eE (by have := uk ⟨(f, s), dQ ++ [((d, at_), Tag.own tk)], id, [] ++ [p], 0, i2, pj, ly⟩ rfl; exact this) vy _ IE
          L5 B4 Fc (by omega) (by omega) (by omega) (by omega) (by omega) hf hs oT xo fD Q (fun e J' U' E' a1 a2 a3 a4 a5 a6 a7 a8 => go e J' U' E' a1 a2 a3 a4 a5 a6 a7 (by omega))
      have kS : (jS dQ ++ (iu d at_ (.own tk) ++ rest)).take ((dQ.length + 1) * 2) = jS (dQ ++ [((d, at_), Tag.own tk)]) := by
        rw [← append_assoc, wD, List.take_left' (by rw [j7]; simp)]
      have vv : (jS dQ ++ (iu d at_ (.own tk) ++ rest)).drop ((dQ.length + 1 + 1) * 2) = rest.drop 2 := by
        rw [← append_assoc, wD, List.drop_append, List.drop_of_length_le (by rw [j7, length_append, List.length_singleton]; omega), List.nil_append, j7]
        congr 1; simp; omega
      refine aM [] [] [] au (by kernel_rfl) (by kernel_rfl) fun K hK => ?_; simp (maxSteps := 1000000) (disch := omega) [-getD_eq_getElem?_getD, bn, bn', ei, e8, qR, o7, bd];refine hK _ ?_; clear hK K;refine aP rfl (fun h => ?_) (fun h => absurd h (by simp));refine ar fun K hK => ?_; simp (maxSteps := 1000000) (disch := omega) [-getD_eq_getElem?_getD, e8];refine ⟨112, _, [.int .i64 id, .sl 0 [] .full], 1, by kernel_rfl, gi, by rw [o7, uY]; omega, by simp, by simp; omega, by omega, by kernel_rfl, by simp, fun hle => ?_, fun nc bh mK => ?_⟩
      · simp only [uY, kS, vv];rw [show aG.cells (jS (dQ ++ [((d, at_), Tag.own tk)]) ++ [.int .i64 id, .sl 0 [] .full] ++ rest.drop 2) = fE (dQ ++ [((d, at_), Tag.own tk)]) id [] .full (rest.drop 2) by rw [append_assoc]; rfl];have kT : Has (J.set i (fE (dQ ++ [((d, at_), Tag.own tk)]) id [] .full (rest.drop 2))) (R ++ (b5, .map es) :: (dH E1 ++ (i, fE (dQ ++ [((d, at_), Tag.own tk)]) id [] .full (rest.drop 2)) :: dH E2)) := by
          have := Has.set (A := R ++ (b5, .map es) :: dH E1) (B := dH E2) (by simpa using N3) (fE (dQ ++ [((d, at_), Tag.own tk)]) id [] .full (rest.drop 2));simpa using this
        have oT := NY.set q5 (fE (dQ ++ [((d, at_), Tag.own tk)]) id [] .full (rest.drop 2));have hl : J.length = (J.set i (fE (dQ ++ [((d, at_), Tag.own tk)]) id [] .full (rest.drop 2))).length := by simp
        generalize J.set i (fE (dQ ++ [((d, at_), Tag.own tk)]) id [] .full (rest.drop 2)) = J2 at *;simp (maxSteps := 1000000) (disch := omega) [-getD_eq_getElem?_getD];refine hK _ ?_; clear hK K;refine aO _ ?_; clear aO;refine lg fun fD => ?_;simp only at fD;refine aQ ⟨[(14, .dP i ((dQ ++ [((d, at_), Tag.own tk)]).length + 1) cap), (12, .ptr BO 0), (13, .ptr yB 0), (0, .sl L.length (bC L) .none), (2, .ptr b2 0), (4, .ptr b4 0), (5, .aV b5), (6, .aV b6), (8, .ptr b8 0), (10, .ptr qT 0), (34, .sl L.length (bC L) .none), (35, .int .i64 (L.length : Nat)), (36, .int .i64 (vi : Nat)), (63, .sl zs.length (fN zs) .none), (64, .int .i64 (zs.length : Nat)), (65, .int .i64 (vj : Nat)), (70, .sl ws.length (gS ws) .none), (71, .int .i64 (ws.length : Nat)), (72, .int .i64 (vk : Nat))], J2, U⟩ (ag [] [] (by simp) (by simp) (by show nb ≤ _; omega) (by show tb ≤ _; omega) fD (by simp; omega)) ?_;exact pe J2 i cap (rest.drop 2) (by omega) kT fD oT (by rw [List.length_drop]; omega) (by omega) q5
      · simp only [uY, kS];obtain ⟨r2, o4⟩ : ∃ r2, r2 = List.replicate ((nc - (dQ.length + 1 + 1)) * 2) AV.top := ⟨_, rfl⟩
        have Ij : r2.length = (nc - (dQ.length + 2)) * 2 := by rw [o4]; simp
        rw [← o4];rw [show aG.cells (jS (dQ ++ [((d, at_), Tag.own tk)]) ++ [.int .i64 id, .sl 0 [] .full] ++ r2) = fE (dQ ++ [((d, at_), Tag.own tk)]) id [] .full r2 by rw [append_assoc]; rfl];have kT : Has (J ++ [fE (dQ ++ [((d, at_), Tag.own tk)]) id [] .full r2]) (R ++ (b5, .map es) :: (dH E1 ++ (J.length, fE (dQ ++ [((d, at_), Tag.own tk)]) id [] .full r2) :: dH E2)) := by
          have h0 : Has J (R ++ (b5, .map es) :: (dH E1 ++ dH E2)) := N3.sub (List.Sublist.append_left (List.Sublist.cons_cons _ (List.Sublist.append_left (sublist_cons_self _ _) _)) _);refine (h0.new _).perm ?_;simp only [append_assoc, List.cons_append];exact (((perm_append_singleton _ _).symm.append_left _).cons _).append_left _
        have oT := NY.app [fE (dQ ++ [((d, at_), Tag.own tk)]) id [] .full r2];have aaD : (J ++ [fE (dQ ++ [((d, at_), Tag.own tk)]) id [] .full r2]).length = J.length + 1 := by simp
        obtain ⟨i2, eE⟩ : ∃ i, i = J.length := ⟨_, rfl⟩
        rw [← eE] at kT;simp only [← eE];generalize J ++ [fE (dQ ++ [((d, at_), Tag.own tk)]) id [] .full r2] = J2 at *;simp (maxSteps := 1000000) (disch := omega) [-getD_eq_getElem?_getD];refine hK _ ?_; clear hK K;refine aO _ ?_; clear aO;refine lg fun fD => ?_;simp only at fD;refine aQ ⟨[(14, .dP i2 ((dQ ++ [((d, at_), Tag.own tk)]).length + 1) nc), (12, .ptr BO 0), (13, .ptr yB 0), (0, .sl L.length (bC L) .none), (2, .ptr b2 0), (4, .ptr b4 0), (5, .aV b5), (6, .aV b6), (8, .ptr b8 0), (10, .ptr qT 0), (34, .sl L.length (bC L) .none), (35, .int .i64 (L.length : Nat)), (36, .int .i64 (vi : Nat)), (63, .sl zs.length (fN zs) .none), (64, .int .i64 (zs.length : Nat)), (65, .int .i64 (vj : Nat)), (70, .sl ws.length (gS ws) .none), (71, .int .i64 (ws.length : Nat)), (72, .int .i64 (vk : Nat))], J2, U⟩ (ag [] [] (by simp) (by simp) (by show nb ≤ _; omega) (by show tb ≤ _; omega) fD (by simp; omega)) ?_;exact pe J2 i2 nc r2 (by omega) kT fD oT Ij (by omega) (by omega)
end Go.Proofs.YtneohapkboaplaaGreat
namespace eB
open Go Go.Am
inductive mh (id:Int):List En→List (Ky×Int)→List En→Prop
 |nil (E:List En):mh id E [] E
 |snoc {E E1 E2:List En} {l:List (Ky×Int)} {k:Ky} {p:Int} (h:mh id E l E1) (h2:mG E1 k id p E2):mh id E (l++[(k,p)]) E2
theorem mh.trans {id:Int}{E E1 E2:List En}{l m:List (Ky×Int)}(h:mh id E l E1)(k:mh id E1 m E2):mh id E (l++m) E2:=by
 induction k with
 |nil=>simpa using h
 |snoc _ h2 ih=>rw[←append_assoc];exact ih.snoc h2
def nm (f:Int)(ws:List Wd):List (Ky×Int):=ws.map fun w=>((f,w.1),w.2)
def ez (zs:List Zn):List (Ky×Int):=zs.flatMap fun z=>nm z.f z.ws
theorem FK (f:Int)(ws:List Wd)(k:Nat)(h:k<ws.length):nm f (ws.take k)++[((f,(ws.getD k w0).1),(ws.getD k w0).2)]=nm f (ws.take (k+1)):=by
 rw[dx ws k w0 h];simp[nm]
theorem Hd (zs:List Zn)(k:Nat)(h:k<zs.length):ez (zs.take k)++nm (zs.getD k z0).f (zs.getD k z0).ws=ez (zs.take (k+1)):=by
 rw[dx zs k z0 h];simp[ez]
end eB
namespace Go.Proofs.YtneohapkboaplaaGreat
open Go Go.Am gH eB
structure BI (H:List aG)(T:ay)(R:List (Nat×aG))(RT:List (Nat×(Nat×Nat)))(b5 N:Nat)(J:List aG)(U:ay)(E:List En):Prop where
 hJ:Has J (R++(b5,.map (bR E))::dH E)
 hU:Has U (RT++iO E)
 hE:∀e∈E,Cj H.length T.length N e
 nd:(E.map (·.k)).Nodup
 ft:dw Tryz.prog 111 (bR E)=true
 pJ:gP H J
 pU:gP T U
 ok:bM J U
theorem BI.more {H:List aG}{T:ay}{R:List (Nat×aG)}{RT:List (Nat×(Nat×Nat))}{b5 N:Nat}{J:List aG}{U:ay}{E:List En}(h:BI H T R RT b5 N J U E){M:Nat}(hm:N≤M):BI H T R RT b5 M J U E:=
 ⟨h.hJ,h.hU,fun e he=>have q:=h.hE e he;⟨q.r,q.c,Nat.le_trans q.n hm,Nat.le_trans q.a hm,q.i,q.t⟩,h.nd,h.ft,h.pJ,h.pU,h.ok⟩
theorem BI.sub {H:List aG}{T:ay}{R R':List (Nat×aG)}{RT:List (Nat×(Nat×Nat))}{b5 N:Nat}{J:List aG}{U:ay}{E:List En}(h:BI H T R RT b5 N J U E)(hs:R'.Sublist R):BI H T R' RT b5 N J U E:=
 ⟨h.hJ.sub (hs.append_right _),h.hU,h.hE,h.nd,h.ft,h.pJ,h.pU,h.ok⟩
theorem BI.new {H:List aG}{T:ay}{R:List (Nat×aG)}{RT:List (Nat×(Nat×Nat))}{b5 N:Nat}{J:List aG}{U:ay}{E:List En}(h:BI H T R RT b5 N J U E)(b:aG)(ho:bM (J++[b]) U):BI H T ((J.length,b)::R) RT b5 N (J++[b]) U E:=by
 refine⟨?_,h.hU,h.hE,h.nd,h.ft,h.pJ.app _,h.pU,ho⟩;exact(h.hJ.new b).perm (perm_append_singleton _ _).symm
theorem FP (H:List aG)(T:ay)(nb tb N:Nat)(iD:nb≤H.length)(iq:tb≤T.length)(L:List Dc)(zs:List Zn)(ws:List Wd)(vi vj vk b2 b4 b5 b6 b8 qT:Nat)(id f:Int)(zv nv wv:AV)(E:List En)(J:List aG)(U:ay)(R:List (Nat×aG))(RT:List (Nat×(Nat×Nat)))
  (hB:BI H T R RT b5 N J U E) (hN:N≤1099511627776) (hk:vk<ws.length) (lW:ws.length≤1099511627776)
  (h8:(b8,.cells [.int .i64 id,zv,nv])∈R) (Rm:(qT,.cells [.int .i64 f,wv])∈R) (Fc:H.length≤b5) (jQ:b2<J.length) (Q4:b4<J.length) (Lo:b6<J.length)
  (hf:-9223372036854775808≤f∧f≤9223372036854775807) (hs:(ws.getD vk w0).1.length≤maxLen) (Q:Exit→St→Prop)
  (go:∀(e:Env)(J':List aG)(U':ay)(E':List En),BI H T R RT b5 (N+1) J' U' E'→mG E (f,(ws.getD vk w0).1) id (ws.getD vk w0).2 E'→J.length≤J'.length→b9 J'.length U'.length e [(0,.sl L.length (bC L) .none),(2,.ptr b2 0),(4,.ptr b4 0),(5,.aV b5),(6,.aV b6),(8,.ptr b8 0),(10,.ptr qT 0),(34,.sl L.length (bC L) .none),(35,.int .i64 (L.length:Nat)),(36,.int .i64 (vi:Nat)),(63,.sl zs.length (fN zs) .none),(64,.int .i64 (zs.length:Nat)),(65,.int .i64 (vj:Nat)),(70,.sl ws.length (gS ws) .none),(71,.int .i64 (ws.length:Nat)),(72,.int .i64 (vk:Nat))]→Q .normal ⟨e,J',U'⟩) :
  AW ⟨Tryz.prog,192,152,nb,tb,[100104,100147,100166]⟩ (iN [1,1,1,1,1,1,1,1,0,1,0,0,1,1,0,0,1,1,1,0,1,0,0,1,1,0,0,1,1,0,0,1,1,0,0] (Tryz.f13.body.getD .skip)) Q ⟨[(0,.sl L.length (bC L) .none),(2,.ptr b2 0),(4,.ptr b4 0),(5,.aV b5),(6,.aV b6),(8,.ptr b8 0),(10,.ptr qT 0),(34,.sl L.length (bC L) .none),(35,.int .i64 (L.length:Nat)),(36,.int .i64 (vi:Nat)),(63,.sl zs.length (fN zs) .none),(64,.int .i64 (zs.length:Nat)),(65,.int .i64 (vj:Nat)),(70,.sl ws.length (gS ws) .none),(71,.int .i64 (ws.length:Nat)),(72,.int .i64 (vk:Nat))],J,U⟩:=by
 conv=>arg 2;whnf
 have g10:=hB.hJ.get (mem_append_left _ Rm);have g8:=hB.hJ.get (mem_append_left _ h8);have l10:=(List.getElem?_eq_some_iff.1 g10).1;have l8:=(List.getElem?_eq_some_iff.1 g8).1;have l5:=hB.hJ.lt (i:=b5) (b:=.map (bR E)) (by simp);have e10:=bT g10;have lH:=hB.pJ.le;have lT:=hB.pU.le;have bY:=zk ws vk hk;have HO:=hB.ok;generalize ws.getD vk w0=x at *;obtain⟨s,p⟩:=x;simp only at bY hs go;refine ae fun K hK=>?_;simp(disch:=omega)[-getD_eq_getElem?_getD,bY,zj];apply hK;clear hK K;refine ae fun K hK=>?_;simp(disch:=omega)[-getD_eq_getElem?_getD,e10,List.getElem?_append_left,List.getElem_append_left];apply hK;clear hK K;have BG:bM (J++[.cells [.str s,.int .i64 p]]) U:=HO.snoc (by simp);have O7:bM ((J++[.cells [.str s,.int .i64 p]])++[.cells [.int .i64 f,.str s]]) U:=BG.snoc (by simp);have yz:=(hB.new (.cells [.str s,.int .i64 p]) BG).new (.cells [.int .i64 f,.str s]) O7;have Pa:((J++[aG.cells [.str s,.int .i64 p]])++[aG.cells [.int .i64 f,.str s]]).length=J.length+2:=by simp
 rw[show (J++[aG.cells [.str s,.int .i64 p]]).length=J.length+1 by simp] at yz;have Sp:J++[aG.cells [.str s,.int .i64 p],aG.cells [.int .i64 f,.str s]]=(J++[aG.cells [.str s,.int .i64 p]])++[aG.cells [.int .i64 f,.str s]]:=by simp
 rw[Sp];obtain⟨BO,L5⟩:∃i,i=J.length:=⟨_,rfl⟩
 obtain⟨yB,B4⟩:∃i,i=J.length+1:=⟨_,rfl⟩
 rw[←B4,←L5] at yz;simp only[←B4,←L5];generalize (J++[aG.cells [.str s,.int .i64 p]])++[aG.cells [.int .i64 f,.str s]]=J2 at *;refine aQ ⟨[(12,.ptr BO 0),(13,.ptr yB 0),(0,.sl L.length (bC L) .none),(2,.ptr b2 0),(4,.ptr b4 0),(5,.aV b5),(6,.aV b6),(8,.ptr b8 0),(10,.ptr qT 0),(34,.sl L.length (bC L) .none),(35,.int .i64 (L.length:Nat)),(36,.int .i64 (vi:Nat)),(63,.sl zs.length (fN zs) .none),(64,.int .i64 (zs.length:Nat)),(65,.int .i64 (vj:Nat)),(70,.sl ws.length (gS ws) .none),(71,.int .i64 (ws.length:Nat)),(72,.int .i64 (vk:Nat))],J2,U⟩ (ag [] [] (by simp) (by simp) (by show nb≤_;omega) (by show tb≤_;omega) yz.ok (by simp;omega)) ?_;exact FO H T nb tb N iD iq L zs ws vi vj vk b2 b4 b5 b6 b8 qT BO yB id f s p zv nv E J2 U _ RT yz.hJ yz.hU yz.hE hN yz.nd yz.ft (by simp[h8]) (by simp) (by simp) Fc (by omega) (by omega) (by omega) (by omega) hf hs yz.pJ yz.pU Q
  (fun e J' U' E' a1 a2 a3 a4 a5 a6 a7 a8 a9 a10 a11=>go e J' U' E' (BI.sub ⟨a1,a2,a3,a5.nd,a4,a6,a7,a10⟩ (by simp)) a5 (by omega) a11)
attribute [-simp] getD_eq_getElem?_getD in
theorem FL (H:List aG)(T:ay)(nb tb N:Nat)(iD:nb≤H.length)(iq:tb≤T.length)(L:List Dc)(zs:List Zn)(vi vj b2 b4 b5 b6 b8:Nat)(id:Int)(zv nv:AV)(E:List En)(J:List aG)(U:ay)(R:List (Nat×aG))(RT:List (Nat×(Nat×Nat)))
  (hB:BI H T R RT b5 N J U E) (hk:vj<zs.length) (hN:N+(zs.getD vj z0).ws.length≤1099511627776)
  (h8:(b8,.cells [.int .i64 id,zv,nv])∈R) (Fc:H.length≤b5) (jQ:b2<J.length) (Q4:b4<J.length) (Lo:b6<J.length)
  (hf:-9223372036854775808≤(zs.getD vj z0).f∧(zs.getD vj z0).f≤9223372036854775807) (hs:∀w∈(zs.getD vj z0).ws,w.1.length≤maxLen) (Q:Exit→St→Prop)
  (go:∀(e:Env)(J':List aG)(U':ay)(E':List En),BI H T R RT b5 (N+(zs.getD vj z0).ws.length) J' U' E'→mh id E (nm (zs.getD vj z0).f (zs.getD vj z0).ws) E'→J.length≤J'.length→b9 J'.length U'.length e [(0,.sl L.length (bC L) .none),(2,.ptr b2 0),(4,.ptr b4 0),(5,.aV b5),(6,.aV b6),(8,.ptr b8 0),(34,.sl L.length (bC L) .none),(35,.int .i64 (L.length:Nat)),(36,.int .i64 (vi:Nat)),(63,.sl zs.length (fN zs) .none),(64,.int .i64 (zs.length:Nat)),(65,.int .i64 (vj:Nat))]→Q .normal ⟨e,J',U'⟩) :
  AW ⟨Tryz.prog,192,152,nb,tb,[100104,100147,100166]⟩ (iN [1,1,1,1,1,1,1,1,0,1,0,0,1,1,0,0,1,1,1,0,1,0,0,1,1,0,0] (Tryz.f13.body.getD .skip)) Q ⟨[(0,.sl L.length (bC L) .none),(2,.ptr b2 0),(4,.ptr b4 0),(5,.aV b5),(6,.aV b6),(8,.ptr b8 0),(34,.sl L.length (bC L) .none),(35,.int .i64 (L.length:Nat)),(36,.int .i64 (vi:Nat)),(63,.sl zs.length (fN zs) .none),(64,.int .i64 (zs.length:Nat)),(65,.int .i64 (vj:Nat))],J,U⟩:=by
 conv=>arg 2;whnf
 have l8:=hB.hJ.lt (mem_append_left _ h8);have l5:=hB.hJ.lt (i:=b5) (b:=.map (bR E)) (by simp);have lH:=hB.pJ.le;have lT:=hB.pU.le;have bY:=zb zs vj hk;have HO:=hB.ok;generalize zs.getD vj z0=z at *;obtain⟨f,ws⟩:=z;simp only at bY hs hf hN go;refine ae fun K hK=>?_;simp(disch:=omega)[bY,za];apply hK;clear hK K;apply ae;intro K h;simp(disch:=omega);apply h;clear h K;have BG:bM (J++[.cells [.int .i64 f,.sl ws.length (gS ws) .none]]) U:=HO.snoc (by simp);have yz:=hB.new _ BG;have Pa:(J++[aG.cells [.int .i64 f,.sl ws.length (gS ws) .none]]).length=J.length+1:=by simp
 obtain⟨qT,Rm⟩:∃i,i=J.length:=⟨_,rfl⟩
 rw[←Rm] at yz;simp only[←Rm];generalize J++[aG.cells [.int .i64 f,.sl ws.length (gS ws) .none]]=J1 at *;apply ai;refine aK (X:=Nat×List aG×ay×List En) (fun x=>⟨[(0,.sl L.length (bC L) .none),(2,.ptr b2 0),(4,.ptr b4 0),(5,.aV b5),(6,.aV b6),(8,.ptr b8 0),(10,.ptr qT 0),(34,.sl L.length (bC L) .none),(35,.int .i64 (L.length:Nat)),(36,.int .i64 (vi:Nat)),(63,.sl zs.length (fN zs) .none),(64,.int .i64 (zs.length:Nat)),(65,.int .i64 (vj:Nat)),(70,.sl ws.length (gS ws) .none),(71,.int .i64 (ws.length:Nat)),(72,.int .i64 (x.1:Nat))],x.2.1,x.2.2.1⟩)
  (fun x=>x.1≤ws.length∧BI H T ((qT,.cells [.int .i64 f,.sl ws.length (gS ws) .none])::R) RT b5 (N+x.1) x.2.1 x.2.2.1 x.2.2.2∧mh id E (nm f (ws.take x.1)) x.2.2.2∧J1.length≤x.2.1.length) (fun x=>ws.length-x.1) (0,J1,U,E) ?_ ?_ ?_
 ·exact⟨Nat.zero_le _,yz,.nil E,Nat.le_refl _⟩
 ·refine ag [] [] ?_ ?_ ?_ ?_ yz.ok ?_
  all_goals simp
  all_goals omega
 ·rintro⟨k,J2,U2,E2⟩ ⟨k1,k2,k3,k4⟩;simp only at k1 k2 k3 k4;have WS:=k2.pJ.le;have lT2:=k2.pU.le;apply ae;intro K h;simp(disch:=omega);apply h;clear h K;refine af fun K2 aY=>?_;refine aP rfl (fun tR=>?_) (fun tR=>?_)
  ·simp  at tR;apply ak;simp(disch:=omega) ;apply aY;clear aY;refine af fun K3 bA=>?_;apply ai;refine aQ ⟨[(0,.sl L.length (bC L) .none),(2,.ptr b2 0),(4,.ptr b4 0),(5,.aV b5),(6,.aV b6),(8,.ptr b8 0),(10,.ptr qT 0),(34,.sl L.length (bC L) .none),(35,.int .i64 (L.length:Nat)),(36,.int .i64 (vi:Nat)),(63,.sl zs.length (fN zs) .none),(64,.int .i64 (zs.length:Nat)),(65,.int .i64 (vj:Nat)),(70,.sl ws.length (gS ws) .none),(71,.int .i64 (ws.length:Nat)),(72,.int .i64 (k:Nat))],J2,U2⟩ (ag [] [] (by simp) (by simp) (by show nb≤_;omega) (by show tb≤_;omega) k2.ok (by simp;omega)) ?_;refine FP H T nb tb (N+k) iD iq L zs ws vi vj k b2 b4 b5 b6 b8 qT id f zv nv (.sl ws.length (gS ws) .none) E2 J2 U2 _ RT k2 (by omega) tR (by omega) (by simp[h8]) (by simp) Fc (by omega) (by omega) (by omega) hf (hs _ (aR ws k w0 tR)) _ fun e J' U' E' a1 a2 a3 a4=>?_;have WR:=a1.pJ.le;have WQ:=a1.pU.le;refine bA _ (aQ ⟨[(0,.sl L.length (bC L) .none),(2,.ptr b2 0),(4,.ptr b4 0),(5,.aV b5),(6,.aV b6),(8,.ptr b8 0),(10,.ptr qT 0),(34,.sl L.length (bC L) .none),(35,.int .i64 (L.length:Nat)),(36,.int .i64 (vi:Nat)),(63,.sl zs.length (fN zs) .none),(64,.int .i64 (zs.length:Nat)),(65,.int .i64 (vj:Nat)),(70,.sl ws.length (gS ws) .none),(71,.int .i64 (ws.length:Nat)),(72,.int .i64 (k:Nat))],J',U'⟩ (ag [] [] (by simp) (by simp) (by show nb≤_;omega) (by show tb≤_;omega) a1.ok a4) ?_);clear bA;refine ar fun K hK=>?_;simp(disch:=omega) ;apply hK;clear hK K;refine⟨(k+1,J',U',E'),⟨by show k+1≤_;omega,a1,?_,by show J1.length≤J'.length;omega⟩,by show ws.length-(k+1)<ws.length-k;omega,?_⟩
   ·show mh id E (nm f (ws.take (k+1))) E';rw[←FK f ws k tR];exact k3.snoc a2
   ·refine ag [] [] ?_ ?_ ?_ ?_ a1.ok ?_
    all_goals simp
    all_goals omega
  ·simp  at tR;have E4:k=ws.length:=by omega
   subst E4;apply aD;simp(disch:=omega) ;rw[List.take_length] at k3;refine go _ J2 U2 E2 (k2.sub (by simp)) k3 (by omega) ?_;simp;omega
end Go.Proofs.YtneohapkboaplaaGreat
namespace eB
open Go Go.Am
structure Ef where
 f:Int
 x:List Nm
 i:Nat
 cap:Nat
 rest:List AV
end eB
namespace Go.Proofs.YtneohapkboaplaaGreat
open Go Go.Am gH eB
def Ef.mO (e:Ef):aG:=.cells (br e.x++e.rest)
def o8 (f:Int):cY:=.one (.int .i64 f)
def bE (F:List Ef):List (cY×AV):=F.map fun e=>(o8 e.f,.dP e.i e.x.length e.cap)
def gG (F:List Ef):List (Nat×aG):=F.map fun e=>(e.i,Ef.mO e)
structure Mu (nb N:Nat)(e:Ef):Prop where
 r:e.rest.length=(e.cap-e.x.length)*2
 c:e.x.length≤e.cap
 n:e.x.length≤N
 i:nb≤e.i
 p:0<e.x.length
def LJ (F:List Ef)(f:Int):List Nm:=match F.find? (fun e=>e.f==f) with
 |some e=>e.x
 |none=>[]
structure qc (F:List Ef)(f:Int)(it:Nm)(F':List Ef):Prop where
 lk:∀f',LJ F' f'=if f'=f then LJ F f++[it] else LJ F f'
 nd:(F'.map (·.f)).Nodup
 ks:∀f',f'∈F'.map (·.f)↔f'=f∨f'∈F.map (·.f)
theorem lP {E1 E2:List Ef}{e:Ef}(h:((E1++e::E2).map (·.f)).Nodup)(k:Int):(E1++e::E2).find? (fun x=>x.f==k)=if k=e.f then some e else (E1++E2).find? (fun x=>x.f==k):=by
 have h1:∀x∈E1,x.f≠e.f:=fun x hx=>by
  rw[map_append,nodup_append] at h;exact h.2.2 x.f (List.mem_map.2 ⟨x,hx,rfl⟩) e.f (by simp)
 rw[find?_append,List.find?_cons,find?_append]
 by_cases hk:k=e.f
 ·subst hk;have:E1.find? (fun x=>x.f==e.f)=none:=by
   rw[find?_eq_none];intro x hx;simpa using h1 x hx
  rw[this];simp
 ·rw[if_neg hk,beq_eq_false_iff_ne.2 (Ne.symm hk)]
theorem qc.th {E1 E2:List Ef}{e e':Ef}{it:Nm}(h:((E1++e::E2).map (·.f)).Nodup)(hk:e'.f=e.f)(hp:e'.x=e.x++[it]):qc (E1++e::E2) e.f it (E1++e'::E2):=by
 have h':((E1++e'::E2).map (·.f)).Nodup:=by
  rw[map_append,map_cons,hk];rwa [map_append,map_cons] at h
 refine⟨fun k'=>?_,h',fun k'=>?_⟩
 ·unfold LJ;rw[lP h',lP h,lP h,hk]
  by_cases hh:k'=e.f
  ·subst hh;simp[hp]
  ·simp only[if_neg hh]
 ·simp only[map_append,map_cons,hk,mem_append,mem_cons]
  constructor
  ·exact .inr
  ·rintro (rfl|hh)
   ·exact .inr (.inl rfl)
   ·exact hh
theorem qc.add {E:List Ef}{e':Ef}{it:Nm}(h:(E.map (·.f)).Nodup)(hk:e'.f∉E.map (·.f))(hp:e'.x=[it]):qc E e'.f it (E++[e']):=by
 have h':((E++e'::[]).map (·.f)).Nodup:=by
  rw[map_append,nodup_append];exact⟨h,by simp,fun a ha b hb=>by simp at hb;rintro rfl;rw[hb] at ha;exact hk ha⟩
 have hn:E.find? (fun x=>x.f==e'.f)=none:=by
  rw[find?_eq_none];intro x hx;have:x.f≠e'.f:=fun ee=>hk (List.mem_map.2 ⟨x,hx,ee⟩);simpa using this
 refine⟨fun k'=>?_,h',fun k'=>?_⟩
 ·unfold LJ;rw[lP h']
  by_cases hh:k'=e'.f
  ·subst hh;rw[hn];simp[hp]
  ·simp only[if_neg hh,List.append_nil]
 ·simp[or_comm]
theorem uS {a b:Int}:o8 a=o8 b↔a=b:=by simp[o8]
theorem wZ (F:List Ef):(bE F).map (·.1)=(F.map (·.f)).map o8:=by simp[bE,Function.comp_def]
theorem Ak {E1 E2:List Ef}{e:Ef}(h:((E1++e::E2).map (·.f)).Nodup):sQ (bE (E1++e::E2)) (o8 e.f)=some (.dP e.i e.x.length e.cap):=by
 have hn:((bE (E1++e::E2)).map (·.1)).Nodup:=by
  rw[wZ];exact ou (fun a b jA=>uS.1 jA) h
 have hj:E1.length<(bE (E1++e::E2)).length:=by simp[bE]
 have he:(bE (E1++e::E2))[E1.length]'hj=(o8 e.f,.dP e.i e.x.length e.cap):=by simp[bE]
 rw[xZ hn hj (by rw[he]),he]
theorem KI {E1 E2:List Ef}{e:Ef}(h:((E1++e::E2).map (·.f)).Nodup)(e':Ef)(hk:e'.f=e.f):jU (bE (E1++e::E2)) (o8 e.f) (.dP e'.i e'.x.length e'.cap)=bE (E1++e'::E2):=by
 have hn:((bE (E1++e::E2)).map (·.1)).Nodup:=by
  rw[wZ];exact ou (fun a b jA=>uS.1 jA) h
 have hj:E1.length<(bE (E1++e::E2)).length:=by simp[bE]
 have he:(bE (E1++e::E2))[E1.length]'hj=(o8 e.f,.dP e.i e.x.length e.cap):=by simp[bE]
 rw[xY hn hj (by rw[he])];simp[bE,hk]
theorem rW {E:List Ef}{k:Int}(h:k∉E.map (·.f)):∀x∈bE E,x.1≠o8 k:=by
 intro x hx;obtain⟨e,he,rfl⟩:=List.mem_map.1 hx;exact fun hh=>h (List.mem_map.2 ⟨e,he,uS.1 hh⟩)
theorem KJ {E:List Ef}(e':Ef)(h:e'.f∉E.map (·.f)):jU (bE E) (o8 e'.f) (.dP e'.i e'.x.length e'.cap)=bE (E++[e']):=by
 rw[oz (rW h)];simp[bE]
theorem vf {E:List Ef}{n t:Nat}(h:∀e∈E,e.i<n):aL n t ((bE E).map (·.2)):=by
 intro v hv;simp only[bE,List.map_map,List.mem_map,Function.comp] at hv;obtain⟨e,he,rfl⟩:=hv;exact .dP _ _ _ (h e he)
theorem Tq (f:Int)(hf:-9223372036854775808≤f∧f≤9223372036854775807):kM Tryz.prog 3 (o8 f)=true:=by
 have hu:Tryz.prog.underlying 3=some (.int .i64):=by kernel_rfl
 have RR:(Lit.int .i64 f).wf=true:=by
  simp only[Lit.wf,Bool.and_eq_true,decide_eq_true_eq];exact hf
 unfold kM keyOf mapKey;rw[hu];simp[o8,cY.val,KC.val,RR]
structure BF (H:List aG)(T:ay)(R:List (Nat×aG))(b6 N:Nat)(J:List aG)(U:ay)(F:List Ef):Prop where
 hJ:Has J (R++(b6,.map (bE F))::gG F)
 hF:∀e∈F,Mu H.length N e
 nd:(F.map (·.f)).Nodup
 ft:dw Tryz.prog 3 (bE F)=true
 pJ:gP H J
 pU:gP T U
 ok:bM J U
attribute [-simp] getD_eq_getElem?_getD in
theorem Kb (H:List aG)(T:ay)(nb tb N:Nat)(iD:nb≤H.length)(iq:tb≤T.length)(L:List Dc)(ns:List Nm)(vi vk b2 b4 b5 b6 b8:Nat)(id:Int)(zv nv:AV)(F:List Ef)(J:List aG)(U:ay)(R:List (Nat×aG))
  (hB:BF H T R b6 N J U F) (hN:N≤1099511627776) (hk:vk<ns.length) (lW:ns.length≤1099511627776)
  (h8:(b8,.cells [.int .i64 id,zv,nv])∈R) (Rg:H.length≤b6) (jQ:b2<J.length) (Q4:b4<J.length) (ZQ:b5<J.length)
  (hf:-9223372036854775808≤(ns.getD vk n0).1∧(ns.getD vk n0).1≤9223372036854775807) (Q:Exit→St→Prop)
  (go:∀(e:Env)(J':List aG)(F':List Ef),BF H T R b6 (N+1) J' U F'→qc F (ns.getD vk n0).1 ((ns.getD vk n0).2,id) F'→J.length≤J'.length→b9 J'.length U.length e [(0,.sl L.length (bC L) .none),(2,.ptr b2 0),(4,.ptr b4 0),(5,.aV b5),(6,.aV b6),(8,.ptr b8 0),(34,.sl L.length (bC L) .none),(35,.int .i64 (L.length:Nat)),(36,.int .i64 (vi:Nat)),(128,.sl ns.length (br ns) .none),(129,.int .i64 (ns.length:Nat)),(130,.int .i64 (vk:Nat))]→Q .normal ⟨e,J',U⟩) :
  AW ⟨Tryz.prog,192,152,nb,tb,[100104,100147,100166]⟩ (iN [1,1,1,1,1,1,1,1,0,1,0,0,1,1,0,0,1,1,1,1,1,0,0,1,1,0,0] (Tryz.f13.body.getD .skip)) Q ⟨[(0,.sl L.length (bC L) .none),(2,.ptr b2 0),(4,.ptr b4 0),(5,.aV b5),(6,.aV b6),(8,.ptr b8 0),(34,.sl L.length (bC L) .none),(35,.int .i64 (L.length:Nat)),(36,.int .i64 (vi:Nat)),(128,.sl ns.length (br ns) .none),(129,.int .i64 (ns.length:Nat)),(130,.int .i64 (vk:Nat))],J,U⟩:=by
 conv=>arg 2;whnf
 have lH:=hB.pJ.le;have lT:=hB.pU.le;have bY:=fh ns vk hk;have HO:=hB.ok;generalize ns.getD vk n0=x at *;obtain⟨f,n⟩:=x;simp only at bY hf go;have l8:=hB.hJ.lt (mem_append_left _ h8);have l6:=hB.hJ.lt (i:=b6) (b:=.map (bE F)) (by simp);refine ae fun K hK=>?_;simp(disch:=omega)[bY,cj];apply hK;clear hK K;have BG:bM (J++[.cells [.int .i64 f,.int .i64 n]]) U:=HO.snoc (by simp);obtain⟨q1,q2,q3,q4,q5,q6,q7⟩:=hB;have q1:Has (J++[.cells [.int .i64 f,.int .i64 n]]) (((J.length,.cells [.int .i64 f,.int .i64 n])::R)++(b6,.map (bE F))::gG F):=(q1.new (.cells [.int .i64 f,.int .i64 n])).perm (perm_append_singleton _ _).symm;have q5:=q5.app [aG.cells [.int .i64 f,.int .i64 n]];have Pa:(J++[aG.cells [.int .i64 f,.int .i64 n]]).length=J.length+1:=by simp
 obtain⟨HQ,h16⟩:∃i,i=J.length:=⟨_,rfl⟩
 rw[←h16] at q1;simp only[←h16];generalize J++[aG.cells [.int .i64 f,.int .i64 n]]=J1 at *;refine aQ ⟨[(16,.ptr HQ 0),(0,.sl L.length (bC L) .none),(2,.ptr b2 0),(4,.ptr b4 0),(5,.aV b5),(6,.aV b6),(8,.ptr b8 0),(34,.sl L.length (bC L) .none),(35,.int .i64 (L.length:Nat)),(36,.int .i64 (vi:Nat)),(128,.sl ns.length (br ns) .none),(129,.int .i64 (ns.length:Nat)),(130,.int .i64 (vk:Nat))],J1,U⟩ (ag [] [] (by simp) (by simp) (by show nb≤_;omega) (by show tb≤_;omega) BG (by simp;omega)) ?_;have g6:=q1.get (i:=b6) (b:=.map (bE F)) (by simp);have g8:=q1.get (i:=b8) (b:=.cells [.int .i64 id,zv,nv]) (by simp[h8]);have g16:=q1.get (i:=HQ) (b:=.cells [.int .i64 f,.int .i64 n]) (by simp);have l6:=(List.getElem?_eq_some_iff.1 g6).1;have l8:=(List.getElem?_eq_some_iff.1 g8).1;have l16:=(List.getElem?_eq_some_iff.1 g16).1;have e6:=bT g6;have e8:=bT g8;have SN:=bT g16;have vz:=Tq f hf;have mS:o8 f=.one (.int .i64 f):=rfl;rw[mS] at vz
 by_cases hex:f∈F.map (·.f)
 rotate_left
 ·have fw:ir (bE F) (.one (.int .i64 f)) (.sl 0 [] .full) false=.sl 0 [] .full:=by
   unfold ir;rw[←mS,oA (rW hex)];rfl
  refine xg 13 [13,14] [0,0,0,0,0,0,0,0,0,0,0,0,0,0,1] [[0,1,2],[]] au (by kernel_rfl) (by kernel_rfl) (by kernel_rfl) fun K hK=>?_;simp(disch:=omega)[tH,qq,vz,q4,e6,e8,SN,fw,List.getElem?_append_left,List.getElem_append_left];intro nc mK;refine hK _ ?_;obtain⟨ee,pL⟩:∃ee:Ef,ee=⟨f,[(n,id)],J1.length,nc,List.replicate ((nc-1)*2) .top⟩:=⟨_,rfl⟩
  have jf:jU (bE F) (.one (.int .i64 f)) (.dP J1.length 1 nc)=bE (F++[ee]):=by
   have:=KJ (E:=F) ee (by rw[pL];exact hex);rw[pL] at this ⊢;exact this
  have Ce:dw Tryz.prog 3 (bE (F++[ee]))=true:=by rw[←jf];exact nW q4 vz
  rw[jf,show aG.cells (.int .i64 n::.int .i64 id::List.replicate ((nc-1)*2) .top)=Ef.mO ee by rw[pL];rfl,←List.set_append_left _ _ l6];have kT:=q1.new (Ef.mO ee);rw[show J1.length=ee.i by rw[pL]] at kT;have Fi:Has ((J1++[Ef.mO ee]).set b6 (.map (bE (F++[ee])))) (((HQ,.cells [.int .i64 f,.int .i64 n])::R)++(b6,.map (bE (F++[ee])))::gG (F++[ee])):=by
   have:=Has.set (A:=(HQ,.cells [.int .i64 f,.int .i64 n])::R) (B:=gG (F++[ee])) (b:=.map (bE F)) (by simpa[gG] using kT) (.map (bE (F++[ee])));exact this
  have O7:bM (J1++[Ef.mO ee]) U:=by
   refine BG.snoc ?_;rw[pL];simp
  have acr:(J1++[Ef.mO ee]).length=J1.length+1:=by simp
  have hb:∀e∈F++[ee],e.i<(J1++[Ef.mO ee]).length:=fun e he=>by
   have:=Fi.lt (i:=e.i) (b:=Ef.mO e) (by simp only[mem_append,mem_cons];exact .inr (.inr (List.mem_map.2 ⟨e,he,rfl⟩)));simpa using this
  refine go _ _ (F++[ee]) ⟨Fi.sub ((sublist_cons_self _ _).append_right _),fun e he=>?_,(qc.add (it:=(n,id)) q3 (by rw[pL];exact hex) (by rw[pL])).nd,Ce,(q5.app _).set Rg _,q6,O7.po (vf hb)⟩ ?_ (by simp;omega) ?_
  ·rcases List.mem_append.1 he with he|he
   ·have:=q2 e he;exact⟨this.r,this.c,Nat.le_succ_of_le this.n,this.i,this.p⟩
   ·simp at he;subst he;rw[pL];exact⟨by simp,mK,by simp,by show H.length≤J1.length;omega,by simp⟩
  ·have:=qc.add (e':=ee) (it:=(n,id)) q3 (by rw[pL];exact hex) (by rw[pL])
   rwa [show ee.f=f by rw[pL]] at this
  ·simp;omega
 ·obtain⟨e,HY,qO⟩:=List.mem_map.1 hex;obtain⟨E1,E2,rfl⟩:=List.append_of_mem HY;obtain⟨f0,xs,i,cap,rest⟩:=e;simp only at qO;subst qO;obtain⟨k1,k2,k3,k4,k5⟩:=q2 _ HY;simp only at k1 k2 k3 k4 k5;have SG:∀e,e∈E1∨e∈E2→Mu H.length (N+1) e:=fun e he=>by
   have:=q2 e (by rcases he with he|he<;>simp[he]);exact⟨this.r,this.c,Nat.le_succ_of_le this.n,this.i,this.p⟩
  have N3:Has J1 (((HQ,.cells [.int .i64 f0,.int .i64 n])::R)++(b6,.map (bE (E1++⟨f0,xs,i,cap,rest⟩::E2)))::(gG E1++(i,.cells (br xs++rest))::gG E2)):=by
   have:=q1;simpa[gG,Ef.mO] using this
  have gi:=N3.get (i:=i) (b:=.cells (br xs++rest)) (by simp);have li:=(List.getElem?_eq_some_iff.1 gi).1;have ei:=bT gi;have o7:(br xs++rest).length=xs.length*2+rest.length:=by rw[length_append,cj]
  have jV:=Ak q3;simp only at jV;have fw:ir (bE (E1++⟨f0,xs,i,cap,rest⟩::E2)) (.one (.int .i64 f0)) (.sl 0 [] .full) false=.dP i xs.length cap:=by
   unfold ir;rw[←mS,jV];rfl
  have uk:=fun e' hk=>KI q3 e' hk;have hold:=fun e' hk hp=>qc.th (it:=(n,id)) q3 (e':=e') hk hp;simp only at uk hold;rw[mS] at uk;have kS:(br xs++rest).take (xs.length*2)=br xs:=List.take_left' (by rw[cj]);have vv:(br xs++rest).drop ((xs.length+1)*2)=rest.drop 2:=by
   rw[List.drop_append,List.drop_of_length_le (by rw[cj];omega),List.nil_append,cj]
   congr 1;omega
  have iD:∀r,aL J1.length U.length r→True:=fun _ _=>trivial;have fin:∀(e:Env)(J2:List aG)(i2 pj:Nat)(ly:List AV),Has J2 (((HQ,.cells [.int .i64 f0,.int .i64 n])::R)++(b6,.map (bE (E1++⟨f0,xs,i,cap,rest⟩::E2)))::(gG E1++(i2,.cells (br (xs++[(n,id)])++ly))::gG E2))→bM J2 U→gP H J2→J1.length≤J2.length→ly.length=(pj-(xs.length+1))*2→xs.length+1≤pj→H.length≤i2→
    b9 J2.length U.length e [(0,.sl L.length (bC L) .none),(2,.ptr b2 0),(4,.ptr b4 0),(5,.aV b5),(6,.aV b6),(8,.ptr b8 0),(34,.sl L.length (bC L) .none),(35,.int .i64 (L.length:Nat)),(36,.int .i64 (vi:Nat)),(128,.sl ns.length (br ns) .none),(129,.int .i64 (ns.length:Nat)),(130,.int .i64 (vk:Nat))]→Q .normal ⟨e,J2.set b6 (.map (jU (bE (E1++⟨f0,xs,i,cap,rest⟩::E2)) (.one (.int .i64 f0)) (.dP i2 (xs.length+1) pj))),U⟩:=by
   intro e J2 i2 pj ly kT BM oT jQ o4 lZ eE he;obtain⟨ee,pL⟩:∃ee:Ef,ee=⟨f0,xs++[(n,id)],i2,pj,ly⟩:=⟨_,rfl⟩
   have jf:jU (bE (E1++⟨f0,xs,i,cap,rest⟩::E2)) (.one (.int .i64 f0)) (.dP i2 (xs.length+1) pj)=bE (E1++ee::E2):=by
    have:=uk ee (by rw[pL]);rw[pL] at this ⊢;simpa using this
   have Ce:dw Tryz.prog 3 (bE (E1++ee::E2))=true:=by rw[←jf];exact nW q4 vz
   rw[jf];have hS:gG (E1++ee::E2)=gG E1++(i2,.cells (br (xs++[(n,id)])++ly))::gG E2:=by rw[pL];simp[gG,Ef.mO]
   rw[←hS] at kT;have Fi:=kT.set (.map (bE (E1++ee::E2)));have hb:∀e∈E1++ee::E2,e.i<J2.length:=fun e he=>kT.lt (b:=Ef.mO e) (by simp only[mem_append,mem_cons];exact .inr (.inr (List.mem_map.2 ⟨e,he,rfl⟩)));refine go _ _ (E1++ee::E2) ⟨Fi.sub ((sublist_cons_self _ _).append_right _),fun e he=>?_,(hold ee (by rw[pL]) (by rw[pL])).nd,Ce,oT.set Rg _,q6,BM.po (vf hb)⟩ (hold ee (by rw[pL]) (by rw[pL])) (by simp;omega) (by simpa using he);rcases List.mem_append.1 he with he|he
   ·exact SG e (.inl he)
   ·rcases List.mem_cons.1 he with rfl|he
    ·rw[pL];exact⟨by simp[o4],by simpa using lZ,by simp;omega,eE,by simp⟩
    ·exact SG e (.inr he)
  refine xg 13 [13,14] [0,0,0,0,0,0,0,0,0,0,0,0,0,0,1] [[0,1,2],[]] au (by kernel_rfl) (by kernel_rfl) (by kernel_rfl) fun K hK=>?_;simp(disch:=omega)[tH,qq,vz,q4,e6,e8,SN,fw];refine⟨br xs++rest,ei li,by rw[o7];omega,[.int .i64 n,.int .i64 id],1,⟨rfl,rfl⟩,by omega,by omega,fun hle=>?_,fun nc bh mK=>?_⟩
  ·rw[kS,vv];rw[show aG.cells (br xs++([.int .i64 n,.int .i64 id]++rest.drop 2))=.cells (br (xs++[(n,id)])++rest.drop 2) by rw[←append_assoc,ow xs (n,id)]];have kT:Has (J1.set i (.cells (br (xs++[(n,id)])++rest.drop 2))) (((HQ,.cells [.int .i64 f0,.int .i64 n])::R)++(b6,.map (bE (E1++⟨f0,xs,i,cap,rest⟩::E2)))::(gG E1++(i,.cells (br (xs++[(n,id)])++rest.drop 2))::gG E2)):=by
    have:=Has.set (A:=((HQ,.cells [.int .i64 f0,.int .i64 n])::R)++(b6,.map (bE (E1++⟨f0,xs,i,cap,rest⟩::E2)))::gG E1) (B:=gG E2) (by simpa using N3) (.cells (br (xs++[(n,id)])++rest.drop 2));simpa using this
   have oT:=q5.set k4 (.cells (br (xs++[(n,id)])++rest.drop 2));have BM:bM (J1.set i (.cells (br (xs++[(n,id)])++rest.drop 2))) U:=by
    refine BG.set ?_;have:=BG i (.cells (br xs++rest)) gi;simp only[aG.xq] at this;intro v hv;rcases List.mem_append.1 hv with hv|hv
    ·exact AG _ _ _ v hv
    ·exact this v (List.mem_append_right _ (List.mem_of_mem_drop hv))
   have hl:J1.length=(J1.set i (.cells (br (xs++[(n,id)])++rest.drop 2))).length:=by simp
   have FD:=fun e=>fin e _ i cap (rest.drop 2) kT BM oT (by omega) (by rw[List.length_drop];omega) (by omega) k4;generalize J1.set i (.cells (br (xs++[(n,id)])++rest.drop 2))=J2 at *;have g6:=kT.get (i:=b6) (b:=.map (bE (E1++⟨f0,xs,i,cap,rest⟩::E2))) (by simp);have g16:=kT.get (i:=HQ) (b:=.cells [.int .i64 f0,.int .i64 n]) (by simp);have l6:=(List.getElem?_eq_some_iff.1 g6).1;have l16:=(List.getElem?_eq_some_iff.1 g16).1;have e6:=bT g6;have SN:=bT g16;simp(disch:=omega)[q4,e6,SN];refine hK _ (FD _ ?_);simp;omega
  ·rw[kS];obtain⟨r2,o4⟩:∃r2,r2=List.replicate ((nc-(xs.length+1))*2) AV.top:=⟨_,rfl⟩
   have Ij:r2.length=(nc-(xs.length+1))*2:=by rw[o4];simp
   have PO:aL (J1.length+1) U.length r2:=by rw[o4];simp
   rw[←o4];rw[show aG.cells (br xs++([.int .i64 n,.int .i64 id]++r2))=.cells (br (xs++[(n,id)])++r2) by rw[←append_assoc,ow xs (n,id)]];have kT:Has (J1++[.cells (br (xs++[(n,id)])++r2)]) (((HQ,.cells [.int .i64 f0,.int .i64 n])::R)++(b6,.map (bE (E1++⟨f0,xs,i,cap,rest⟩::E2)))::(gG E1++(J1.length,.cells (br (xs++[(n,id)])++r2))::gG E2)):=by
    have h0:Has J1 (((HQ,.cells [.int .i64 f0,.int .i64 n])::R)++(b6,.map (bE (E1++⟨f0,xs,i,cap,rest⟩::E2)))::(gG E1++gG E2)):=N3.sub (List.Sublist.append_left (List.Sublist.cons_cons _ (List.Sublist.append_left (sublist_cons_self _ _) _)) _);refine(h0.new _).perm ?_;simp only[append_assoc,List.cons_append];exact((((perm_append_singleton _ _).symm.append_left _).cons _).append_left _).cons _
   have oT:=q5.app [aG.cells (br (xs++[(n,id)])++r2)];have BM:bM (J1++[.cells (br (xs++[(n,id)])++r2)]) U:=BG.snoc (by simp[PO]);have hl:(J1++[aG.cells (br (xs++[(n,id)])++r2)]).length=J1.length+1:=by simp
   have FD:=fun e=>fin e _ J1.length nc r2 kT BM oT (by omega) Ij (by omega) (by omega)
   (try simp(disch:=omega)[q4,e6,SN])
   refine hK _ ?_;rw[←List.set_append_left _ _ l6];refine FD _ ?_;simp;omega
end Go.Proofs.YtneohapkboaplaaGreat
