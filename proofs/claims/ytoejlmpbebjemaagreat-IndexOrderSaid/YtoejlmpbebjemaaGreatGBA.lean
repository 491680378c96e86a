/- segment.Build (layer 39): what is gathered in its maps; one word. segment.Build (layer 39): one word. segment.Build (layer 39): the words of a zone, the zones of a document. segment.Build (layer 39): one number.
  Conditions: lengths below 400 or 1000, as each theorem says. -/
import Derived.Test.YtoejlmpbebjemaaGreatGC
import Derived.Test.YtoejlmpbebjemaaGreatGSR
import Derived.Test.YtoejlmpbebjemaaGreatAmC
import Derived.Test.YtoejlmpbebjemaaGreatAmA
set_option linter.all false
set_option maxRecDepth 100000
set_option maxHeartbeats 16000000
open List (getD_eq_getElem?_getD append_assoc find?_append)
namespace eT
open Go Go.Am
structure En where
 k:Ky
 dZ:List (Ps×Tag)
 d:Int
 at_:List Int
 tk:Nat
 i:Nat
 cap:Nat
 rest:List AV
def En.n (e:En):Nat:=e.dZ.length+1
def En.pl (e:En):List Ps:=e.dZ.map (·.1)++[(e.d,e.at_)]
abbrev pwC (x:Ps×Tag):List AV:=[.int .i64 x.1.1,.sl x.1.2.length (ints x.1.2) x.2]
def lP (l:List (Ps×Tag)):List AV:=l.flatMap pwC
def BM:eu pwC 2:=λ_=>rfl
def mi (l:List (Ps×Tag)):(lP l).length=l.length*2:=bU BM l
def jN (d:Int)(at_:List Int)(tg:Tag):List AV:=[.int .i64 d,.sl at_.length (ints at_) tg]
def gX (dZ:List (Ps×Tag))(d:Int)(at_:List Int)(tg:Tag)(rest:List AV):az:=.cells (lP dZ++(jN d at_ tg++rest))
def En.blk (e:En):az:=gX e.dZ e.d e.at_ (.own e.tk) e.rest
def mZ (k:Ky):cQ:=.agg [.int .i64 k.1,.str k.2]
def xO {a b:Ky}:mZ a=mZ b↔a=b:=by
 obtain⟨a1,a2⟩:=a;obtain⟨b1,b2⟩:=b;simp[mZ]
def cz (E:List En):List (cQ×AV):=E.map λe=>(mZ e.k,.bG e.i e.n e.cap)
def dV (E:List En):List (Nat×az):=E.map λe=>(e.i,e.blk)
def ka (E:List En):List (Nat×(Nat×Nat)):=E.map λe=>(e.tk,(e.at_.length,1))
structure GL (nb tb N:Nat)(e:En):Prop where
 r:e.rest.length=(e.cap-e.n)*2
 c:e.n<=e.cap
 n:e.n<=N
 a:e.at_.length<=N
 i:nb<=e.i
 t:tb<=e.tk
def Re (E:List En)(k:Ky):List Ps:=match E.find? (λe=>e.k==k) with
 |some e=>e.pl
 |none=>[]
def wY (l:List Ps)(d p:Int):List Ps:=match l.getLast? with
 |some q=>if q.1=d then l.dropLast++[(q.1,q.2++[p])] else l++[(d,[p])]
 |none=>[(d,[p])]
def qK (l:List Ps)(d0:Int)(a:List Int)(d p:Int):wY (l++[(d0,a)]) d p=if d0=d then l++[(d0,a++[p])] else (l++[(d0,a)])++[(d,[p])]:=by
 simp[wY]
structure oV (E:List En)(k:Ky)(d p:Int)(E':List En):Prop where
 lk:∀k',Re E' k'=if k'=k then wY (Re E k) d p else Re E k'
 nd:(E'.map (·.k)).Nodup
 ks:∀k',k'∈E'.map (·.k)↔k'=k\/k'∈E.map (·.k)
def pT {E1 E2:List En}{e:En}(h:((E1++e::E2).map (·.k)).Nodup)(k:Ky):(E1++e::E2).find? (λx=>x.k==k)=if k=e.k then some e else (E1++E2).find? (λx=>x.k==k):=by
 have h1:∀x∈E1,x.k≠e.k:=λx hx=>by
  rw[ahx,ah2] at h;exact h.2.2 x.k (ahl.2 ⟨x,hx,rfl⟩) e.k (by simp)
 rw[find?_append,List.find?_cons,find?_append]
 by_cases hk:k=e.k
 ·subst hk;have:E1.find? (λx=>x.k==e.k)=none:=by
   rw[aiy];intro x hx;simpa using h1 x hx
  rw[this];simp
 ·rw[ahq hk,ah5.2 (Ne.symm hk)]
def oV.old {E1 E2:List En}{e e':En}{d p:Int}(h:((E1++e::E2).map (·.k)).Nodup)(hk:e'.k=e.k)(hp:e'.pl=wY e.pl d p):oV (E1++e::E2) e.k d p (E1++e'::E2):=by
 have h':((E1++e'::E2).map (·.k)).Nodup:=by
  rw[ahx,ahX,hk];rwa [ahx,ahX] at h
 refine⟨λk'=>?_,h',λk'=>?_⟩
 ·unfold Re;rw[pT h',pT h,pT h,hk]
  by_cases hh:k'=e.k
  ·subst hh;simp[hp]
  ·simp only[ahq hh]
 ·simp only[ahx,ahX,hk,ahw,ahL]
  constructor
  ·exact .inr
  ·rintro (rfl|hh)
   ·exact .inr (.inl rfl)
   ·exact hh
def oV.add {E:List En}{e':En}{d p:Int}(h:(E.map (·.k)).Nodup)(hk:e'.k∉E.map (·.k))(hp:e'.pl=[(d,[p])]):oV E e'.k d p (E++[e']):=by
 have h':((E++e'::[]).map (·.k)).Nodup:=by
  rw[ahx,ah2];exact⟨h,by simp,λa ha b hb=>by simp at hb;rintro rfl;rw[hb] at ha;exact hk ha⟩
 have hn:E.find? (λx=>x.k==e'.k)=none:=by
  rw[aiy];intro x hx;have:x.k≠e'.k:=λee=>hk (ahl.2 ⟨x,hx,ee⟩);simpa using this
 refine⟨λk'=>?_,h',λk'=>?_⟩
 ·unfold Re;rw[pT h']
  by_cases hh:k'=e'.k
  ·subst hh;rw[hn];simp[hp,wY]
  ·simp only[ahq hh,ahH]
 ·simp[or_comm]
end eT
namespace Go.Proofs.YtoejlmpbebjemaaGreat
open Go.Proofs.Tryz(prog)
open Go Go.Am im eT
def nV {α β:Type}{f:α->β}(hf:∀a b,f a=f b->a=b){l:List α}(h:l.Nodup):(l.map f).Nodup:=by
 rw[List.Nodup,ahY];exact h.imp λhab he=>hab (hf _ _ he)
def AL (E:List En):(cz E).map (·.1)=(E.map (·.k)).map mZ:=by simp[cz,Function.comp_def]
def QE {E1 E2:List En}{e:En}(h:((E1++e::E2).map (·.k)).Nodup):vR (cz (E1++e::E2)) (mZ e.k)=some (.bG e.i e.n e.cap):=by
 have hn:((cz (E1++e::E2)).map (·.1)).Nodup:=by
  rw[AL];exact nV (λa b hab=>xO.1 hab) h
 have hj:E1.length<(cz (E1++e::E2)).length:=by simp[cz]
 have he:(cz (E1++e::E2))[E1.length]'hj=(mZ e.k,.bG e.i e.n e.cap):=by simp[cz]
 rw[wo hn hj (by rw[he]),he]
def QD {E1 E2:List En}{e:En}(h:((E1++e::E2).map (·.k)).Nodup)(e':En)(hk:e'.k=e.k):kT (cz (E1++e::E2)) (mZ e.k) (.bG e'.i e'.n e'.cap)=cz (E1++e'::E2):=by
 have hn:((cz (E1++e::E2)).map (·.1)).Nodup:=by
  rw[AL];exact nV (λa b hab=>xO.1 hab) h
 have hj:E1.length<(cz (E1++e::E2)).length:=by simp[cz]
 have he:(cz (E1++e::E2))[E1.length]'hj=(mZ e.k,.bG e.i e.n e.cap):=by simp[cz]
 rw[BO hn hj (by rw[he])];simp[cz,hk]
def AK {E:List En}{k:Ky}(h:k∉E.map (·.k)):∀x∈cz E,x.1≠mZ k:=by
 intro x hx;obtain⟨e,he,rfl⟩:=ahl.1 hx;exact λhh=>h (ahl.2 ⟨e,he,xO.1 hh⟩)
def QF {E:List En}(e':En)(h:e'.k∉E.map (·.k)):kT (cz E) (mZ e'.k) (.bG e'.i e'.n e'.cap)=cz (E++[e']):=by
 rw[nW (AK h)];simp[cz]
def IJ {E:List En}{n t:Nat}(h:∀e∈E,e.i<n):aK n t ((cz E).map (·.2)):=by
 intro v hv;simp only[cz,ain,ahl,Function.comp] at hv;obtain⟨e,he,rfl⟩:=hv;exact .bG _ _ _ (h e he)
def ZE (k:Ky)(hk:-9223372036854775808<=k.1/\k.1<=9223372036854775807)(hs:k.2.length<=maxLen):mN prog 193 (mZ k)=true:=by
 have hu:=Tryz.underlying193;have h3:prog.underlying 3=some (.int .i64):=by kernel_rfl
 have h9:prog.underlying 9=some .string:=by kernel_rfl
 have c3:prog.cellsOf 3=1:=by kernel_rfl
 have c9:prog.cellsOf 9=1:=by kernel_rfl
 have XJ:prog.keyType 193=true:=by kernel_rfl
 have hsz:prog.types.size=315:=by kernel_rfl
 have Yp:(Lit.int .i64 k.1).wf=true:=by
  simp only[Lit.wf,aht,ahv];exact hk
 have e1:prog.keyLits 315 3 [.int .i64 k.1]=some [.int .i64 k.1]:=by
  show prog.keyLits (314+1) 3 _=_;unfold Program.keyLits;rw[h3];simp only[Yp,and_self,ai1]
 have e2:prog.keyLits 315 9 [.string ⟨k.2.toArray⟩]=some [.string k.2]:=by
  show prog.keyLits (314+1) 9 _=_;unfold Program.keyLits;rw[h9];have:(⟨k.2.toArray⟩:ByteArray).size<=maxLen:=by
   show k.2.toArray.size<=maxLen;simpa using hs
  simp only[this,ai1]
 have hl:prog.keyLits (315+1) 193 [.int .i64 k.1,.string ⟨k.2.toArray⟩]=some [.int .i64 k.1,.string k.2]:=by
  unfold Program.keyLits;rw[hu];simp[EZ,c3,c9,e1,e2]
 unfold mN keyOf;rw[hu];have hf:(cQ.val (mZ k)).formed prog 193=true:=by
  simp[mZ,cQ.val,KC.val,Value.formed,hu,EZ]
 simp only[XJ,hf,Bool.and_self,ai1,hsz];have:(cQ.val (mZ k)).cells.toList=[.int .i64 k.1,.string ⟨k.2.toArray⟩]:=rfl;rw[this,hl];rfl
end Go.Proofs.YtoejlmpbebjemaaGreat
namespace Go.Am
def gM {α:Type}(H K:List α):Prop:=∃X,K=H++X
section
variable {α : Type} {H K : List α}
def gM.app (h:gM H K)(X:List α):gM H (K++X):=by
 obtain⟨Y,rfl⟩:=h;exact⟨Y++X,by rw[ahA]⟩
theorem gM.set (h:gM H K){i:Nat}(hi:H.length<=i)(x:α):gM H (K.set i x):=by
 obtain⟨Y,rfl⟩:=h;exact⟨Y.set (i-H.length) x,by rw[aiS _ _ hi]⟩
def aW {i:Nat}{b:α}(g:K[i]?=some b):∀h:i<K.length,K[i]'h=b:=λh=>by rw[ahi h] at g;exact Option.some.inj g
def gM.le (h:gM H K):H.length<=K.length:=by
 obtain⟨Y,rfl⟩:=h;simp
end
end Go.Am
namespace Go.Proofs.YtoejlmpbebjemaaGreat
open Go.Proofs.Tryz(prog)
open Go Go.Am im eT
def Pa (dZ:List (Ps×Tag))(d:Int)(at_:List Int)(tg:Tag)(rest:List AV):(lP dZ++(jN d at_ tg++rest)).getD (dZ.length*2) .top=.int .i64 d/\(lP dZ++(jN d at_ tg++rest)).getD (dZ.length*2+1) .top=.sl at_.length (ints at_) tg:=by
 have h:=mi dZ
 constructor
 ·rw[ahg,ahC (by omega),h,aiH];rfl
 ·rw[ahg,ahC (by omega),h,show dZ.length*2+1-dZ.length*2=1 by omega];rfl
def Up (dZ:List (Ps×Tag))(d:Int)(at_ Y1:List Int)(tg RH:Tag)(rest:List AV):(lP dZ++(jN d at_ tg++rest)).set (dZ.length*2+1) (.sl Y1.length (ints Y1) RH)=lP dZ++(jN d Y1 RH++rest):=by
 have h:=mi dZ;rw[aiS _ _ (by omega),h,show dZ.length*2+1-dZ.length*2=1 by omega];rfl
def Af (dZ:List (Ps×Tag))(d:Int)(at_:List Int)(tg:Tag):lP dZ++jN d at_ tg=lP (dZ++[((d,at_),tg)]):=by simp[lP,jN]
attribute [-simp] getD_eq_getElem?_getD in
def xy (H:List az)(T:au)(nb tb N:Nat)(gG:nb<=H.length)(fY:tb<=T.length)(L:List Dc)(zs:List Zn)(ws:List Wd)(vi vj vk b2 b4 b5 b6 b8 tT Gf CN:Nat)(id f:Int)(s:Bs)(p:Int)(E1 E2:List En)(es:List (cQ×AV))(J:List az)(U:au)(R:List (Nat×az))(RT:List (Nat×(Nat×Nat)))
  (i cap:Nat) (dZ:List (Ps×Tag)) (rest:List AV) (qY:List Int) (tg:Tag)
  (hJ:Has J (R++(b5,.map es)::(dV E1++(i,gX dZ id qY tg rest)::dV E2)))
  (hU:(qY=[]/\tg=.full/\Has U (RT++(ka E1++ka E2)))\/∃tk,tg=.own tk/\Has U (RT++(ka E1++(tk,(qY.length,1))::ka E2))/\T.length<=tk)
  (hE:∀e,e∈E1\/e∈E2->GL H.length T.length (N+1) e) (hN:N<=1099511627776) (hr:rest.length=(cap-(dZ.length+1))*2) (hcap:dZ.length+1<=cap) (hn:dZ.length<=N) (ha:qY.length<=N) (hi:H.length<=i)
  (iY:kT es (mZ (f,s)) (.bG i (dZ.length+1) cap)=cz (E1++⟨(f,s),dZ,id,qY++[p],0,i,cap,rest⟩::E2)) (nu:dq prog 193 es=true)
  (E:List En) (pD:∀Ko:En,Ko.k=(f,s)->Ko.pl=dZ.map (·.1)++[(id,qY++[p])]->oV E (f,s) id p (E1++Ko::E2))
  (h12:(Gf,.cells [.str s,.int .i64 p])∈R) (Gv:(CN,.cells [.int .i64 f,.str s])∈R) (Kh:H.length<=b5) (jH:b2<J.length) (XI:b4<J.length) (hl6:b6<J.length) (hl8:b8<J.length) (Zo:tT<J.length)
  (hf:-9223372036854775808<=f/\f<=9223372036854775807) (hs:s.length<=maxLen) (Ns:gM H J) (Gd:gM T U) (HO:bJ J U) (Q:Exit->St->Prop)
  (go:∀(e:Env)(J':List az)(U':au)(E':List En),Has J' (R++(b5,.map (cz E'))::dV E')->Has U' (RT++ka E')->(∀e∈E',GL H.length T.length (N+1) e)->dq prog 193 (cz E')=true->oV E (f,s) id p E'->gM H J'->gM T U'->J.length<=J'.length->U.length<=U'.length->bJ J' U'->
   bu J'.length U'.length e [(0,.sl L.length (aM L) .none),(2,.ptr b2 0),(4,.ptr b4 0),(5,.aP b5),(6,.aP b6),(8,.ptr b8 0),(10,.ptr tT 0),(34,.sl L.length (aM L) .none),(35,.int .i64 (L.length:Nat)),(36,.int .i64 (vi:Nat)),(63,.sl zs.length (fu zs) .none),(64,.int .i64 (zs.length:Nat)),(65,.int .i64 (vj:Nat)),(70,.sl ws.length (dR ws) .none),(71,.int .i64 (ws.length:Nat)),(72,.int .i64 (vk:Nat))]->Q .normal ⟨e,J',U'⟩) :
  AW ⟨prog,192,152,nb,tb,[100104,100147,100166]⟩ (dY [1,1,1,1,1,1,1,1,0,1,0,0,1,1,0,0,1,1,1,0,1,0,0,1,1,0,0,1,1,0,0,1,1,0,0,1,1,1,1] (Tryz.f68.body.getD .skip)) Q ⟨[(14,.bG i (dZ.length+1) cap),(12,.ptr Gf 0),(13,.ptr CN 0),(0,.sl L.length (aM L) .none),(2,.ptr b2 0),(4,.ptr b4 0),(5,.aP b5),(6,.aP b6),(8,.ptr b8 0),(10,.ptr tT 0),(34,.sl L.length (aM L) .none),(35,.int .i64 (L.length:Nat)),(36,.int .i64 (vi:Nat)),(63,.sl zs.length (fu zs) .none),(64,.int .i64 (zs.length:Nat)),(65,.int .i64 (vj:Nat)),(70,.sl ws.length (dR ws) .none),(71,.int .i64 (ws.length:Nat)),(72,.int .i64 (vk:Nat))],J,U⟩:=by
 conv=>arg 2;whnf
 have gi:=hJ.get (i:=i) (b:=gX dZ id qY tg rest) (by simp);have g5:=hJ.get (i:=b5) (b:=.map es) (by simp);have YV:=hJ.get (ahG _ h12);have Km:=hJ.get (ahG _ Gv);have li:=(ahh.1 gi).1;have l5:=(ahh.1 g5).1;have l12:=(ahh.1 YV).1;have l13:=(ahh.1 Km).1;have lH:=Ns.le;have lT:=Gd.le;have ei:=aW gi;have e5:=aW g5;have e12:=aW YV;have Kn:=aW Km;have yL:=ZE (f,s) hf hs;have kY:mZ (f,s)=.agg [.int .i64 f,.str s]:=rfl;rw[kY] at yL;rw[kY] at iY;obtain⟨wL,kP⟩:=Pa dZ id qY tg rest;have vO:(lP dZ++(jN id qY tg++rest)).length=dZ.length*2+(2+rest.length):=by rw[ahk,mi,ahk];rfl
 unfold gX at ei;have hbs:=λY1 RH=>Up dZ id qY Y1 tg RH rest;refine aJ [14,17] [0,0,0,0,0,0,0,0,0,0,0,0,0,0,0,1,1,1] [[0,1,2,3],[]] aw (by kernel_rfl) (by kernel_rfl) λK hK=>?_;have fin:∀(e':Env)(U':au)(F8:Nat),Has U' (RT++(ka E1++(F8,((qY++[p]).length,1))::ka E2))->T.length<=F8->gM T U'->U.length<=U'.length->
   bu J.length U'.length e' [(14,.bG i (dZ.length+1) cap),(13,.ptr CN 0),(0,.sl L.length (aM L) .none),(2,.ptr b2 0),(4,.ptr b4 0),(5,.aP b5),(6,.aP b6),(8,.ptr b8 0),(10,.ptr tT 0),(34,.sl L.length (aM L) .none),(35,.int .i64 (L.length:Nat)),(36,.int .i64 (vi:Nat)),(63,.sl zs.length (fu zs) .none),(64,.int .i64 (zs.length:Nat)),(65,.int .i64 (vj:Nat)),(70,.sl ws.length (dR ws) .none),(71,.int .i64 (ws.length:Nat)),(72,.int .i64 (vk:Nat))]->K ⟨e',J.set i (.cells (lP dZ++(jN id (qY++[p]) (.own F8)++rest))),U'⟩:=by
  intro e' U' F8 hU' aeJ afu hUl CG;have iW:Has (J.set i (gX dZ id (qY++[p]) (.own F8) rest)) (R++(b5,.map es)::(dV E1++(i,gX dZ id (qY++[p]) (.own F8) rest)::dV E2)):=by
   have:=Has.set (A:=R++(b5,.map es)::dV E1) (B:=dV E2) (by simpa using hJ) (gX dZ id (qY++[p]) (.own F8) rest);simpa using this
  have sv:gM H (J.set i (gX dZ id (qY++[p]) (.own F8) rest)):=Ns.set hi _;have hl:(J.set i (gX dZ id (qY++[p]) (.own F8) rest)).length=J.length:=by simp
  rw[show az.cells (lP dZ++(jN id (qY++[p]) (.own F8)++rest))=gX dZ id (qY++[p]) (.own F8) rest from rfl];generalize J.set i (gX dZ id (qY++[p]) (.own F8) rest)=J2 at *;refine hK _ (dA λfx=>aH ⟨[(14,.bG i (dZ.length+1) cap),(13,.ptr CN 0),(0,.sl L.length (aM L) .none),(2,.ptr b2 0),(4,.ptr b4 0),(5,.aP b5),(6,.aP b6),(8,.ptr b8 0),(10,.ptr tT 0),(34,.sl L.length (aM L) .none),(35,.int .i64 (L.length:Nat)),(36,.int .i64 (vi:Nat)),(63,.sl zs.length (fu zs) .none),(64,.int .i64 (zs.length:Nat)),(65,.int .i64 (vj:Nat)),(70,.sl ws.length (dR ws) .none),(71,.int .i64 (ws.length:Nat)),(72,.int .i64 (vk:Nat))],J2,U'⟩ (ag [] [] (by simp) (by simp) (by show nb<=_;omega) (by show tb<=_;omega) fx (by rw[hl];exact CG)) ?_);simp only at fx;have g5:=iW.get (i:=b5) (b:=.map es) (by simp);have Km:=iW.get (ahG _ Gv);have l5:=(ahh.1 g5).1;have l13:=(ahh.1 Km).1;have e5:=aW g5;have Kn:=aW Km;clear g5 Km ei e12 gi;refine dA λBd=>?_;obtain⟨ee,qX⟩:∃ee:En,ee=⟨(f,s),dZ,id,qY++[p],F8,i,cap,rest⟩:=⟨_,rfl⟩
  have Gp:cz (E1++⟨(f,s),dZ,id,qY++[p],0,i,cap,rest⟩::E2)=cz (E1++ee::E2):=by rw[qX];simp[cz,En.n]
  rw[Gp] at iY;have GG:dq prog 193 (cz (E1++ee::E2))=true:=by rw[<-iY];exact qc nu yL
  have hS:dV (E1++ee::E2)=dV E1++(i,gX dZ id (qY++[p]) (.own F8) rest)::dV E2:=by rw[qX];simp[dV,En.blk]
  have hT:ka (E1++ee::E2)=ka E1++(F8,((qY++[p]).length,1))::ka E2:=by rw[qX];simp[ka]
  rw[<-hS] at iW;rw[<-hT] at hU';refine aB λK hK=>?_;simp(disch:=omega)[wu,e5,Kn,yL,nu,iY];apply hK;have zy:=iW.set (.map (cz (E1++ee::E2)));have hb:∀e∈E1++ee::E2,e.i<J2.length:=λe he=>iW.lt (b:=e.blk) (by simp only[ahw,ahL];exact .inr (.inr (ahl.2 ⟨e,he,rfl⟩)));refine go _ _ _ (E1++ee::E2) zy hU' (λe he=>?_) GG (pD ee (by rw[qX]) (by rw[qX];rfl)) (sv.set Kh _) afu (by simp;omega) hUl (fx.rM (IJ hb)) ?_
  ·rcases ahw.1 he with he|he
   ·exact hE e (.inl he)
   ·rcases ahL.1 he with rfl|he
    ·rw[qX];exact⟨hr,hcap,by show dZ.length+1<=_;omega,by show (qY++[p]).length<=_;simp;omega,hi,aeJ⟩
    ·exact hE e (.inr he)
  ·simp;omega
 rcases hU with⟨rfl,rfl,hU⟩|⟨tk,rfl,hU,iH⟩
 ·have Oo:(lP dZ++(jN id [] .full++rest)).set (dZ.length*2+1) (.sl 1 [.int .i64 p] (.own U.length))=lP dZ++(jN id ([]++[p]) (.own U.length)++rest):=hbs [p] _;simp(disch:=omega)[ei,e12,wL,kP,vO];rw[Oo];refine fin _ _ U.length ?_ lT (Gd.app _) (by simp) ?_
  ·refine(hU.new (1,1)).perm ?_;simp only[ahA];exact((ah6 _ _).symm.append_left _).append_left _
  ·simp;omega
 ·have Oo:(lP dZ++(jN id qY (.own tk)++rest)).set (dZ.length*2+1) (.sl (qY.length+1) (ints qY++[.int .i64 p]) (.own tk))=lP dZ++(jN id (qY++[p]) (.own tk)++rest):=by
   rw[eG];have:=hbs (qY++[p]) (.own tk)
   rwa [ahk] at this
  have gU:=hU.get (i:=tk) (b:=(qY.length,1)) (by simp);have lU:=(ahh.1 gU).1;have eU:=aW gU;simp(disch:=omega)[ei,e12,wL,kP,vO,eU];rw[Oo];refine fin _ _ tk ?_ iH (Gd.set iH _) (by simp) ?_
  ·have:=Has.set (A:=RT++ka E1) (B:=ka E2) (by simpa using hU) (qY.length+1,1);simpa using this
  ·simp;omega
def KP (H : List az) (T : au) (nb tb N : Nat) (gG : nb <= H.length) (fY : tb <= T.length) (L : List Dc) (zs : List Zn) (ws : List Wd) (vi vj vk b2 b4 b5 b6 b8 tT Gf CN : Nat) (id f : Int) (s : Bs) (p : Int) (zv nv : AV) (E : List En) (J : List az) (U : au) (R : List (Nat × az)) (RT : List (Nat × (Nat × Nat)))
    (hJ : Has J (R ++ (b5, .map (cz E)) :: dV E)) (hU : Has U (RT ++ ka E)) (hE : ∀ e ∈ E, GL H.length T.length N e) (hN : N <= 1099511627776) (mU : (E.map (·.k)).Nodup) (nu : dq prog 193 (cz E) = true)
    (h8 : (b8, .cells [.int .i64 id, zv, nv]) ∈ R) (h12 : (Gf, .cells [.str s, .int .i64 p]) ∈ R) (Gv : (CN, .cells [.int .i64 f, .str s]) ∈ R) (Kh : H.length <= b5) (jH : b2 < J.length) (XI : b4 < J.length) (hl6 : b6 < J.length) (Zo : tT < J.length)
    (hf : -9223372036854775808 <= f /\ f <= 9223372036854775807) (hs : s.length <= maxLen) (Ns : gM H J) (Gd : gM T U) (Q : Exit -> St -> Prop)
    (go : ∀ (e : Env) (J' : List az) (U' : au) (E' : List En), Has J' (R ++ (b5, .map (cz E')) :: dV E') -> Has U' (RT ++ ka E') -> (∀ e ∈ E', GL H.length T.length (N + 1) e) -> dq prog 193 (cz E') = true -> oV E (f, s) id p E' -> gM H J' -> gM T U' -> J.length <= J'.length -> U.length <= U'.length -> bJ J' U' ->
      bu J'.length U'.length e [(0, .sl L.length (aM L) .none), (2, .ptr b2 0), (4, .ptr b4 0), (5, .aP b5), (6, .aP b6), (8, .ptr b8 0), (10, .ptr tT 0), (34, .sl L.length (aM L) .none), (35, .int .i64 (L.length : Nat)), (36, .int .i64 (vi : Nat)), (63, .sl zs.length (fu zs) .none), (64, .int .i64 (zs.length : Nat)), (65, .int .i64 (vj : Nat)), (70, .sl ws.length (dR ws) .none), (71, .int .i64 (ws.length : Nat)), (72, .int .i64 (vk : Nat))] -> Q .normal ⟨e, J', U'⟩) :
    AW ⟨prog, 192, 152, nb, tb, [100104, 100147, 100166]⟩ (dY [1, 1, 1, 1, 1, 1, 1, 1, 0, 1, 0, 0, 1, 1, 0, 0, 1, 1, 1, 0, 1, 0, 0, 1, 1, 0, 0, 1, 1, 0, 0, 1, 1, 0, 0, 1, 1] (Tryz.f68.body.getD .skip)) Q ⟨[(12, .ptr Gf 0), (13, .ptr CN 0), (0, .sl L.length (aM L) .none), (2, .ptr b2 0), (4, .ptr b4 0), (5, .aP b5), (6, .aP b6), (8, .ptr b8 0), (10, .ptr tT 0), (34, .sl L.length (aM L) .none), (35, .int .i64 (L.length : Nat)), (36, .int .i64 (vi : Nat)), (63, .sl zs.length (fu zs) .none), (64, .int .i64 (zs.length : Nat)), (65, .int .i64 (vj : Nat)), (70, .sl ws.length (dR ws) .none), (71, .int .i64 (ws.length : Nat)), (72, .int .i64 (vk : Nat))], J, U⟩ := by
  conv => arg 2; whnf
  have g5 := hJ.get (i := b5) (b := .map (cz E)) (by simp);have g8 := hJ.get (ahG _ h8);have YV := hJ.get (ahG _ h12);have Km := hJ.get (ahG _ Gv);have l5 := (ahh.1 g5).1;have l8 := (ahh.1 g8).1;have l12 := (ahh.1 YV).1;have l13 := (ahh.1 Km).1;have lH := Ns.le;have lT := Gd.le;have e5 := aW g5;have e8 := aW g8;have e12 := aW YV;have Kn := aW Km;have yL := ZE (f, s) hf hs;have kY : mZ (f, s) = .agg [.int .i64 f, .str s] := rfl;rw [kY] at yL;refine dA λHO => ?_;simp only at HO
  by_cases hex : (f, s) ∈ E.map (·.k)
  rotate_left
  · have eE : jg (cz E) (.agg [.int .i64 f, .str s]) (.sl 0 [] .full) false = .sl 0 [] .full := by
      unfold jg;rw [<- kY, qw (AK hex)];rfl
    refine ae λK hK => ?_; simp (maxSteps := 1000000) (disch := omega) [-getD_eq_getElem?_getD, wu, DB, yL, nu, e5, Kn, eE]; refine hK _ ?_; clear hK K;refine af λK1 aO => ?_;refine aJ [] [] [] aw (by kernel_rfl) (by kernel_rfl) λK hK => ?_; simp (maxSteps := 1000000) (disch := omega) [-getD_eq_getElem?_getD];refine hK _ ?_; clear hK K;refine aT rfl (λh => ?_) (λh => absurd h (by simp));refine aB λK hK => ?_; simp (maxSteps := 1000000) (disch := omega) [-getD_eq_getElem?_getD, e8];intro nc lC;refine hK _ ?_; clear hK K;refine aO _ ?_; clear aO;have CH : az.cells (.int .i64 id :: .sl 0 [] .full :: List.replicate ((nc - 1) * 2) .top) = gX [] id [] .full (List.replicate ((nc - 1) * 2) .top) := rfl;rw [CH];have iW := hJ.new (gX [] id [] .full (List.replicate ((nc - 1) * 2) .top));have sv := Ns.app [gX [] id [] .full (List.replicate ((nc - 1) * 2) .top)];have ae8 : (J ++ [gX [] id [] .full (List.replicate ((nc - 1) * 2) .top)]).length = J.length + 1 := by simp
    obtain ⟨i, hi⟩ : ∃ i, i = J.length := ⟨_, rfl⟩
    rw [<- hi] at iW;simp only [<- hi];generalize J ++ [gX [] id [] .full (List.replicate ((nc - 1) * 2) .top)] = J2 at *;refine dA λfx => ?_;simp only at fx;refine aH ⟨[(14, .bG i (([] : List (Ps × Tag)).length + 1) nc), (12, .ptr Gf 0), (13, .ptr CN 0), (0, .sl L.length (aM L) .none), (2, .ptr b2 0), (4, .ptr b4 0), (5, .aP b5), (6, .aP b6), (8, .ptr b8 0), (10, .ptr tT 0), (34, .sl L.length (aM L) .none), (35, .int .i64 (L.length : Nat)), (36, .int .i64 (vi : Nat)), (63, .sl zs.length (fu zs) .none), (64, .int .i64 (zs.length : Nat)), (65, .int .i64 (vj : Nat)), (70, .sl ws.length (dR ws) .none), (71, .int .i64 (ws.length : Nat)), (72, .int .i64 (vk : Nat))], J2, U⟩ (ag [] [] (by simp) (by simp) (by show nb <= _; omega) (by show tb <= _; omega) fx (by simp; omega)) ?_;have ag2 : ((E ++ [(⟨(f, s), [], id, [p], 0, i, nc, []⟩ : En)]).map (·.k)).Nodup := by
      rw [ahx, ah2];exact ⟨mU, by simp, λa ha b hb => by simp at hb; rintro rfl; rw [hb] at ha; exact hex ha⟩
    exact xy H T nb tb N gG fY L zs ws vi vj vk b2 b4 b5 b6 b8 tT Gf CN id f s p E [] (cz E) J2 U R RT i nc [] (List.replicate ((nc - 1) * 2) .top) [] .full (by simpa [dV] using iW) (.inl ⟨rfl, rfl, by simpa [ka] using hU⟩)
      (λe he => by
        rcases he with he | he
        · have := hE e he; exact ⟨this.r, this.c, ajX this.n, ajX this.a, this.i, this.t⟩
        · simp at he) hN (by simp) lC (ahu _) (ahu _) (by omega) (QF ⟨(f, s), [], id, [] ++ [p], 0, i, nc, List.replicate ((nc - 1) * 2) .top⟩ hex) nu E
      (λKo hk hp => by have := oV.add (e' := Ko) (d := id) (p := p) mU (by rw [hk]; exact hex) (by rw [hp]; rfl); rwa [hk] at this)
      h12 Gv Kh (by omega) (by omega) (by omega) (by omega) (by omega) hf hs sv Gd fx Q (λe J' U' E' a1 a2 a3 a4 a5 a6 a7 a8 => go e J' U' E' a1 a2 a3 a4 a5 a6 a7 (by omega))
  · obtain ⟨e, NJ, zx⟩ := ahl.1 hex;obtain ⟨E1, E2, rfl⟩ := ajF NJ;obtain ⟨k0, dZ, d, at_, tk, i, cap, rest⟩ := e;simp only at zx;subst zx;have jK := hE _ NJ;have YN : ∀ e, e ∈ E1 \/ e ∈ E2 -> GL H.length T.length (N + 1) e := λe he => by
      have := hE e (by rcases he with he | he <;> simp [he]); exact ⟨this.r, this.c, ajX this.n, ajX this.a, this.i, this.t⟩
    obtain ⟨q1, q2, q3, q4, q5, q6⟩ := jK;simp only [En.n] at q1 q2 q3 q4 q5 q6;have Nu : Has J (R ++ (b5, .map (cz (E1 ++ ⟨(f, s), dZ, d, at_, tk, i, cap, rest⟩ :: E2))) :: (dV E1 ++ (i, gX dZ d at_ (.own tk) rest) :: dV E2)) := by simpa [dV, En.blk] using hJ
    have hUb : Has U (RT ++ (ka E1 ++ (tk, (at_.length, 1)) :: ka E2)) := by simpa [ka] using hU
    have gi := Nu.get (i := i) (b := gX dZ d at_ (.own tk) rest) (by simp);have li := (ahh.1 gi).1;have ei := aW gi;unfold gX at ei gi;obtain ⟨wL, kP⟩ := Pa dZ d at_ (.own tk) rest;have vO : (lP dZ ++ (jN d at_ (.own tk) ++ rest)).length = dZ.length * 2 + (2 + rest.length) := by rw [ahk, mi, ahk]; rfl
    have vX := QE mU;simp only [En.n] at vX;have eE : jg (cz (E1 ++ ⟨(f, s), dZ, d, at_, tk, i, cap, rest⟩ :: E2)) (.agg [.int .i64 f, .str s]) (.sl 0 [] .full) false = .bG i (dZ.length + 1) cap := by
      unfold jg;rw [<- kY, vX];rfl
    have w9 := λe' hk => QD mU e' hk;have hold := λe' p' hk hp => oV.old (d := id) (p := p') mU (e' := e') hk hp;simp only at w9 hold;generalize hEE : cz (E1 ++ ⟨(f, s), dZ, d, at_, tk, i, cap, rest⟩ :: E2) = es at *;refine ae λK hK => ?_; simp (maxSteps := 1000000) (disch := omega) [-getD_eq_getElem?_getD, wu, DB, yL, nu, e5, Kn, eE]; refine hK _ ?_; clear hK K;refine af λK1 aO => ?_;have bn : (((dZ.length : Int) + 1) == 0) = false := ah5.2 (by omega);have YZ : ¬ ((dZ.length : Int) + 1) = 0 := by omega
    by_cases hd : d = id
    · subst hd;have bd : (d != d) = false := by simp
      refine aJ [] [] [] aw (by kernel_rfl) (by kernel_rfl) λK hK => ?_; simp (maxSteps := 1000000) (disch := omega) [-getD_eq_getElem?_getD, bn, YZ, ei, e8, wL, vO, bd];refine hK _ ?_; clear hK K;refine aT rfl (λh => absurd h (by simp)) (λh => ?_);apply aq; simp (maxSteps := 1000000) (disch := omega) [-getD_eq_getElem?_getD];refine aO _ ?_; clear aO;refine aH ⟨[(14, .bG i (dZ.length + 1) cap), (12, .ptr Gf 0), (13, .ptr CN 0), (0, .sl L.length (aM L) .none), (2, .ptr b2 0), (4, .ptr b4 0), (5, .aP b5), (6, .aP b6), (8, .ptr b8 0), (10, .ptr tT 0), (34, .sl L.length (aM L) .none), (35, .int .i64 (L.length : Nat)), (36, .int .i64 (vi : Nat)), (63, .sl zs.length (fu zs) .none), (64, .int .i64 (zs.length : Nat)), (65, .int .i64 (vj : Nat)), (70, .sl ws.length (dR ws) .none), (71, .int .i64 (ws.length : Nat)), (72, .int .i64 (vk : Nat))], J, U⟩ (ag [] [] (by simp) (by simp) (by show nb <= _; omega) (by show tb <= _; omega) HO (by simp; omega)) ?_;refine xy H T nb tb N gG fY L zs ws vi vj vk b2 b4 b5 b6 b8 tT Gf CN d f s p E1 E2 es J U R RT i cap dZ rest at_ (.own tk) Nu (.inr ⟨tk, rfl, hUb, q6⟩)
        YN hN q1 q2 (by omega) q4 q5 (w9 ⟨(f, s), dZ, d, at_ ++ [p], 0, i, cap, rest⟩ rfl) nu _
        (λKo hk hp => ?_)
        h12 Gv Kh jH XI hl6 l8 Zo hf hs Ns Gd HO Q go
      exact hold Ko p hk (by rw [hp]; show _ = wY (dZ.map (·.1) ++ [(d, at_)]) d p; rw [qK, ahs rfl])
    · have bd : (d != id) = true := by simpa using hd
      have hU0 : Has U (RT ++ (ka E1 ++ ka E2)) := hUb.sub (List.Sublist.append_left (List.Sublist.append_left (aih _ _) _) _);have pD : ∀ Ko : En, Ko.k = (f, s) -> Ko.pl = (dZ ++ [((d, at_), Tag.own tk)]).map (·.1) ++ [(id, [] ++ [p])] -> oV (E1 ++ ⟨(f, s), dZ, d, at_, tk, i, cap, rest⟩ :: E2) (f, s) id p (E1 ++ Ko :: E2) := λKo hk hp =>
        hold Ko p hk (by rw [hp]; show _ = wY (dZ.map (·.1) ++ [(d, at_)]) id p; rw [qK, ahq hd]; simp)
      have hend := λ(J2 : List az) (i2 gw : Nat) (dE : List AV) (hl : J.length <= J2.length) (iW : Has J2 (R ++ (b5, .map es) :: (dV E1 ++ (i2, gX (dZ ++ [((d, at_), Tag.own tk)]) id [] .full dE) :: dV E2))) (fx : bJ J2 U) (sv : gM H J2) (oS : dE.length = (gw - (dZ.length + 2)) * 2) (hc2 : dZ.length + 2 <= gw) (hi2 : H.length <= i2) =>
        xy H T nb tb N gG fY L zs ws vi vj vk b2 b4 b5 b6 b8 tT Gf CN id f s p E1 E2 es J2 U R RT i2 gw (dZ ++ [((d, at_), Tag.own tk)]) dE [] .full iW (.inl ⟨rfl, rfl, hU0⟩)
          YN hN (by rw [oS]; simp) (by simpa using hc2) (by simp; omega) (ahu _) hi2 (by have := w9 ⟨(f, s), dZ ++ [((d, at_), Tag.own tk)], id, [] ++ [p], 0, i2, gw, dE⟩ rfl; exact this) nu _ pD
          h12 Gv Kh (by omega) (by omega) (by omega) (by omega) (by omega) hf hs sv Gd fx Q (λe J' U' E' a1 a2 a3 a4 a5 a6 a7 a8 => go e J' U' E' a1 a2 a3 a4 a5 a6 a7 (by omega))
      have iH : (lP dZ ++ (jN d at_ (.own tk) ++ rest)).take ((dZ.length + 1) * 2) = lP (dZ ++ [((d, at_), Tag.own tk)]) := by
        rw [<- ahA, Af, aij (by rw [mi]; simp)]
      have hdr : (lP dZ ++ (jN d at_ (.own tk) ++ rest)).drop ((dZ.length + 1 + 1) * 2) = rest.drop 2 := by
        rw [<- ahA, Af, List.drop_append, ajB (by rw [mi, ahk, aib]; omega), aiQ, mi]
        congr 1; simp; omega
      refine aJ [] [] [] aw (by kernel_rfl) (by kernel_rfl) λK hK => ?_; simp (maxSteps := 1000000) (disch := omega) [-getD_eq_getElem?_getD, bn, YZ, ei, e8, wL, vO, bd];refine hK _ ?_; clear hK K;refine aT rfl (λh => ?_) (λh => absurd h (by simp));refine aB λK hK => ?_; simp (maxSteps := 1000000) (disch := omega) [-getD_eq_getElem?_getD, e8];refine ⟨140, _, [.int .i64 id, .sl 0 [] .full], 1, by kernel_rfl, gi, by rw [vO, x4]; omega, by simp, by simp; omega, by omega, by kernel_rfl, by simp, λhle => ?_, λnc hlt lC => ?_⟩
      · simp only [x4, iH, hdr];rw [show az.cells (lP (dZ ++ [((d, at_), Tag.own tk)]) ++ [.int .i64 id, .sl 0 [] .full] ++ rest.drop 2) = gX (dZ ++ [((d, at_), Tag.own tk)]) id [] .full (rest.drop 2) by rw [ahA]; rfl];have iW : Has (J.set i (gX (dZ ++ [((d, at_), Tag.own tk)]) id [] .full (rest.drop 2))) (R ++ (b5, .map es) :: (dV E1 ++ (i, gX (dZ ++ [((d, at_), Tag.own tk)]) id [] .full (rest.drop 2)) :: dV E2)) := by
          have := Has.set (A := R ++ (b5, .map es) :: dV E1) (B := dV E2) (by simpa using Nu) (gX (dZ ++ [((d, at_), Tag.own tk)]) id [] .full (rest.drop 2));simpa using this
        have sv := Ns.set q5 (gX (dZ ++ [((d, at_), Tag.own tk)]) id [] .full (rest.drop 2));have hl : J.length = (J.set i (gX (dZ ++ [((d, at_), Tag.own tk)]) id [] .full (rest.drop 2))).length := by simp
        generalize J.set i (gX (dZ ++ [((d, at_), Tag.own tk)]) id [] .full (rest.drop 2)) = J2 at *;simp (maxSteps := 1000000) (disch := omega) [-getD_eq_getElem?_getD];refine hK _ ?_; clear hK K;refine aO _ ?_; clear aO;refine dA λfx => ?_;simp only at fx;refine aH ⟨[(14, .bG i ((dZ ++ [((d, at_), Tag.own tk)]).length + 1) cap), (12, .ptr Gf 0), (13, .ptr CN 0), (0, .sl L.length (aM L) .none), (2, .ptr b2 0), (4, .ptr b4 0), (5, .aP b5), (6, .aP b6), (8, .ptr b8 0), (10, .ptr tT 0), (34, .sl L.length (aM L) .none), (35, .int .i64 (L.length : Nat)), (36, .int .i64 (vi : Nat)), (63, .sl zs.length (fu zs) .none), (64, .int .i64 (zs.length : Nat)), (65, .int .i64 (vj : Nat)), (70, .sl ws.length (dR ws) .none), (71, .int .i64 (ws.length : Nat)), (72, .int .i64 (vk : Nat))], J2, U⟩ (ag [] [] (by simp) (by simp) (by show nb <= _; omega) (by show tb <= _; omega) fx (by simp; omega)) ?_;exact hend J2 i cap (rest.drop 2) (by omega) iW fx sv (by rw [ah4]; omega) (by omega) q5
      · simp only [x4, iH];obtain ⟨r2, oS⟩ : ∃ r2, r2 = List.replicate ((nc - (dZ.length + 1 + 1)) * 2) AV.top := ⟨_, rfl⟩
        have NX : r2.length = (nc - (dZ.length + 2)) * 2 := by rw [oS]; simp
        rw [<- oS];rw [show az.cells (lP (dZ ++ [((d, at_), Tag.own tk)]) ++ [.int .i64 id, .sl 0 [] .full] ++ r2) = gX (dZ ++ [((d, at_), Tag.own tk)]) id [] .full r2 by rw [ahA]; rfl];have iW : Has (J ++ [gX (dZ ++ [((d, at_), Tag.own tk)]) id [] .full r2]) (R ++ (b5, .map es) :: (dV E1 ++ (J.length, gX (dZ ++ [((d, at_), Tag.own tk)]) id [] .full r2) :: dV E2)) := by
          have h0 : Has J (R ++ (b5, .map es) :: (dV E1 ++ dV E2)) := Nu.sub (List.Sublist.append_left (List.Sublist.cons_cons _ (List.Sublist.append_left (aih _ _) _)) _);refine (h0.new _).perm ?_;simp only [ahA, ajv];exact (((ah6 _ _).symm.append_left _).cons _).append_left _
        have sv := Ns.app [gX (dZ ++ [((d, at_), Tag.own tk)]) id [] .full r2];have ae8 : (J ++ [gX (dZ ++ [((d, at_), Tag.own tk)]) id [] .full r2]).length = J.length + 1 := by simp
        obtain ⟨i2, hi2⟩ : ∃ i, i = J.length := ⟨_, rfl⟩
        rw [<- hi2] at iW;simp only [<- hi2];generalize J ++ [gX (dZ ++ [((d, at_), Tag.own tk)]) id [] .full r2] = J2 at *;simp (maxSteps := 1000000) (disch := omega) [-getD_eq_getElem?_getD];refine hK _ ?_; clear hK K;refine aO _ ?_; clear aO;refine dA λfx => ?_;simp only at fx;refine aH ⟨[(14, .bG i2 ((dZ ++ [((d, at_), Tag.own tk)]).length + 1) nc), (12, .ptr Gf 0), (13, .ptr CN 0), (0, .sl L.length (aM L) .none), (2, .ptr b2 0), (4, .ptr b4 0), (5, .aP b5), (6, .aP b6), (8, .ptr b8 0), (10, .ptr tT 0), (34, .sl L.length (aM L) .none), (35, .int .i64 (L.length : Nat)), (36, .int .i64 (vi : Nat)), (63, .sl zs.length (fu zs) .none), (64, .int .i64 (zs.length : Nat)), (65, .int .i64 (vj : Nat)), (70, .sl ws.length (dR ws) .none), (71, .int .i64 (ws.length : Nat)), (72, .int .i64 (vk : Nat))], J2, U⟩ (ag [] [] (by simp) (by simp) (by show nb <= _; omega) (by show tb <= _; omega) fx (by simp; omega)) ?_;exact hend J2 i2 nc r2 (by omega) iW fx sv NX (by omega) (by omega)
end Go.Proofs.YtoejlmpbebjemaaGreat
namespace eT
open Go Go.Am
inductive ou (id:Int):List En->List (Ky×Int)->List En->Prop
 |nil (E:List En):ou id E [] E
 |snoc {E E1 E2:List En} {l:List (Ky×Int)} {k:Ky} {p:Int} (h:ou id E l E1) (h2:oV E1 k id p E2):ou id E (l++[(k,p)]) E2
theorem ou.trans {id:Int}{E E1 E2:List En}{l m:List (Ky×Int)}(h:ou id E l E1)(k:ou id E1 m E2):ou id E (l++m) E2:=by
 induction k with
 |nil=>simpa using h
 |snoc _ h2 ih=>rw[<-append_assoc];exact ih.snoc h2
def o6 (f:Int)(ws:List Wd):List (Ky×Int):=ws.map λw=>((f,w.1),w.2)
def eW (zs:List Zn):List (Ky×Int):=zs.flatMap λz=>o6 z.f z.ws
def KL (f:Int)(ws:List Wd)(k:Nat)(h:k<ws.length):o6 f (ws.take k)++[((f,(ws.getD k w0).1),(ws.getD k w0).2)]=o6 f (ws.take (k+1)):=by
 rw[aU ws k w0 h];simp[o6]
def MK (zs:List Zn)(k:Nat)(h:k<zs.length):eW (zs.take k)++o6 (zs.getD k z0).f (zs.getD k z0).ws=eW (zs.take (k+1)):=by
 rw[aU zs k z0 h];simp[eW]
end eT
namespace Go.Proofs.YtoejlmpbebjemaaGreat
open Go Go.Am im eT
structure BI (H:List az)(T:au)(R:List (Nat×az))(RT:List (Nat×(Nat×Nat)))(b5 N:Nat)(J:List az)(U:au)(E:List En):Prop where
 hJ:Has J (R++(b5,.map (cz E))::dV E)
 hU:Has U (RT++ka E)
 hE:∀e∈E,GL H.length T.length N e
 nd:(E.map (·.k)).Nodup
 ft:dq Tryz.prog 193 (cz E)=true
 pJ:gM H J
 pU:gM T U
 ok:bJ J U
def BI.more {H:List az}{T:au}{R:List (Nat×az)}{RT:List (Nat×(Nat×Nat))}{b5 N:Nat}{J:List az}{U:au}{E:List En}(h:BI H T R RT b5 N J U E){M:Nat}(hm:N<=M):BI H T R RT b5 M J U E:=
 ⟨h.hJ,h.hU,λe he=>have q:=h.hE e he;⟨q.r,q.c,aho q.n hm,aho q.a hm,q.i,q.t⟩,h.nd,h.ft,h.pJ,h.pU,h.ok⟩
theorem BI.sub {H:List az}{T:au}{R R':List (Nat×az)}{RT:List (Nat×(Nat×Nat))}{b5 N:Nat}{J:List az}{U:au}{E:List En}(h:BI H T R RT b5 N J U E)(hs:R'.Sublist R):BI H T R' RT b5 N J U E:=
 ⟨h.hJ.sub (hs.append_right _),h.hU,h.hE,h.nd,h.ft,h.pJ,h.pU,h.ok⟩
theorem BI.new {H:List az}{T:au}{R:List (Nat×az)}{RT:List (Nat×(Nat×Nat))}{b5 N:Nat}{J:List az}{U:au}{E:List En}(h:BI H T R RT b5 N J U E)(b:az)(ho:bJ (J++[b]) U):BI H T ((J.length,b)::R) RT b5 N (J++[b]) U E:=by
 refine⟨?_,h.hU,h.hE,h.nd,h.ft,h.pJ.app _,h.pU,ho⟩;exact(h.hJ.new b).perm (ah6 _ _).symm
def KQ (H:List az)(T:au)(nb tb N:Nat)(gG:nb<=H.length)(fY:tb<=T.length)(L:List Dc)(zs:List Zn)(ws:List Wd)(vi vj vk b2 b4 b5 b6 b8 tT:Nat)(id f:Int)(zv nv wv:AV)(E:List En)(J:List az)(U:au)(R:List (Nat×az))(RT:List (Nat×(Nat×Nat)))
  (hB:BI H T R RT b5 N J U E) (hN:N<=1099511627776) (hk:vk<ws.length) (gV:ws.length<=1099511627776)
  (h8:(b8,.cells [.int .i64 id,zv,nv])∈R) (NL:(tT,.cells [.int .i64 f,wv])∈R) (Kh:H.length<=b5) (jH:b2<J.length) (XI:b4<J.length) (hl6:b6<J.length)
  (hf:-9223372036854775808<=f/\f<=9223372036854775807) (hs:(ws.getD vk w0).1.length<=maxLen) (Q:Exit->St->Prop)
  (go:∀(e:Env)(J':List az)(U':au)(E':List En),BI H T R RT b5 (N+1) J' U' E'->oV E (f,(ws.getD vk w0).1) id (ws.getD vk w0).2 E'->J.length<=J'.length->bu J'.length U'.length e [(0,.sl L.length (aM L) .none),(2,.ptr b2 0),(4,.ptr b4 0),(5,.aP b5),(6,.aP b6),(8,.ptr b8 0),(10,.ptr tT 0),(34,.sl L.length (aM L) .none),(35,.int .i64 (L.length:Nat)),(36,.int .i64 (vi:Nat)),(63,.sl zs.length (fu zs) .none),(64,.int .i64 (zs.length:Nat)),(65,.int .i64 (vj:Nat)),(70,.sl ws.length (dR ws) .none),(71,.int .i64 (ws.length:Nat)),(72,.int .i64 (vk:Nat))]->Q .normal ⟨e,J',U'⟩) :
  AW ⟨Tryz.prog,192,152,nb,tb,[100104,100147,100166]⟩ (dY [1,1,1,1,1,1,1,1,0,1,0,0,1,1,0,0,1,1,1,0,1,0,0,1,1,0,0,1,1,0,0,1,1,0,0] (Tryz.f68.body.getD .skip)) Q ⟨[(0,.sl L.length (aM L) .none),(2,.ptr b2 0),(4,.ptr b4 0),(5,.aP b5),(6,.aP b6),(8,.ptr b8 0),(10,.ptr tT 0),(34,.sl L.length (aM L) .none),(35,.int .i64 (L.length:Nat)),(36,.int .i64 (vi:Nat)),(63,.sl zs.length (fu zs) .none),(64,.int .i64 (zs.length:Nat)),(65,.int .i64 (vj:Nat)),(70,.sl ws.length (dR ws) .none),(71,.int .i64 (ws.length:Nat)),(72,.int .i64 (vk:Nat))],J,U⟩:=by
 conv=>arg 2;whnf
 have US:=hB.hJ.get (ahG _ NL);have g8:=hB.hJ.get (ahG _ h8);have l10:=(ahh.1 US).1;have l8:=(ahh.1 g8).1;have l5:=hB.hJ.lt (i:=b5) (b:=.map (cz E)) (by simp);have YY:=aW US;have lH:=hB.pJ.le;have lT:=hB.pU.le;have hcut:=tm ws vk hk;have HO:=hB.ok;generalize ws.getD vk w0=x at *;obtain⟨s,p⟩:=x;simp only at hcut hs go;refine ae λK hK=>?_;simp(disch:=omega)[-getD_eq_getElem?_getD,hcut,gB];apply hK;refine ae λK hK=>?_;simp(disch:=omega)[-getD_eq_getElem?_getD,YY,ahp,aiz];apply hK;have rv:bJ (J++[.cells [.str s,.int .i64 p]]) U:=HO.snoc (by simp);have VQ:bJ ((J++[.cells [.str s,.int .i64 p]])++[.cells [.int .i64 f,.str s]]) U:=rv.snoc (by simp);have Ge:=(hB.new (.cells [.str s,.int .i64 p]) rv).new (.cells [.int .i64 f,.str s]) VQ;have CT:((J++[az.cells [.str s,.int .i64 p]])++[az.cells [.int .i64 f,.str s]]).length=J.length+2:=by simp
 rw[show (J++[az.cells [.str s,.int .i64 p]]).length=J.length+1 by simp] at Ge;have hap:J++[az.cells [.str s,.int .i64 p],az.cells [.int .i64 f,.str s]]=(J++[az.cells [.str s,.int .i64 p]])++[az.cells [.int .i64 f,.str s]]:=by simp
 rw[hap];obtain⟨Gf,h12⟩:∃i,i=J.length:=⟨_,rfl⟩
 obtain⟨CN,Gv⟩:∃i,i=J.length+1:=⟨_,rfl⟩
 rw[<-Gv,<-h12] at Ge;simp only[<-Gv,<-h12];generalize (J++[az.cells [.str s,.int .i64 p]])++[az.cells [.int .i64 f,.str s]]=J2 at *;refine aH ⟨[(12,.ptr Gf 0),(13,.ptr CN 0),(0,.sl L.length (aM L) .none),(2,.ptr b2 0),(4,.ptr b4 0),(5,.aP b5),(6,.aP b6),(8,.ptr b8 0),(10,.ptr tT 0),(34,.sl L.length (aM L) .none),(35,.int .i64 (L.length:Nat)),(36,.int .i64 (vi:Nat)),(63,.sl zs.length (fu zs) .none),(64,.int .i64 (zs.length:Nat)),(65,.int .i64 (vj:Nat)),(70,.sl ws.length (dR ws) .none),(71,.int .i64 (ws.length:Nat)),(72,.int .i64 (vk:Nat))],J2,U⟩ (ag [] [] (by simp) (by simp) (by show nb<=_;omega) (by show tb<=_;omega) Ge.ok (by simp;omega)) ?_;exact KP H T nb tb N gG fY L zs ws vi vj vk b2 b4 b5 b6 b8 tT Gf CN id f s p zv nv E J2 U _ RT Ge.hJ Ge.hU Ge.hE hN Ge.nd Ge.ft (by simp[h8]) (by simp) (by simp) Kh (by omega) (by omega) (by omega) (by omega) hf hs Ge.pJ Ge.pU Q
  (λe J' U' E' a1 a2 a3 a4 a5 a6 a7 a8 a9 a10 a11=>go e J' U' E' (BI.sub ⟨a1,a2,a3,a5.nd,a4,a6,a7,a10⟩ (by simp)) a5 (by omega) a11)
attribute [-simp] getD_eq_getElem?_getD in
def KM (H:List az)(T:au)(nb tb N:Nat)(gG:nb<=H.length)(fY:tb<=T.length)(L:List Dc)(zs:List Zn)(vi vj b2 b4 b5 b6 b8:Nat)(id:Int)(zv nv:AV)(E:List En)(J:List az)(U:au)(R:List (Nat×az))(RT:List (Nat×(Nat×Nat)))
  (hB:BI H T R RT b5 N J U E) (hk:vj<zs.length) (hN:N+(zs.getD vj z0).ws.length<=1099511627776)
  (h8:(b8,.cells [.int .i64 id,zv,nv])∈R) (Kh:H.length<=b5) (jH:b2<J.length) (XI:b4<J.length) (hl6:b6<J.length)
  (hf:-9223372036854775808<=(zs.getD vj z0).f/\(zs.getD vj z0).f<=9223372036854775807) (hs:∀w∈(zs.getD vj z0).ws,w.1.length<=maxLen) (Q:Exit->St->Prop)
  (go:∀(e:Env)(J':List az)(U':au)(E':List En),BI H T R RT b5 (N+(zs.getD vj z0).ws.length) J' U' E'->ou id E (o6 (zs.getD vj z0).f (zs.getD vj z0).ws) E'->J.length<=J'.length->bu J'.length U'.length e [(0,.sl L.length (aM L) .none),(2,.ptr b2 0),(4,.ptr b4 0),(5,.aP b5),(6,.aP b6),(8,.ptr b8 0),(34,.sl L.length (aM L) .none),(35,.int .i64 (L.length:Nat)),(36,.int .i64 (vi:Nat)),(63,.sl zs.length (fu zs) .none),(64,.int .i64 (zs.length:Nat)),(65,.int .i64 (vj:Nat))]->Q .normal ⟨e,J',U'⟩) :
  AW ⟨Tryz.prog,192,152,nb,tb,[100104,100147,100166]⟩ (dY [1,1,1,1,1,1,1,1,0,1,0,0,1,1,0,0,1,1,1,0,1,0,0,1,1,0,0] (Tryz.f68.body.getD .skip)) Q ⟨[(0,.sl L.length (aM L) .none),(2,.ptr b2 0),(4,.ptr b4 0),(5,.aP b5),(6,.aP b6),(8,.ptr b8 0),(34,.sl L.length (aM L) .none),(35,.int .i64 (L.length:Nat)),(36,.int .i64 (vi:Nat)),(63,.sl zs.length (fu zs) .none),(64,.int .i64 (zs.length:Nat)),(65,.int .i64 (vj:Nat))],J,U⟩:=by
 conv=>arg 2;whnf
 have l8:=hB.hJ.lt (ahG _ h8);have l5:=hB.hJ.lt (i:=b5) (b:=.map (cz E)) (by simp);have lH:=hB.pJ.le;have lT:=hB.pU.le;have hcut:=th zs vj hk;have HO:=hB.ok;generalize zs.getD vj z0=z at *;obtain⟨f,ws⟩:=z;simp only at hcut hs hf hN go;refine ae λK hK=>?_;simp(disch:=omega)[hcut,fV];apply hK;apply ae;intro K Z;simp(disch:=omega);apply Z;have rv:bJ (J++[.cells [.int .i64 f,.sl ws.length (dR ws) .none]]) U:=HO.snoc (by simp);have Ge:=hB.new _ rv;have CT:(J++[az.cells [.int .i64 f,.sl ws.length (dR ws) .none]]).length=J.length+1:=by simp
 obtain⟨tT,NL⟩:∃i,i=J.length:=⟨_,rfl⟩
 rw[<-NL] at Ge;simp only[<-NL];generalize J++[az.cells [.int .i64 f,.sl ws.length (dR ws) .none]]=J1 at *;apply aj;refine aI (X:=Nat×List az×au×List En) (λx=>⟨[(0,.sl L.length (aM L) .none),(2,.ptr b2 0),(4,.ptr b4 0),(5,.aP b5),(6,.aP b6),(8,.ptr b8 0),(10,.ptr tT 0),(34,.sl L.length (aM L) .none),(35,.int .i64 (L.length:Nat)),(36,.int .i64 (vi:Nat)),(63,.sl zs.length (fu zs) .none),(64,.int .i64 (zs.length:Nat)),(65,.int .i64 (vj:Nat)),(70,.sl ws.length (dR ws) .none),(71,.int .i64 (ws.length:Nat)),(72,.int .i64 (x.1:Nat))],x.2.1,x.2.2.1⟩)
  (λx=>x.1<=ws.length/\BI H T ((tT,.cells [.int .i64 f,.sl ws.length (dR ws) .none])::R) RT b5 (N+x.1) x.2.1 x.2.2.1 x.2.2.2/\ou id E (o6 f (ws.take x.1)) x.2.2.2/\J1.length<=x.2.1.length) (λx=>ws.length-x.1) (0,J1,U,E) ?_ ?_ ?_
 ·exact⟨ahu _,Ge,.nil E,ahj _⟩
 ·refine ag [] [] ?_ ?_ ?_ ?_ Ge.ok ?_
  all_goals simp
  all_goals omega
 ·rintro⟨k,J2,U2,E2⟩ ⟨k1,k2,k3,k4⟩;simp only at k1 k2 k3 k4;have Ni:=k2.pJ.le;have Rf:=k2.pU.le;apply ae;intro K Z;simp(disch:=omega);apply Z;refine af λK2 bc=>?_;refine aT rfl (λgI=>?_) (λgI=>?_)
  ·simp  at gI;apply aq;simp(disch:=omega) ;apply bc;clear bc;refine af λK3 bD=>?_;apply aj;refine aH ⟨[(0,.sl L.length (aM L) .none),(2,.ptr b2 0),(4,.ptr b4 0),(5,.aP b5),(6,.aP b6),(8,.ptr b8 0),(10,.ptr tT 0),(34,.sl L.length (aM L) .none),(35,.int .i64 (L.length:Nat)),(36,.int .i64 (vi:Nat)),(63,.sl zs.length (fu zs) .none),(64,.int .i64 (zs.length:Nat)),(65,.int .i64 (vj:Nat)),(70,.sl ws.length (dR ws) .none),(71,.int .i64 (ws.length:Nat)),(72,.int .i64 (k:Nat))],J2,U2⟩ (ag [] [] (by simp) (by simp) (by show nb<=_;omega) (by show tb<=_;omega) k2.ok (by simp;omega)) ?_;refine KQ H T nb tb (N+k) gG fY L zs ws vi vj k b2 b4 b5 b6 b8 tT id f zv nv (.sl ws.length (dR ws) .none) E2 J2 U2 _ RT k2 (by omega) gI (by omega) (by simp[h8]) (by simp) Kh (by omega) (by omega) (by omega) hf (hs _ (aS ws k w0 gI)) _ λe J' U' E' a1 a2 a3 a4=>?_;have Kf:=a1.pJ.le;have Ke:=a1.pU.le;refine bD _ (aH ⟨[(0,.sl L.length (aM L) .none),(2,.ptr b2 0),(4,.ptr b4 0),(5,.aP b5),(6,.aP b6),(8,.ptr b8 0),(10,.ptr tT 0),(34,.sl L.length (aM L) .none),(35,.int .i64 (L.length:Nat)),(36,.int .i64 (vi:Nat)),(63,.sl zs.length (fu zs) .none),(64,.int .i64 (zs.length:Nat)),(65,.int .i64 (vj:Nat)),(70,.sl ws.length (dR ws) .none),(71,.int .i64 (ws.length:Nat)),(72,.int .i64 (k:Nat))],J',U'⟩ (ag [] [] (by simp) (by simp) (by show nb<=_;omega) (by show tb<=_;omega) a1.ok a4) ?_);clear bD;refine aB λK hK=>?_;simp(disch:=omega) ;apply hK;refine⟨(k+1,J',U',E'),⟨by show k+1<=_;omega,a1,?_,by show J1.length<=J'.length;omega⟩,by show ws.length-(k+1)<ws.length-k;omega,?_⟩
   ·show ou id E (o6 f (ws.take (k+1))) E';rw[<-KL f ws k gI];exact k3.snoc a2
   ·refine ag [] [] ?_ ?_ ?_ ?_ a1.ok ?_
    all_goals simp
    all_goals omega
  ·simp  at gI;have hkk:k=ws.length:=by omega
   subst hkk;apply aF;simp(disch:=omega) ;rw[ahE] at k3;refine go _ J2 U2 E2 (k2.sub (by simp)) k3 (by omega) ?_;simp;omega
end Go.Proofs.YtoejlmpbebjemaaGreat
namespace eT
open Go Go.Am
structure Ef where
 f:Int
 x:List Nm
 i:Nat
 cap:Nat
 rest:List AV
end eT
namespace Go.Proofs.YtoejlmpbebjemaaGreat
open Go.Proofs.Tryz(prog)
open Go Go.Am im eT
def Ef.blk (e:Ef):az:=.cells (br e.x++e.rest)
def kU (f:Int):cQ:=.one (.int .i64 f)
def bM (F:List Ef):List (cQ×AV):=F.map λe=>(kU e.f,.bG e.i e.x.length e.cap)
def jf (F:List Ef):List (Nat×az):=F.map λe=>(e.i,Ef.blk e)
structure SG (nb N:Nat)(e:Ef):Prop where
 r:e.rest.length=(e.cap-e.x.length)*2
 c:e.x.length<=e.cap
 n:e.x.length<=N
 i:nb<=e.i
 p:0<e.x.length
def RL (F:List Ef)(f:Int):List Nm:=match F.find? (λe=>e.f==f) with
 |some e=>e.x
 |none=>[]
structure sT (F:List Ef)(f:Int)(it:Nm)(F':List Ef):Prop where
 lk:∀f',RL F' f'=if f'=f then RL F f++[it] else RL F f'
 nd:(F'.map (·.f)).Nodup
 ks:∀f',f'∈F'.map (·.f)↔f'=f\/f'∈F.map (·.f)
def n9 {E1 E2:List Ef}{e:Ef}(h:((E1++e::E2).map (·.f)).Nodup)(k:Int):(E1++e::E2).find? (λx=>x.f==k)=if k=e.f then some e else (E1++E2).find? (λx=>x.f==k):=by
 have h1:∀x∈E1,x.f≠e.f:=λx hx=>by
  rw[ahx,ah2] at h;exact h.2.2 x.f (ahl.2 ⟨x,hx,rfl⟩) e.f (by simp)
 rw[find?_append,List.find?_cons,find?_append]
 by_cases hk:k=e.f
 ·subst hk;have:E1.find? (λx=>x.f==e.f)=none:=by
   rw[aiy];intro x hx;simpa using h1 x hx
  rw[this];simp
 ·rw[ahq hk,ah5.2 (Ne.symm hk)]
def sT.old {E1 E2:List Ef}{e e':Ef}{it:Nm}(h:((E1++e::E2).map (·.f)).Nodup)(hk:e'.f=e.f)(hp:e'.x=e.x++[it]):sT (E1++e::E2) e.f it (E1++e'::E2):=by
 have h':((E1++e'::E2).map (·.f)).Nodup:=by
  rw[ahx,ahX,hk];rwa [ahx,ahX] at h
 refine⟨λk'=>?_,h',λk'=>?_⟩
 ·unfold RL;rw[n9 h',n9 h,n9 h,hk]
  by_cases hh:k'=e.f
  ·subst hh;simp[hp]
  ·simp only[ahq hh]
 ·simp only[ahx,ahX,hk,ahw,ahL]
  constructor
  ·exact .inr
  ·rintro (rfl|hh)
   ·exact .inr (.inl rfl)
   ·exact hh
def sT.add {E:List Ef}{e':Ef}{it:Nm}(h:(E.map (·.f)).Nodup)(hk:e'.f∉E.map (·.f))(hp:e'.x=[it]):sT E e'.f it (E++[e']):=by
 have h':((E++e'::[]).map (·.f)).Nodup:=by
  rw[ahx,ah2];exact⟨h,by simp,λa ha b hb=>by simp at hb;rintro rfl;rw[hb] at ha;exact hk ha⟩
 have hn:E.find? (λx=>x.f==e'.f)=none:=by
  rw[aiy];intro x hx;have:x.f≠e'.f:=λee=>hk (ahl.2 ⟨x,hx,ee⟩);simpa using this
 refine⟨λk'=>?_,h',λk'=>?_⟩
 ·unfold RL;rw[n9 h']
  by_cases hh:k'=e'.f
  ·subst hh;rw[hn];simp[hp]
  ·simp only[ahq hh,ahH]
 ·simp[or_comm]
def pS {a b:Int}:kU a=kU b↔a=b:=by simp[kU]
def AM (F:List Ef):(bM F).map (·.1)=(F.map (·.f)).map kU:=by simp[bM,Function.comp_def]
def EK {E1 E2:List Ef}{e:Ef}(h:((E1++e::E2).map (·.f)).Nodup):vR (bM (E1++e::E2)) (kU e.f)=some (.bG e.i e.x.length e.cap):=by
 have hn:((bM (E1++e::E2)).map (·.1)).Nodup:=by
  rw[AM];exact nV (λa b hab=>pS.1 hab) h
 have hj:E1.length<(bM (E1++e::E2)).length:=by simp[bM]
 have he:(bM (E1++e::E2))[E1.length]'hj=(kU e.f,.bG e.i e.x.length e.cap):=by simp[bM]
 rw[wo hn hj (by rw[he]),he]
def QG {E1 E2:List Ef}{e:Ef}(h:((E1++e::E2).map (·.f)).Nodup)(e':Ef)(hk:e'.f=e.f):kT (bM (E1++e::E2)) (kU e.f) (.bG e'.i e'.x.length e'.cap)=bM (E1++e'::E2):=by
 have hn:((bM (E1++e::E2)).map (·.1)).Nodup:=by
  rw[AM];exact nV (λa b hab=>pS.1 hab) h
 have hj:E1.length<(bM (E1++e::E2)).length:=by simp[bM]
 have he:(bM (E1++e::E2))[E1.length]'hj=(kU e.f,.bG e.i e.x.length e.cap):=by simp[bM]
 rw[BO hn hj (by rw[he])];simp[bM,hk]
def uS {E:List Ef}{k:Int}(h:k∉E.map (·.f)):∀x∈bM E,x.1≠kU k:=by
 intro x hx;obtain⟨e,he,rfl⟩:=ahl.1 hx;exact λhh=>h (ahl.2 ⟨e,he,pS.1 hh⟩)
def QH {E:List Ef}(e':Ef)(h:e'.f∉E.map (·.f)):kT (bM E) (kU e'.f) (.bG e'.i e'.x.length e'.cap)=bM (E++[e']):=by
 rw[nW (uS h)];simp[bM]
def yv {E:List Ef}{n t:Nat}(h:∀e∈E,e.i<n):aK n t ((bM E).map (·.2)):=by
 intro v hv;simp only[bM,ain,ahl,Function.comp] at hv;obtain⟨e,he,rfl⟩:=hv;exact .bG _ _ _ (h e he)
def KD (f:Int)(hf:-9223372036854775808<=f/\f<=9223372036854775807):mN prog 3 (kU f)=true:=by
 have hu:prog.underlying 3=some (.int .i64):=by kernel_rfl
 have Yp:(Lit.int .i64 f).wf=true:=by
  simp only[Lit.wf,aht,ahv];exact hf
 unfold mN keyOf mapKey;rw[hu];simp[kU,cQ.val,KC.val,Yp]
structure BF (H:List az)(T:au)(R:List (Nat×az))(b6 N:Nat)(J:List az)(U:au)(F:List Ef):Prop where
 hJ:Has J (R++(b6,.map (bM F))::jf F)
 hF:∀e∈F,SG H.length N e
 nd:(F.map (·.f)).Nodup
 ft:dq prog 3 (bM F)=true
 pJ:gM H J
 pU:gM T U
 ok:bJ J U
attribute [-simp] getD_eq_getElem?_getD in
def Qg (H:List az)(T:au)(nb tb N:Nat)(gG:nb<=H.length)(fY:tb<=T.length)(L:List Dc)(ns:List Nm)(vi vk b2 b4 b5 b6 b8:Nat)(id:Int)(zv nv:AV)(F:List Ef)(J:List az)(U:au)(R:List (Nat×az))
  (hB:BF H T R b6 N J U F) (hN:N<=1099511627776) (hk:vk<ns.length) (gV:ns.length<=1099511627776)
  (h8:(b8,.cells [.int .i64 id,zv,nv])∈R) (Gc:H.length<=b6) (jH:b2<J.length) (XI:b4<J.length) (hl5:b5<J.length)
  (hf:-9223372036854775808<=(ns.getD vk n0).1/\(ns.getD vk n0).1<=9223372036854775807) (Q:Exit->St->Prop)
  (go:∀(e:Env)(J':List az)(F':List Ef),BF H T R b6 (N+1) J' U F'->sT F (ns.getD vk n0).1 ((ns.getD vk n0).2,id) F'->J.length<=J'.length->bu J'.length U.length e [(0,.sl L.length (aM L) .none),(2,.ptr b2 0),(4,.ptr b4 0),(5,.aP b5),(6,.aP b6),(8,.ptr b8 0),(34,.sl L.length (aM L) .none),(35,.int .i64 (L.length:Nat)),(36,.int .i64 (vi:Nat)),(128,.sl ns.length (br ns) .none),(129,.int .i64 (ns.length:Nat)),(130,.int .i64 (vk:Nat))]->Q .normal ⟨e,J',U⟩) :
  AW ⟨prog,192,152,nb,tb,[100104,100147,100166]⟩ (dY [1,1,1,1,1,1,1,1,0,1,0,0,1,1,0,0,1,1,1,1,1,0,0,1,1,0,0] (Tryz.f68.body.getD .skip)) Q ⟨[(0,.sl L.length (aM L) .none),(2,.ptr b2 0),(4,.ptr b4 0),(5,.aP b5),(6,.aP b6),(8,.ptr b8 0),(34,.sl L.length (aM L) .none),(35,.int .i64 (L.length:Nat)),(36,.int .i64 (vi:Nat)),(128,.sl ns.length (br ns) .none),(129,.int .i64 (ns.length:Nat)),(130,.int .i64 (vk:Nat))],J,U⟩:=by
 conv=>arg 2;whnf
 have lH:=hB.pJ.le;have lT:=hB.pU.le;have hcut:=ia ns vk hk;have HO:=hB.ok;generalize ns.getD vk n0=x at *;obtain⟨f,n⟩:=x;simp only at hcut hf go;have l8:=hB.hJ.lt (ahG _ h8);have l6:=hB.hJ.lt (i:=b6) (b:=.map (bM F)) (by simp);refine ae λK hK=>?_;simp(disch:=omega)[hcut,cH];apply hK;have rv:bJ (J++[.cells [.int .i64 f,.int .i64 n]]) U:=HO.snoc (by simp);obtain⟨q1,q2,q3,q4,q5,q6,q7⟩:=hB;have q1:Has (J++[.cells [.int .i64 f,.int .i64 n]]) (((J.length,.cells [.int .i64 f,.int .i64 n])::R)++(b6,.map (bM F))::jf F):=(q1.new (.cells [.int .i64 f,.int .i64 n])).perm (ah6 _ _).symm;have q5:=q5.app [az.cells [.int .i64 f,.int .i64 n]];have CT:(J++[az.cells [.int .i64 f,.int .i64 n]]).length=J.length+1:=by simp
 obtain⟨NA,h16⟩:∃i,i=J.length:=⟨_,rfl⟩
 rw[<-h16] at q1;simp only[<-h16];generalize J++[az.cells [.int .i64 f,.int .i64 n]]=J1 at *;refine aH ⟨[(16,.ptr NA 0),(0,.sl L.length (aM L) .none),(2,.ptr b2 0),(4,.ptr b4 0),(5,.aP b5),(6,.aP b6),(8,.ptr b8 0),(34,.sl L.length (aM L) .none),(35,.int .i64 (L.length:Nat)),(36,.int .i64 (vi:Nat)),(128,.sl ns.length (br ns) .none),(129,.int .i64 (ns.length:Nat)),(130,.int .i64 (vk:Nat))],J1,U⟩ (ag [] [] (by simp) (by simp) (by show nb<=_;omega) (by show tb<=_;omega) rv (by simp;omega)) ?_;have g6:=q1.get (i:=b6) (b:=.map (bM F)) (by simp);have g8:=q1.get (i:=b8) (b:=.cells [.int .i64 id,zv,nv]) (by simp[h8]);have YU:=q1.get (i:=NA) (b:=.cells [.int .i64 f,.int .i64 n]) (by simp);have l6:=(ahh.1 g6).1;have l8:=(ahh.1 g8).1;have l16:=(ahh.1 YU).1;have e6:=aW g6;have e8:=aW g8;have YX:=aW YU;have yL:=KD f hf;have kY:kU f=.one (.int .i64 f):=rfl;rw[kY] at yL
 by_cases hex:f∈F.map (·.f)
 rotate_left
 ·have eE:jg (bM F) (.one (.int .i64 f)) (.sl 0 [] .full) false=.sl 0 [] .full:=by
   unfold jg;rw[<-kY,qw (uS hex)];rfl
  refine qI 13 [13,14] [0,0,0,0,0,0,0,0,0,0,0,0,0,0,1] [[0,1,2],[]] aw (by kernel_rfl) (by kernel_rfl) (by kernel_rfl) λK hK=>?_;simp(disch:=omega)[wy,tj,yL,q4,e6,e8,YX,eE,ahp,aiz];intro nc lC;refine hK _ ?_;obtain⟨ee,qX⟩:∃ee:Ef,ee=⟨f,[(n,id)],J1.length,nc,List.replicate ((nc-1)*2) .top⟩:=⟨_,rfl⟩
  have iY:kT (bM F) (.one (.int .i64 f)) (.bG J1.length 1 nc)=bM (F++[ee]):=by
   have:=QH (E:=F) ee (by rw[qX];exact hex);rw[qX] at this ⊢;exact this
  have GG:dq prog 3 (bM (F++[ee]))=true:=by rw[<-iY];exact qc q4 yL
  rw[iY,show az.cells (.int .i64 n::.int .i64 id::List.replicate ((nc-1)*2) .top)=Ef.blk ee by rw[qX];rfl,<-List.set_append_left _ _ l6];have iW:=q1.new (Ef.blk ee);rw[show J1.length=ee.i by rw[qX]] at iW;have zy:Has ((J1++[Ef.blk ee]).set b6 (.map (bM (F++[ee])))) (((NA,.cells [.int .i64 f,.int .i64 n])::R)++(b6,.map (bM (F++[ee])))::jf (F++[ee])):=by
   have:=Has.set (A:=(NA,.cells [.int .i64 f,.int .i64 n])::R) (B:=jf (F++[ee])) (b:=.map (bM F)) (by simpa[jf] using iW) (.map (bM (F++[ee])));exact this
  have VQ:bJ (J1++[Ef.blk ee]) U:=by
   refine rv.snoc ?_;rw[qX];simp
  have Kv:(J1++[Ef.blk ee]).length=J1.length+1:=by simp
  have hb:∀e∈F++[ee],e.i<(J1++[Ef.blk ee]).length:=λe he=>by
   have:=zy.lt (i:=e.i) (b:=Ef.blk e) (by simp only[ahw,ahL];exact .inr (.inr (ahl.2 ⟨e,he,rfl⟩)));simpa using this
  refine go _ _ (F++[ee]) ⟨zy.sub ((aih _ _).append_right _),λe he=>?_,(sT.add (it:=(n,id)) q3 (by rw[qX];exact hex) (by rw[qX])).nd,GG,(q5.app _).set Gc _,q6,VQ.rM (yv hb)⟩ ?_ (by simp;omega) ?_
  ·rcases ahw.1 he with he|he
   ·have:=q2 e he;exact⟨this.r,this.c,ajX this.n,this.i,this.p⟩
   ·simp at he;subst he;rw[qX];exact⟨by simp,lC,by simp,by show H.length<=J1.length;omega,by simp⟩
  ·have:=sT.add (e':=ee) (it:=(n,id)) q3 (by rw[qX];exact hex) (by rw[qX])
   rwa [show ee.f=f by rw[qX]] at this
  ·simp;omega
 ·obtain⟨e,NJ,zx⟩:=ahl.1 hex;obtain⟨E1,E2,rfl⟩:=ajF NJ;obtain⟨f0,xs,i,cap,rest⟩:=e;simp only at zx;subst zx;obtain⟨k1,k2,k3,k4,k5⟩:=q2 _ NJ;simp only at k1 k2 k3 k4 k5;have YN:∀e,e∈E1\/e∈E2->SG H.length (N+1) e:=λe he=>by
   have:=q2 e (by rcases he with he|he<;>simp[he]);exact⟨this.r,this.c,ajX this.n,this.i,this.p⟩
  have Nu:Has J1 (((NA,.cells [.int .i64 f0,.int .i64 n])::R)++(b6,.map (bM (E1++⟨f0,xs,i,cap,rest⟩::E2)))::(jf E1++(i,.cells (br xs++rest))::jf E2)):=by
   have:=q1;simpa[jf,Ef.blk] using this
  have gi:=Nu.get (i:=i) (b:=.cells (br xs++rest)) (by simp);have li:=(ahh.1 gi).1;have ei:=aW gi;have vO:(br xs++rest).length=xs.length*2+rest.length:=by rw[ahk,cH]
  have vX:=EK q3;simp only at vX;have eE:jg (bM (E1++⟨f0,xs,i,cap,rest⟩::E2)) (.one (.int .i64 f0)) (.sl 0 [] .full) false=.bG i xs.length cap:=by
   unfold jg;rw[<-kY,vX];rfl
  have w9:=λe' hk=>QG q3 e' hk;have hold:=λe' hk hp=>sT.old (it:=(n,id)) q3 (e':=e') hk hp;simp only at w9 hold;rw[kY] at w9;have iH:(br xs++rest).take (xs.length*2)=br xs:=aij (by rw[cH]);have hdr:(br xs++rest).drop ((xs.length+1)*2)=rest.drop 2:=by
   rw[List.drop_append,ajB (by rw[cH];omega),aiQ,cH]
   congr 1;omega
  have gG:∀r,aK J1.length U.length r->True:=λ_ _=>trivial;have fin:∀(e:Env)(J2:List az)(i2 gw:Nat)(dE:List AV),Has J2 (((NA,.cells [.int .i64 f0,.int .i64 n])::R)++(b6,.map (bM (E1++⟨f0,xs,i,cap,rest⟩::E2)))::(jf E1++(i2,.cells (br (xs++[(n,id)])++dE))::jf E2))->bJ J2 U->gM H J2->J1.length<=J2.length->dE.length=(gw-(xs.length+1))*2->xs.length+1<=gw->H.length<=i2->
    bu J2.length U.length e [(0,.sl L.length (aM L) .none),(2,.ptr b2 0),(4,.ptr b4 0),(5,.aP b5),(6,.aP b6),(8,.ptr b8 0),(34,.sl L.length (aM L) .none),(35,.int .i64 (L.length:Nat)),(36,.int .i64 (vi:Nat)),(128,.sl ns.length (br ns) .none),(129,.int .i64 (ns.length:Nat)),(130,.int .i64 (vk:Nat))]->Q .normal ⟨e,J2.set b6 (.map (kT (bM (E1++⟨f0,xs,i,cap,rest⟩::E2)) (.one (.int .i64 f0)) (.bG i2 (xs.length+1) gw))),U⟩:=by
   intro e J2 i2 gw dE iW Nt sv jH oS hc2 hi2 he;obtain⟨ee,qX⟩:∃ee:Ef,ee=⟨f0,xs++[(n,id)],i2,gw,dE⟩:=⟨_,rfl⟩
   have iY:kT (bM (E1++⟨f0,xs,i,cap,rest⟩::E2)) (.one (.int .i64 f0)) (.bG i2 (xs.length+1) gw)=bM (E1++ee::E2):=by
    have:=w9 ee (by rw[qX]);rw[qX] at this ⊢;simpa using this
   have GG:dq prog 3 (bM (E1++ee::E2))=true:=by rw[<-iY];exact qc q4 yL
   rw[iY];have hS:jf (E1++ee::E2)=jf E1++(i2,.cells (br (xs++[(n,id)])++dE))::jf E2:=by rw[qX];simp[jf,Ef.blk]
   rw[<-hS] at iW;have zy:=iW.set (.map (bM (E1++ee::E2)));have hb:∀e∈E1++ee::E2,e.i<J2.length:=λe he=>iW.lt (b:=Ef.blk e) (by simp only[ahw,ahL];exact .inr (.inr (ahl.2 ⟨e,he,rfl⟩)));refine go _ _ (E1++ee::E2) ⟨zy.sub ((aih _ _).append_right _),λe he=>?_,(hold ee (by rw[qX]) (by rw[qX])).nd,GG,sv.set Gc _,q6,Nt.rM (yv hb)⟩ (hold ee (by rw[qX]) (by rw[qX])) (by simp;omega) (by simpa using he);rcases ahw.1 he with he|he
   ·exact YN e (.inl he)
   ·rcases ahL.1 he with rfl|he
    ·rw[qX];exact⟨by simp[oS],by simpa using hc2,by simp;omega,hi2,by simp⟩
    ·exact YN e (.inr he)
  refine qI 13 [13,14] [0,0,0,0,0,0,0,0,0,0,0,0,0,0,1] [[0,1,2],[]] aw (by kernel_rfl) (by kernel_rfl) (by kernel_rfl) λK hK=>?_;simp(disch:=omega)[wy,tj,yL,q4,e6,e8,YX,eE];refine⟨br xs++rest,ei li,by rw[vO];omega,[.int .i64 n,.int .i64 id],1,⟨rfl,rfl⟩,by omega,by omega,λhle=>?_,λnc hlt lC=>?_⟩
  ·rw[iH,hdr];rw[show az.cells (br xs++([.int .i64 n,.int .i64 id]++rest.drop 2))=.cells (br (xs++[(n,id)])++rest.drop 2) by rw[<-append_assoc,uI xs (n,id)]];have iW:Has (J1.set i (.cells (br (xs++[(n,id)])++rest.drop 2))) (((NA,.cells [.int .i64 f0,.int .i64 n])::R)++(b6,.map (bM (E1++⟨f0,xs,i,cap,rest⟩::E2)))::(jf E1++(i,.cells (br (xs++[(n,id)])++rest.drop 2))::jf E2)):=by
    have:=Has.set (A:=((NA,.cells [.int .i64 f0,.int .i64 n])::R)++(b6,.map (bM (E1++⟨f0,xs,i,cap,rest⟩::E2)))::jf E1) (B:=jf E2) (by simpa using Nu) (.cells (br (xs++[(n,id)])++rest.drop 2));simpa using this
   have sv:=q5.set k4 (.cells (br (xs++[(n,id)])++rest.drop 2));have Nt:bJ (J1.set i (.cells (br (xs++[(n,id)])++rest.drop 2))) U:=by
    refine rv.set ?_;have:=rv i (.cells (br xs++rest)) gi;simp only[az.Be] at this;intro v hv;rcases ahw.1 hv with hv|hv
    ·exact x8 _ _ _ v hv
    ·exact this v (ajp _ (List.mem_of_mem_drop hv))
   have hl:J1.length=(J1.set i (.cells (br (xs++[(n,id)])++rest.drop 2))).length:=by simp
   have yX:=λe=>fin e _ i cap (rest.drop 2) iW Nt sv (by omega) (by rw[ah4];omega) (by omega) k4;generalize J1.set i (.cells (br (xs++[(n,id)])++rest.drop 2))=J2 at *;have g6:=iW.get (i:=b6) (b:=.map (bM (E1++⟨f0,xs,i,cap,rest⟩::E2))) (by simp);have YU:=iW.get (i:=NA) (b:=.cells [.int .i64 f0,.int .i64 n]) (by simp);have l6:=(ahh.1 g6).1;have l16:=(ahh.1 YU).1;have e6:=aW g6;have YX:=aW YU;simp(disch:=omega)[q4,e6,YX];refine hK _ (yX _ ?_);simp;omega
  ·rw[iH];obtain⟨r2,oS⟩:∃r2,r2=List.replicate ((nc-(xs.length+1))*2) AV.top:=⟨_,rfl⟩
   have NX:r2.length=(nc-(xs.length+1))*2:=by rw[oS];simp
   have Wm:aK (J1.length+1) U.length r2:=by rw[oS];simp
   rw[<-oS];rw[show az.cells (br xs++([.int .i64 n,.int .i64 id]++r2))=.cells (br (xs++[(n,id)])++r2) by rw[<-append_assoc,uI xs (n,id)]];have iW:Has (J1++[.cells (br (xs++[(n,id)])++r2)]) (((NA,.cells [.int .i64 f0,.int .i64 n])::R)++(b6,.map (bM (E1++⟨f0,xs,i,cap,rest⟩::E2)))::(jf E1++(J1.length,.cells (br (xs++[(n,id)])++r2))::jf E2)):=by
    have h0:Has J1 (((NA,.cells [.int .i64 f0,.int .i64 n])::R)++(b6,.map (bM (E1++⟨f0,xs,i,cap,rest⟩::E2)))::(jf E1++jf E2)):=Nu.sub (List.Sublist.append_left (List.Sublist.cons_cons _ (List.Sublist.append_left (aih _ _) _)) _);refine(h0.new _).perm ?_;simp only[ahA,ajv];exact((((ah6 _ _).symm.append_left _).cons _).append_left _).cons _
   have sv:=q5.app [az.cells (br (xs++[(n,id)])++r2)];have Nt:bJ (J1++[.cells (br (xs++[(n,id)])++r2)]) U:=rv.snoc (by simp[Wm]);have hl:(J1++[az.cells (br (xs++[(n,id)])++r2)]).length=J1.length+1:=by simp
   have yX:=λe=>fin e _ J1.length nc r2 iW Nt sv (by omega) NX (by omega) (by omega)
   (try simp(disch:=omega)[q4,e6,YX])
   refine hK _ ?_;rw[<-List.set_append_left _ _ l6];refine yX _ ?_;simp;omega
end Go.Proofs.YtoejlmpbebjemaaGreat
