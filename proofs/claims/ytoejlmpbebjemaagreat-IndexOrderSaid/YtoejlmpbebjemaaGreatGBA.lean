/- segment.Build (layer 39): what is gathered in its maps; one word. segment.Build (layer 39): one word. segment.Build (layer 39): the words of a zone, the zones of a document. segment.Build (layer 39): one number.
  Conditions: lengths below 400 or 1000, as each theorem says. -/
import Derived.Test.YtoejlmpbebjemaaGreatGC
import Derived.Test.YtoejlmpbebjemaaGreatGSR
import Derived.Test.YtoejlmpbebjemaaGreatAmC
import Derived.Test.YtoejlmpbebjemaaGreatAmA
set_option linter.all false
set_option maxRecDepth 100000
set_option maxHeartbeats 16000000
open List (getD_eq_getElem?_getD append_assoc find?_append)
namespace eN
open Go Go.Am
structure En where
 k:Ky
 dY:List (Ps×Tag)
 d:Int
 at_:List Int
 tk:Nat
 i:Nat
 cap:Nat
 rest:List AV
def En.n (e:En):Nat:=e.dY.length+1
def En.pl (e:En):List Ps:=e.dY.map (·.1)++[(e.d,e.at_)]
abbrev pwC (x:Ps×Tag):List AV:=[.int .i64 x.1.1,.sl x.1.2.length (ints x.1.2) x.2]
def lI (l:List (Ps×Tag)):List AV:=l.flatMap pwC
def Br:ep pwC 2:=λ_=>rfl
def ma (l:List (Ps×Tag)):(lI l).length=l.length*2:=bY Br l
def jE (d:Int)(at_:List Int)(tg:Tag):List AV:=[.int .i64 d,.sl at_.length (ints at_) tg]
def gQ (dY:List (Ps×Tag))(d:Int)(at_:List Int)(tg:Tag)(rest:List AV):aA:=.cells (lI dY++(jE d at_ tg++rest))
def En.oW (e:En):aA:=gQ e.dY e.d e.at_ (.own e.tk) e.rest
def mS (k:Ky):cS:=.agg [.int .i64 k.1,.str k.2]
def xA {a b:Ky}:mS a=mS b↔a=b:=by
 obtain⟨a1,a2⟩:=a;obtain⟨b1,b2⟩:=b;simp[mS]
def cG (E:List En):List (cS×AV):=E.map λe=>(mS e.k,.bJ e.i e.n e.cap)
def dU (E:List En):List (Nat×aA):=E.map λe=>(e.i,e.oW)
def j5 (E:List En):List (Nat×(Nat×Nat)):=E.map λe=>(e.tk,(e.at_.length,1))
structure Gj (nb tb N:Nat)(e:En):Prop where
 r:e.rest.length=(e.cap-e.n)*2
 c:e.n<=e.cap
 n:e.n<=N
 a:e.at_.length<=N
 i:nb<=e.i
 t:tb<=e.tk
def Ql (E:List En)(k:Ky):List Ps:=match E.find? (λe=>e.k==k) with
 |some e=>e.pl
 |none=>[]
def wN (l:List Ps)(d p:Int):List Ps:=match l.getLast? with
 |some q=>if q.1=d then l.dropLast++[(q.1,q.2++[p])] else l++[(d,[p])]
 |none=>[(d,[p])]
def qG (l:List Ps)(d0:Int)(a:List Int)(d p:Int):wN (l++[(d0,a)]) d p=if d0=d then l++[(d0,a++[p])] else (l++[(d0,a)])++[(d,[p])]:=by
 simp[wN]
structure oR (E:List En)(k:Ky)(d p:Int)(E':List En):Prop where
 lk:∀k',Ql E' k'=if k'=k then wN (Ql E k) d p else Ql E k'
 nd:(E'.map (·.k)).Nodup
 ks:∀k',k'∈E'.map (·.k)↔k'=k\/k'∈E.map (·.k)
def pN {E1 E2:List En}{e:En}(h:((E1++e::E2).map (·.k)).Nodup)(k:Ky):(E1++e::E2).find? (λx=>x.k==k)=if k=e.k then some e else (E1++E2).find? (λx=>x.k==k):=by
 have h1:∀x∈E1,x.k≠e.k:=λx hx=>by
  rw[agS,ahn] at h;exact h.2.2 x.k (agG.2 ⟨x,hx,rfl⟩) e.k (by simp)
 rw[find?_append,List.find?_cons,find?_append]
 by_cases hk:k=e.k
 ·subst hk;have:E1.find? (λx=>x.k==e.k)=none:=by
   rw[ahT];intro x hx;simpa using h1 x hx
  rw[this];simp
 ·rw[agL hk,ahq.2 (Ne.symm hk)]
def oR.vz {E1 E2:List En}{e e':En}{d p:Int}(h:((E1++e::E2).map (·.k)).Nodup)(hk:e'.k=e.k)(hp:e'.pl=wN e.pl d p):oR (E1++e::E2) e.k d p (E1++e'::E2):=by
 have h':((E1++e'::E2).map (·.k)).Nodup:=by
  rw[agS,ahi,hk];rwa [agS,ahi] at h
 refine⟨λk'=>?_,h',λk'=>?_⟩
 ·unfold Ql;rw[pN h',pN h,pN h,hk]
  by_cases hh:k'=e.k
  ·subst hh;simp[hp]
  ·simp only[agL hh]
 ·simp only[agS,ahi,hk,agR,ag6]
  constructor
  ·exact .inr
  ·rintro (rfl|hh)
   ·exact .inr (.inl rfl)
   ·exact hh
def oR.add {E:List En}{e':En}{d p:Int}(h:(E.map (·.k)).Nodup)(hk:e'.k∉E.map (·.k))(hp:e'.pl=[(d,[p])]):oR E e'.k d p (E++[e']):=by
 have h':((E++e'::[]).map (·.k)).Nodup:=by
  rw[agS,ahn];exact⟨h,by simp,λa ha b hb=>by simp at hb;rintro rfl;rw[hb] at ha;exact hk ha⟩
 have hn:E.find? (λx=>x.k==e'.k)=none:=by
  rw[ahT];intro x hx;have:x.k≠e'.k:=λee=>hk (agG.2 ⟨x,hx,ee⟩);simpa using this
 refine⟨λk'=>?_,h',λk'=>?_⟩
 ·unfold Ql;rw[pN h']
  by_cases hh:k'=e'.k
  ·subst hh;rw[hn];simp[hp,wN]
  ·simp only[agL hh,ag2]
 ·simp[or_comm]
end eN
namespace Go.Proofs.YtoejlmpbebjemaaGreat
open Go.Proofs.Tryz(prog)
open Go Go.Am ia eN
def nS {α β:Type}{f:α->β}(hf:∀a b,f a=f b->a=b){l:List α}(h:l.Nodup):(l.map f).Nodup:=by
 rw[List.Nodup,ahj];exact h.imp λjK he=>jK (hf _ _ he)
def Av (E:List En):(cG E).map (·.1)=(E.map (·.k)).map mS:=by simp[cG,Function.comp_def]
def PM {E1 E2:List En}{e:En}(h:((E1++e::E2).map (·.k)).Nodup):vI (cG (E1++e::E2)) (mS e.k)=some (.bJ e.i e.n e.cap):=by
 have hn:((cG (E1++e::E2)).map (·.1)).Nodup:=by
  rw[Av];exact nS (λa b jK=>xA.1 jK) h
 have hj:E1.length<(cG (E1++e::E2)).length:=by simp[cG]
 have he:(cG (E1++e::E2))[E1.length]'hj=(mS e.k,.bJ e.i e.n e.cap):=by simp[cG]
 rw[v8 hn hj (by rw[he]),he]
def PK {E1 E2:List En}{e:En}(h:((E1++e::E2).map (·.k)).Nodup)(e':En)(hk:e'.k=e.k):kO (cG (E1++e::E2)) (mS e.k) (.bJ e'.i e'.n e'.cap)=cG (E1++e'::E2):=by
 have hn:((cG (E1++e::E2)).map (·.1)).Nodup:=by
  rw[Av];exact nS (λa b jK=>xA.1 jK) h
 have hj:E1.length<(cG (E1++e::E2)).length:=by simp[cG]
 have he:(cG (E1++e::E2))[E1.length]'hj=(mS e.k,.bJ e.i e.n e.cap):=by simp[cG]
 rw[Bu hn hj (by rw[he])];simp[cG,hk]
def Au {E:List En}{k:Ky}(h:k∉E.map (·.k)):∀x∈cG E,x.1≠mS k:=by
 intro x hx;obtain⟨e,he,rfl⟩:=agG.1 hx;exact λhh=>h (agG.2 ⟨e,he,xA.1 hh⟩)
def PN {E:List En}(e':En)(h:e'.k∉E.map (·.k)):kO (cG E) (mS e'.k) (.bJ e'.i e'.n e'.cap)=cG (E++[e']):=by
 rw[nT (Au h)];simp[cG]
def HU {E:List En}{n t:Nat}(h:∀e∈E,e.i<n):aM n t ((cG E).map (·.2)):=by
 intro v hv;simp only[cG,ahG,agG,Function.comp] at hv;obtain⟨e,he,rfl⟩:=hv;exact .bJ _ _ _ (h e he)
def YU (k:Ky)(hk:-9223372036854775808<=k.1/\k.1<=9223372036854775807)(hs:k.2.length<=maxLen):mE prog 193 (mS k)=true:=by
 have hu:=Tryz.underlying193;have h3:prog.underlying 3=some (.int .i64):=by kernel_rfl
 have h9:prog.underlying 9=some .string:=by kernel_rfl
 have c3:prog.cellsOf 3=1:=by kernel_rfl
 have c9:prog.cellsOf 9=1:=by kernel_rfl
 have WU:prog.keyType 193=true:=by kernel_rfl
 have gu:prog.types.size=315:=by kernel_rfl
 have XE:(Lit.int .i64 k.1).wf=true:=by
  simp only[Lit.wf,agO,agQ];exact hk
 have e1:prog.keyLits 315 3 [.int .i64 k.1]=some [.int .i64 k.1]:=by
  show prog.keyLits (314+1) 3 _=_;unfold Program.keyLits;rw[h3];simp only[XE,and_self,ain]
 have e2:prog.keyLits 315 9 [.string ⟨k.2.toArray⟩]=some [.string k.2]:=by
  show prog.keyLits (314+1) 9 _=_;unfold Program.keyLits;rw[h9];have:(⟨k.2.toArray⟩:ByteArray).size<=maxLen:=by
   show k.2.toArray.size<=maxLen;simpa using hs
  simp only[this,ain]
 have hl:prog.keyLits (315+1) 193 [.int .i64 k.1,.string ⟨k.2.toArray⟩]=some [.int .i64 k.1,.string k.2]:=by
  unfold Program.keyLits;rw[hu];simp[Ex,c3,c9,e1,e2]
 unfold mE keyOf;rw[hu];have hf:(cS.val (mS k)).formed prog 193=true:=by
  simp[mS,cS.val,KC.val,Value.formed,hu,Ex]
 simp only[WU,hf,Bool.and_self,ain,gu];have:(cS.val (mS k)).cells.toList=[.int .i64 k.1,.string ⟨k.2.toArray⟩]:=rfl;rw[this,hl];rfl
end Go.Proofs.YtoejlmpbebjemaaGreat
namespace Go.Am
def gG {α:Type}(H K:List α):Prop:=∃X,K=H++X
section
variable {α : Type} {H K : List α}
def gG.app (h:gG H K)(X:List α):gG H (K++X):=by
 obtain⟨Y,rfl⟩:=h;exact⟨Y++X,by rw[agV]⟩
theorem gG.set (h:gG H K){i:Nat}(hi:H.length<=i)(x:α):gG H (K.set i x):=by
 obtain⟨Y,rfl⟩:=h;exact⟨Y.set (i-H.length) x,by rw[aib _ _ hi]⟩
def aX {i:Nat}{b:α}(g:K[i]?=some b):∀h:i<K.length,K[i]'h=b:=λh=>by rw[agD h] at g;exact Option.some.inj g
def gG.le (h:gG H K):H.length<=K.length:=by
 obtain⟨Y,rfl⟩:=h;simp
end
end Go.Am
namespace Go.Proofs.YtoejlmpbebjemaaGreat
open Go.Proofs.Tryz(prog)
open Go Go.Am ia eN
def Oh (dY:List (Ps×Tag))(d:Int)(at_:List Int)(tg:Tag)(rest:List AV):(lI dY++(jE d at_ tg++rest)).getD (dY.length*2) .top=.int .i64 d/\(lI dY++(jE d at_ tg++rest)).getD (dY.length*2+1) .top=.sl at_.length (ints at_) tg:=by
 have h:=ma dY
 constructor
 ·rw[agB,agX (by omega),h,ah1];rfl
 ·rw[agB,agX (by omega),h,show dY.length*2+1-dY.length*2=1 by omega];rfl
def Tl (dY:List (Ps×Tag))(d:Int)(at_ Yi:List Int)(tg QN:Tag)(rest:List AV):(lI dY++(jE d at_ tg++rest)).set (dY.length*2+1) (.sl Yi.length (ints Yi) QN)=lI dY++(jE d Yi QN++rest):=by
 have h:=ma dY;rw[aib _ _ (by omega),h,show dY.length*2+1-dY.length*2=1 by omega];rfl
def zZ (dY:List (Ps×Tag))(d:Int)(at_:List Int)(tg:Tag):lI dY++jE d at_ tg=lI (dY++[((d,at_),tg)]):=by simp[lI,jE]
attribute [-simp] getD_eq_getElem?_getD in
def xe (H:List aA)(T:au)(nb tb N:Nat)(gw:nb<=H.length)(fQ:tb<=T.length)(L:List Dc)(zs:List Zn)(ws:List Wd)(vi vj vk b2 b4 b5 b6 b8 tG FK Cp:Nat)(id f:Int)(s:Bs)(p:Int)(E1 E2:List En)(es:List (cS×AV))(J:List aA)(U:au)(R:List (Nat×aA))(RT:List (Nat×(Nat×Nat)))
  (i cap:Nat) (dY:List (Ps×Tag)) (rest:List AV) (qU:List Int) (tg:Tag)
  (hJ:Has J (R++(b5,.map es)::(dU E1++(i,gQ dY id qU tg rest)::dU E2)))
  (hU:(qU=[]/\tg=.full/\Has U (RT++(j5 E1++j5 E2)))\/∃tk,tg=.own tk/\Has U (RT++(j5 E1++(tk,(qU.length,1))::j5 E2))/\T.length<=tk)
  (hE:∀e,e∈E1\/e∈E2->Gj H.length T.length (N+1) e) (hN:N<=1099511627776) (hr:rest.length=(cap-(dY.length+1))*2) (cE:dY.length+1<=cap) (hn:dY.length<=N) (ha:qU.length<=N) (hi:H.length<=i)
  (iS:kO es (mS (f,s)) (.bJ i (dY.length+1) cap)=cG (E1++⟨(f,s),dY,id,qU++[p],0,i,cap,rest⟩::E2)) (np:dn prog 193 es=true)
  (E:List En) (px:∀Jx:En,Jx.k=(f,s)->Jx.pl=dY.map (·.1)++[(id,qU++[p])]->oR E (f,s) id p (E1++Jx::E2))
  (Q9:(FK,.cells [.str s,.int .i64 p])∈R) (F3:(Cp,.cells [.int .i64 f,.str s])∈R) (Jr:H.length<=b5) (jy:b2<J.length) (WT:b4<J.length) (hl6:b6<J.length) (hl8:b8<J.length) (YE:tG<J.length)
  (hf:-9223372036854775808<=f/\f<=9223372036854775807) (hs:s.length<=maxLen) (MA:gG H J) (FI:gG T U) (HO:bN J U) (Q:Exit->St->Prop)
  (go:∀(e:Env)(J':List aA)(U':au)(E':List En),Has J' (R++(b5,.map (cG E'))::dU E')->Has U' (RT++j5 E')->(∀e∈E',Gj H.length T.length (N+1) e)->dn prog 193 (cG E')=true->oR E (f,s) id p E'->gG H J'->gG T U'->J.length<=J'.length->U.length<=U'.length->bN J' U'->
   bC J'.length U'.length e [(0,.sl L.length (aN L) .none),(2,.ptr b2 0),(4,.ptr b4 0),(5,.aQ b5),(6,.aQ b6),(8,.ptr b8 0),(10,.ptr tG 0),(34,.sl L.length (aN L) .none),(35,.int .i64 (L.length:Nat)),(36,.int .i64 (vi:Nat)),(63,.sl zs.length (fg zs) .none),(64,.int .i64 (zs.length:Nat)),(65,.int .i64 (vj:Nat)),(70,.sl ws.length (dQ ws) .none),(71,.int .i64 (ws.length:Nat)),(72,.int .i64 (vk:Nat))]->Q .normal ⟨e,J',U'⟩) :
  AW ⟨prog,192,152,nb,tb,[100104,100147,100166]⟩ (dX [1,1,1,1,1,1,1,1,0,1,0,0,1,1,0,0,1,1,1,0,1,0,0,1,1,0,0,1,1,0,0,1,1,0,0,1,1,1,1] (Tryz.f68.body.getD .skip)) Q ⟨[(14,.bJ i (dY.length+1) cap),(12,.ptr FK 0),(13,.ptr Cp 0),(0,.sl L.length (aN L) .none),(2,.ptr b2 0),(4,.ptr b4 0),(5,.aQ b5),(6,.aQ b6),(8,.ptr b8 0),(10,.ptr tG 0),(34,.sl L.length (aN L) .none),(35,.int .i64 (L.length:Nat)),(36,.int .i64 (vi:Nat)),(63,.sl zs.length (fg zs) .none),(64,.int .i64 (zs.length:Nat)),(65,.int .i64 (vj:Nat)),(70,.sl ws.length (dQ ws) .none),(71,.int .i64 (ws.length:Nat)),(72,.int .i64 (vk:Nat))],J,U⟩:=by
 conv=>arg 2;whnf
 have gi:=hJ.get (i:=i) (b:=gQ dY id qU tg rest) (by simp);have g5:=hJ.get (i:=b5) (b:=.map es) (by simp);have g12:=hJ.get (ag1 _ Q9);have g13:=hJ.get (ag1 _ F3);have li:=(agC.1 gi).1;have l5:=(agC.1 g5).1;have l12:=(agC.1 g12).1;have l13:=(agC.1 g13).1;have lH:=MA.le;have lT:=FI.le;have ei:=aX gi;have e5:=aX g5;have e12:=aX g12;have Jw:=aX g13;have yz:=YU (f,s) hf hs;have kT:mS (f,s)=.agg [.int .i64 f,.str s]:=rfl;rw[kT] at yz;rw[kT] at iS;obtain⟨wA,kK⟩:=Oh dY id qU tg rest;have vF:(lI dY++(jE id qU tg++rest)).length=dY.length*2+(2+rest.length):=by rw[agF,ma,agF];rfl
 unfold gQ at ei;have hbs:=λYi QN=>Tl dY id qU Yi tg QN rest;refine aK [14,17] [0,0,0,0,0,0,0,0,0,0,0,0,0,0,0,1,1,1] [[0,1,2,3],[]] aw (by kernel_rfl) (by kernel_rfl) λK hK=>?_;have fin:∀(e':Env)(U':au)(FB:Nat),Has U' (RT++(j5 E1++(FB,((qU++[p]).length,1))::j5 E2))->T.length<=FB->gG T U'->U.length<=U'.length->
   bC J.length U'.length e' [(14,.bJ i (dY.length+1) cap),(13,.ptr Cp 0),(0,.sl L.length (aN L) .none),(2,.ptr b2 0),(4,.ptr b4 0),(5,.aQ b5),(6,.aQ b6),(8,.ptr b8 0),(10,.ptr tG 0),(34,.sl L.length (aN L) .none),(35,.int .i64 (L.length:Nat)),(36,.int .i64 (vi:Nat)),(63,.sl zs.length (fg zs) .none),(64,.int .i64 (zs.length:Nat)),(65,.int .i64 (vj:Nat)),(70,.sl ws.length (dQ ws) .none),(71,.int .i64 (ws.length:Nat)),(72,.int .i64 (vk:Nat))]->K ⟨e',J.set i (.cells (lI dY++(jE id (qU++[p]) (.own FB)++rest))),U'⟩:=by
  intro e' U' FB hU' adZ aeM hUl Ci;have iQ:Has (J.set i (gQ dY id (qU++[p]) (.own FB) rest)) (R++(b5,.map es)::(dU E1++(i,gQ dY id (qU++[p]) (.own FB) rest)::dU E2)):=by
   have:=Has.set (A:=R++(b5,.map es)::dU E1) (B:=dU E2) (by simpa using hJ) (gQ dY id (qU++[p]) (.own FB) rest);simpa using this
  have se:gG H (J.set i (gQ dY id (qU++[p]) (.own FB) rest)):=MA.set hi _;have hl:(J.set i (gQ dY id (qU++[p]) (.own FB) rest)).length=J.length:=by simp
  rw[show aA.cells (lI dY++(jE id (qU++[p]) (.own FB)++rest))=gQ dY id (qU++[p]) (.own FB) rest from rfl];generalize J.set i (gQ dY id (qU++[p]) (.own FB) rest)=J2 at *;refine hK _ (dy λfj=>aI ⟨[(14,.bJ i (dY.length+1) cap),(13,.ptr Cp 0),(0,.sl L.length (aN L) .none),(2,.ptr b2 0),(4,.ptr b4 0),(5,.aQ b5),(6,.aQ b6),(8,.ptr b8 0),(10,.ptr tG 0),(34,.sl L.length (aN L) .none),(35,.int .i64 (L.length:Nat)),(36,.int .i64 (vi:Nat)),(63,.sl zs.length (fg zs) .none),(64,.int .i64 (zs.length:Nat)),(65,.int .i64 (vj:Nat)),(70,.sl ws.length (dQ ws) .none),(71,.int .i64 (ws.length:Nat)),(72,.int .i64 (vk:Nat))],J2,U'⟩ (ag [] [] (by simp) (by simp) (by show nb<=_;omega) (by show tb<=_;omega) fj (by rw[hl];exact Ci)) ?_);simp only at fj;have g5:=iQ.get (i:=b5) (b:=.map es) (by simp);have g13:=iQ.get (ag1 _ F3);have l5:=(agC.1 g5).1;have l13:=(agC.1 g13).1;have e5:=aX g5;have Jw:=aX g13;clear g5 g13 ei e12 gi;refine dy λAX=>?_;obtain⟨ee,qT⟩:∃ee:En,ee=⟨(f,s),dY,id,qU++[p],FB,i,cap,rest⟩:=⟨_,rfl⟩
  have FV:cG (E1++⟨(f,s),dY,id,qU++[p],0,i,cap,rest⟩::E2)=cG (E1++ee::E2):=by rw[qT];simp[cG,En.n]
  rw[FV] at iS;have Gf:dn prog 193 (cG (E1++ee::E2))=true:=by rw[<-iS];exact pY np yz
  have hS:dU (E1++ee::E2)=dU E1++(i,gQ dY id (qU++[p]) (.own FB) rest)::dU E2:=by rw[qT];simp[dU,En.oW]
  have hT:j5 (E1++ee::E2)=j5 E1++(FB,((qU++[p]).length,1))::j5 E2:=by rw[qT];simp[j5]
  rw[<-hS] at iQ;rw[<-hT] at hU';refine aC λK hK=>?_;simp(disch:=omega)[wa,e5,Jw,yz,np,iS];apply hK;have zk:=iQ.set (.map (cG (E1++ee::E2)));have hb:∀e∈E1++ee::E2,e.i<J2.length:=λe he=>iQ.lt (b:=e.oW) (by simp only[agR,ag6];exact .inr (.inr (agG.2 ⟨e,he,rfl⟩)));refine go _ _ _ (E1++ee::E2) zk hU' (λe he=>?_) Gf (px ee (by rw[qT]) (by rw[qT];rfl)) (se.set Jr _) aeM (by simp;omega) hUl (fj.rK (HU hb)) ?_
  ·rcases agR.1 he with he|he
   ·exact hE e (.inl he)
   ·rcases ag6.1 he with rfl|he
    ·rw[qT];exact⟨hr,cE,by show dY.length+1<=_;omega,by show (qU++[p]).length<=_;simp;omega,hi,adZ⟩
    ·exact hE e (.inr he)
  ·simp;omega
 rcases hU with⟨rfl,rfl,hU⟩|⟨tk,rfl,hU,iz⟩
 ·have Nx:(lI dY++(jE id [] .full++rest)).set (dY.length*2+1) (.sl 1 [.int .i64 p] (.own U.length))=lI dY++(jE id ([]++[p]) (.own U.length)++rest):=hbs [p] _;simp(disch:=omega)[ei,e12,wA,kK,vF];rw[Nx];refine fin _ _ U.length ?_ lT (FI.app _) (by simp) ?_
  ·refine(hU.new (1,1)).perm ?_;simp only[agV];exact((ahr _ _).symm.append_left _).append_left _
  ·simp;omega
 ·have Nx:(lI dY++(jE id qU (.own tk)++rest)).set (dY.length*2+1) (.sl (qU.length+1) (ints qU++[.int .i64 p]) (.own tk))=lI dY++(jE id (qU++[p]) (.own tk)++rest):=by
   rw[eE];have:=hbs (qU++[p]) (.own tk)
   rwa [agF] at this
  have gU:=hU.get (i:=tk) (b:=(qU.length,1)) (by simp);have lU:=(agC.1 gU).1;have eU:=aX gU;simp(disch:=omega)[ei,e12,wA,kK,vF,eU];rw[Nx];refine fin _ _ tk ?_ iz (FI.set iz _) (by simp) ?_
  ·have:=Has.set (A:=RT++j5 E1) (B:=j5 E2) (by simpa using hU) (qU.length+1,1);simpa using this
  ·simp;omega
def JV (H : List aA) (T : au) (nb tb N : Nat) (gw : nb <= H.length) (fQ : tb <= T.length) (L : List Dc) (zs : List Zn) (ws : List Wd) (vi vj vk b2 b4 b5 b6 b8 tG FK Cp : Nat) (id f : Int) (s : Bs) (p : Int) (zv nv : AV) (E : List En) (J : List aA) (U : au) (R : List (Nat × aA)) (RT : List (Nat × (Nat × Nat)))
    (hJ : Has J (R ++ (b5, .map (cG E)) :: dU E)) (hU : Has U (RT ++ j5 E)) (hE : ∀ e ∈ E, Gj H.length T.length N e) (hN : N <= 1099511627776) (mM : (E.map (·.k)).Nodup) (np : dn prog 193 (cG E) = true)
    (h8 : (b8, .cells [.int .i64 id, zv, nv]) ∈ R) (Q9 : (FK, .cells [.str s, .int .i64 p]) ∈ R) (F3 : (Cp, .cells [.int .i64 f, .str s]) ∈ R) (Jr : H.length <= b5) (jy : b2 < J.length) (WT : b4 < J.length) (hl6 : b6 < J.length) (YE : tG < J.length)
    (hf : -9223372036854775808 <= f /\ f <= 9223372036854775807) (hs : s.length <= maxLen) (MA : gG H J) (FI : gG T U) (Q : Exit -> St -> Prop)
    (go : ∀ (e : Env) (J' : List aA) (U' : au) (E' : List En), Has J' (R ++ (b5, .map (cG E')) :: dU E') -> Has U' (RT ++ j5 E') -> (∀ e ∈ E', Gj H.length T.length (N + 1) e) -> dn prog 193 (cG E') = true -> oR E (f, s) id p E' -> gG H J' -> gG T U' -> J.length <= J'.length -> U.length <= U'.length -> bN J' U' ->
      bC J'.length U'.length e [(0, .sl L.length (aN L) .none), (2, .ptr b2 0), (4, .ptr b4 0), (5, .aQ b5), (6, .aQ b6), (8, .ptr b8 0), (10, .ptr tG 0), (34, .sl L.length (aN L) .none), (35, .int .i64 (L.length : Nat)), (36, .int .i64 (vi : Nat)), (63, .sl zs.length (fg zs) .none), (64, .int .i64 (zs.length : Nat)), (65, .int .i64 (vj : Nat)), (70, .sl ws.length (dQ ws) .none), (71, .int .i64 (ws.length : Nat)), (72, .int .i64 (vk : Nat))] -> Q .normal ⟨e, J', U'⟩) :
    AW ⟨prog, 192, 152, nb, tb, [100104, 100147, 100166]⟩ (dX [1, 1, 1, 1, 1, 1, 1, 1, 0, 1, 0, 0, 1, 1, 0, 0, 1, 1, 1, 0, 1, 0, 0, 1, 1, 0, 0, 1, 1, 0, 0, 1, 1, 0, 0, 1, 1] (Tryz.f68.body.getD .skip)) Q ⟨[(12, .ptr FK 0), (13, .ptr Cp 0), (0, .sl L.length (aN L) .none), (2, .ptr b2 0), (4, .ptr b4 0), (5, .aQ b5), (6, .aQ b6), (8, .ptr b8 0), (10, .ptr tG 0), (34, .sl L.length (aN L) .none), (35, .int .i64 (L.length : Nat)), (36, .int .i64 (vi : Nat)), (63, .sl zs.length (fg zs) .none), (64, .int .i64 (zs.length : Nat)), (65, .int .i64 (vj : Nat)), (70, .sl ws.length (dQ ws) .none), (71, .int .i64 (ws.length : Nat)), (72, .int .i64 (vk : Nat))], J, U⟩ := by
  conv => arg 2; whnf
  have g5 := hJ.get (i := b5) (b := .map (cG E)) (by simp);have g8 := hJ.get (ag1 _ h8);have g12 := hJ.get (ag1 _ Q9);have g13 := hJ.get (ag1 _ F3);have l5 := (agC.1 g5).1;have l8 := (agC.1 g8).1;have l12 := (agC.1 g12).1;have l13 := (agC.1 g13).1;have lH := MA.le;have lT := FI.le;have e5 := aX g5;have e8 := aX g8;have e12 := aX g12;have Jw := aX g13;have yz := YU (f, s) hf hs;have kT : mS (f, s) = .agg [.int .i64 f, .str s] := rfl;rw [kT] at yz;refine dy λHO => ?_;simp only at HO
  by_cases hex : (f, s) ∈ E.map (·.k)
  rotate_left
  · have eB : iZ (cG E) (.agg [.int .i64 f, .str s]) (.sl 0 [] .full) false = .sl 0 [] .full := by
      unfold iZ;rw [<- kT, qs (Au hex)];rfl
    refine ae λK hK => ?_; simp (maxSteps := 1000000) (disch := omega) [-getD_eq_getElem?_getD, wa, C8, yz, np, e5, Jw, eB]; refine hK _ ?_; clear hK K;refine af λK1 aP => ?_;refine aK [] [] [] aw (by kernel_rfl) (by kernel_rfl) λK hK => ?_; simp (maxSteps := 1000000) (disch := omega) [-getD_eq_getElem?_getD];refine hK _ ?_; clear hK K;refine aU rfl (λh => ?_) (λh => absurd h (by simp));refine aC λK hK => ?_; simp (maxSteps := 1000000) (disch := omega) [-getD_eq_getElem?_getD, e8];intro nc ll;refine hK _ ?_; clear hK K;refine aP _ ?_; clear aP;have Cj : aA.cells (.int .i64 id :: .sl 0 [] .full :: List.replicate ((nc - 1) * 2) .top) = gQ [] id [] .full (List.replicate ((nc - 1) * 2) .top) := rfl;rw [Cj];have iQ := hJ.new (gQ [] id [] .full (List.replicate ((nc - 1) * 2) .top));have se := MA.app [gQ [] id [] .full (List.replicate ((nc - 1) * 2) .top)];have aeo : (J ++ [gQ [] id [] .full (List.replicate ((nc - 1) * 2) .top)]).length = J.length + 1 := by simp
    obtain ⟨i, hi⟩ : ∃ i, i = J.length := ⟨_, rfl⟩
    rw [<- hi] at iQ;simp only [<- hi];generalize J ++ [gQ [] id [] .full (List.replicate ((nc - 1) * 2) .top)] = J2 at *;refine dy λfj => ?_;simp only at fj;refine aI ⟨[(14, .bJ i (([] : List (Ps × Tag)).length + 1) nc), (12, .ptr FK 0), (13, .ptr Cp 0), (0, .sl L.length (aN L) .none), (2, .ptr b2 0), (4, .ptr b4 0), (5, .aQ b5), (6, .aQ b6), (8, .ptr b8 0), (10, .ptr tG 0), (34, .sl L.length (aN L) .none), (35, .int .i64 (L.length : Nat)), (36, .int .i64 (vi : Nat)), (63, .sl zs.length (fg zs) .none), (64, .int .i64 (zs.length : Nat)), (65, .int .i64 (vj : Nat)), (70, .sl ws.length (dQ ws) .none), (71, .int .i64 (ws.length : Nat)), (72, .int .i64 (vk : Nat))], J2, U⟩ (ag [] [] (by simp) (by simp) (by show nb <= _; omega) (by show tb <= _; omega) fj (by simp; omega)) ?_;have agl : ((E ++ [(⟨(f, s), [], id, [p], 0, i, nc, []⟩ : En)]).map (·.k)).Nodup := by
      rw [agS, ahn];exact ⟨mM, by simp, λa ha b hb => by simp at hb; rintro rfl; rw [hb] at ha; exact hex ha⟩
    exact xe H T nb tb N gw fQ L zs ws vi vj vk b2 b4 b5 b6 b8 tG FK Cp id f s p E [] (cG E) J2 U R RT i nc [] (List.replicate ((nc - 1) * 2) .top) [] .full (by simpa [dU] using iQ) (.inl ⟨rfl, rfl, by simpa [j5] using hU⟩)
      (λe he => by
        rcases he with he | he
        · have := hE e he; exact ⟨this.r, this.c, ajh this.n, ajh this.a, this.i, this.t⟩
        · simp at he) hN (by simp) ll (agP _) (agP _) (by omega) (PN ⟨(f, s), [], id, [] ++ [p], 0, i, nc, List.replicate ((nc - 1) * 2) .top⟩ hex) np E
      (λJx hk hp => by have := oR.add (e' := Jx) (d := id) (p := p) mM (by rw [hk]; exact hex) (by rw [hp]; rfl); rwa [hk] at this)
      Q9 F3 Jr (by omega) (by omega) (by omega) (by omega) (by omega) hf hs se FI fj Q (λe J' U' E' a1 a2 a3 a4 a5 a6 a7 a8 => go e J' U' E' a1 a2 a3 a4 a5 a6 a7 (by omega))
  · obtain ⟨e, MU, zj⟩ := agG.1 hex;obtain ⟨E1, E2, rfl⟩ := aiZ MU;obtain ⟨k0, dY, d, at_, tk, i, cap, rest⟩ := e;simp only at zj;subst zj;have jC := hE _ MU;have X6 : ∀ e, e ∈ E1 \/ e ∈ E2 -> Gj H.length T.length (N + 1) e := λe he => by
      have := hE e (by rcases he with he | he <;> simp [he]); exact ⟨this.r, this.c, ajh this.n, ajh this.a, this.i, this.t⟩
    obtain ⟨q1, q2, q3, q4, q5, q6⟩ := jC;simp only [En.n] at q1 q2 q3 q4 q5 q6;have MC : Has J (R ++ (b5, .map (cG (E1 ++ ⟨(f, s), dY, d, at_, tk, i, cap, rest⟩ :: E2))) :: (dU E1 ++ (i, gQ dY d at_ (.own tk) rest) :: dU E2)) := by simpa [dU, En.oW] using hJ
    have hUb : Has U (RT ++ (j5 E1 ++ (tk, (at_.length, 1)) :: j5 E2)) := by simpa [j5] using hU
    have gi := MC.get (i := i) (b := gQ dY d at_ (.own tk) rest) (by simp);have li := (agC.1 gi).1;have ei := aX gi;unfold gQ at ei gi;obtain ⟨wA, kK⟩ := Oh dY d at_ (.own tk) rest;have vF : (lI dY ++ (jE d at_ (.own tk) ++ rest)).length = dY.length * 2 + (2 + rest.length) := by rw [agF, ma, agF]; rfl
    have vO := PM mM;simp only [En.n] at vO;have eB : iZ (cG (E1 ++ ⟨(f, s), dY, d, at_, tk, i, cap, rest⟩ :: E2)) (.agg [.int .i64 f, .str s]) (.sl 0 [] .full) false = .bJ i (dY.length + 1) cap := by
      unfold iZ;rw [<- kT, vO];rfl
    have wP := λe' hk => PK mM e' hk;have hold := λe' p' hk hp => oR.vz (d := id) (p := p') mM (e' := e') hk hp;simp only at wP hold;generalize hEE : cG (E1 ++ ⟨(f, s), dY, d, at_, tk, i, cap, rest⟩ :: E2) = es at *;refine ae λK hK => ?_; simp (maxSteps := 1000000) (disch := omega) [-getD_eq_getElem?_getD, wa, C8, yz, np, e5, Jw, eB]; refine hK _ ?_; clear hK K;refine af λK1 aP => ?_;have bn : (((dY.length : Int) + 1) == 0) = false := ahq.2 (by omega);have Yg : ¬ ((dY.length : Int) + 1) = 0 := by omega
    by_cases hd : d = id
    · subst hd;have bd : (d != d) = false := by simp
      refine aK [] [] [] aw (by kernel_rfl) (by kernel_rfl) λK hK => ?_; simp (maxSteps := 1000000) (disch := omega) [-getD_eq_getElem?_getD, bn, Yg, ei, e8, wA, vF, bd];refine hK _ ?_; clear hK K;refine aU rfl (λh => absurd h (by simp)) (λh => ?_);apply aq; simp (maxSteps := 1000000) (disch := omega) [-getD_eq_getElem?_getD];refine aP _ ?_; clear aP;refine aI ⟨[(14, .bJ i (dY.length + 1) cap), (12, .ptr FK 0), (13, .ptr Cp 0), (0, .sl L.length (aN L) .none), (2, .ptr b2 0), (4, .ptr b4 0), (5, .aQ b5), (6, .aQ b6), (8, .ptr b8 0), (10, .ptr tG 0), (34, .sl L.length (aN L) .none), (35, .int .i64 (L.length : Nat)), (36, .int .i64 (vi : Nat)), (63, .sl zs.length (fg zs) .none), (64, .int .i64 (zs.length : Nat)), (65, .int .i64 (vj : Nat)), (70, .sl ws.length (dQ ws) .none), (71, .int .i64 (ws.length : Nat)), (72, .int .i64 (vk : Nat))], J, U⟩ (ag [] [] (by simp) (by simp) (by show nb <= _; omega) (by show tb <= _; omega) HO (by simp; omega)) ?_;refine xe H T nb tb N gw fQ L zs ws vi vj vk b2 b4 b5 b6 b8 tG FK Cp d f s p E1 E2 es J U R RT i cap dY rest at_ (.own tk) MC (.inr ⟨tk, rfl, hUb, q6⟩)
        X6 hN q1 q2 (by omega) q4 q5 (wP ⟨(f, s), dY, d, at_ ++ [p], 0, i, cap, rest⟩ rfl) np _
        (λJx hk hp => ?_)
        Q9 F3 Jr jy WT hl6 l8 YE hf hs MA FI HO Q go
      exact hold Jx p hk (by rw [hp]; show _ = wN (dY.map (·.1) ++ [(d, at_)]) d p; rw [qG, agN rfl])
    · have bd : (d != id) = true := by simpa using hd
      have hU0 : Has U (RT ++ (j5 E1 ++ j5 E2)) := hUb.sub (List.Sublist.append_left (List.Sublist.append_left (ahB _ _) _) _);have px : ∀ Jx : En, Jx.k = (f, s) -> Jx.pl = (dY ++ [((d, at_), Tag.own tk)]).map (·.1) ++ [(id, [] ++ [p])] -> oR (E1 ++ ⟨(f, s), dY, d, at_, tk, i, cap, rest⟩ :: E2) (f, s) id p (E1 ++ Jx :: E2) := λJx hk hp =>
        hold Jx p hk (by rw [hp]; show _ = wN (dY.map (·.1) ++ [(d, at_)]) id p; rw [qG, agL hd]; simp)
      have mV := λ(J2 : List aA) (i2 fZ : Nat) (dC : List AV) (hl : J.length <= J2.length) (iQ : Has J2 (R ++ (b5, .map es) :: (dU E1 ++ (i2, gQ (dY ++ [((d, at_), Tag.own tk)]) id [] .full dC) :: dU E2))) (fj : bN J2 U) (se : gG H J2) (oO : dC.length = (fZ - (dY.length + 2)) * 2) (oU : dY.length + 2 <= fZ) (zh : H.length <= i2) =>
        xe H T nb tb N gw fQ L zs ws vi vj vk b2 b4 b5 b6 b8 tG FK Cp id f s p E1 E2 es J2 U R RT i2 fZ (dY ++ [((d, at_), Tag.own tk)]) dC [] .full iQ (.inl ⟨rfl, rfl, hU0⟩)
          X6 hN (by rw [oO]; simp) (by simpa using oU) (by simp; omega) (agP _) zh (by have := wP ⟨(f, s), dY ++ [((d, at_), Tag.own tk)], id, [] ++ [p], 0, i2, fZ, dC⟩ rfl; exact this) np _ px
          Q9 F3 Jr (by omega) (by omega) (by omega) (by omega) (by omega) hf hs se FI fj Q (λe J' U' E' a1 a2 a3 a4 a5 a6 a7 a8 => go e J' U' E' a1 a2 a3 a4 a5 a6 a7 (by omega))
      have iz : (lI dY ++ (jE d at_ (.own tk) ++ rest)).take ((dY.length + 1) * 2) = lI (dY ++ [((d, at_), Tag.own tk)]) := by
        rw [<- agV, zZ, ahD (by rw [ma]; simp)]
      have qc : (lI dY ++ (jE d at_ (.own tk) ++ rest)).drop ((dY.length + 1 + 1) * 2) = rest.drop 2 := by
        rw [<- agV, zZ, List.drop_append, aiW (by rw [ma, agF, ahw]; omega), aic, ma]
        congr 1; simp; omega
      refine aK [] [] [] aw (by kernel_rfl) (by kernel_rfl) λK hK => ?_; simp (maxSteps := 1000000) (disch := omega) [-getD_eq_getElem?_getD, bn, Yg, ei, e8, wA, vF, bd];refine hK _ ?_; clear hK K;refine aU rfl (λh => ?_) (λh => absurd h (by simp));refine aC λK hK => ?_; simp (maxSteps := 1000000) (disch := omega) [-getD_eq_getElem?_getD, e8];refine ⟨140, _, [.int .i64 id, .sl 0 [] .full], 1, by kernel_rfl, gi, by rw [vF, xM]; omega, by simp, by simp; omega, by omega, by kernel_rfl, by simp, λhle => ?_, λnc aZ ll => ?_⟩
      · simp only [xM, iz, qc];rw [show aA.cells (lI (dY ++ [((d, at_), Tag.own tk)]) ++ [.int .i64 id, .sl 0 [] .full] ++ rest.drop 2) = gQ (dY ++ [((d, at_), Tag.own tk)]) id [] .full (rest.drop 2) by rw [agV]; rfl];have iQ : Has (J.set i (gQ (dY ++ [((d, at_), Tag.own tk)]) id [] .full (rest.drop 2))) (R ++ (b5, .map es) :: (dU E1 ++ (i, gQ (dY ++ [((d, at_), Tag.own tk)]) id [] .full (rest.drop 2)) :: dU E2)) := by
          have := Has.set (A := R ++ (b5, .map es) :: dU E1) (B := dU E2) (by simpa using MC) (gQ (dY ++ [((d, at_), Tag.own tk)]) id [] .full (rest.drop 2));simpa using this
        have se := MA.set q5 (gQ (dY ++ [((d, at_), Tag.own tk)]) id [] .full (rest.drop 2));have hl : J.length = (J.set i (gQ (dY ++ [((d, at_), Tag.own tk)]) id [] .full (rest.drop 2))).length := by simp
        generalize J.set i (gQ (dY ++ [((d, at_), Tag.own tk)]) id [] .full (rest.drop 2)) = J2 at *;simp (maxSteps := 1000000) (disch := omega) [-getD_eq_getElem?_getD];refine hK _ ?_; clear hK K;refine aP _ ?_; clear aP;refine dy λfj => ?_;simp only at fj;refine aI ⟨[(14, .bJ i ((dY ++ [((d, at_), Tag.own tk)]).length + 1) cap), (12, .ptr FK 0), (13, .ptr Cp 0), (0, .sl L.length (aN L) .none), (2, .ptr b2 0), (4, .ptr b4 0), (5, .aQ b5), (6, .aQ b6), (8, .ptr b8 0), (10, .ptr tG 0), (34, .sl L.length (aN L) .none), (35, .int .i64 (L.length : Nat)), (36, .int .i64 (vi : Nat)), (63, .sl zs.length (fg zs) .none), (64, .int .i64 (zs.length : Nat)), (65, .int .i64 (vj : Nat)), (70, .sl ws.length (dQ ws) .none), (71, .int .i64 (ws.length : Nat)), (72, .int .i64 (vk : Nat))], J2, U⟩ (ag [] [] (by simp) (by simp) (by show nb <= _; omega) (by show tb <= _; omega) fj (by simp; omega)) ?_;exact mV J2 i cap (rest.drop 2) (by omega) iQ fj se (by rw [ahp]; omega) (by omega) q5
      · simp only [xM, iz];obtain ⟨r2, oO⟩ : ∃ r2, r2 = List.replicate ((nc - (dY.length + 1 + 1)) * 2) AV.top := ⟨_, rfl⟩
        have M9 : r2.length = (nc - (dY.length + 2)) * 2 := by rw [oO]; simp
        rw [<- oO];rw [show aA.cells (lI (dY ++ [((d, at_), Tag.own tk)]) ++ [.int .i64 id, .sl 0 [] .full] ++ r2) = gQ (dY ++ [((d, at_), Tag.own tk)]) id [] .full r2 by rw [agV]; rfl];have iQ : Has (J ++ [gQ (dY ++ [((d, at_), Tag.own tk)]) id [] .full r2]) (R ++ (b5, .map es) :: (dU E1 ++ (J.length, gQ (dY ++ [((d, at_), Tag.own tk)]) id [] .full r2) :: dU E2)) := by
          have h0 : Has J (R ++ (b5, .map es) :: (dU E1 ++ dU E2)) := MC.sub (List.Sublist.append_left (List.Sublist.cons_cons _ (List.Sublist.append_left (ahB _ _) _)) _);refine (h0.new _).perm ?_;simp only [agV, aiQ];exact (((ahr _ _).symm.append_left _).cons _).append_left _
        have se := MA.app [gQ (dY ++ [((d, at_), Tag.own tk)]) id [] .full r2];have aeo : (J ++ [gQ (dY ++ [((d, at_), Tag.own tk)]) id [] .full r2]).length = J.length + 1 := by simp
        obtain ⟨i2, zh⟩ : ∃ i, i = J.length := ⟨_, rfl⟩
        rw [<- zh] at iQ;simp only [<- zh];generalize J ++ [gQ (dY ++ [((d, at_), Tag.own tk)]) id [] .full r2] = J2 at *;simp (maxSteps := 1000000) (disch := omega) [-getD_eq_getElem?_getD];refine hK _ ?_; clear hK K;refine aP _ ?_; clear aP;refine dy λfj => ?_;simp only at fj;refine aI ⟨[(14, .bJ i2 ((dY ++ [((d, at_), Tag.own tk)]).length + 1) nc), (12, .ptr FK 0), (13, .ptr Cp 0), (0, .sl L.length (aN L) .none), (2, .ptr b2 0), (4, .ptr b4 0), (5, .aQ b5), (6, .aQ b6), (8, .ptr b8 0), (10, .ptr tG 0), (34, .sl L.length (aN L) .none), (35, .int .i64 (L.length : Nat)), (36, .int .i64 (vi : Nat)), (63, .sl zs.length (fg zs) .none), (64, .int .i64 (zs.length : Nat)), (65, .int .i64 (vj : Nat)), (70, .sl ws.length (dQ ws) .none), (71, .int .i64 (ws.length : Nat)), (72, .int .i64 (vk : Nat))], J2, U⟩ (ag [] [] (by simp) (by simp) (by show nb <= _; omega) (by show tb <= _; omega) fj (by simp; omega)) ?_;exact mV J2 i2 nc r2 (by omega) iQ fj se M9 (by omega) (by omega)
end Go.Proofs.YtoejlmpbebjemaaGreat
namespace eN
open Go Go.Am
inductive om (id:Int):List En->List (Ky×Int)->List En->Prop
 |nil (E:List En):om id E [] E
 |snoc {E E1 E2:List En} {l:List (Ky×Int)} {k:Ky} {p:Int} (h:om id E l E1) (h2:oR E1 k id p E2):om id E (l++[(k,p)]) E2
theorem om.trans {id:Int}{E E1 E2:List En}{l m:List (Ky×Int)}(h:om id E l E1)(k:om id E1 m E2):om id E (l++m) E2:=by
 induction k with
 |nil=>simpa using h
 |snoc _ h2 ih=>rw[<-append_assoc];exact ih.snoc h2
def oZ (f:Int)(ws:List Wd):List (Ky×Int):=ws.map λw=>((f,w.1),w.2)
def eP (zs:List Zn):List (Ky×Int):=zs.flatMap λz=>oZ z.f z.ws
def JR (f:Int)(ws:List Wd)(k:Nat)(h:k<ws.length):oZ f (ws.take k)++[((f,(ws.getD k w0).1),(ws.getD k w0).2)]=oZ f (ws.take (k+1)):=by
 rw[aV ws k w0 h];simp[oZ]
def LS (zs:List Zn)(k:Nat)(h:k<zs.length):eP (zs.take k)++oZ (zs.getD k z0).f (zs.getD k z0).ws=eP (zs.take (k+1)):=by
 rw[aV zs k z0 h];simp[eP]
end eN
namespace Go.Proofs.YtoejlmpbebjemaaGreat
open Go Go.Am ia eN
structure BI (H:List aA)(T:au)(R:List (Nat×aA))(RT:List (Nat×(Nat×Nat)))(b5 N:Nat)(J:List aA)(U:au)(E:List En):Prop where
 hJ:Has J (R++(b5,.map (cG E))::dU E)
 hU:Has U (RT++j5 E)
 hE:∀e∈E,Gj H.length T.length N e
 nd:(E.map (·.k)).Nodup
 ft:dn Tryz.prog 193 (cG E)=true
 pJ:gG H J
 pU:gG T U
 ok:bN J U
def BI.more {H:List aA}{T:au}{R:List (Nat×aA)}{RT:List (Nat×(Nat×Nat))}{b5 N:Nat}{J:List aA}{U:au}{E:List En}(h:BI H T R RT b5 N J U E){M:Nat}(hm:N<=M):BI H T R RT b5 M J U E:=
 ⟨h.hJ,h.hU,λe he=>have q:=h.hE e he;⟨q.r,q.c,agJ q.n hm,agJ q.a hm,q.i,q.t⟩,h.nd,h.ft,h.pJ,h.pU,h.ok⟩
theorem BI.sub {H:List aA}{T:au}{R R':List (Nat×aA)}{RT:List (Nat×(Nat×Nat))}{b5 N:Nat}{J:List aA}{U:au}{E:List En}(h:BI H T R RT b5 N J U E)(hs:R'.Sublist R):BI H T R' RT b5 N J U E:=
 ⟨h.hJ.sub (hs.append_right _),h.hU,h.hE,h.nd,h.ft,h.pJ,h.pU,h.ok⟩
theorem BI.new {H:List aA}{T:au}{R:List (Nat×aA)}{RT:List (Nat×(Nat×Nat))}{b5 N:Nat}{J:List aA}{U:au}{E:List En}(h:BI H T R RT b5 N J U E)(b:aA)(ho:bN (J++[b]) U):BI H T ((J.length,b)::R) RT b5 N (J++[b]) U E:=by
 refine⟨?_,h.hU,h.hE,h.nd,h.ft,h.pJ.app _,h.pU,ho⟩;exact(h.hJ.new b).perm (ahr _ _).symm
def JW (H:List aA)(T:au)(nb tb N:Nat)(gw:nb<=H.length)(fQ:tb<=T.length)(L:List Dc)(zs:List Zn)(ws:List Wd)(vi vj vk b2 b4 b5 b6 b8 tG:Nat)(id f:Int)(zv nv wv:AV)(E:List En)(J:List aA)(U:au)(R:List (Nat×aA))(RT:List (Nat×(Nat×Nat)))
  (hB:BI H T R RT b5 N J U E) (hN:N<=1099511627776) (hk:vk<ws.length) (gO:ws.length<=1099511627776)
  (h8:(b8,.cells [.int .i64 id,zv,nv])∈R) (MW:(tG,.cells [.int .i64 f,wv])∈R) (Jr:H.length<=b5) (jy:b2<J.length) (WT:b4<J.length) (hl6:b6<J.length)
  (hf:-9223372036854775808<=f/\f<=9223372036854775807) (hs:(ws.getD vk w0).1.length<=maxLen) (Q:Exit->St->Prop)
  (go:∀(e:Env)(J':List aA)(U':au)(E':List En),BI H T R RT b5 (N+1) J' U' E'->oR E (f,(ws.getD vk w0).1) id (ws.getD vk w0).2 E'->J.length<=J'.length->bC J'.length U'.length e [(0,.sl L.length (aN L) .none),(2,.ptr b2 0),(4,.ptr b4 0),(5,.aQ b5),(6,.aQ b6),(8,.ptr b8 0),(10,.ptr tG 0),(34,.sl L.length (aN L) .none),(35,.int .i64 (L.length:Nat)),(36,.int .i64 (vi:Nat)),(63,.sl zs.length (fg zs) .none),(64,.int .i64 (zs.length:Nat)),(65,.int .i64 (vj:Nat)),(70,.sl ws.length (dQ ws) .none),(71,.int .i64 (ws.length:Nat)),(72,.int .i64 (vk:Nat))]->Q .normal ⟨e,J',U'⟩) :
  AW ⟨Tryz.prog,192,152,nb,tb,[100104,100147,100166]⟩ (dX [1,1,1,1,1,1,1,1,0,1,0,0,1,1,0,0,1,1,1,0,1,0,0,1,1,0,0,1,1,0,0,1,1,0,0] (Tryz.f68.body.getD .skip)) Q ⟨[(0,.sl L.length (aN L) .none),(2,.ptr b2 0),(4,.ptr b4 0),(5,.aQ b5),(6,.aQ b6),(8,.ptr b8 0),(10,.ptr tG 0),(34,.sl L.length (aN L) .none),(35,.int .i64 (L.length:Nat)),(36,.int .i64 (vi:Nat)),(63,.sl zs.length (fg zs) .none),(64,.int .i64 (zs.length:Nat)),(65,.int .i64 (vj:Nat)),(70,.sl ws.length (dQ ws) .none),(71,.int .i64 (ws.length:Nat)),(72,.int .i64 (vk:Nat))],J,U⟩:=by
 conv=>arg 2;whnf
 have g10:=hB.hJ.get (ag1 _ MW);have g8:=hB.hJ.get (ag1 _ h8);have l10:=(agC.1 g10).1;have l8:=(agC.1 g8).1;have l5:=hB.hJ.lt (i:=b5) (b:=.map (cG E)) (by simp);have Yf:=aX g10;have lH:=hB.pJ.le;have lT:=hB.pU.le;have bu:=sS ws vk hk;have HO:=hB.ok;generalize ws.getD vk w0=x at *;obtain⟨s,p⟩:=x;simp only at bu hs go;refine ae λK hK=>?_;simp(disch:=omega)[-getD_eq_getElem?_getD,bu,gj];apply hK;refine ae λK hK=>?_;simp(disch:=omega)[-getD_eq_getElem?_getD,Yf,agK,ahS];apply hK;have rn:bN (J++[.cells [.str s,.int .i64 p]]) U:=HO.snoc (by simp);have US:bN ((J++[.cells [.str s,.int .i64 p]])++[.cells [.int .i64 f,.str s]]) U:=rn.snoc (by simp);have FJ:=(hB.new (.cells [.str s,.int .i64 p]) rn).new (.cells [.int .i64 f,.str s]) US;have Cv:((J++[aA.cells [.str s,.int .i64 p]])++[aA.cells [.int .i64 f,.str s]]).length=J.length+2:=by simp
 rw[show (J++[aA.cells [.str s,.int .i64 p]]).length=J.length+1 by simp] at FJ;have hap:J++[aA.cells [.str s,.int .i64 p],aA.cells [.int .i64 f,.str s]]=(J++[aA.cells [.str s,.int .i64 p]])++[aA.cells [.int .i64 f,.str s]]:=by simp
 rw[hap];obtain⟨FK,Q9⟩:∃i,i=J.length:=⟨_,rfl⟩
 obtain⟨Cp,F3⟩:∃i,i=J.length+1:=⟨_,rfl⟩
 rw[<-F3,<-Q9] at FJ;simp only[<-F3,<-Q9];generalize (J++[aA.cells [.str s,.int .i64 p]])++[aA.cells [.int .i64 f,.str s]]=J2 at *;refine aI ⟨[(12,.ptr FK 0),(13,.ptr Cp 0),(0,.sl L.length (aN L) .none),(2,.ptr b2 0),(4,.ptr b4 0),(5,.aQ b5),(6,.aQ b6),(8,.ptr b8 0),(10,.ptr tG 0),(34,.sl L.length (aN L) .none),(35,.int .i64 (L.length:Nat)),(36,.int .i64 (vi:Nat)),(63,.sl zs.length (fg zs) .none),(64,.int .i64 (zs.length:Nat)),(65,.int .i64 (vj:Nat)),(70,.sl ws.length (dQ ws) .none),(71,.int .i64 (ws.length:Nat)),(72,.int .i64 (vk:Nat))],J2,U⟩ (ag [] [] (by simp) (by simp) (by show nb<=_;omega) (by show tb<=_;omega) FJ.ok (by simp;omega)) ?_;exact JV H T nb tb N gw fQ L zs ws vi vj vk b2 b4 b5 b6 b8 tG FK Cp id f s p zv nv E J2 U _ RT FJ.hJ FJ.hU FJ.hE hN FJ.nd FJ.ft (by simp[h8]) (by simp) (by simp) Jr (by omega) (by omega) (by omega) (by omega) hf hs FJ.pJ FJ.pU Q
  (λe J' U' E' a1 a2 a3 a4 a5 a6 a7 a8 a9 a10 a11=>go e J' U' E' (BI.sub ⟨a1,a2,a3,a5.nd,a4,a6,a7,a10⟩ (by simp)) a5 (by omega) a11)
attribute [-simp] getD_eq_getElem?_getD in
def JS (H:List aA)(T:au)(nb tb N:Nat)(gw:nb<=H.length)(fQ:tb<=T.length)(L:List Dc)(zs:List Zn)(vi vj b2 b4 b5 b6 b8:Nat)(id:Int)(zv nv:AV)(E:List En)(J:List aA)(U:au)(R:List (Nat×aA))(RT:List (Nat×(Nat×Nat)))
  (hB:BI H T R RT b5 N J U E) (hk:vj<zs.length) (hN:N+(zs.getD vj z0).ws.length<=1099511627776)
  (h8:(b8,.cells [.int .i64 id,zv,nv])∈R) (Jr:H.length<=b5) (jy:b2<J.length) (WT:b4<J.length) (hl6:b6<J.length)
  (hf:-9223372036854775808<=(zs.getD vj z0).f/\(zs.getD vj z0).f<=9223372036854775807) (hs:∀w∈(zs.getD vj z0).ws,w.1.length<=maxLen) (Q:Exit->St->Prop)
  (go:∀(e:Env)(J':List aA)(U':au)(E':List En),BI H T R RT b5 (N+(zs.getD vj z0).ws.length) J' U' E'->om id E (oZ (zs.getD vj z0).f (zs.getD vj z0).ws) E'->J.length<=J'.length->bC J'.length U'.length e [(0,.sl L.length (aN L) .none),(2,.ptr b2 0),(4,.ptr b4 0),(5,.aQ b5),(6,.aQ b6),(8,.ptr b8 0),(34,.sl L.length (aN L) .none),(35,.int .i64 (L.length:Nat)),(36,.int .i64 (vi:Nat)),(63,.sl zs.length (fg zs) .none),(64,.int .i64 (zs.length:Nat)),(65,.int .i64 (vj:Nat))]->Q .normal ⟨e,J',U'⟩) :
  AW ⟨Tryz.prog,192,152,nb,tb,[100104,100147,100166]⟩ (dX [1,1,1,1,1,1,1,1,0,1,0,0,1,1,0,0,1,1,1,0,1,0,0,1,1,0,0] (Tryz.f68.body.getD .skip)) Q ⟨[(0,.sl L.length (aN L) .none),(2,.ptr b2 0),(4,.ptr b4 0),(5,.aQ b5),(6,.aQ b6),(8,.ptr b8 0),(34,.sl L.length (aN L) .none),(35,.int .i64 (L.length:Nat)),(36,.int .i64 (vi:Nat)),(63,.sl zs.length (fg zs) .none),(64,.int .i64 (zs.length:Nat)),(65,.int .i64 (vj:Nat))],J,U⟩:=by
 conv=>arg 2;whnf
 have l8:=hB.hJ.lt (ag1 _ h8);have l5:=hB.hJ.lt (i:=b5) (b:=.map (cG E)) (by simp);have lH:=hB.pJ.le;have lT:=hB.pU.le;have bu:=sQ zs vj hk;have HO:=hB.ok;generalize zs.getD vj z0=z at *;obtain⟨f,ws⟩:=z;simp only at bu hs hf hN go;refine ae λK hK=>?_;simp(disch:=omega)[bu,fN];apply hK;apply ae;intro K Z;simp(disch:=omega);apply Z;have rn:bN (J++[.cells [.int .i64 f,.sl ws.length (dQ ws) .none]]) U:=HO.snoc (by simp);have FJ:=hB.new _ rn;have Cv:(J++[aA.cells [.int .i64 f,.sl ws.length (dQ ws) .none]]).length=J.length+1:=by simp
 obtain⟨tG,MW⟩:∃i,i=J.length:=⟨_,rfl⟩
 rw[<-MW] at FJ;simp only[<-MW];generalize J++[aA.cells [.int .i64 f,.sl ws.length (dQ ws) .none]]=J1 at *;apply aj;refine aJ (X:=Nat×List aA×au×List En) (λx=>⟨[(0,.sl L.length (aN L) .none),(2,.ptr b2 0),(4,.ptr b4 0),(5,.aQ b5),(6,.aQ b6),(8,.ptr b8 0),(10,.ptr tG 0),(34,.sl L.length (aN L) .none),(35,.int .i64 (L.length:Nat)),(36,.int .i64 (vi:Nat)),(63,.sl zs.length (fg zs) .none),(64,.int .i64 (zs.length:Nat)),(65,.int .i64 (vj:Nat)),(70,.sl ws.length (dQ ws) .none),(71,.int .i64 (ws.length:Nat)),(72,.int .i64 (x.1:Nat))],x.2.1,x.2.2.1⟩)
  (λx=>x.1<=ws.length/\BI H T ((tG,.cells [.int .i64 f,.sl ws.length (dQ ws) .none])::R) RT b5 (N+x.1) x.2.1 x.2.2.1 x.2.2.2/\om id E (oZ f (ws.take x.1)) x.2.2.2/\J1.length<=x.2.1.length) (λx=>ws.length-x.1) (0,J1,U,E) ?_ ?_ ?_
 ·exact⟨agP _,FJ,.nil E,agE _⟩
 ·refine ag [] [] ?_ ?_ ?_ ?_ FJ.ok ?_
  all_goals simp
  all_goals omega
 ·rintro⟨k,J2,U2,E2⟩ ⟨k1,k2,k3,k4⟩;simp only at k1 k2 k3 k4;have Mr:=k2.pJ.le;have Qm:=k2.pU.le;apply ae;intro K Z;simp(disch:=omega);apply Z;refine af λK2 bp=>?_;refine aU rfl (λgB=>?_) (λgB=>?_)
  ·simp  at gB;apply aq;simp(disch:=omega) ;apply bp;clear bp;refine af λK3 bG=>?_;apply aj;refine aI ⟨[(0,.sl L.length (aN L) .none),(2,.ptr b2 0),(4,.ptr b4 0),(5,.aQ b5),(6,.aQ b6),(8,.ptr b8 0),(10,.ptr tG 0),(34,.sl L.length (aN L) .none),(35,.int .i64 (L.length:Nat)),(36,.int .i64 (vi:Nat)),(63,.sl zs.length (fg zs) .none),(64,.int .i64 (zs.length:Nat)),(65,.int .i64 (vj:Nat)),(70,.sl ws.length (dQ ws) .none),(71,.int .i64 (ws.length:Nat)),(72,.int .i64 (k:Nat))],J2,U2⟩ (ag [] [] (by simp) (by simp) (by show nb<=_;omega) (by show tb<=_;omega) k2.ok (by simp;omega)) ?_;refine JW H T nb tb (N+k) gw fQ L zs ws vi vj k b2 b4 b5 b6 b8 tG id f zv nv (.sl ws.length (dQ ws) .none) E2 J2 U2 _ RT k2 (by omega) gB (by omega) (by simp[h8]) (by simp) Jr (by omega) (by omega) (by omega) hf (hs _ (aT ws k w0 gB)) _ λe J' U' E' a1 a2 a3 a4=>?_;have Jm:=a1.pJ.le;have Jl:=a1.pU.le;refine bG _ (aI ⟨[(0,.sl L.length (aN L) .none),(2,.ptr b2 0),(4,.ptr b4 0),(5,.aQ b5),(6,.aQ b6),(8,.ptr b8 0),(10,.ptr tG 0),(34,.sl L.length (aN L) .none),(35,.int .i64 (L.length:Nat)),(36,.int .i64 (vi:Nat)),(63,.sl zs.length (fg zs) .none),(64,.int .i64 (zs.length:Nat)),(65,.int .i64 (vj:Nat)),(70,.sl ws.length (dQ ws) .none),(71,.int .i64 (ws.length:Nat)),(72,.int .i64 (k:Nat))],J',U'⟩ (ag [] [] (by simp) (by simp) (by show nb<=_;omega) (by show tb<=_;omega) a1.ok a4) ?_);clear bG;refine aC λK hK=>?_;simp(disch:=omega) ;apply hK;refine⟨(k+1,J',U',E'),⟨by show k+1<=_;omega,a1,?_,by show J1.length<=J'.length;omega⟩,by show ws.length-(k+1)<ws.length-k;omega,?_⟩
   ·show om id E (oZ f (ws.take (k+1))) E';rw[<-JR f ws k gB];exact k3.snoc a2
   ·refine ag [] [] ?_ ?_ ?_ ?_ a1.ok ?_
    all_goals simp
    all_goals omega
  ·simp  at gB;have qa:k=ws.length:=by omega
   subst qa;apply aG;simp(disch:=omega) ;rw[agZ] at k3;refine go _ J2 U2 E2 (k2.sub (by simp)) k3 (by omega) ?_;simp;omega
end Go.Proofs.YtoejlmpbebjemaaGreat
namespace eN
open Go Go.Am
structure Ef where
 f:Int
 x:List Nm
 i:Nat
 cap:Nat
 rest:List AV
end eN
namespace Go.Proofs.YtoejlmpbebjemaaGreat
open Go.Proofs.Tryz(prog)
open Go Go.Am ia eN
def Ef.oW (e:Ef):aA:=.cells (bA e.x++e.rest)
def kP (f:Int):cS:=.one (.int .i64 f)
def bP (F:List Ef):List (cS×AV):=F.map λe=>(kP e.f,.bJ e.i e.x.length e.cap)
def iY (F:List Ef):List (Nat×aA):=F.map λe=>(e.i,Ef.oW e)
structure RJ (nb N:Nat)(e:Ef):Prop where
 r:e.rest.length=(e.cap-e.x.length)*2
 c:e.x.length<=e.cap
 n:e.x.length<=N
 i:nb<=e.i
 p:0<e.x.length
def QQ (F:List Ef)(f:Int):List Nm:=match F.find? (λe=>e.f==f) with
 |some e=>e.x
 |none=>[]
structure sI (F:List Ef)(f:Int)(it:Nm)(F':List Ef):Prop where
 lk:∀f',QQ F' f'=if f'=f then QQ F f++[it] else QQ F f'
 nd:(F'.map (·.f)).Nodup
 ks:∀f',f'∈F'.map (·.f)↔f'=f\/f'∈F.map (·.f)
def nW {E1 E2:List Ef}{e:Ef}(h:((E1++e::E2).map (·.f)).Nodup)(k:Int):(E1++e::E2).find? (λx=>x.f==k)=if k=e.f then some e else (E1++E2).find? (λx=>x.f==k):=by
 have h1:∀x∈E1,x.f≠e.f:=λx hx=>by
  rw[agS,ahn] at h;exact h.2.2 x.f (agG.2 ⟨x,hx,rfl⟩) e.f (by simp)
 rw[find?_append,List.find?_cons,find?_append]
 by_cases hk:k=e.f
 ·subst hk;have:E1.find? (λx=>x.f==e.f)=none:=by
   rw[ahT];intro x hx;simpa using h1 x hx
  rw[this];simp
 ·rw[agL hk,ahq.2 (Ne.symm hk)]
def sI.vz {E1 E2:List Ef}{e e':Ef}{it:Nm}(h:((E1++e::E2).map (·.f)).Nodup)(hk:e'.f=e.f)(hp:e'.x=e.x++[it]):sI (E1++e::E2) e.f it (E1++e'::E2):=by
 have h':((E1++e'::E2).map (·.f)).Nodup:=by
  rw[agS,ahi,hk];rwa [agS,ahi] at h
 refine⟨λk'=>?_,h',λk'=>?_⟩
 ·unfold QQ;rw[nW h',nW h,nW h,hk]
  by_cases hh:k'=e.f
  ·subst hh;simp[hp]
  ·simp only[agL hh]
 ·simp only[agS,ahi,hk,agR,ag6]
  constructor
  ·exact .inr
  ·rintro (rfl|hh)
   ·exact .inr (.inl rfl)
   ·exact hh
def sI.add {E:List Ef}{e':Ef}{it:Nm}(h:(E.map (·.f)).Nodup)(hk:e'.f∉E.map (·.f))(hp:e'.x=[it]):sI E e'.f it (E++[e']):=by
 have h':((E++e'::[]).map (·.f)).Nodup:=by
  rw[agS,ahn];exact⟨h,by simp,λa ha b hb=>by simp at hb;rintro rfl;rw[hb] at ha;exact hk ha⟩
 have hn:E.find? (λx=>x.f==e'.f)=none:=by
  rw[ahT];intro x hx;have:x.f≠e'.f:=λee=>hk (agG.2 ⟨x,hx,ee⟩);simpa using this
 refine⟨λk'=>?_,h',λk'=>?_⟩
 ·unfold QQ;rw[nW h']
  by_cases hh:k'=e'.f
  ·subst hh;rw[hn];simp[hp]
  ·simp only[agL hh,ag2]
 ·simp[or_comm]
def pM {a b:Int}:kP a=kP b↔a=b:=by simp[kP]
def Aw (F:List Ef):(bP F).map (·.1)=(F.map (·.f)).map kP:=by simp[bP,Function.comp_def]
def Eg {E1 E2:List Ef}{e:Ef}(h:((E1++e::E2).map (·.f)).Nodup):vI (bP (E1++e::E2)) (kP e.f)=some (.bJ e.i e.x.length e.cap):=by
 have hn:((bP (E1++e::E2)).map (·.1)).Nodup:=by
  rw[Aw];exact nS (λa b jK=>pM.1 jK) h
 have hj:E1.length<(bP (E1++e::E2)).length:=by simp[bP]
 have he:(bP (E1++e::E2))[E1.length]'hj=(kP e.f,.bJ e.i e.x.length e.cap):=by simp[bP]
 rw[v8 hn hj (by rw[he]),he]
def PO {E1 E2:List Ef}{e:Ef}(h:((E1++e::E2).map (·.f)).Nodup)(e':Ef)(hk:e'.f=e.f):kO (bP (E1++e::E2)) (kP e.f) (.bJ e'.i e'.x.length e'.cap)=bP (E1++e'::E2):=by
 have hn:((bP (E1++e::E2)).map (·.1)).Nodup:=by
  rw[Aw];exact nS (λa b jK=>pM.1 jK) h
 have hj:E1.length<(bP (E1++e::E2)).length:=by simp[bP]
 have he:(bP (E1++e::E2))[E1.length]'hj=(kP e.f,.bJ e.i e.x.length e.cap):=by simp[bP]
 rw[Bu hn hj (by rw[he])];simp[bP,hk]
def uH {E:List Ef}{k:Int}(h:k∉E.map (·.f)):∀x∈bP E,x.1≠kP k:=by
 intro x hx;obtain⟨e,he,rfl⟩:=agG.1 hx;exact λhh=>h (agG.2 ⟨e,he,pM.1 hh⟩)
def PQ {E:List Ef}(e':Ef)(h:e'.f∉E.map (·.f)):kO (bP E) (kP e'.f) (.bJ e'.i e'.x.length e'.cap)=bP (E++[e']):=by
 rw[nT (uH h)];simp[bP]
def yb {E:List Ef}{n t:Nat}(h:∀e∈E,e.i<n):aM n t ((bP E).map (·.2)):=by
 intro v hv;simp only[bP,ahG,agG,Function.comp] at hv;obtain⟨e,he,rfl⟩:=hv;exact .bJ _ _ _ (h e he)
def JL (f:Int)(hf:-9223372036854775808<=f/\f<=9223372036854775807):mE prog 3 (kP f)=true:=by
 have hu:prog.underlying 3=some (.int .i64):=by kernel_rfl
 have XE:(Lit.int .i64 f).wf=true:=by
  simp only[Lit.wf,agO,agQ];exact hf
 unfold mE keyOf mapKey;rw[hu];simp[kP,cS.val,KC.val,XE]
structure BF (H:List aA)(T:au)(R:List (Nat×aA))(b6 N:Nat)(J:List aA)(U:au)(F:List Ef):Prop where
 hJ:Has J (R++(b6,.map (bP F))::iY F)
 hF:∀e∈F,RJ H.length N e
 nd:(F.map (·.f)).Nodup
 ft:dn prog 3 (bP F)=true
 pJ:gG H J
 pU:gG T U
 ok:bN J U
attribute [-simp] getD_eq_getElem?_getD in
def Pm (H:List aA)(T:au)(nb tb N:Nat)(gw:nb<=H.length)(fQ:tb<=T.length)(L:List Dc)(ns:List Nm)(vi vk b2 b4 b5 b6 b8:Nat)(id:Int)(zv nv:AV)(F:List Ef)(J:List aA)(U:au)(R:List (Nat×aA))
  (hB:BF H T R b6 N J U F) (hN:N<=1099511627776) (hk:vk<ns.length) (gO:ns.length<=1099511627776)
  (h8:(b8,.cells [.int .i64 id,zv,nv])∈R) (FH:H.length<=b6) (jy:b2<J.length) (WT:b4<J.length) (hl5:b5<J.length)
  (hf:-9223372036854775808<=(ns.getD vk n0).1/\(ns.getD vk n0).1<=9223372036854775807) (Q:Exit->St->Prop)
  (go:∀(e:Env)(J':List aA)(F':List Ef),BF H T R b6 (N+1) J' U F'->sI F (ns.getD vk n0).1 ((ns.getD vk n0).2,id) F'->J.length<=J'.length->bC J'.length U.length e [(0,.sl L.length (aN L) .none),(2,.ptr b2 0),(4,.ptr b4 0),(5,.aQ b5),(6,.aQ b6),(8,.ptr b8 0),(34,.sl L.length (aN L) .none),(35,.int .i64 (L.length:Nat)),(36,.int .i64 (vi:Nat)),(128,.sl ns.length (bA ns) .none),(129,.int .i64 (ns.length:Nat)),(130,.int .i64 (vk:Nat))]->Q .normal ⟨e,J',U⟩) :
  AW ⟨prog,192,152,nb,tb,[100104,100147,100166]⟩ (dX [1,1,1,1,1,1,1,1,0,1,0,0,1,1,0,0,1,1,1,1,1,0,0,1,1,0,0] (Tryz.f68.body.getD .skip)) Q ⟨[(0,.sl L.length (aN L) .none),(2,.ptr b2 0),(4,.ptr b4 0),(5,.aQ b5),(6,.aQ b6),(8,.ptr b8 0),(34,.sl L.length (aN L) .none),(35,.int .i64 (L.length:Nat)),(36,.int .i64 (vi:Nat)),(128,.sl ns.length (bA ns) .none),(129,.int .i64 (ns.length:Nat)),(130,.int .i64 (vk:Nat))],J,U⟩:=by
 conv=>arg 2;whnf
 have lH:=hB.pJ.le;have lT:=hB.pU.le;have bu:=gV ns vk hk;have HO:=hB.ok;generalize ns.getD vk n0=x at *;obtain⟨f,n⟩:=x;simp only at bu hf go;have l8:=hB.hJ.lt (ag1 _ h8);have l6:=hB.hJ.lt (i:=b6) (b:=.map (bP F)) (by simp);refine ae λK hK=>?_;simp(disch:=omega)[bu,cL];apply hK;have rn:bN (J++[.cells [.int .i64 f,.int .i64 n]]) U:=HO.snoc (by simp);obtain⟨q1,q2,q3,q4,q5,q6,q7⟩:=hB;have q1:Has (J++[.cells [.int .i64 f,.int .i64 n]]) (((J.length,.cells [.int .i64 f,.int .i64 n])::R)++(b6,.map (bP F))::iY F):=(q1.new (.cells [.int .i64 f,.int .i64 n])).perm (ahr _ _).symm;have q5:=q5.app [aA.cells [.int .i64 f,.int .i64 n]];have Cv:(J++[aA.cells [.int .i64 f,.int .i64 n]]).length=J.length+1:=by simp
 obtain⟨MK,h16⟩:∃i,i=J.length:=⟨_,rfl⟩
 rw[<-h16] at q1;simp only[<-h16];generalize J++[aA.cells [.int .i64 f,.int .i64 n]]=J1 at *;refine aI ⟨[(16,.ptr MK 0),(0,.sl L.length (aN L) .none),(2,.ptr b2 0),(4,.ptr b4 0),(5,.aQ b5),(6,.aQ b6),(8,.ptr b8 0),(34,.sl L.length (aN L) .none),(35,.int .i64 (L.length:Nat)),(36,.int .i64 (vi:Nat)),(128,.sl ns.length (bA ns) .none),(129,.int .i64 (ns.length:Nat)),(130,.int .i64 (vk:Nat))],J1,U⟩ (ag [] [] (by simp) (by simp) (by show nb<=_;omega) (by show tb<=_;omega) rn (by simp;omega)) ?_;have g6:=q1.get (i:=b6) (b:=.map (bP F)) (by simp);have g8:=q1.get (i:=b8) (b:=.cells [.int .i64 id,zv,nv]) (by simp[h8]);have g16:=q1.get (i:=MK) (b:=.cells [.int .i64 f,.int .i64 n]) (by simp);have l6:=(agC.1 g6).1;have l8:=(agC.1 g8).1;have l16:=(agC.1 g16).1;have e6:=aX g6;have e8:=aX g8;have Ye:=aX g16;have yz:=JL f hf;have kT:kP f=.one (.int .i64 f):=rfl;rw[kT] at yz
 by_cases hex:f∈F.map (·.f)
 rotate_left
 ·have eB:iZ (bP F) (.one (.int .i64 f)) (.sl 0 [] .full) false=.sl 0 [] .full:=by
   unfold iZ;rw[<-kT,qs (uH hex)];rfl
  refine qE 13 [13,14] [0,0,0,0,0,0,0,0,0,0,0,0,0,0,1] [[0,1,2],[]] aw (by kernel_rfl) (by kernel_rfl) (by kernel_rfl) λK hK=>?_;simp(disch:=omega)[wb,sR,yz,q4,e6,e8,Ye,eB,agK,ahS];intro nc ll;refine hK _ ?_;obtain⟨ee,qT⟩:∃ee:Ef,ee=⟨f,[(n,id)],J1.length,nc,List.replicate ((nc-1)*2) .top⟩:=⟨_,rfl⟩
  have iS:kO (bP F) (.one (.int .i64 f)) (.bJ J1.length 1 nc)=bP (F++[ee]):=by
   have:=PQ (E:=F) ee (by rw[qT];exact hex);rw[qT] at this ⊢;exact this
  have Gf:dn prog 3 (bP (F++[ee]))=true:=by rw[<-iS];exact pY q4 yz
  rw[iS,show aA.cells (.int .i64 n::.int .i64 id::List.replicate ((nc-1)*2) .top)=Ef.oW ee by rw[qT];rfl,<-List.set_append_left _ _ l6];have iQ:=q1.new (Ef.oW ee);rw[show J1.length=ee.i by rw[qT]] at iQ;have zk:Has ((J1++[Ef.oW ee]).set b6 (.map (bP (F++[ee])))) (((MK,.cells [.int .i64 f,.int .i64 n])::R)++(b6,.map (bP (F++[ee])))::iY (F++[ee])):=by
   have:=Has.set (A:=(MK,.cells [.int .i64 f,.int .i64 n])::R) (B:=iY (F++[ee])) (b:=.map (bP F)) (by simpa[iY] using iQ) (.map (bP (F++[ee])));exact this
  have US:bN (J1++[Ef.oW ee]) U:=by
   refine rn.snoc ?_;rw[qT];simp
  have JE:(J1++[Ef.oW ee]).length=J1.length+1:=by simp
  have hb:∀e∈F++[ee],e.i<(J1++[Ef.oW ee]).length:=λe he=>by
   have:=zk.lt (i:=e.i) (b:=Ef.oW e) (by simp only[agR,ag6];exact .inr (.inr (agG.2 ⟨e,he,rfl⟩)));simpa using this
  refine go _ _ (F++[ee]) ⟨zk.sub ((ahB _ _).append_right _),λe he=>?_,(sI.add (it:=(n,id)) q3 (by rw[qT];exact hex) (by rw[qT])).nd,Gf,(q5.app _).set FH _,q6,US.rK (yb hb)⟩ ?_ (by simp;omega) ?_
  ·rcases agR.1 he with he|he
   ·have:=q2 e he;exact⟨this.r,this.c,ajh this.n,this.i,this.p⟩
   ·simp at he;subst he;rw[qT];exact⟨by simp,ll,by simp,by show H.length<=J1.length;omega,by simp⟩
  ·have:=sI.add (e':=ee) (it:=(n,id)) q3 (by rw[qT];exact hex) (by rw[qT])
   rwa [show ee.f=f by rw[qT]] at this
  ·simp;omega
 ·obtain⟨e,MU,zj⟩:=agG.1 hex;obtain⟨E1,E2,rfl⟩:=aiZ MU;obtain⟨f0,xs,i,cap,rest⟩:=e;simp only at zj;subst zj;obtain⟨k1,k2,k3,k4,k5⟩:=q2 _ MU;simp only at k1 k2 k3 k4 k5;have X6:∀e,e∈E1\/e∈E2->RJ H.length (N+1) e:=λe he=>by
   have:=q2 e (by rcases he with he|he<;>simp[he]);exact⟨this.r,this.c,ajh this.n,this.i,this.p⟩
  have MC:Has J1 (((MK,.cells [.int .i64 f0,.int .i64 n])::R)++(b6,.map (bP (E1++⟨f0,xs,i,cap,rest⟩::E2)))::(iY E1++(i,.cells (bA xs++rest))::iY E2)):=by
   have:=q1;simpa[iY,Ef.oW] using this
  have gi:=MC.get (i:=i) (b:=.cells (bA xs++rest)) (by simp);have li:=(agC.1 gi).1;have ei:=aX gi;have vF:(bA xs++rest).length=xs.length*2+rest.length:=by rw[agF,cL]
  have vO:=Eg q3;simp only at vO;have eB:iZ (bP (E1++⟨f0,xs,i,cap,rest⟩::E2)) (.one (.int .i64 f0)) (.sl 0 [] .full) false=.bJ i xs.length cap:=by
   unfold iZ;rw[<-kT,vO];rfl
  have wP:=λe' hk=>PO q3 e' hk;have hold:=λe' hk hp=>sI.vz (it:=(n,id)) q3 (e':=e') hk hp;simp only at wP hold;rw[kT] at wP;have iz:(bA xs++rest).take (xs.length*2)=bA xs:=ahD (by rw[cL]);have qc:(bA xs++rest).drop ((xs.length+1)*2)=rest.drop 2:=by
   rw[List.drop_append,aiW (by rw[cL];omega),aic,cL]
   congr 1;omega
  have gw:∀r,aM J1.length U.length r->True:=λ_ _=>trivial;have fin:∀(e:Env)(J2:List aA)(i2 fZ:Nat)(dC:List AV),Has J2 (((MK,.cells [.int .i64 f0,.int .i64 n])::R)++(b6,.map (bP (E1++⟨f0,xs,i,cap,rest⟩::E2)))::(iY E1++(i2,.cells (bA (xs++[(n,id)])++dC))::iY E2))->bN J2 U->gG H J2->J1.length<=J2.length->dC.length=(fZ-(xs.length+1))*2->xs.length+1<=fZ->H.length<=i2->
    bC J2.length U.length e [(0,.sl L.length (aN L) .none),(2,.ptr b2 0),(4,.ptr b4 0),(5,.aQ b5),(6,.aQ b6),(8,.ptr b8 0),(34,.sl L.length (aN L) .none),(35,.int .i64 (L.length:Nat)),(36,.int .i64 (vi:Nat)),(128,.sl ns.length (bA ns) .none),(129,.int .i64 (ns.length:Nat)),(130,.int .i64 (vk:Nat))]->Q .normal ⟨e,J2.set b6 (.map (kO (bP (E1++⟨f0,xs,i,cap,rest⟩::E2)) (.one (.int .i64 f0)) (.bJ i2 (xs.length+1) fZ))),U⟩:=by
   intro e J2 i2 fZ dC iQ MB se jy oO oU zh he;obtain⟨ee,qT⟩:∃ee:Ef,ee=⟨f0,xs++[(n,id)],i2,fZ,dC⟩:=⟨_,rfl⟩
   have iS:kO (bP (E1++⟨f0,xs,i,cap,rest⟩::E2)) (.one (.int .i64 f0)) (.bJ i2 (xs.length+1) fZ)=bP (E1++ee::E2):=by
    have:=wP ee (by rw[qT]);rw[qT] at this ⊢;simpa using this
   have Gf:dn prog 3 (bP (E1++ee::E2))=true:=by rw[<-iS];exact pY q4 yz
   rw[iS];have hS:iY (E1++ee::E2)=iY E1++(i2,.cells (bA (xs++[(n,id)])++dC))::iY E2:=by rw[qT];simp[iY,Ef.oW]
   rw[<-hS] at iQ;have zk:=iQ.set (.map (bP (E1++ee::E2)));have hb:∀e∈E1++ee::E2,e.i<J2.length:=λe he=>iQ.lt (b:=Ef.oW e) (by simp only[agR,ag6];exact .inr (.inr (agG.2 ⟨e,he,rfl⟩)));refine go _ _ (E1++ee::E2) ⟨zk.sub ((ahB _ _).append_right _),λe he=>?_,(hold ee (by rw[qT]) (by rw[qT])).nd,Gf,se.set FH _,q6,MB.rK (yb hb)⟩ (hold ee (by rw[qT]) (by rw[qT])) (by simp;omega) (by simpa using he);rcases agR.1 he with he|he
   ·exact X6 e (.inl he)
   ·rcases ag6.1 he with rfl|he
    ·rw[qT];exact⟨by simp[oO],by simpa using oU,by simp;omega,zh,by simp⟩
    ·exact X6 e (.inr he)
  refine qE 13 [13,14] [0,0,0,0,0,0,0,0,0,0,0,0,0,0,1] [[0,1,2],[]] aw (by kernel_rfl) (by kernel_rfl) (by kernel_rfl) λK hK=>?_;simp(disch:=omega)[wb,sR,yz,q4,e6,e8,Ye,eB];refine⟨bA xs++rest,ei li,by rw[vF];omega,[.int .i64 n,.int .i64 id],1,⟨rfl,rfl⟩,by omega,by omega,λhle=>?_,λnc aZ ll=>?_⟩
  ·rw[iz,qc];rw[show aA.cells (bA xs++([.int .i64 n,.int .i64 id]++rest.drop 2))=.cells (bA (xs++[(n,id)])++rest.drop 2) by rw[<-append_assoc,ux xs (n,id)]];have iQ:Has (J1.set i (.cells (bA (xs++[(n,id)])++rest.drop 2))) (((MK,.cells [.int .i64 f0,.int .i64 n])::R)++(b6,.map (bP (E1++⟨f0,xs,i,cap,rest⟩::E2)))::(iY E1++(i,.cells (bA (xs++[(n,id)])++rest.drop 2))::iY E2)):=by
    have:=Has.set (A:=((MK,.cells [.int .i64 f0,.int .i64 n])::R)++(b6,.map (bP (E1++⟨f0,xs,i,cap,rest⟩::E2)))::iY E1) (B:=iY E2) (by simpa using MC) (.cells (bA (xs++[(n,id)])++rest.drop 2));simpa using this
   have se:=q5.set k4 (.cells (bA (xs++[(n,id)])++rest.drop 2));have MB:bN (J1.set i (.cells (bA (xs++[(n,id)])++rest.drop 2))) U:=by
    refine rn.set ?_;have:=rn i (.cells (bA xs++rest)) gi;simp only[aA.AY] at this;intro v hv;rcases agR.1 hv with hv|hv
    ·exact xP _ _ _ v hv
    ·exact this v (aiN _ (List.mem_of_mem_drop hv))
   have hl:J1.length=(J1.set i (.cells (bA (xs++[(n,id)])++rest.drop 2))).length:=by simp
   have yM:=λe=>fin e _ i cap (rest.drop 2) iQ MB se (by omega) (by rw[ahp];omega) (by omega) k4;generalize J1.set i (.cells (bA (xs++[(n,id)])++rest.drop 2))=J2 at *;have g6:=iQ.get (i:=b6) (b:=.map (bP (E1++⟨f0,xs,i,cap,rest⟩::E2))) (by simp);have g16:=iQ.get (i:=MK) (b:=.cells [.int .i64 f0,.int .i64 n]) (by simp);have l6:=(agC.1 g6).1;have l16:=(agC.1 g16).1;have e6:=aX g6;have Ye:=aX g16;simp(disch:=omega)[q4,e6,Ye];refine hK _ (yM _ ?_);simp;omega
  ·rw[iz];obtain⟨r2,oO⟩:∃r2,r2=List.replicate ((nc-(xs.length+1))*2) AV.top:=⟨_,rfl⟩
   have M9:r2.length=(nc-(xs.length+1))*2:=by rw[oO];simp
   have Vt:aM (J1.length+1) U.length r2:=by rw[oO];simp
   rw[<-oO];rw[show aA.cells (bA xs++([.int .i64 n,.int .i64 id]++r2))=.cells (bA (xs++[(n,id)])++r2) by rw[<-append_assoc,ux xs (n,id)]];have iQ:Has (J1++[.cells (bA (xs++[(n,id)])++r2)]) (((MK,.cells [.int .i64 f0,.int .i64 n])::R)++(b6,.map (bP (E1++⟨f0,xs,i,cap,rest⟩::E2)))::(iY E1++(J1.length,.cells (bA (xs++[(n,id)])++r2))::iY E2)):=by
    have h0:Has J1 (((MK,.cells [.int .i64 f0,.int .i64 n])::R)++(b6,.map (bP (E1++⟨f0,xs,i,cap,rest⟩::E2)))::(iY E1++iY E2)):=MC.sub (List.Sublist.append_left (List.Sublist.cons_cons _ (List.Sublist.append_left (ahB _ _) _)) _);refine(h0.new _).perm ?_;simp only[agV,aiQ];exact((((ahr _ _).symm.append_left _).cons _).append_left _).cons _
   have se:=q5.app [aA.cells (bA (xs++[(n,id)])++r2)];have MB:bN (J1++[.cells (bA (xs++[(n,id)])++r2)]) U:=rn.snoc (by simp[Vt]);have hl:(J1++[aA.cells (bA (xs++[(n,id)])++r2)]).length=J1.length+1:=by simp
   have yM:=λe=>fin e _ J1.length nc r2 iQ MB se (by omega) M9 (by omega) (by omega)
   (try simp(disch:=omega)[q4,e6,Ye])
   refine hK _ ?_;rw[<-List.set_append_left _ _ l6];refine yM _ ?_;simp;omega
end Go.Proofs.YtoejlmpbebjemaaGreat
