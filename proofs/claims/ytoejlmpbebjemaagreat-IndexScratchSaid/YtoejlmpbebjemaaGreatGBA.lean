/- segment.Build (layer 39): what is gathered in its maps; one word. segment.Build (layer 39): one word. segment.Build (layer 39): the words of a zone, the zones of a document. segment.Build (layer 39): one number.
  Conditions: lengths below 400 or 1000, as each theorem says. -/
import Derived.Test.YtoejlmpbebjemaaGreatGC
import Derived.Test.YtoejlmpbebjemaaGreatGSR
import Derived.Test.YtoejlmpbebjemaaGreatAmC
import Derived.Test.YtoejlmpbebjemaaGreatAmA
set_option linter.all false
set_option maxRecDepth 100000
set_option maxHeartbeats 16000000
open List (getD_eq_getElem?_getD append_assoc find?_append)
namespace eN
open Go Go.Am
structure En where
 k:Ky
 ew:List (Ps×Tag)
 d:Int
 at_:List Int
 tk:Nat
 i:Nat
 cap:Nat
 rest:List AV
def En.n (e:En):Nat:=e.ew.length+1
def En.pl (e:En):List Ps:=e.ew.map (·.1)++[(e.d,e.at_)]
abbrev pwC (x:Ps×Tag):List AV:=[.int .i64 x.1.1,.sl x.1.2.length (ints x.1.2) x.2]
def mi (l:List (Ps×Tag)):List AV:=l.flatMap pwC
def B5:eE pwC 2:=λ_=>rfl
def mH (l:List (Ps×Tag)):(mi l).length=l.length*2:=cj B5 l
def j5 (d:Int)(at_:List Int)(tg:Tag):List AV:=[.int .i64 d,.sl at_.length (ints at_) tg]
def ij (ew:List (Ps×Tag))(d:Int)(at_:List Int)(tg:Tag)(rest:List AV):aA:=.cells (mi ew++(j5 d at_ tg++rest))
def En.pq (e:En):aA:=ij e.ew e.d e.at_ (.own e.tk) e.rest
def nH (k:Ky):cZ:=.agg [.int .i64 k.1,.str k.2]
def xY {a b:Ky}:nH a=nH b↔a=b:=by
 obtain⟨a1,a2⟩:=a;obtain⟨b1,b2⟩:=b;simp[nH]
def cO (E:List En):List (cZ×AV):=E.map λe=>(nH e.k,.bQ e.i e.n e.cap)
def ep (E:List En):List (Nat×aA):=E.map λe=>(e.i,e.pq)
def kK (E:List En):List (Nat×(Nat×Nat)):=E.map λe=>(e.tk,(e.at_.length,1))
structure GW (nb tb N:Nat)(e:En):Prop where
 r:e.rest.length=(e.cap-e.n)*2
 c:e.n<=e.cap
 n:e.n<=N
 a:e.at_.length<=N
 i:nb<=e.i
 t:tb<=e.tk
def Q3 (E:List En)(k:Ky):List Ps:=match E.find? (λe=>e.k==k) with
 |some e=>e.pl
 |none=>[]
def xj (l:List Ps)(d p:Int):List Ps:=match l.getLast? with
 |some q=>if q.1=d then l.dropLast++[(q.1,q.2++[p])] else l++[(d,[p])]
 |none=>[(d,[p])]
def rp (l:List Ps)(d0:Int)(a:List Int)(d p:Int):xj (l++[(d0,a)]) d p=if d0=d then l++[(d0,a++[p])] else (l++[(d0,a)])++[(d,[p])]:=by
 simp[xj]
structure ph (E:List En)(k:Ky)(d p:Int)(E':List En):Prop where
 lk:∀k',Q3 E' k'=if k'=k then xj (Q3 E k) d p else Q3 E k'
 nd:(E'.map (·.k)).Nodup
 ks:∀k',k'∈E'.map (·.k)↔k'=k\/k'∈E.map (·.k)
def qj {E1 E2:List En}{e:En}(h:((E1++e::E2).map (·.k)).Nodup)(k:Ky):(E1++e::E2).find? (λx=>x.k==k)=if k=e.k then some e else (E1++E2).find? (λx=>x.k==k):=by
 have h1:∀x∈E1,x.k≠e.k:=λx hx=>by
  rw[ahJ,aif] at h;exact h.2.2 x.k (ahz.2 ⟨x,hx,rfl⟩) e.k zS
 rw[find?_append,List.find?_cons,find?_append]
 by_cases hk:k=e.k
 ·subst hk;have:E1.find? (λx=>x.k==e.k)=none:=by
   rw[aiJ];intro x hx;simpa using h1 x hx
  rw[this];simp
 ·rw[ahC hk,ah8.2 (Ne.symm hk)]
def ph.vV {E1 E2:List En}{e e':En}{d p:Int}(h:((E1++e::E2).map (·.k)).Nodup)(hk:e'.k=e.k)(hp:e'.pl=xj e.pl d p):ph (E1++e::E2) e.k d p (E1++e'::E2):=by
 have h':((E1++e'::E2).map (·.k)).Nodup:=by
  rw[ahJ,aih,hk];rwa [ahJ,aih] at h
 refine⟨λk'=>?_,h',λk'=>?_⟩
 ·unfold Q3;rw[qj h',qj h,qj h,hk]
  by_cases hh:k'=e.k
  ·subst hh;simp[hp]
  ·simp only[ahC hh]
 ·simp only[ahJ,aih,hk,ahI,ah4]
  constructor
  ·exact .inr
  ·rintro (rfl|hh)
   ·exact .inr (.inl rfl)
   ·exact hh
def ph.add {E:List En}{e':En}{d p:Int}(h:(E.map (·.k)).Nodup)(hk:e'.k∉E.map (·.k))(hp:e'.pl=[(d,[p])]):ph E e'.k d p (E++[e']):=by
 have h':((E++e'::[]).map (·.k)).Nodup:=by
  rw[ahJ,aif];exact⟨h,zS,λa ha b hb=>by simp at hb;rintro rfl;rw[hb] at ha;exact hk ha⟩
 have hn:E.find? (λx=>x.k==e'.k)=none:=by
  rw[aiJ];intro x hx;have:x.k≠e'.k:=λee=>hk (ahz.2 ⟨x,hx,ee⟩);simpa using this
 refine⟨λk'=>?_,h',λk'=>?_⟩
 ·unfold Q3;rw[qj h']
  by_cases hh:k'=e'.k
  ·subst hh;rw[hn];simp[hp,xj]
  ·simp only[ahC hh,ahS]
 ·simp[or_comm]
end eN
namespace Go.Proofs.YtoejlmpbebjemaaGreat
open Go.Proofs.Tryz(prog)
open Go Go.Am ie eN
def oq {α β:Type}{f:α->β}(hf:∀a b,f a=f b->a=b){l:List α}(h:l.Nodup):(l.map f).Nodup:=by
 rw[List.Nodup,aie];exact h.imp λj9 he=>j9 (hf _ _ he)
def A6 (E:List En):(cO E).map (·.1)=(E.map (·.k)).map nH:=by simp[cO,Function.comp_def]
def Qr {E1 E2:List En}{e:En}(h:((E1++e::E2).map (·.k)).Nodup):v8 (cO (E1++e::E2)) (nH e.k)=some (.bQ e.i e.n e.cap):=by
 have hn:((cO (E1++e::E2)).map (·.1)).Nodup:=by
  rw[A6];exact oq (λa b j9=>xY.1 j9) h
 have hj:E1.length<(cO (E1++e::E2)).length:=by simp[cO]
 have he:(cO (E1++e::E2))[E1.length]'hj=(nH e.k,.bQ e.i e.n e.cap):=by simp[cO]
 rw[wI hn hj (by rw[he]),he]
def Qq {E1 E2:List En}{e:En}(h:((E1++e::E2).map (·.k)).Nodup)(e':En)(hk:e'.k=e.k):lK (cO (E1++e::E2)) (nH e.k) (.bQ e'.i e'.n e'.cap)=cO (E1++e'::E2):=by
 have hn:((cO (E1++e::E2)).map (·.1)).Nodup:=by
  rw[A6];exact oq (λa b j9=>xY.1 j9) h
 have hj:E1.length<(cO (E1++e::E2)).length:=by simp[cO]
 have he:(cO (E1++e::E2))[E1.length]'hj=(nH e.k,.bQ e.i e.n e.cap):=by simp[cO]
 rw[B6 hn hj (by rw[he])];simp[cO,hk]
def A5 {E:List En}{k:Ky}(h:k∉E.map (·.k)):∀x∈cO E,x.1≠nH k:=by
 intro x hx;obtain⟨e,he,rfl⟩:=ahz.1 hx;exact λhh=>h (ahz.2 ⟨e,he,xY.1 hh⟩)
def Qs {E:List En}(e':En)(h:e'.k∉E.map (·.k)):lK (cO E) (nH e'.k) (.bQ e'.i e'.n e'.cap)=cO (E++[e']):=by
 rw[ou (A5 h)];simp[cO]
def IA {E:List En}{n t:Nat}(h:∀e∈E,e.i<n):aL n t ((cO E).map (·.2)):=by
 intro v hv;simp only[cO,aiA,ahz,Function.comp] at hv;obtain⟨e,he,rfl⟩:=hv;exact .bQ _ _ _ (h e he)
def ZI (k:Ky)(hk:-9223372036854775808<=k.1/\k.1<=9223372036854775807)(hs:k.2.length<=maxLen):nu prog 193 (nH k)=true:=by
 have hu:=Tryz.underlying193;have h3:prog.underlying 3=some (.int .i64):=zK;have h9:prog.underlying 9=some .string:=zK;have c3:prog.cellsOf 3=1:=zK;have c9:prog.cellsOf 9=1:=zK;have XL:prog.keyType 193=true:=zK;have gj:prog.types.size=315:=zK;have Yr:(Lit.int .i64 k.1).wf=true:=by
  simp only[Lit.wf,ahG,ahH];exact hk
 have e1:prog.keyLits 315 3 [.int .i64 k.1]=some [.int .i64 k.1]:=by
  show prog.keyLits (314+1) 3 _=_;unfold Program.keyLits;rw[h3];simp only[Yr,and_self,ajc]
 have e2:prog.keyLits 315 9 [.string ⟨k.2.toArray⟩]=some [.string k.2]:=by
  show prog.keyLits (314+1) 9 _=_;unfold Program.keyLits;rw[h9];have:(⟨k.2.toArray⟩:ByteArray).size<=maxLen:=by
   show k.2.toArray.size<=maxLen;simpa using hs
  simp only[this,ajc]
 have hl:prog.keyLits (315+1) 193 [.int .i64 k.1,.string ⟨k.2.toArray⟩]=some [.int .i64 k.1,.string k.2]:=by
  unfold Program.keyLits;rw[hu];simp[Fh,c3,c9,e1,e2]
 unfold nu keyOf;rw[hu];have hf:(cZ.val (nH k)).formed prog 193=true:=by
  simp[nH,cZ.val,KC.val,Value.formed,hu,Fh]
 simp only[XL,hf,Bool.and_self,ajc,gj];have:(cZ.val (nH k)).cells.toList=[.int .i64 k.1,.string ⟨k.2.toArray⟩]:=rfl;rw[this,hl];rfl
end Go.Proofs.YtoejlmpbebjemaaGreat
namespace Go.Am
def gW {α:Type}(H K:List α):Prop:=∃X,K=H++X
section
variable {α : Type} {H K : List α}
def gW.app (h:gW H K)(X:List α):gW H (K++X):=by
 obtain⟨Y,rfl⟩:=h;exact⟨Y++X,by rw[ahM]⟩
theorem gW.set (h:gW H K){i:Nat}(hi:H.length<=i)(x:α):gW H (K.set i x):=by
 obtain⟨Y,rfl⟩:=h;exact⟨Y.set (i-H.length) x,by rw[ai2 _ _ hi]⟩
def aZ {i:Nat}{b:α}(g:K[i]?=some b):∀h:i<K.length,K[i]'h=b:=λh=>by rw[ahu h] at g;exact Option.some.inj g
def gW.le (h:gW H K):H.length<=K.length:=by
 obtain⟨Y,rfl⟩:=h;simp
end
end Go.Am
namespace Go.Proofs.YtoejlmpbebjemaaGreat
open Go.Proofs.Tryz(prog)
open Go Go.Am ie eN
def OZ (ew:List (Ps×Tag))(d:Int)(at_:List Int)(tg:Tag)(rest:List AV):(mi ew++(j5 d at_ tg++rest)).getD (ew.length*2) .top=.int .i64 d/\(mi ew++(j5 d at_ tg++rest)).getD (ew.length*2+1) .top=.sl at_.length (ints at_) tg:=by
 have h:=mH ew
 constructor
 ·rw[ahs,ahP zO,h,aiT];rfl
 ·rw[ahs,ahP zO,h,show ew.length*2+1-ew.length*2=1 by omega];rfl
def Uc (ew:List (Ps×Tag))(d:Int)(at_ Y5:List Int)(tg Rz:Tag)(rest:List AV):(mi ew++(j5 d at_ tg++rest)).set (ew.length*2+1) (.sl Y5.length (ints Y5) Rz)=mi ew++(j5 d Y5 Rz++rest):=by
 have h:=mH ew;rw[ai2 _ _ zO,h,show ew.length*2+1-ew.length*2=1 by omega];rfl
def AG (ew:List (Ps×Tag))(d:Int)(at_:List Int)(tg:Tag):mi ew++j5 d at_ tg=mi (ew++[((d,at_),tg)]):=by simp[mi,j5]
attribute [-simp] getD_eq_getElem?_getD in
def xJ (H:List aA)(T:au)(nb tb N:Nat)(gL:nb<=H.length)(fZ:tb<=T.length)(L:List Dc)(zs:List Zn)(ws:List Wd)(vi vj vk b2 b4 b5 b6 b8 ui Gm C3:Nat)(id f:Int)(s:Bs)(p:Int)(E1 E2:List En)(es:List (cZ×AV))(J:List aA)(U:au)(R:List (Nat×aA))(RT:List (Nat×(Nat×Nat)))
  (i cap:Nat) (ew:List (Ps×Tag)) (rest:List AV) (rJ:List Int) (tg:Tag)
  (hJ:Has J (R++(b5,.map es)::(ep E1++(i,ij ew id rJ tg rest)::ep E2)))
  (hU:(rJ=[]/\tg=.full/\Has U (RT++(kK E1++kK E2)))\/∃tk,tg=.own tk/\Has U (RT++(kK E1++(tk,(rJ.length,1))::kK E2))/\T.length<=tk)
  (hE:∀e,e∈E1\/e∈E2->GW H.length T.length (N+1) e) (hN:N<=1099511627776) (hr:rest.length=(cap-(ew.length+1))*2) (cK:ew.length+1<=cap) (hn:ew.length<=N) (ha:rJ.length<=N) (hi:H.length<=i)
  (jk:lK es (nH (f,s)) (.bQ i (ew.length+1) cap)=cO (E1++⟨(f,s),ew,id,rJ++[p],0,i,cap,rest⟩::E2)) (mY:dz prog 193 es=true)
  (E:List En) (pW:∀Ke:En,Ke.k=(f,s)->Ke.pl=ew.map (·.1)++[(id,rJ++[p])]->ph E (f,s) id p (E1++Ke::E2))
  (Kc:(Gm,.cells [.str s,.int .i64 p])∈R) (GF:(C3,.cells [.int .i64 f,.str s])∈R) (JZ:H.length<=b5) (jT:b2<J.length) (XK:b4<J.length) (hl6:b6<J.length) (hl8:b8<J.length) (Zt:ui<J.length)
  (hf:-9223372036854775808<=f/\f<=9223372036854775807) (hs:s.length<=maxLen) (Ni:gW H J) (Gj:gW T U) (HO:bM J U) (Q:Exit->St->Prop)
  (go:∀(e:Env)(J':List aA)(U':au)(E':List En),Has J' (R++(b5,.map (cO E'))::ep E')->Has U' (RT++kK E')->(∀e∈E',GW H.length T.length (N+1) e)->dz prog 193 (cO E')=true->ph E (f,s) id p E'->gW H J'->gW T U'->J.length<=J'.length->U.length<=U'.length->bM J' U'->
   bA J'.length U'.length e [(0,.sl L.length (aM L) .none),(2,.ptr b2 0),(4,.ptr b4 0),(5,.aP b5),(6,.aP b6),(8,.ptr b8 0),(10,.ptr ui 0),(34,.sl L.length (aM L) .none),(35,.int .i64 (L.length:Nat)),(36,.int .i64 (vi:Nat)),(63,.sl zs.length (fy zs) .none),(64,.int .i64 (zs.length:Nat)),(65,.int .i64 (vj:Nat)),(70,.sl ws.length (dX ws) .none),(71,.int .i64 (ws.length:Nat)),(72,.int .i64 (vk:Nat))]->Q .normal ⟨e,J',U'⟩) :
  AW ⟨prog,192,152,nb,tb,[100104,100147,100166]⟩ (dZ [1,1,1,1,1,1,1,1,0,1,0,0,1,1,0,0,1,1,1,0,1,0,0,1,1,0,0,1,1,0,0,1,1,0,0,1,1,1,1] (Tryz.f68.body.getD .skip)) Q ⟨[(14,.bQ i (ew.length+1) cap),(12,.ptr Gm 0),(13,.ptr C3 0),(0,.sl L.length (aM L) .none),(2,.ptr b2 0),(4,.ptr b4 0),(5,.aP b5),(6,.aP b6),(8,.ptr b8 0),(10,.ptr ui 0),(34,.sl L.length (aM L) .none),(35,.int .i64 (L.length:Nat)),(36,.int .i64 (vi:Nat)),(63,.sl zs.length (fy zs) .none),(64,.int .i64 (zs.length:Nat)),(65,.int .i64 (vj:Nat)),(70,.sl ws.length (dX ws) .none),(71,.int .i64 (ws.length:Nat)),(72,.int .i64 (vk:Nat))],J,U⟩:=by
 conv=>arg 2;whnf
 have gi:=hJ.get (i:=i) (b:=ij ew id rJ tg rest) zS;have g5:=hJ.get (i:=b5) (b:=.map es) zS;have g12:=hJ.get (ahR _ Kc);have g13:=hJ.get (ahR _ GF);have li:=(aht.1 gi).1;have l5:=(aht.1 g5).1;have l12:=(aht.1 g12).1;have l13:=(aht.1 g13).1;have lH:=Ni.le;have lT:=Gj.le;have ei:=aZ gi;have e5:=aZ g5;have e12:=aZ g12;have Kd:=aZ g13;have y6:=ZI (f,s) hf hs;have lO:nH (f,s)=.agg [.int .i64 f,.str s]:=rfl;rw[lO] at y6;rw[lO] at jk;obtain⟨uq,j8⟩:=OZ ew id rJ tg rest;have vw:(mi ew++(j5 id rJ tg++rest)).length=ew.length*2+(2+rest.length):=by rw[ahw,mH,ahw];rfl
 unfold ij at ei;have hbs:=λY5 Rz=>Uc ew id rJ Y5 tg Rz rest;refine cQ [14,17] [0,0,0,0,0,0,0,0,0,0,0,0,0,0,0,1,1,1] [[0,1,2,3],[]] aO zK zK λK hK=>?_;have fin:∀(e':Env)(U':au)(Gf:Nat),Has U' (RT++(kK E1++(Gf,((rJ++[p]).length,1))::kK E2))->T.length<=Gf->gW T U'->U.length<=U'.length->
   bA J.length U'.length e' [(14,.bQ i (ew.length+1) cap),(13,.ptr C3 0),(0,.sl L.length (aM L) .none),(2,.ptr b2 0),(4,.ptr b4 0),(5,.aP b5),(6,.aP b6),(8,.ptr b8 0),(10,.ptr ui 0),(34,.sl L.length (aM L) .none),(35,.int .i64 (L.length:Nat)),(36,.int .i64 (vi:Nat)),(63,.sl zs.length (fy zs) .none),(64,.int .i64 (zs.length:Nat)),(65,.int .i64 (vj:Nat)),(70,.sl ws.length (dX ws) .none),(71,.int .i64 (ws.length:Nat)),(72,.int .i64 (vk:Nat))]->K ⟨e',J.set i (.cells (mi ew++(j5 id (rJ++[p]) (.own Gf)++rest))),U'⟩:=by
  intro e' U' Gf hU' aeP afA hUl CW;have jg:Has (J.set i (ij ew id (rJ++[p]) (.own Gf) rest)) (R++(b5,.map es)::(ep E1++(i,ij ew id (rJ++[p]) (.own Gf) rest)::ep E2)):=by
   have:=Has.set (A:=R++(b5,.map es)::ep E1) (B:=ep E2) (zU hJ) (ij ew id (rJ++[p]) (.own Gf) rest);simpa using this
  have sL:gW H (J.set i (ij ew id (rJ++[p]) (.own Gf) rest)):=Ni.set hi _;have hl:(J.set i (ij ew id (rJ++[p]) (.own Gf) rest)).length=J.length:=zS;rw[show aA.cells (mi ew++(j5 id (rJ++[p]) (.own Gf)++rest))=ij ew id (rJ++[p]) (.own Gf) rest from rfl];generalize J.set i (ij ew id (rJ++[p]) (.own Gf) rest)=J2 at *;refine hK _ (dE λeG=>aF ⟨[(14,.bQ i (ew.length+1) cap),(13,.ptr C3 0),(0,.sl L.length (aM L) .none),(2,.ptr b2 0),(4,.ptr b4 0),(5,.aP b5),(6,.aP b6),(8,.ptr b8 0),(10,.ptr ui 0),(34,.sl L.length (aM L) .none),(35,.int .i64 (L.length:Nat)),(36,.int .i64 (vi:Nat)),(63,.sl zs.length (fy zs) .none),(64,.int .i64 (zs.length:Nat)),(65,.int .i64 (vj:Nat)),(70,.sl ws.length (dX ws) .none),(71,.int .i64 (ws.length:Nat)),(72,.int .i64 (vk:Nat))],J2,U'⟩ (ak [] [] zS zS (by show nb<=_;omega) (by show tb<=_;omega) eG (by rw[hl];exact CW)) ?_);simp only at eG;have g5:=jg.get (i:=b5) (b:=.map es) zS;have g13:=jg.get (ahR _ GF);have l5:=(aht.1 g5).1;have l13:=(aht.1 g13).1;have e5:=aZ g5;have Kd:=aZ g13;clear g5 g13 ei e12 gi;refine dE λz8=>?_;obtain⟨ee,rI⟩:∃ee:En,ee=⟨(f,s),ew,id,rJ++[p],Gf,i,cap,rest⟩:=⟨_,rfl⟩
  have Gz:cO (E1++⟨(f,s),ew,id,rJ++[p],0,i,cap,rest⟩::E2)=cO (E1++ee::E2):=by rw[rI];simp[cO,En.n]
  rw[Gz] at jk;have zj:dz prog 193 (cO (E1++ee::E2))=true:=by rw[<-jk];exact qx mY y6
  have hS:ep (E1++ee::E2)=ep E1++(i,ij ew id (rJ++[p]) (.own Gf) rest)::ep E2:=by rw[rI];simp[ep,En.pq]
  have hT:kK (E1++ee::E2)=kK E1++(Gf,((rJ++[p]).length,1))::kK E2:=by rw[rI];simp[kK]
  rw[<-hS] at jg;rw[<-hT] at hU';refine br λK hK=>?_;simp(disch:=omega)[wJ,e5,Kd,y6,mY,jk];apply hK;have zX:=jg.set (.map (cO (E1++ee::E2)));have hb:∀e∈E1++ee::E2,e.i<J2.length:=λe he=>jg.lt (b:=e.pq) (by simp only[ahI,ah4];exact .inr (.inr (ahz.2 ⟨e,he,rfl⟩)));refine go _ _ _ (E1++ee::E2) zX hU' (λe he=>?_) zj (pW ee (by rw[rI]) (by rw[rI];rfl)) (sL.set JZ _) afA (by simp;omega) hUl (eG.sg (IA hb)) ?_
  ·rcases ahI.1 he with he|he
   ·exact hE e (.inl he)
   ·rcases ah4.1 he with rfl|he
    ·rw[rI];exact⟨hr,cK,by show ew.length+1<=_;omega,by show (rJ++[p]).length<=_;simp;omega,hi,aeP⟩
    ·exact hE e (.inr he)
  ·simp;omega
 rcases hU with⟨rfl,rfl,hU⟩|⟨tk,rfl,hU,gV⟩
 ·have Of:(mi ew++(j5 id [] .full++rest)).set (ew.length*2+1) (.sl 1 [.int .i64 p] (.own U.length))=mi ew++(j5 id ([]++[p]) (.own U.length)++rest):=hbs [p] _;simp(disch:=omega)[ei,e12,uq,j8,vw];rw[Of];refine fin _ _ U.length ?_ lT (Gj.app _) zS ?_
  ·refine(hU.new (1,1)).perm ?_;simp only[ahM];exact((aik _ _).symm.append_left _).append_left _
  ·simp;omega
 ·have Of:(mi ew++(j5 id rJ (.own tk)++rest)).set (ew.length*2+1) (.sl (rJ.length+1) (ints rJ++[.int .i64 p]) (.own tk))=mi ew++(j5 id (rJ++[p]) (.own tk)++rest):=by
   rw[cJ];have:=hbs (rJ++[p]) (.own tk)
   rwa [ahw] at this
  have gU:=hU.get (i:=tk) (b:=(rJ.length,1)) zS;have lU:=(aht.1 gU).1;have eU:=aZ gU;simp(disch:=omega)[ei,e12,uq,j8,vw,eU];rw[Of];refine fin _ _ tk ?_ gV (Gj.set gV _) zS ?_
  ·have:=Has.set (A:=RT++kK E1) (B:=kK E2) (zU hU) (rJ.length+1,1);simpa using this
  ·simp;omega
def KJ (H : List aA) (T : au) (nb tb N : Nat) (gL : nb <= H.length) (fZ : tb <= T.length) (L : List Dc) (zs : List Zn) (ws : List Wd) (vi vj vk b2 b4 b5 b6 b8 ui Gm C3 : Nat) (id f : Int) (s : Bs) (p : Int) (zv nv : AV) (E : List En) (J : List aA) (U : au) (R : List (Nat × aA)) (RT : List (Nat × (Nat × Nat)))
    (hJ : Has J (R ++ (b5, .map (cO E)) :: ep E)) (hU : Has U (RT ++ kK E)) (hE : ∀ e ∈ E, GW H.length T.length N e) (hN : N <= 1099511627776) (nU : (E.map (·.k)).Nodup) (mY : dz prog 193 (cO E) = true)
    (h8 : (b8, .cells [.int .i64 id, zv, nv]) ∈ R) (Kc : (Gm, .cells [.str s, .int .i64 p]) ∈ R) (GF : (C3, .cells [.int .i64 f, .str s]) ∈ R) (JZ : H.length <= b5) (jT : b2 < J.length) (XK : b4 < J.length) (hl6 : b6 < J.length) (Zt : ui < J.length)
    (hf : -9223372036854775808 <= f /\ f <= 9223372036854775807) (hs : s.length <= maxLen) (Ni : gW H J) (Gj : gW T U) (Q : Exit -> St -> Prop)
    (go : ∀ (e : Env) (J' : List aA) (U' : au) (E' : List En), Has J' (R ++ (b5, .map (cO E')) :: ep E') -> Has U' (RT ++ kK E') -> (∀ e ∈ E', GW H.length T.length (N + 1) e) -> dz prog 193 (cO E') = true -> ph E (f, s) id p E' -> gW H J' -> gW T U' -> J.length <= J'.length -> U.length <= U'.length -> bM J' U' ->
      bA J'.length U'.length e [(0, .sl L.length (aM L) .none), (2, .ptr b2 0), (4, .ptr b4 0), (5, .aP b5), (6, .aP b6), (8, .ptr b8 0), (10, .ptr ui 0), (34, .sl L.length (aM L) .none), (35, .int .i64 (L.length : Nat)), (36, .int .i64 (vi : Nat)), (63, .sl zs.length (fy zs) .none), (64, .int .i64 (zs.length : Nat)), (65, .int .i64 (vj : Nat)), (70, .sl ws.length (dX ws) .none), (71, .int .i64 (ws.length : Nat)), (72, .int .i64 (vk : Nat))] -> Q .normal ⟨e, J', U'⟩) :
    AW ⟨prog, 192, 152, nb, tb, [100104, 100147, 100166]⟩ (dZ [1, 1, 1, 1, 1, 1, 1, 1, 0, 1, 0, 0, 1, 1, 0, 0, 1, 1, 1, 0, 1, 0, 0, 1, 1, 0, 0, 1, 1, 0, 0, 1, 1, 0, 0, 1, 1] (Tryz.f68.body.getD .skip)) Q ⟨[(12, .ptr Gm 0), (13, .ptr C3 0), (0, .sl L.length (aM L) .none), (2, .ptr b2 0), (4, .ptr b4 0), (5, .aP b5), (6, .aP b6), (8, .ptr b8 0), (10, .ptr ui 0), (34, .sl L.length (aM L) .none), (35, .int .i64 (L.length : Nat)), (36, .int .i64 (vi : Nat)), (63, .sl zs.length (fy zs) .none), (64, .int .i64 (zs.length : Nat)), (65, .int .i64 (vj : Nat)), (70, .sl ws.length (dX ws) .none), (71, .int .i64 (ws.length : Nat)), (72, .int .i64 (vk : Nat))], J, U⟩ := by
  conv => arg 2; whnf
  have g5 := hJ.get (i := b5) (b := .map (cO E)) (by simp);have g8 := hJ.get (ahR _ h8);have g12 := hJ.get (ahR _ Kc);have g13 := hJ.get (ahR _ GF);have l5 := (aht.1 g5).1;have l8 := (aht.1 g8).1;have l12 := (aht.1 g12).1;have l13 := (aht.1 g13).1;have lH := Ni.le;have lT := Gj.le;have e5 := aZ g5;have e8 := aZ g8;have e12 := aZ g12;have Kd := aZ g13;have y6 := ZI (f, s) hf hs;have lO : nH (f, s) = .agg [.int .i64 f, .str s] := rfl;rw [lO] at y6;refine dE λHO => ?_;simp only at HO
  by_cases hex : (f, s) ∈ E.map (·.k)
  rotate_left
  · have eI : ju (cO E) (.agg [.int .i64 f, .str s]) (.sl 0 [] .full) false = .sl 0 [] .full := by
      unfold ju;rw [<- lO, qU (A5 hex)];rfl
    refine aK λK hK => ?_; simp (maxSteps := 1000000) (disch := omega) [-getD_eq_getElem?_getD, wJ, DP, y6, mY, e5, Kd, eI]; refine hK _ ?_; clear hK K;refine ae λK1 aN => ?_;refine cQ [] [] [] aO (by kernel_rfl) (by kernel_rfl) λK hK => ?_; simp (maxSteps := 1000000) (disch := omega) [-getD_eq_getElem?_getD];refine hK _ ?_; clear hK K;refine aV rfl (λh => ?_) (λh => absurd h (by simp));refine br λK hK => ?_; simp (maxSteps := 1000000) (disch := omega) [-getD_eq_getElem?_getD, e8];intro nc lY;refine hK _ ?_; clear hK K;refine aN _ ?_; clear aN;have CY : aA.cells (.int .i64 id :: .sl 0 [] .full :: List.replicate ((nc - 1) * 2) .top) = ij [] id [] .full (List.replicate ((nc - 1) * 2) .top) := rfl;rw [CY];have jg := hJ.new (ij [] id [] .full (List.replicate ((nc - 1) * 2) .top));have sL := Ni.app [ij [] id [] .full (List.replicate ((nc - 1) * 2) .top)];have afd : (J ++ [ij [] id [] .full (List.replicate ((nc - 1) * 2) .top)]).length = J.length + 1 := by simp
    obtain ⟨i, hi⟩ : ∃ i, i = J.length := ⟨_, rfl⟩
    rw [<- hi] at jg;simp only [<- hi];generalize J ++ [ij [] id [] .full (List.replicate ((nc - 1) * 2) .top)] = J2 at *;refine dE λeG => ?_;simp only at eG;refine aF ⟨[(14, .bQ i (([] : List (Ps × Tag)).length + 1) nc), (12, .ptr Gm 0), (13, .ptr C3 0), (0, .sl L.length (aM L) .none), (2, .ptr b2 0), (4, .ptr b4 0), (5, .aP b5), (6, .aP b6), (8, .ptr b8 0), (10, .ptr ui 0), (34, .sl L.length (aM L) .none), (35, .int .i64 (L.length : Nat)), (36, .int .i64 (vi : Nat)), (63, .sl zs.length (fy zs) .none), (64, .int .i64 (zs.length : Nat)), (65, .int .i64 (vj : Nat)), (70, .sl ws.length (dX ws) .none), (71, .int .i64 (ws.length : Nat)), (72, .int .i64 (vk : Nat))], J2, U⟩ (ak [] [] (by simp) (by simp) (by show nb <= _; omega) (by show tb <= _; omega) eG (by simp; omega)) ?_;have ahd : ((E ++ [(⟨(f, s), [], id, [p], 0, i, nc, []⟩ : En)]).map (·.k)).Nodup := by
      rw [ahJ, aif];exact ⟨nU, by simp, λa ha b hb => by simp at hb; rintro rfl; rw [hb] at ha; exact hex ha⟩
    exact xJ H T nb tb N gL fZ L zs ws vi vj vk b2 b4 b5 b6 b8 ui Gm C3 id f s p E [] (cO E) J2 U R RT i nc [] (List.replicate ((nc - 1) * 2) .top) [] .full (by simpa [ep] using jg) (.inl ⟨rfl, rfl, by simpa [kK] using hU⟩)
      (λe he => by
        rcases he with he | he
        · have := hE e he; exact ⟨this.r, this.c, aj8 this.n, aj8 this.a, this.i, this.t⟩
        · simp at he) hN (by simp) lY (ahE _) (ahE _) (by omega) (Qs ⟨(f, s), [], id, [] ++ [p], 0, i, nc, List.replicate ((nc - 1) * 2) .top⟩ hex) mY E
      (λKe hk hp => by have := ph.add (e' := Ke) (d := id) (p := p) nU (by rw [hk]; exact hex) (by rw [hp]; rfl); rwa [hk] at this)
      Kc GF JZ (by omega) (by omega) (by omega) (by omega) (by omega) hf hs sL Gj eG Q (λe J' U' E' a1 a2 a3 a4 a5 a6 a7 a8 => go e J' U' E' a1 a2 a3 a4 a5 a6 a7 (by omega))
  · obtain ⟨e, NB, zV⟩ := ahz.1 hex;obtain ⟨E1, E2, rfl⟩ := ajS NB;obtain ⟨k0, ew, d, at_, tk, i, cap, rest⟩ := e;simp only at zV;subst zV;have je := hE _ NB;have YT : ∀ e, e ∈ E1 \/ e ∈ E2 -> GW H.length T.length (N + 1) e := λe he => by
      have := hE e (by rcases he with he | he <;> simp [he]); exact ⟨this.r, this.c, aj8 this.n, aj8 this.a, this.i, this.t⟩
    obtain ⟨q1, q2, q3, q4, q5, q6⟩ := je;simp only [En.n] at q1 q2 q3 q4 q5 q6;have Nk : Has J (R ++ (b5, .map (cO (E1 ++ ⟨(f, s), ew, d, at_, tk, i, cap, rest⟩ :: E2))) :: (ep E1 ++ (i, ij ew d at_ (.own tk) rest) :: ep E2)) := by simpa [ep, En.pq] using hJ
    have hUb : Has U (RT ++ (kK E1 ++ (tk, (at_.length, 1)) :: kK E2)) := by simpa [kK] using hU
    have gi := Nk.get (i := i) (b := ij ew d at_ (.own tk) rest) (by simp);have li := (aht.1 gi).1;have ei := aZ gi;unfold ij at ei gi;obtain ⟨uq, j8⟩ := OZ ew d at_ (.own tk) rest;have vw : (mi ew ++ (j5 d at_ (.own tk) ++ rest)).length = ew.length * 2 + (2 + rest.length) := by rw [ahw, mH, ahw]; rfl
    have wg := Qr nU;simp only [En.n] at wg;have eI : ju (cO (E1 ++ ⟨(f, s), ew, d, at_, tk, i, cap, rest⟩ :: E2)) (.agg [.int .i64 f, .str s]) (.sl 0 [] .full) false = .bQ i (ew.length + 1) cap := by
      unfold ju;rw [<- lO, wg];rfl
    have xm := λe' hk => Qq nU e' hk;have hold := λe' p' hk hp => ph.vV (d := id) (p := p') nU (e' := e') hk hp;simp only at xm hold;generalize hEE : cO (E1 ++ ⟨(f, s), ew, d, at_, tk, i, cap, rest⟩ :: E2) = es at *;refine aK λK hK => ?_; simp (maxSteps := 1000000) (disch := omega) [-getD_eq_getElem?_getD, wJ, DP, y6, mY, e5, Kd, eI]; refine hK _ ?_; clear hK K;refine ae λK1 aN => ?_;have bn : (((ew.length : Int) + 1) == 0) = false := ah8.2 (by omega);have Y3 : ¬ ((ew.length : Int) + 1) = 0 := by omega
    by_cases hd : d = id
    · subst hd;have bd : (d != d) = false := by simp
      refine cQ [] [] [] aO (by kernel_rfl) (by kernel_rfl) λK hK => ?_; simp (maxSteps := 1000000) (disch := omega) [-getD_eq_getElem?_getD, bn, Y3, ei, e8, uq, vw, bd];refine hK _ ?_; clear hK K;refine aV rfl (λh => absurd h (by simp)) (λh => ?_);apply aj; simp (maxSteps := 1000000) (disch := omega) [-getD_eq_getElem?_getD];refine aN _ ?_; clear aN;refine aF ⟨[(14, .bQ i (ew.length + 1) cap), (12, .ptr Gm 0), (13, .ptr C3 0), (0, .sl L.length (aM L) .none), (2, .ptr b2 0), (4, .ptr b4 0), (5, .aP b5), (6, .aP b6), (8, .ptr b8 0), (10, .ptr ui 0), (34, .sl L.length (aM L) .none), (35, .int .i64 (L.length : Nat)), (36, .int .i64 (vi : Nat)), (63, .sl zs.length (fy zs) .none), (64, .int .i64 (zs.length : Nat)), (65, .int .i64 (vj : Nat)), (70, .sl ws.length (dX ws) .none), (71, .int .i64 (ws.length : Nat)), (72, .int .i64 (vk : Nat))], J, U⟩ (ak [] [] (by simp) (by simp) (by show nb <= _; omega) (by show tb <= _; omega) HO (by simp; omega)) ?_;refine xJ H T nb tb N gL fZ L zs ws vi vj vk b2 b4 b5 b6 b8 ui Gm C3 d f s p E1 E2 es J U R RT i cap ew rest at_ (.own tk) Nk (.inr ⟨tk, rfl, hUb, q6⟩)
        YT hN q1 q2 (by omega) q4 q5 (xm ⟨(f, s), ew, d, at_ ++ [p], 0, i, cap, rest⟩ rfl) mY _
        (λKe hk hp => ?_)
        Kc GF JZ jT XK hl6 l8 Zt hf hs Ni Gj HO Q go
      exact hold Ke p hk (by rw [hp]; show _ = xj (ew.map (·.1) ++ [(d, at_)]) d p; rw [rp, ahF rfl])
    · have bd : (d != id) = true := by simpa using hd
      have hU0 : Has U (RT ++ (kK E1 ++ kK E2)) := hUb.sub (List.Sublist.append_left (List.Sublist.append_left (aiw _ _) _) _);have pW : ∀ Ke : En, Ke.k = (f, s) -> Ke.pl = (ew ++ [((d, at_), Tag.own tk)]).map (·.1) ++ [(id, [] ++ [p])] -> ph (E1 ++ ⟨(f, s), ew, d, at_, tk, i, cap, rest⟩ :: E2) (f, s) id p (E1 ++ Ke :: E2) := λKe hk hp =>
        hold Ke p hk (by rw [hp]; show _ = xj (ew.map (·.1) ++ [(d, at_)]) id p; rw [rp, ahC hd]; simp)
      have mn := λ(J2 : List aA) (i2 gD : Nat) (dJ : List AV) (hl : J.length <= J2.length) (jg : Has J2 (R ++ (b5, .map es) :: (ep E1 ++ (i2, ij (ew ++ [((d, at_), Tag.own tk)]) id [] .full dJ) :: ep E2))) (eG : bM J2 U) (sL : gW H J2) (o9 : dJ.length = (gD - (ew.length + 2)) * 2) (pn : ew.length + 2 <= gD) (zR : H.length <= i2) =>
        xJ H T nb tb N gL fZ L zs ws vi vj vk b2 b4 b5 b6 b8 ui Gm C3 id f s p E1 E2 es J2 U R RT i2 gD (ew ++ [((d, at_), Tag.own tk)]) dJ [] .full jg (.inl ⟨rfl, rfl, hU0⟩)
          YT hN (by rw [o9]; simp) (by simpa using pn) (by simp; omega) (ahE _) zR (by have := xm ⟨(f, s), ew ++ [((d, at_), Tag.own tk)], id, [] ++ [p], 0, i2, gD, dJ⟩ rfl; exact this) mY _ pW
          Kc GF JZ (by omega) (by omega) (by omega) (by omega) (by omega) hf hs sL Gj eG Q (λe J' U' E' a1 a2 a3 a4 a5 a6 a7 a8 => go e J' U' E' a1 a2 a3 a4 a5 a6 a7 (by omega))
      have gV : (mi ew ++ (j5 d at_ (.own tk) ++ rest)).take ((ew.length + 1) * 2) = mi (ew ++ [((d, at_), Tag.own tk)]) := by
        rw [<- ahM, AG, aiy (by rw [mH]; simp)]
      have qE : (mi ew ++ (j5 d at_ (.own tk) ++ rest)).drop ((ew.length + 1 + 1) * 2) = rest.drop 2 := by
        rw [<- ahM, AG, List.drop_append, ajN (by rw [mH, ahw, ain]; omega), ai3, mH]
        congr 1; simp; omega
      refine cQ [] [] [] aO (by kernel_rfl) (by kernel_rfl) λK hK => ?_; simp (maxSteps := 1000000) (disch := omega) [-getD_eq_getElem?_getD, bn, Y3, ei, e8, uq, vw, bd];refine hK _ ?_; clear hK K;refine aV rfl (λh => ?_) (λh => absurd h (by simp));refine br λK hK => ?_; simp (maxSteps := 1000000) (disch := omega) [-getD_eq_getElem?_getD, e8];refine ⟨140, _, [.int .i64 id, .sl 0 [] .full], 1, by kernel_rfl, gi, by rw [vw, yi]; omega, by simp, by simp; omega, by omega, by kernel_rfl, by simp, λhle => ?_, λnc bp lY => ?_⟩
      · simp only [yi, gV, qE];rw [show aA.cells (mi (ew ++ [((d, at_), Tag.own tk)]) ++ [.int .i64 id, .sl 0 [] .full] ++ rest.drop 2) = ij (ew ++ [((d, at_), Tag.own tk)]) id [] .full (rest.drop 2) by rw [ahM]; rfl];have jg : Has (J.set i (ij (ew ++ [((d, at_), Tag.own tk)]) id [] .full (rest.drop 2))) (R ++ (b5, .map es) :: (ep E1 ++ (i, ij (ew ++ [((d, at_), Tag.own tk)]) id [] .full (rest.drop 2)) :: ep E2)) := by
          have := Has.set (A := R ++ (b5, .map es) :: ep E1) (B := ep E2) (by simpa using Nk) (ij (ew ++ [((d, at_), Tag.own tk)]) id [] .full (rest.drop 2));simpa using this
        have sL := Ni.set q5 (ij (ew ++ [((d, at_), Tag.own tk)]) id [] .full (rest.drop 2));have hl : J.length = (J.set i (ij (ew ++ [((d, at_), Tag.own tk)]) id [] .full (rest.drop 2))).length := by simp
        generalize J.set i (ij (ew ++ [((d, at_), Tag.own tk)]) id [] .full (rest.drop 2)) = J2 at *;simp (maxSteps := 1000000) (disch := omega) [-getD_eq_getElem?_getD];refine hK _ ?_; clear hK K;refine aN _ ?_; clear aN;refine dE λeG => ?_;simp only at eG;refine aF ⟨[(14, .bQ i ((ew ++ [((d, at_), Tag.own tk)]).length + 1) cap), (12, .ptr Gm 0), (13, .ptr C3 0), (0, .sl L.length (aM L) .none), (2, .ptr b2 0), (4, .ptr b4 0), (5, .aP b5), (6, .aP b6), (8, .ptr b8 0), (10, .ptr ui 0), (34, .sl L.length (aM L) .none), (35, .int .i64 (L.length : Nat)), (36, .int .i64 (vi : Nat)), (63, .sl zs.length (fy zs) .none), (64, .int .i64 (zs.length : Nat)), (65, .int .i64 (vj : Nat)), (70, .sl ws.length (dX ws) .none), (71, .int .i64 (ws.length : Nat)), (72, .int .i64 (vk : Nat))], J2, U⟩ (ak [] [] (by simp) (by simp) (by show nb <= _; omega) (by show tb <= _; omega) eG (by simp; omega)) ?_;exact mn J2 i cap (rest.drop 2) (by omega) jg eG sL (by rw [aii]; omega) (by omega) q5
      · simp only [yi, gV];obtain ⟨r2, o9⟩ : ∃ r2, r2 = List.replicate ((nc - (ew.length + 1 + 1)) * 2) AV.top := ⟨_, rfl⟩
        have NS : r2.length = (nc - (ew.length + 2)) * 2 := by rw [o9]; simp
        rw [<- o9];rw [show aA.cells (mi (ew ++ [((d, at_), Tag.own tk)]) ++ [.int .i64 id, .sl 0 [] .full] ++ r2) = ij (ew ++ [((d, at_), Tag.own tk)]) id [] .full r2 by rw [ahM]; rfl];have jg : Has (J ++ [ij (ew ++ [((d, at_), Tag.own tk)]) id [] .full r2]) (R ++ (b5, .map es) :: (ep E1 ++ (J.length, ij (ew ++ [((d, at_), Tag.own tk)]) id [] .full r2) :: ep E2)) := by
          have h0 : Has J (R ++ (b5, .map es) :: (ep E1 ++ ep E2)) := Nk.sub (List.Sublist.append_left (List.Sublist.cons_cons _ (List.Sublist.append_left (aiw _ _) _)) _);refine (h0.new _).perm ?_;simp only [ahM, ajI];exact (((aik _ _).symm.append_left _).cons _).append_left _
        have sL := Ni.app [ij (ew ++ [((d, at_), Tag.own tk)]) id [] .full r2];have afd : (J ++ [ij (ew ++ [((d, at_), Tag.own tk)]) id [] .full r2]).length = J.length + 1 := by simp
        obtain ⟨i2, zR⟩ : ∃ i, i = J.length := ⟨_, rfl⟩
        rw [<- zR] at jg;simp only [<- zR];generalize J ++ [ij (ew ++ [((d, at_), Tag.own tk)]) id [] .full r2] = J2 at *;simp (maxSteps := 1000000) (disch := omega) [-getD_eq_getElem?_getD];refine hK _ ?_; clear hK K;refine aN _ ?_; clear aN;refine dE λeG => ?_;simp only at eG;refine aF ⟨[(14, .bQ i2 ((ew ++ [((d, at_), Tag.own tk)]).length + 1) nc), (12, .ptr Gm 0), (13, .ptr C3 0), (0, .sl L.length (aM L) .none), (2, .ptr b2 0), (4, .ptr b4 0), (5, .aP b5), (6, .aP b6), (8, .ptr b8 0), (10, .ptr ui 0), (34, .sl L.length (aM L) .none), (35, .int .i64 (L.length : Nat)), (36, .int .i64 (vi : Nat)), (63, .sl zs.length (fy zs) .none), (64, .int .i64 (zs.length : Nat)), (65, .int .i64 (vj : Nat)), (70, .sl ws.length (dX ws) .none), (71, .int .i64 (ws.length : Nat)), (72, .int .i64 (vk : Nat))], J2, U⟩ (ak [] [] (by simp) (by simp) (by show nb <= _; omega) (by show tb <= _; omega) eG (by simp; omega)) ?_;exact mn J2 i2 nc r2 (by omega) jg eG sL NS (by omega) (by omega)
end Go.Proofs.YtoejlmpbebjemaaGreat
namespace eN
open Go Go.Am
inductive oL (id:Int):List En->List (Ky×Int)->List En->Prop
 |nil (E:List En):oL id E [] E
 |snoc {E E1 E2:List En} {l:List (Ky×Int)} {k:Ky} {p:Int} (h:oL id E l E1) (h2:ph E1 k id p E2):oL id E (l++[(k,p)]) E2
theorem oL.trans {id:Int}{E E1 E2:List En}{l m:List (Ky×Int)}(h:oL id E l E1)(k:oL id E1 m E2):oL id E (l++m) E2:=by
 induction k with
 |nil=>simpa using h
 |snoc _ h2 ih=>rw[<-append_assoc];exact ih.snoc h2
def pw (f:Int)(ws:List Wd):List (Ky×Int):=ws.map λw=>((f,w.1),w.2)
def eW (zs:List Zn):List (Ky×Int):=zs.flatMap λz=>pw z.f z.ws
def KD (f:Int)(ws:List Wd)(k:Nat)(h:k<ws.length):pw f (ws.take k)++[((f,(ws.getD k w0).1),(ws.getD k w0).2)]=pw f (ws.take (k+1)):=by
 rw[aX ws k w0 h];simp[pw]
def MA (zs:List Zn)(k:Nat)(h:k<zs.length):eW (zs.take k)++pw (zs.getD k z0).f (zs.getD k z0).ws=eW (zs.take (k+1)):=by
 rw[aX zs k z0 h];simp[eW]
end eN
namespace Go.Proofs.YtoejlmpbebjemaaGreat
open Go Go.Am ie eN
structure BI (H:List aA)(T:au)(R:List (Nat×aA))(RT:List (Nat×(Nat×Nat)))(b5 N:Nat)(J:List aA)(U:au)(E:List En):Prop where
 hJ:Has J (R++(b5,.map (cO E))::ep E)
 hU:Has U (RT++kK E)
 hE:∀e∈E,GW H.length T.length N e
 nd:(E.map (·.k)).Nodup
 ft:dz Tryz.prog 193 (cO E)=true
 pJ:gW H J
 pU:gW T U
 ok:bM J U
def BI.more {H:List aA}{T:au}{R:List (Nat×aA)}{RT:List (Nat×(Nat×Nat))}{b5 N:Nat}{J:List aA}{U:au}{E:List En}(h:BI H T R RT b5 N J U E){M:Nat}(hm:N<=M):BI H T R RT b5 M J U E:=
 ⟨h.hJ,h.hU,λe he=>have q:=h.hE e he;⟨q.r,q.c,ahA q.n hm,ahA q.a hm,q.i,q.t⟩,h.nd,h.ft,h.pJ,h.pU,h.ok⟩
theorem BI.sub {H:List aA}{T:au}{R R':List (Nat×aA)}{RT:List (Nat×(Nat×Nat))}{b5 N:Nat}{J:List aA}{U:au}{E:List En}(h:BI H T R RT b5 N J U E)(hs:R'.Sublist R):BI H T R' RT b5 N J U E:=
 ⟨h.hJ.sub (hs.append_right _),h.hU,h.hE,h.nd,h.ft,h.pJ,h.pU,h.ok⟩
theorem BI.new {H:List aA}{T:au}{R:List (Nat×aA)}{RT:List (Nat×(Nat×Nat))}{b5 N:Nat}{J:List aA}{U:au}{E:List En}(h:BI H T R RT b5 N J U E)(b:aA)(ho:bM (J++[b]) U):BI H T ((J.length,b)::R) RT b5 N (J++[b]) U E:=by
 refine⟨?_,h.hU,h.hE,h.nd,h.ft,h.pJ.app _,h.pU,ho⟩;exact(h.hJ.new b).perm (aik _ _).symm
def KL (H:List aA)(T:au)(nb tb N:Nat)(gL:nb<=H.length)(fZ:tb<=T.length)(L:List Dc)(zs:List Zn)(ws:List Wd)(vi vj vk b2 b4 b5 b6 b8 ui:Nat)(id f:Int)(zv nv wv:AV)(E:List En)(J:List aA)(U:au)(R:List (Nat×aA))(RT:List (Nat×(Nat×Nat)))
  (hB:BI H T R RT b5 N J U E) (hN:N<=1099511627776) (hk:vk<ws.length) (gy:ws.length<=1099511627776)
  (h8:(b8,.cells [.int .i64 id,zv,nv])∈R) (ND:(ui,.cells [.int .i64 f,wv])∈R) (JZ:H.length<=b5) (jT:b2<J.length) (XK:b4<J.length) (hl6:b6<J.length)
  (hf:-9223372036854775808<=f/\f<=9223372036854775807) (hs:(ws.getD vk w0).1.length<=maxLen) (Q:Exit->St->Prop)
  (go:∀(e:Env)(J':List aA)(U':au)(E':List En),BI H T R RT b5 (N+1) J' U' E'->ph E (f,(ws.getD vk w0).1) id (ws.getD vk w0).2 E'->J.length<=J'.length->bA J'.length U'.length e [(0,.sl L.length (aM L) .none),(2,.ptr b2 0),(4,.ptr b4 0),(5,.aP b5),(6,.aP b6),(8,.ptr b8 0),(10,.ptr ui 0),(34,.sl L.length (aM L) .none),(35,.int .i64 (L.length:Nat)),(36,.int .i64 (vi:Nat)),(63,.sl zs.length (fy zs) .none),(64,.int .i64 (zs.length:Nat)),(65,.int .i64 (vj:Nat)),(70,.sl ws.length (dX ws) .none),(71,.int .i64 (ws.length:Nat)),(72,.int .i64 (vk:Nat))]->Q .normal ⟨e,J',U'⟩) :
  AW ⟨Tryz.prog,192,152,nb,tb,[100104,100147,100166]⟩ (dZ [1,1,1,1,1,1,1,1,0,1,0,0,1,1,0,0,1,1,1,0,1,0,0,1,1,0,0,1,1,0,0,1,1,0,0] (Tryz.f68.body.getD .skip)) Q ⟨[(0,.sl L.length (aM L) .none),(2,.ptr b2 0),(4,.ptr b4 0),(5,.aP b5),(6,.aP b6),(8,.ptr b8 0),(10,.ptr ui 0),(34,.sl L.length (aM L) .none),(35,.int .i64 (L.length:Nat)),(36,.int .i64 (vi:Nat)),(63,.sl zs.length (fy zs) .none),(64,.int .i64 (zs.length:Nat)),(65,.int .i64 (vj:Nat)),(70,.sl ws.length (dX ws) .none),(71,.int .i64 (ws.length:Nat)),(72,.int .i64 (vk:Nat))],J,U⟩:=by
 conv=>arg 2;whnf
 have g10:=hB.hJ.get (ahR _ ND);have g8:=hB.hJ.get (ahR _ h8);have l10:=(aht.1 g10).1;have l8:=(aht.1 g8).1;have l5:=hB.hJ.lt (i:=b5) (b:=.map (cO E)) zS;have Y2:=aZ g10;have lH:=hB.pJ.le;have lT:=hB.pU.le;have bB:=tE ws vk hk;have HO:=hB.ok;generalize ws.getD vk w0=x at *;obtain⟨s,p⟩:=x;simp only at bB hs go;apply ar;simp(disch:=omega)[-getD_eq_getElem?_getD,bB,gG];apply ar;simp(disch:=omega)[-getD_eq_getElem?_getD,Y2,ahB,aiL];have rV:bM (J++[.cells [.str s,.int .i64 p]]) U:=HO.snoc zS;have VH:bM ((J++[.cells [.str s,.int .i64 p]])++[.cells [.int .i64 f,.str s]]) U:=rV.snoc zS;have Gk:=(hB.new (.cells [.str s,.int .i64 p]) rV).new (.cells [.int .i64 f,.str s]) VH;have CT:((J++[aA.cells [.str s,.int .i64 p]])++[aA.cells [.int .i64 f,.str s]]).length=J.length+2:=zS;rw[show (J++[aA.cells [.str s,.int .i64 p]]).length=J.length+1 by simp] at Gk;have VQ:J++[aA.cells [.str s,.int .i64 p],aA.cells [.int .i64 f,.str s]]=(J++[aA.cells [.str s,.int .i64 p]])++[aA.cells [.int .i64 f,.str s]]:=zS;rw[VQ];obtain⟨Gm,Kc⟩:∃i,i=J.length:=⟨_,rfl⟩
 obtain⟨C3,GF⟩:∃i,i=J.length+1:=⟨_,rfl⟩
 rw[<-GF,<-Kc] at Gk;simp only[<-GF,<-Kc];generalize (J++[aA.cells [.str s,.int .i64 p]])++[aA.cells [.int .i64 f,.str s]]=J2 at *;refine aF ⟨[(12,.ptr Gm 0),(13,.ptr C3 0),(0,.sl L.length (aM L) .none),(2,.ptr b2 0),(4,.ptr b4 0),(5,.aP b5),(6,.aP b6),(8,.ptr b8 0),(10,.ptr ui 0),(34,.sl L.length (aM L) .none),(35,.int .i64 (L.length:Nat)),(36,.int .i64 (vi:Nat)),(63,.sl zs.length (fy zs) .none),(64,.int .i64 (zs.length:Nat)),(65,.int .i64 (vj:Nat)),(70,.sl ws.length (dX ws) .none),(71,.int .i64 (ws.length:Nat)),(72,.int .i64 (vk:Nat))],J2,U⟩ (ak [] [] zS zS (by show nb<=_;omega) (by show tb<=_;omega) Gk.ok (by simp;omega)) ?_;exact KJ H T nb tb N gL fZ L zs ws vi vj vk b2 b4 b5 b6 b8 ui Gm C3 id f s p zv nv E J2 U _ RT Gk.hJ Gk.hU Gk.hE hN Gk.nd Gk.ft (by simp[h8]) zS zS JZ zO zO zO zO hf hs Gk.pJ Gk.pU Q
  (λe J' U' E' a1 a2 a3 a4 a5 a6 a7 a8 a9 a10 a11=>go e J' U' E' (BI.sub ⟨a1,a2,a3,a5.nd,a4,a6,a7,a10⟩ zS) a5 zO a11)
attribute [-simp] getD_eq_getElem?_getD in
def KE (H:List aA)(T:au)(nb tb N:Nat)(gL:nb<=H.length)(fZ:tb<=T.length)(L:List Dc)(zs:List Zn)(vi vj b2 b4 b5 b6 b8:Nat)(id:Int)(zv nv:AV)(E:List En)(J:List aA)(U:au)(R:List (Nat×aA))(RT:List (Nat×(Nat×Nat)))
  (hB:BI H T R RT b5 N J U E) (hk:vj<zs.length) (hN:N+(zs.getD vj z0).ws.length<=1099511627776)
  (h8:(b8,.cells [.int .i64 id,zv,nv])∈R) (JZ:H.length<=b5) (jT:b2<J.length) (XK:b4<J.length) (hl6:b6<J.length)
  (hf:-9223372036854775808<=(zs.getD vj z0).f/\(zs.getD vj z0).f<=9223372036854775807) (hs:∀w∈(zs.getD vj z0).ws,w.1.length<=maxLen) (Q:Exit->St->Prop)
  (go:∀(e:Env)(J':List aA)(U':au)(E':List En),BI H T R RT b5 (N+(zs.getD vj z0).ws.length) J' U' E'->oL id E (pw (zs.getD vj z0).f (zs.getD vj z0).ws) E'->J.length<=J'.length->bA J'.length U'.length e [(0,.sl L.length (aM L) .none),(2,.ptr b2 0),(4,.ptr b4 0),(5,.aP b5),(6,.aP b6),(8,.ptr b8 0),(34,.sl L.length (aM L) .none),(35,.int .i64 (L.length:Nat)),(36,.int .i64 (vi:Nat)),(63,.sl zs.length (fy zs) .none),(64,.int .i64 (zs.length:Nat)),(65,.int .i64 (vj:Nat))]->Q .normal ⟨e,J',U'⟩) :
  AW ⟨Tryz.prog,192,152,nb,tb,[100104,100147,100166]⟩ (dZ [1,1,1,1,1,1,1,1,0,1,0,0,1,1,0,0,1,1,1,0,1,0,0,1,1,0,0] (Tryz.f68.body.getD .skip)) Q ⟨[(0,.sl L.length (aM L) .none),(2,.ptr b2 0),(4,.ptr b4 0),(5,.aP b5),(6,.aP b6),(8,.ptr b8 0),(34,.sl L.length (aM L) .none),(35,.int .i64 (L.length:Nat)),(36,.int .i64 (vi:Nat)),(63,.sl zs.length (fy zs) .none),(64,.int .i64 (zs.length:Nat)),(65,.int .i64 (vj:Nat))],J,U⟩:=by
 conv=>arg 2;whnf
 have l8:=hB.hJ.lt (ahR _ h8);have l5:=hB.hJ.lt (i:=b5) (b:=.map (cO E)) (by simp);have lH:=hB.pJ.le;have lT:=hB.pU.le;have bB:=tC zs vj hk;have HO:=hB.ok;generalize zs.getD vj z0=z at *;obtain⟨f,ws⟩:=z;simp only at bB hs hf hN go;refine aK λK hK=>?_;simp(disch:=omega)[bB,fW];apply hK;apply aK;intro K Z;simp(disch:=omega);apply Z;have rV:bM (J++[.cells [.int .i64 f,.sl ws.length (dX ws) .none]]) U:=HO.snoc (by simp);have Gk:=hB.new _ rV;have CT:(J++[aA.cells [.int .i64 f,.sl ws.length (dX ws) .none]]).length=J.length+1:=by simp
 obtain⟨ui,ND⟩:∃i,i=J.length:=⟨_,rfl⟩
 rw[<-ND] at Gk;simp only[<-ND];generalize J++[aA.cells [.int .i64 f,.sl ws.length (dX ws) .none]]=J1 at *;apply ag;refine aG (X:=Nat×List aA×au×List En) (λx=>⟨[(0,.sl L.length (aM L) .none),(2,.ptr b2 0),(4,.ptr b4 0),(5,.aP b5),(6,.aP b6),(8,.ptr b8 0),(10,.ptr ui 0),(34,.sl L.length (aM L) .none),(35,.int .i64 (L.length:Nat)),(36,.int .i64 (vi:Nat)),(63,.sl zs.length (fy zs) .none),(64,.int .i64 (zs.length:Nat)),(65,.int .i64 (vj:Nat)),(70,.sl ws.length (dX ws) .none),(71,.int .i64 (ws.length:Nat)),(72,.int .i64 (x.1:Nat))],x.2.1,x.2.2.1⟩)
  (λx=>x.1<=ws.length/\BI H T ((ui,.cells [.int .i64 f,.sl ws.length (dX ws) .none])::R) RT b5 (N+x.1) x.2.1 x.2.2.1 x.2.2.2/\oL id E (pw f (ws.take x.1)) x.2.2.2/\J1.length<=x.2.1.length) (λx=>ws.length-x.1) (0,J1,U,E) ?_ ?_ ?_
 ·exact⟨ahE _,Gk,.nil E,ahv _⟩
 ·refine ak [] [] ?_ ?_ ?_ ?_ Gk.ok ?_
  all_goals simp
  all_goals omega
 ·rintro⟨k,J2,U2,E2⟩ ⟨k1,k2,k3,k4⟩;simp only at k1 k2 k3 k4;have M9:=k2.pJ.le;have Q4:=k2.pU.le;apply aK;intro K Z;simp(disch:=omega);apply Z;refine ae λK2 ba=>?_;refine aV rfl (λgN=>?_) (λgN=>?_)
  ·simp  at gN;apply aj;simp(disch:=omega) ;apply ba;clear ba;refine ae λK3 bH=>?_;apply ag;refine aF ⟨[(0,.sl L.length (aM L) .none),(2,.ptr b2 0),(4,.ptr b4 0),(5,.aP b5),(6,.aP b6),(8,.ptr b8 0),(10,.ptr ui 0),(34,.sl L.length (aM L) .none),(35,.int .i64 (L.length:Nat)),(36,.int .i64 (vi:Nat)),(63,.sl zs.length (fy zs) .none),(64,.int .i64 (zs.length:Nat)),(65,.int .i64 (vj:Nat)),(70,.sl ws.length (dX ws) .none),(71,.int .i64 (ws.length:Nat)),(72,.int .i64 (k:Nat))],J2,U2⟩ (ak [] [] (by simp) (by simp) (by show nb<=_;omega) (by show tb<=_;omega) k2.ok (by simp;omega)) ?_;refine KL H T nb tb (N+k) gL fZ L zs ws vi vj k b2 b4 b5 b6 b8 ui id f zv nv (.sl ws.length (dX ws) .none) E2 J2 U2 _ RT k2 (by omega) gN (by omega) (by simp[h8]) (by simp) JZ (by omega) (by omega) (by omega) hf (hs _ (aQ ws k w0 gN)) _ λe J' U' E' a1 a2 a3 a4=>?_;have JT:=a1.pJ.le;have JS:=a1.pU.le;refine bH _ (aF ⟨[(0,.sl L.length (aM L) .none),(2,.ptr b2 0),(4,.ptr b4 0),(5,.aP b5),(6,.aP b6),(8,.ptr b8 0),(10,.ptr ui 0),(34,.sl L.length (aM L) .none),(35,.int .i64 (L.length:Nat)),(36,.int .i64 (vi:Nat)),(63,.sl zs.length (fy zs) .none),(64,.int .i64 (zs.length:Nat)),(65,.int .i64 (vj:Nat)),(70,.sl ws.length (dX ws) .none),(71,.int .i64 (ws.length:Nat)),(72,.int .i64 (k:Nat))],J',U'⟩ (ak [] [] (by simp) (by simp) (by show nb<=_;omega) (by show tb<=_;omega) a1.ok a4) ?_);clear bH;refine br λK hK=>?_;simp(disch:=omega) ;apply hK;refine⟨(k+1,J',U',E'),⟨by show k+1<=_;omega,a1,?_,by show J1.length<=J'.length;omega⟩,by show ws.length-(k+1)<ws.length-k;omega,?_⟩
   ·show oL id E (pw f (ws.take (k+1))) E';rw[<-KD f ws k gN];exact k3.snoc a2
   ·refine ak [] [] ?_ ?_ ?_ ?_ a1.ok ?_
    all_goals simp
    all_goals omega
  ·simp  at gN;have pD:k=ws.length:=by omega
   subst pD;apply aD;simp(disch:=omega) ;rw[ahO] at k3;refine go _ J2 U2 E2 (k2.sub (by simp)) k3 (by omega) ?_;simp;omega
end Go.Proofs.YtoejlmpbebjemaaGreat
namespace eN
open Go Go.Am
structure Ef where
 f:Int
 x:List Nm
 i:Nat
 cap:Nat
 rest:List AV
end eN
namespace Go.Proofs.YtoejlmpbebjemaaGreat
open Go.Proofs.Tryz(prog)
open Go Go.Am ie eN
def Ef.pq (e:Ef):aA:=.cells (bG e.x++e.rest)
def lL (f:Int):cZ:=.one (.int .i64 f)
def bT (F:List Ef):List (cZ×AV):=F.map λe=>(lL e.f,.bQ e.i e.x.length e.cap)
def jt (F:List Ef):List (Nat×aA):=F.map λe=>(e.i,Ef.pq e)
structure SD (nb N:Nat)(e:Ef):Prop where
 r:e.rest.length=(e.cap-e.x.length)*2
 c:e.x.length<=e.cap
 n:e.x.length<=N
 i:nb<=e.i
 p:0<e.x.length
def RD (F:List Ef)(f:Int):List Nm:=match F.find? (λe=>e.f==f) with
 |some e=>e.x
 |none=>[]
structure tn (F:List Ef)(f:Int)(it:Nm)(F':List Ef):Prop where
 lk:∀f',RD F' f'=if f'=f then RD F f++[it] else RD F f'
 nd:(F'.map (·.f)).Nodup
 ks:∀f',f'∈F'.map (·.f)↔f'=f\/f'∈F.map (·.f)
def oz {E1 E2:List Ef}{e:Ef}(h:((E1++e::E2).map (·.f)).Nodup)(k:Int):(E1++e::E2).find? (λx=>x.f==k)=if k=e.f then some e else (E1++E2).find? (λx=>x.f==k):=by
 have h1:∀x∈E1,x.f≠e.f:=λx hx=>by
  rw[ahJ,aif] at h;exact h.2.2 x.f (ahz.2 ⟨x,hx,rfl⟩) e.f zS
 rw[find?_append,List.find?_cons,find?_append]
 by_cases hk:k=e.f
 ·subst hk;have:E1.find? (λx=>x.f==e.f)=none:=by
   rw[aiJ];intro x hx;simpa using h1 x hx
  rw[this];simp
 ·rw[ahC hk,ah8.2 (Ne.symm hk)]
def tn.vV {E1 E2:List Ef}{e e':Ef}{it:Nm}(h:((E1++e::E2).map (·.f)).Nodup)(hk:e'.f=e.f)(hp:e'.x=e.x++[it]):tn (E1++e::E2) e.f it (E1++e'::E2):=by
 have h':((E1++e'::E2).map (·.f)).Nodup:=by
  rw[ahJ,aih,hk];rwa [ahJ,aih] at h
 refine⟨λk'=>?_,h',λk'=>?_⟩
 ·unfold RD;rw[oz h',oz h,oz h,hk]
  by_cases hh:k'=e.f
  ·subst hh;simp[hp]
  ·simp only[ahC hh]
 ·simp only[ahJ,aih,hk,ahI,ah4]
  constructor
  ·exact .inr
  ·rintro (rfl|hh)
   ·exact .inr (.inl rfl)
   ·exact hh
def tn.add {E:List Ef}{e':Ef}{it:Nm}(h:(E.map (·.f)).Nodup)(hk:e'.f∉E.map (·.f))(hp:e'.x=[it]):tn E e'.f it (E++[e']):=by
 have h':((E++e'::[]).map (·.f)).Nodup:=by
  rw[ahJ,aif];exact⟨h,zS,λa ha b hb=>by simp at hb;rintro rfl;rw[hb] at ha;exact hk ha⟩
 have hn:E.find? (λx=>x.f==e'.f)=none:=by
  rw[aiJ];intro x hx;have:x.f≠e'.f:=λee=>hk (ahz.2 ⟨x,hx,ee⟩);simpa using this
 refine⟨λk'=>?_,h',λk'=>?_⟩
 ·unfold RD;rw[oz h']
  by_cases hh:k'=e'.f
  ·subst hh;rw[hn];simp[hp]
  ·simp only[ahC hh,ahS]
 ·simp[or_comm]
def qi {a b:Int}:lL a=lL b↔a=b:=by simp[lL]
def A7 (F:List Ef):(bT F).map (·.1)=(F.map (·.f)).map lL:=by simp[bT,Function.comp_def]
def EY {E1 E2:List Ef}{e:Ef}(h:((E1++e::E2).map (·.f)).Nodup):v8 (bT (E1++e::E2)) (lL e.f)=some (.bQ e.i e.x.length e.cap):=by
 have hn:((bT (E1++e::E2)).map (·.1)).Nodup:=by
  rw[A7];exact oq (λa b j9=>qi.1 j9) h
 have hj:E1.length<(bT (E1++e::E2)).length:=by simp[bT]
 have he:(bT (E1++e::E2))[E1.length]'hj=(lL e.f,.bQ e.i e.x.length e.cap):=by simp[bT]
 rw[wI hn hj (by rw[he]),he]
def Qt {E1 E2:List Ef}{e:Ef}(h:((E1++e::E2).map (·.f)).Nodup)(e':Ef)(hk:e'.f=e.f):lK (bT (E1++e::E2)) (lL e.f) (.bQ e'.i e'.x.length e'.cap)=bT (E1++e'::E2):=by
 have hn:((bT (E1++e::E2)).map (·.1)).Nodup:=by
  rw[A7];exact oq (λa b j9=>qi.1 j9) h
 have hj:E1.length<(bT (E1++e::E2)).length:=by simp[bT]
 have he:(bT (E1++e::E2))[E1.length]'hj=(lL e.f,.bQ e.i e.x.length e.cap):=by simp[bT]
 rw[B6 hn hj (by rw[he])];simp[bT,hk]
def u6 {E:List Ef}{k:Int}(h:k∉E.map (·.f)):∀x∈bT E,x.1≠lL k:=by
 intro x hx;obtain⟨e,he,rfl⟩:=ahz.1 hx;exact λhh=>h (ahz.2 ⟨e,he,qi.1 hh⟩)
def Qu {E:List Ef}(e':Ef)(h:e'.f∉E.map (·.f)):lK (bT E) (lL e'.f) (.bQ e'.i e'.x.length e'.cap)=bT (E++[e']):=by
 rw[ou (u6 h)];simp[bT]
def yG {E:List Ef}{n t:Nat}(h:∀e∈E,e.i<n):aL n t ((bT E).map (·.2)):=by
 intro v hv;simp only[bT,aiA,ahz,Function.comp] at hv;obtain⟨e,he,rfl⟩:=hv;exact .bQ _ _ _ (h e he)
def Ku (f:Int)(hf:-9223372036854775808<=f/\f<=9223372036854775807):nu prog 3 (lL f)=true:=by
 have hu:prog.underlying 3=some (.int .i64):=zK;have Yr:(Lit.int .i64 f).wf=true:=by
  simp only[Lit.wf,ahG,ahH];exact hf
 unfold nu keyOf mapKey;rw[hu];simp[lL,cZ.val,KC.val,Yr]
structure BF (H:List aA)(T:au)(R:List (Nat×aA))(b6 N:Nat)(J:List aA)(U:au)(F:List Ef):Prop where
 hJ:Has J (R++(b6,.map (bT F))::jt F)
 hF:∀e∈F,SD H.length N e
 nd:(F.map (·.f)).Nodup
 ft:dz prog 3 (bT F)=true
 pJ:gW H J
 pU:gW T U
 ok:bM J U
attribute [-simp] getD_eq_getElem?_getD in
def P2 (H:List aA)(T:au)(nb tb N:Nat)(gL:nb<=H.length)(fZ:tb<=T.length)(L:List Dc)(ns:List Nm)(vi vk b2 b4 b5 b6 b8:Nat)(id:Int)(zv nv:AV)(F:List Ef)(J:List aA)(U:au)(R:List (Nat×aA))
  (hB:BF H T R b6 N J U F) (hN:N<=1099511627776) (hk:vk<ns.length) (gy:ns.length<=1099511627776)
  (h8:(b8,.cells [.int .i64 id,zv,nv])∈R) (Gi:H.length<=b6) (jT:b2<J.length) (XK:b4<J.length) (hl5:b5<J.length)
  (hf:-9223372036854775808<=(ns.getD vk n0).1/\(ns.getD vk n0).1<=9223372036854775807) (Q:Exit->St->Prop)
  (go:∀(e:Env)(J':List aA)(F':List Ef),BF H T R b6 (N+1) J' U F'->tn F (ns.getD vk n0).1 ((ns.getD vk n0).2,id) F'->J.length<=J'.length->bA J'.length U.length e [(0,.sl L.length (aM L) .none),(2,.ptr b2 0),(4,.ptr b4 0),(5,.aP b5),(6,.aP b6),(8,.ptr b8 0),(34,.sl L.length (aM L) .none),(35,.int .i64 (L.length:Nat)),(36,.int .i64 (vi:Nat)),(128,.sl ns.length (bG ns) .none),(129,.int .i64 (ns.length:Nat)),(130,.int .i64 (vk:Nat))]->Q .normal ⟨e,J',U⟩) :
  AW ⟨prog,192,152,nb,tb,[100104,100147,100166]⟩ (dZ [1,1,1,1,1,1,1,1,0,1,0,0,1,1,0,0,1,1,1,1,1,0,0,1,1,0,0] (Tryz.f68.body.getD .skip)) Q ⟨[(0,.sl L.length (aM L) .none),(2,.ptr b2 0),(4,.ptr b4 0),(5,.aP b5),(6,.aP b6),(8,.ptr b8 0),(34,.sl L.length (aM L) .none),(35,.int .i64 (L.length:Nat)),(36,.int .i64 (vi:Nat)),(128,.sl ns.length (bG ns) .none),(129,.int .i64 (ns.length:Nat)),(130,.int .i64 (vk:Nat))],J,U⟩:=by
 conv=>arg 2;whnf
 have lH:=hB.pJ.le;have lT:=hB.pU.le;have bB:=fH ns vk hk;have HO:=hB.ok;generalize ns.getD vk n0=x at *;obtain⟨f,n⟩:=x;simp only at bB hf go;have l8:=hB.hJ.lt (ahR _ h8);have l6:=hB.hJ.lt (i:=b6) (b:=.map (bT F)) zS;apply ar;simp(disch:=omega)[bB,cE];have rV:bM (J++[.cells [.int .i64 f,.int .i64 n]]) U:=HO.snoc zS;obtain⟨q1,q2,q3,q4,q5,q6,q7⟩:=hB;have q1:Has (J++[.cells [.int .i64 f,.int .i64 n]]) (((J.length,.cells [.int .i64 f,.int .i64 n])::R)++(b6,.map (bT F))::jt F):=(q1.new (.cells [.int .i64 f,.int .i64 n])).perm (aik _ _).symm;have q5:=q5.app [aA.cells [.int .i64 f,.int .i64 n]];have CT:(J++[aA.cells [.int .i64 f,.int .i64 n]]).length=J.length+1:=zS;obtain⟨Nr,h16⟩:∃i,i=J.length:=⟨_,rfl⟩
 rw[<-h16] at q1;simp only[<-h16];generalize J++[aA.cells [.int .i64 f,.int .i64 n]]=J1 at *;refine aF ⟨[(16,.ptr Nr 0),(0,.sl L.length (aM L) .none),(2,.ptr b2 0),(4,.ptr b4 0),(5,.aP b5),(6,.aP b6),(8,.ptr b8 0),(34,.sl L.length (aM L) .none),(35,.int .i64 (L.length:Nat)),(36,.int .i64 (vi:Nat)),(128,.sl ns.length (bG ns) .none),(129,.int .i64 (ns.length:Nat)),(130,.int .i64 (vk:Nat))],J1,U⟩ (ak [] [] zS zS (by show nb<=_;omega) (by show tb<=_;omega) rV (by simp;omega)) ?_;have g6:=q1.get (i:=b6) (b:=.map (bT F)) zS;have g8:=q1.get (i:=b8) (b:=.cells [.int .i64 id,zv,nv]) (by simp[h8]);have g16:=q1.get (i:=Nr) (b:=.cells [.int .i64 f,.int .i64 n]) zS;have l6:=(aht.1 g6).1;have l8:=(aht.1 g8).1;have l16:=(aht.1 g16).1;have e6:=aZ g6;have e8:=aZ g8;have Y1:=aZ g16;have y6:=Ku f hf;have lO:lL f=.one (.int .i64 f):=rfl;rw[lO] at y6
 by_cases hex:f∈F.map (·.f)
 rotate_left
 ·have eI:ju (bT F) (.one (.int .i64 f)) (.sl 0 [] .full) false=.sl 0 [] .full:=by
   unfold ju;rw[<-lO,qU (u6 hex)];rfl
  refine rk 13 [13,14] [0,0,0,0,0,0,0,0,0,0,0,0,0,0,1] [[0,1,2],[]] aO zK zK zK λK hK=>?_;simp(disch:=omega)[wK,tD,y6,q4,e6,e8,Y1,eI,ahB,aiL];intro nc lY;refine hK _ ?_;obtain⟨ee,rI⟩:∃ee:Ef,ee=⟨f,[(n,id)],J1.length,nc,List.replicate ((nc-1)*2) .top⟩:=⟨_,rfl⟩
  have jk:lK (bT F) (.one (.int .i64 f)) (.bQ J1.length 1 nc)=bT (F++[ee]):=by
   have:=Qu (E:=F) ee (by rw[rI];exact hex);rw[rI] at this ⊢;exact this
  have zj:dz prog 3 (bT (F++[ee]))=true:=by rw[<-jk];exact qx q4 y6
  rw[jk,show aA.cells (.int .i64 n::.int .i64 id::List.replicate ((nc-1)*2) .top)=Ef.pq ee by rw[rI];rfl,<-List.set_append_left _ _ l6];have jg:=q1.new (Ef.pq ee);rw[show J1.length=ee.i by rw[rI]] at jg;have zX:Has ((J1++[Ef.pq ee]).set b6 (.map (bT (F++[ee])))) (((Nr,.cells [.int .i64 f,.int .i64 n])::R)++(b6,.map (bT (F++[ee])))::jt (F++[ee])):=by
   have:=Has.set (A:=(Nr,.cells [.int .i64 f,.int .i64 n])::R) (B:=jt (F++[ee])) (b:=.map (bT F)) (by simpa[jt] using jg) (.map (bT (F++[ee])));exact this
  have VH:bM (J1++[Ef.pq ee]) U:=by
   refine rV.snoc ?_;rw[rI];simp
  have Km:(J1++[Ef.pq ee]).length=J1.length+1:=zS;have hb:∀e∈F++[ee],e.i<(J1++[Ef.pq ee]).length:=λe he=>by
   have:=zX.lt (i:=e.i) (b:=Ef.pq e) (by simp only[ahI,ah4];exact .inr (.inr (ahz.2 ⟨e,he,rfl⟩)));simpa using this
  refine go _ _ (F++[ee]) ⟨zX.sub ((aiw _ _).append_right _),λe he=>?_,(tn.add (it:=(n,id)) q3 (by rw[rI];exact hex) (by rw[rI])).nd,zj,(q5.app _).set Gi _,q6,VH.sg (yG hb)⟩ ?_ (by simp;omega) ?_
  ·rcases ahI.1 he with he|he
   ·have:=q2 e he;exact⟨this.r,this.c,aj8 this.n,this.i,this.p⟩
   ·simp at he;subst he;rw[rI];exact⟨zS,lY,zS,by show H.length<=J1.length;omega,zS⟩
  ·have:=tn.add (e':=ee) (it:=(n,id)) q3 (by rw[rI];exact hex) (by rw[rI])
   rwa [show ee.f=f by rw[rI]] at this
  ·simp;omega
 ·obtain⟨e,NB,zV⟩:=ahz.1 hex;obtain⟨E1,E2,rfl⟩:=ajS NB;obtain⟨f0,xs,i,cap,rest⟩:=e;simp only at zV;subst zV;obtain⟨k1,k2,k3,k4,k5⟩:=q2 _ NB;simp only at k1 k2 k3 k4 k5;have YT:∀e,e∈E1\/e∈E2->SD H.length (N+1) e:=λe he=>by
   have:=q2 e (by rcases he with he|he<;>simp[he]);exact⟨this.r,this.c,aj8 this.n,this.i,this.p⟩
  have Nk:Has J1 (((Nr,.cells [.int .i64 f0,.int .i64 n])::R)++(b6,.map (bT (E1++⟨f0,xs,i,cap,rest⟩::E2)))::(jt E1++(i,.cells (bG xs++rest))::jt E2)):=by
   have:=q1;simpa[jt,Ef.pq] using this
  have gi:=Nk.get (i:=i) (b:=.cells (bG xs++rest)) zS;have li:=(aht.1 gi).1;have ei:=aZ gi;have vw:(bG xs++rest).length=xs.length*2+rest.length:=by rw[ahw,cE]
  have wg:=EY q3;simp only at wg;have eI:ju (bT (E1++⟨f0,xs,i,cap,rest⟩::E2)) (.one (.int .i64 f0)) (.sl 0 [] .full) false=.bQ i xs.length cap:=by
   unfold ju;rw[<-lO,wg];rfl
  have xm:=λe' hk=>Qt q3 e' hk;have hold:=λe' hk hp=>tn.vV (it:=(n,id)) q3 (e':=e') hk hp;simp only at xm hold;rw[lO] at xm;have gV:(bG xs++rest).take (xs.length*2)=bG xs:=aiy (by rw[cE]);have qE:(bG xs++rest).drop ((xs.length+1)*2)=rest.drop 2:=by
   rw[List.drop_append,ajN (by rw[cE];omega),ai3,cE]
   congr 1;omega
  have gL:∀r,aL J1.length U.length r->True:=λ_ _=>trivial;have fin:∀(e:Env)(J2:List aA)(i2 gD:Nat)(dJ:List AV),Has J2 (((Nr,.cells [.int .i64 f0,.int .i64 n])::R)++(b6,.map (bT (E1++⟨f0,xs,i,cap,rest⟩::E2)))::(jt E1++(i2,.cells (bG (xs++[(n,id)])++dJ))::jt E2))->bM J2 U->gW H J2->J1.length<=J2.length->dJ.length=(gD-(xs.length+1))*2->xs.length+1<=gD->H.length<=i2->
    bA J2.length U.length e [(0,.sl L.length (aM L) .none),(2,.ptr b2 0),(4,.ptr b4 0),(5,.aP b5),(6,.aP b6),(8,.ptr b8 0),(34,.sl L.length (aM L) .none),(35,.int .i64 (L.length:Nat)),(36,.int .i64 (vi:Nat)),(128,.sl ns.length (bG ns) .none),(129,.int .i64 (ns.length:Nat)),(130,.int .i64 (vk:Nat))]->Q .normal ⟨e,J2.set b6 (.map (lK (bT (E1++⟨f0,xs,i,cap,rest⟩::E2)) (.one (.int .i64 f0)) (.bQ i2 (xs.length+1) gD))),U⟩:=by
   intro e J2 i2 gD dJ jg Nj sL jT o9 pn zR he;obtain⟨ee,rI⟩:∃ee:Ef,ee=⟨f0,xs++[(n,id)],i2,gD,dJ⟩:=⟨_,rfl⟩
   have jk:lK (bT (E1++⟨f0,xs,i,cap,rest⟩::E2)) (.one (.int .i64 f0)) (.bQ i2 (xs.length+1) gD)=bT (E1++ee::E2):=by
    have:=xm ee (by rw[rI]);rw[rI] at this ⊢;simpa using this
   have zj:dz prog 3 (bT (E1++ee::E2))=true:=by rw[<-jk];exact qx q4 y6
   rw[jk];have hS:jt (E1++ee::E2)=jt E1++(i2,.cells (bG (xs++[(n,id)])++dJ))::jt E2:=by rw[rI];simp[jt,Ef.pq]
   rw[<-hS] at jg;have zX:=jg.set (.map (bT (E1++ee::E2)));have hb:∀e∈E1++ee::E2,e.i<J2.length:=λe he=>jg.lt (b:=Ef.pq e) (by simp only[ahI,ah4];exact .inr (.inr (ahz.2 ⟨e,he,rfl⟩)));refine go _ _ (E1++ee::E2) ⟨zX.sub ((aiw _ _).append_right _),λe he=>?_,(hold ee (by rw[rI]) (by rw[rI])).nd,zj,sL.set Gi _,q6,Nj.sg (yG hb)⟩ (hold ee (by rw[rI]) (by rw[rI])) (by simp;omega) (zU he);rcases ahI.1 he with he|he
   ·exact YT e (.inl he)
   ·rcases ah4.1 he with rfl|he
    ·rw[rI];exact⟨by simp[o9],by simpa using pn,by simp;omega,zR,zS⟩
    ·exact YT e (.inr he)
  refine rk 13 [13,14] [0,0,0,0,0,0,0,0,0,0,0,0,0,0,1] [[0,1,2],[]] aO zK zK zK λK hK=>?_;simp(disch:=omega)[wK,tD,y6,q4,e6,e8,Y1,eI];refine⟨bG xs++rest,ei li,by rw[vw];omega,[.int .i64 n,.int .i64 id],1,⟨rfl,rfl⟩,zO,zO,λhle=>?_,λnc bp lY=>?_⟩
  ·rw[gV,qE];rw[show aA.cells (bG xs++([.int .i64 n,.int .i64 id]++rest.drop 2))=.cells (bG (xs++[(n,id)])++rest.drop 2) by rw[<-append_assoc,uR xs (n,id)]];have jg:Has (J1.set i (.cells (bG (xs++[(n,id)])++rest.drop 2))) (((Nr,.cells [.int .i64 f0,.int .i64 n])::R)++(b6,.map (bT (E1++⟨f0,xs,i,cap,rest⟩::E2)))::(jt E1++(i,.cells (bG (xs++[(n,id)])++rest.drop 2))::jt E2)):=by
    have:=Has.set (A:=((Nr,.cells [.int .i64 f0,.int .i64 n])::R)++(b6,.map (bT (E1++⟨f0,xs,i,cap,rest⟩::E2)))::jt E1) (B:=jt E2) (zU Nk) (.cells (bG (xs++[(n,id)])++rest.drop 2));simpa using this
   have sL:=q5.set k4 (.cells (bG (xs++[(n,id)])++rest.drop 2));have Nj:bM (J1.set i (.cells (bG (xs++[(n,id)])++rest.drop 2))) U:=by
    refine rV.set ?_;have:=rV i (.cells (bG xs++rest)) gi;simp only[aA.Bx] at this;intro v hv;rcases ahI.1 hv with hv|hv
    ·exact yl _ _ _ v hv
    ·exact this v (ajo _ (List.mem_of_mem_drop hv))
   have hl:J1.length=(J1.set i (.cells (bG (xs++[(n,id)])++rest.drop 2))).length:=zS;have zl:=λe=>fin e _ i cap (rest.drop 2) jg Nj sL zO (by rw[aii];omega) zO k4;generalize J1.set i (.cells (bG (xs++[(n,id)])++rest.drop 2))=J2 at *;have g6:=jg.get (i:=b6) (b:=.map (bT (E1++⟨f0,xs,i,cap,rest⟩::E2))) zS;have g16:=jg.get (i:=Nr) (b:=.cells [.int .i64 f0,.int .i64 n]) zS;have l6:=(aht.1 g6).1;have l16:=(aht.1 g16).1;have e6:=aZ g6;have Y1:=aZ g16;simp(disch:=omega)[q4,e6,Y1];refine hK _ (zl _ ?_);simp;omega
  ·rw[gV];obtain⟨r2,o9⟩:∃r2,r2=List.replicate ((nc-(xs.length+1))*2) AV.top:=⟨_,rfl⟩
   have NS:r2.length=(nc-(xs.length+1))*2:=by rw[o9];simp
   have Wk:aL (J1.length+1) U.length r2:=by rw[o9];simp
   rw[<-o9];rw[show aA.cells (bG xs++([.int .i64 n,.int .i64 id]++r2))=.cells (bG (xs++[(n,id)])++r2) by rw[<-append_assoc,uR xs (n,id)]];have jg:Has (J1++[.cells (bG (xs++[(n,id)])++r2)]) (((Nr,.cells [.int .i64 f0,.int .i64 n])::R)++(b6,.map (bT (E1++⟨f0,xs,i,cap,rest⟩::E2)))::(jt E1++(J1.length,.cells (bG (xs++[(n,id)])++r2))::jt E2)):=by
    have h0:Has J1 (((Nr,.cells [.int .i64 f0,.int .i64 n])::R)++(b6,.map (bT (E1++⟨f0,xs,i,cap,rest⟩::E2)))::(jt E1++jt E2)):=Nk.sub (List.Sublist.append_left (List.Sublist.cons_cons _ (List.Sublist.append_left (aiw _ _) _)) _);refine(h0.new _).perm ?_;simp only[ahM,ajI];exact((((aik _ _).symm.append_left _).cons _).append_left _).cons _
   have sL:=q5.app [aA.cells (bG (xs++[(n,id)])++r2)];have Nj:bM (J1++[.cells (bG (xs++[(n,id)])++r2)]) U:=rV.snoc (by simp[Wk]);have hl:(J1++[aA.cells (bG (xs++[(n,id)])++r2)]).length=J1.length+1:=zS;have zl:=λe=>fin e _ J1.length nc r2 jg Nj sL zO NS zO zO
   (try simp(disch:=omega)[q4,e6,Y1])
   refine hK _ ?_;rw[<-List.set_append_left _ _ l6];refine zl _ ?_;simp;omega
end Go.Proofs.YtoejlmpbebjemaaGreat
