/- segment.Documents (layer 39). The reference's words and Documents (layer 39). Documents of the reference (layer 39). Both Documents are one (layer 39).
  Conditions: as the theorems say. -/
import Derived.Test.YtoejlmpbebjemaaGreatGZa
import Derived.Test.YtoejlmpbebjemaaGreatGRA
import Derived.Test.YtoejlmpbebjemaaGreatAmC
import Derived.Test.YtoejlmpbebjemaaGreatPZ
set_option linter.all false
set_option maxRecDepth 100000
set_option maxHeartbeats 16000000
open List (getD_eq_getElem?_getD)
namespace Go.Proofs.YtoejlmpbebjemaaGreat
open Go.Proofs.Tryz(prog)
open Go Go.Am im eT
def Ue {n0 t0:Nat}{H:List az}{z:Wz}(h:z.ws≠[]->n0<=z.i/\H[z.i]?=some (.cells (dR z.ws++z.rest))):gj n0 t0 H (gv z.ws.length z.i z.cap) (.sl z.ws.length (dR z.ws) .none):=by
 by_cases hw:z.ws=[]
 ·rw[hw];exact .keep (.inr rfl) (by simp[Pm])
 ·have hl:z.ws.length≠0:=λe=>hw (ah3.1 e);rw[gv,ahq hl];obtain⟨a,b⟩:=h hw;exact .ZJ a b (fN (f:=RG) (λx v hv=>by simp at hv;rcases hv with rfl|rfl<;>first|exact .int _ _|exact .str _) _)
theorem Ud {n0 t0:Nat}{H:List az}{d:Dz}(h:d.zs≠[]->n0<=d.i/\H[d.i]?=some (.cells (ny d.zs++d.rest)))(hz:∀z∈d.zs,z.ws≠[]->n0<=z.i/\H[z.i]?=some (.cells (dR z.ws++z.rest))) :
  gj n0 t0 H (gv d.zs.length d.i d.cap) (.sl d.dc.zs.length (fu d.dc.zs) .none):=by
 have jH:d.dc.zs.length=d.zs.length:=by simp[Dz.dc]
 by_cases hw:d.zs=[]
 ·have:d.dc.zs=[]:=by simp[Dz.dc,hw]
  rw[this,hw];exact .keep (.inr rfl) (by simp[Pf])
 ·have hl:d.zs.length≠0:=λe=>hw (ah3.1 e);rw[gv,ahq hl,jH];obtain⟨a,b⟩:=h hw;have h2:fu d.dc.zs=d.zs.flatMap λz=>oR z.zn:=by simp[fu,Dz.dc,aix]
  rw[h2];refine .bG a b ?_ λj hj=>?_
  ·rw[ahk,lr,bU (f:=λz:Wz=>oR z.zn) (k:=2) (λ_=>rfl)];omega
  ·refine kj (fa:=Wz.row) (fb:=λz=>oR z.zn) (k:=2) BC (λ_=>rfl) d.zs (λz UF j hj=>?_) d.rest j hj
   match j,hj with
   |0,_=>exact .same (.int _ _)
   |1,_=>exact Ue (hz z UF)
theorem JP {H:List az}{T:au}{R:List (Nat×az)}{bo N n0:Nat}{J:List az}{U:au}{D:List Dz}(hS:DS H T R bo N J U D)(hn:∀x∈D.flatMap Dz.bx,n0<=x.1)(j:Nat)(hj:j<(aM (D.map Dz.dc)).length) :
  gj n0 T.length J ((fE D).getD j .top) ((aM (D.map Dz.dc))[j]'hj):=by
 have h2:aM (D.map Dz.dc)=D.flatMap λd=>dP d.dc:=by simp[aM,aix]
 have hm:∀d∈D,∀x∈d.bx,n0<=x.1/\J[x.1]?=some x.2:=λd hd x hx=>by
  have CA:x∈D.flatMap Dz.bx:=ah1.2 ⟨d,hd,hx⟩;exact⟨hn x CA,hS.hJ.2 x (ajp _ (aiF _ CA))⟩
 simp only[h2];rw[h2] at hj;have:=kj (n0:=n0) (t0:=T.length) (H:=J) (fa:=Dz.row) (fb:=λd=>dP d.dc) (k:=3) B9 (λ_=>rfl) D (λd hd j hj=>?_) [] j hj
 ·rw[ahH] at this;exact this
 ·match j,hj with
  |0,_=>exact .same (.int _ _)
  |1,_=>
   refine Ud (λhz=>?_) λz hz hw=>?_
   ·exact hm d hd (d.i,.cells (ny d.zs++d.rest)) (by simp[Dz.bx,gb,hz])
   ·exact hm d hd (z.i,.cells (dR z.ws++z.rest)) (by
     unfold Dz.bx;exact ajp _ (ah1.2 ⟨z,hz,by simp[Wz.bx,gb,hw]⟩))
  |2,_=>
   show gj _ _ _ (ov d.ns d.tk) (.sl d.ns.length (br d.ns) .none)
   by_cases hn:d.ns=[]
   ·rw[hn];exact .keep (.inr rfl) (by simp[Ej])
   ·rw[ov,ahq hn];exact .keep (.inr rfl) (.sl _ _ _ (x8 _ _ _) (by simp))
def O7 {H:List az}{T:au}{R:List (Nat×az)}{bo N:Nat}{J:List az}{U:au}{D:List Dz}(hS:DS H T R bo N J U D):∀x∈D.flatMap Dz.bx,H.length<=x.1:=by
 intro x hx;obtain⟨d,hd,hx⟩:=ah1.1 hx;have jK:=hS.hD d hd;unfold Dz.bx gb at hx;rcases ahw.1 hx with h|h
 ·split at h
  ·simp at h
  ·rename_i hl;rw[ah0.1 h];exact(jK.z.2 hl).2.2
 ·obtain⟨z,hz,h⟩:=ah1.1 h;unfold Wz.bx gb at h
  split at h
  ·simp at h
  ·rename_i hl;rw[ah0.1 h];exact((jK.w z hz).2 hl).2.2
def EL (D:List Dz):(aM (D.map Dz.dc)).length=(fE D).length:=by
 rw[ly,ba,ahz]
attribute [-simp] getD_eq_getElem?_getD in
def Lq (H:List az)(T:au)(b1 bo bm nd:Nat)(N:Nat)(R:List (Nat×az))(J:List az)(U:au)(D:List Dz)
  (hS:DS H T R bo N J U D) (hN:N<=1099511627776) (mU:nd=D.length) (RO:nd<=1000) (hW:∀d∈D,∀z∈d.zs,z.ws≠[]/\z.ws.Pairwise λx y=>x.2≠y.2) (wL:b1<J.length) (Nq:bm<J.length) (Q:Exit->St->Prop)
  (go:∀(e:Env)(J':List az),DS H T R bo N J' U (D.map sM)->
   bu J'.length U.length e [(1,.ptr b1 0),(3,.bG bo nd nd),(4,.aP bm)]->AW ⟨prog,192,190,H.length,T.length,[100100,100131]⟩ (dY [1,1,1,1,1,1,1,1] (Tryz.f88.body.getD .skip)) Q ⟨e,J',U⟩) :
  AW ⟨prog,192,190,H.length,T.length,[100100,100131]⟩ (dY [1,1,1,1,1,1,1] (Tryz.f88.body.getD .skip)) Q ⟨[(1,.ptr b1 0),(3,.bG bo nd nd),(4,.aP bm)],J,U⟩:=by
 conv=>arg 2;whnf
 have lo:=hS.hJ.lt (i:=bo) (b:=.cells (fE D)) (by simp);have lH:=hS.pJ.le;have lT:=hS.pU.le;refine af λK1 aO=>?_;apply ae;intro K Z;simp(disch:=omega);apply Z;apply aj;refine aI (X:=Nat×List az) (λx=>⟨[(1,.ptr b1 0),(3,.bG bo nd nd),(4,.aP bm),(173,.cK bo 0 nd),(174,.int .i64 (nd:Nat)),(175,.int .i64 (x.1:Nat))],x.2,U⟩)
  (λx=>x.1<=nd/\DS H T R bo N x.2 U ((D.take x.1).map sM++D.drop x.1)/\J.length<=x.2.length) (λx=>nd-x.1) (0,J) ?_ ?_ ?_
 ·exact⟨ahu _,by simpa using hS,ahj _⟩
 ·refine ag [] [] ?_ ?_ ?_ ?_ hS.ok ?_
  all_goals simp
  all_goals omega
 ·rintro⟨k,J2⟩ ⟨k1,k2,k3⟩;simp only at k1 k2 k3;have Ni:=k2.pJ.le;have Rf:=k2.pU.le;apply ae;intro K Z;simp(disch:=omega);apply Z;refine af λK2 bc=>?_;refine aT rfl (λgI=>?_) (λgI=>?_)
  ·simp  at gI;apply aq;simp(disch:=omega) ;apply bc;clear bc;refine af λK3 bD=>?_;apply aj;refine aH ⟨[(1,.ptr b1 0),(3,.bG bo nd nd),(4,.aP bm),(173,.cK bo 0 nd),(174,.int .i64 (nd:Nat)),(175,.int .i64 (k:Nat))],J2,U⟩ (ag [] [] (by simp) (by simp) (by show H.length<=_;omega) (by show T.length<=_;omega) k2.ok (by simp;omega)) ?_;have hkD:k<D.length:=by omega
   have hdk:D.drop k=D[k]::D.drop (k+1):=(List.getElem_cons_drop ..).symm;have iH:D.take (k+1)=D.take k++[D[k]]:=by rw[List.take_append_getElem]
   rw[hdk] at k2;have hlen:((D.take k).map sM).length=k:=by simp;omega
   refine aav H T b1 bo bm nd k N _ J2 U _ _ D[k] k2 hN hlen.symm (by rw[hlen,ah4];omega) (hW _ (ahP _)) (by omega) (by omega) _ λe J' a1 a2 a3=>?_;have Kf:=a1.pJ.le;have Ke:=a1.pU.le;refine bD _ (aH ⟨[(1,.ptr b1 0),(3,.bG bo nd nd),(4,.aP bm),(173,.cK bo 0 nd),(174,.int .i64 (nd:Nat)),(175,.int .i64 (k:Nat))],J',U⟩ (ag [] [] (by simp) (by simp) (by show H.length<=_;omega) (by show T.length<=_;omega) a1.ok a3) ?_);clear bD;refine aB λK hK=>?_;simp(disch:=omega) ;apply hK;refine⟨(k+1,J'),⟨by show k+1<=_;omega,by show DS _ _ _ _ _ _ _ ((D.take (k+1)).map sM++D.drop (k+1));rw[iH,ahx,ahA];exact a1,by show J.length<=J'.length;omega⟩,by show nd-(k+1)<nd-k;omega,?_⟩;refine ag [] [] ?_ ?_ ?_ ?_ a1.ok ?_
   all_goals simp
   all_goals omega
  ·simp  at gI;have hkk:k=nd:=by omega
   subst hkk;apply aF;simp(disch:=omega) ;rw[mU,ahE,aim,ahH] at k2;apply aO;clear aO;refine go _ J2 k2 ?_;simp;omega
def yF (id:Int):Dz:=⟨id,[],0,0,[],[],0⟩
def jI (ids:List Int)(k:Nat):List Dz:=(ids.take k).map yF++List.replicate (ids.length-k) (yF 0)
def BV (ids:List Int)(k:Nat):(jI ids k).flatMap Dz.tx=[]/\(jI ids k).flatMap Dz.bx=[]:=by
 have h:∀d∈jI ids k,Dz.tx d=[]/\Dz.bx d=[]:=by
  intro d hd;rcases ahw.1 hd with hd|hd
  ·obtain⟨i,_,rfl⟩:=ahl.1 hd;exact⟨rfl,rfl⟩
  ·obtain rfl:=List.eq_of_mem_replicate hd;exact⟨rfl,rfl⟩
 exact⟨List.flatMap_eq_nil_iff.2 λd hd=>(h d hd).1,List.flatMap_eq_nil_iff.2 λd hd=>(h d hd).2⟩
def T4 (ids:List Int)(k nb tb N:Nat):∀d∈jI ids k,KJ nb tb N d:=by
 have h:∀i,KJ nb tb N (yF i):=λi=>⟨⟨ahu _,λh=>absurd rfl h⟩,λz hz=>by simp[yF] at hz,⟨ahu _,λh=>absurd rfl h⟩⟩
 intro d hd;rcases ahw.1 hd with hd|hd
 ·obtain⟨i,_,rfl⟩:=ahl.1 hd;exact h i
 ·obtain rfl:=List.eq_of_mem_replicate hd;exact h 0
def QJ (D1 D2:List Dz)(d d':Dz)(h:d'.zs=d.zs/\d'.i=d.i/\d'.cap=d.cap/\d'.ns=d.ns/\d'.tk=d.tk):(fE (D1++d::D2)).set (D1.length*3) (.int .i64 d'.id)=fE (D1++d'::D2):=by
 have hl:=ly D1;have e:∀x:Dz,fE (D1++x::D2)=fE D1++(x.row++fE D2):=λx=>by simp[fE]
 obtain⟨h1,h2,h3,h4,h5⟩:=h;rw[e,e,aiS _ _ (by omega),hl,aiH];simp[Dz.row,h1,h2,h3,h4,h5]
def Mv {ids:List Int}{k:Nat}(hk:k<ids.length):(fE (jI ids k)).set (k*3) (.int .i64 (ids.getD k 0))=fE (jI ids (k+1)):=by
 have h1:jI ids k=(ids.take k).map yF++yF 0::List.replicate (ids.length-(k+1)) (yF 0):=by
  unfold jI;rw[show ids.length-k=ids.length-(k+1)+1 by omega,List.replicate_succ]
 have h2:jI ids (k+1)=(ids.take k).map yF++yF (ids.getD k 0)::List.replicate (ids.length-(k+1)) (yF 0):=by
  unfold jI;rw[aU ids k 0 hk,ahx,ahA];rfl
 rw[h1,h2];have:=QJ ((ids.take k).map yF) (List.replicate (ids.length-(k+1)) (yF 0)) (yF 0) (yF (ids.getD k 0)) ⟨rfl,rfl,rfl,rfl,rfl⟩;rw[ahz,ahJ,ajQ (Nat.le_of_lt hk)] at this;exact this
def Mh {ids:List Int}{k:Nat}(hn:ids.Nodup)(hk:k<ids.length):kT (gW (ids.take k)) (.one (.int .i64 (ids.getD k 0))) (.int .i64 (k:Nat))=gW (ids.take (k+1)):=by
 have kY:(cQ.one (.int .i64 (ids.getD k 0)):cQ)=kU (ids.getD k 0):=rfl;have hno:∀e∈gW (ids.take k),e.1≠kU (ids.getD k 0):=by
  intro e he h;have h1:e.1∈(gW (ids.take k)).map (·.1):=ahl.2 ⟨e,he,rfl⟩;rw[uJ] at h1;obtain⟨i,hi,e1⟩:=ahl.1 h1;have:i=ids.getD k 0:=pS.1 (e1.trans h);subst this;have h2:ids=ids.take k++(ids.getD k 0::ids.drop (k+1)):=by rw[<-dO ids k 0 hk,ahM]
  rw[h2,ah2] at hn;exact hn.2.2 _ hi _ (by simp) rfl
 rw[kY,nW hno];unfold gW;have hl:(ids.take k).length=k:=by simp;omega
 have jH:(ids.take (k+1)).length=k+1:=by simp;omega
 rw[hl,jH,ajS,ahx]
 congr 1
 ·refine ahW λj hj=>?_;rw[ahI] at hj;rw[ahg,ahg,ah9,ah9,ahs hj,ahs (by omega)]
 ·simp[ahg,ah9]
theorem QI (n:Nat):gA [.int .i64 0,.sl 0 [] .full,.sl 0 [] .full] (n*3)=fE (List.replicate n (yF 0)):=by
 induction n with
 |zero=>rfl
 |succ n ih=>
  rw[List.replicate_succ',show fE (List.replicate n (yF 0)++[yF 0])=fE (List.replicate n (yF 0))++(yF 0).row by simp[fE],<-ih];unfold gA;rw[aiA,Nat.one_mul,List.range_add,ahx]
  congr 1
  simp[yF,gv,ov,Nat.add_mod,ajS]
attribute [-simp] getD_eq_getElem?_getD in
def Mu (H:List az)(T:au)(s:Sg)(hs:s.aA.length<=1000)(mU:s.aA.Nodup)(nu:∀i∈s.aA,1<=i/\i<=1000000000)(HO:bJ (H++[.cells (dC s),.cells (fE (jI s.aA 0)),.map []]) T)(Q:Exit->St->Prop)
  (go:∀(e:Env),DS H T [(H.length,.cells (dC s)),(H.length+2,.map (gW s.aA))] (H.length+1) 0 (H++[.cells (dC s),.cells (fE (jI s.aA s.aA.length)),.map (gW s.aA)]) T (jI s.aA s.aA.length)->
   bu (H.length+3) T.length e [(1,.ptr H.length 0),(3,.bG (H.length+1) s.aA.length s.aA.length),(4,.aP (H.length+2))]->AW ⟨prog,192,190,H.length,T.length,[100100,100131]⟩ (dY [1,1,1,1,1] (Tryz.f88.body.getD .skip)) Q ⟨e,H++[.cells (dC s),.cells (fE (jI s.aA s.aA.length)),.map (gW s.aA)],T⟩) :
  AW ⟨prog,192,190,H.length,T.length,[100100,100131]⟩ (dY [1,1,1,1] (Tryz.f88.body.getD .skip)) Q ⟨[(1,.ptr H.length 0),(3,.bG (H.length+1) s.aA.length s.aA.length),(4,.aP (H.length+2))],H++[.cells (dC s),.cells (fE (jI s.aA 0)),.map []],T⟩:=by
 conv=>arg 2;whnf
 refine af λK1 aO=>?_;apply ae;intro K Z;simp(disch:=omega);apply Z;apply aj;refine aI (X:=Nat) (λk=>⟨[(1,.ptr H.length 0),(3,.bG (H.length+1) s.aA.length s.aA.length),(4,.aP (H.length+2)),(34,.sl s.aA.length (ints s.aA) .none),(35,.int .i64 (s.aA.length:Nat)),(36,.int .i64 (k:Nat))],H++[.cells (dC s),.cells (fE (jI s.aA k)),.map (gW (s.aA.take k))],T⟩)
  (λk=>k<=s.aA.length/\bJ (H++[.cells (dC s),.cells (fE (jI s.aA k)),.map (gW (s.aA.take k))]) T) (λk=>s.aA.length-k) 0 ?_ ?_ ?_
 ·exact⟨ahu _,by simpa[gW] using HO⟩
 ·refine ag [] [] ?_ ?_ ?_ ?_ (by simpa[gW] using HO) ?_
  all_goals simp[gW]
  all_goals omega
 ·rintro k ⟨k1,k2⟩;apply ae;intro K Z;simp(disch:=omega);apply Z;refine af λK2 bc=>?_;refine aT rfl (λgI=>?_) (λgI=>?_)
  ·simp  at gI;apply aq;simp(disch:=omega) ;apply bc;clear bc;refine af λK3 bD=>?_;apply aj;have gq:k<(ints s.aA).length:=by simpa using gI
   have hga:=bI (xs:=s.aA) (k:=k) gI;have eN:(fE (jI s.aA k)).length=s.aA.length*3:=by rw[ly];simp[jI];omega
   have hst:=Mv gI;have hmp:=Mh mU gI;have RR:dq prog 3 (gW (s.aA.take k))=true:=WC λi hi=>nu i (ajw hi);have UP:=KD (s.aA.getD k 0) (by have:=nu _ (aS s.aA k 0 gI);omega);rw[show kU (s.aA.getD k 0)=.one (.int .i64 (s.aA.getD k 0)) from rfl] at UP;generalize s.aA.getD k 0=id at *;refine ae λK hK=>?_;simp(disch:=omega)[hga];apply hK;refine ae λK hK=>?_;simp(disch:=omega)[eN,hst];apply hK;refine aB λK hK=>?_;simp(disch:=omega)[BP,RR,UP,hmp];apply hK;refine bD _ ?_;clear bD;refine dA λBd=>?_;simp only at Bd;refine aB λK hK=>?_;simp(disch:=omega) ;apply hK;refine⟨k+1,⟨by omega,Bd⟩,by omega,?_⟩;refine ag [] [] ?_ ?_ ?_ ?_ Bd ?_
   all_goals simp
   all_goals omega
  ·simp  at gI;have hkk:k=s.aA.length:=by omega
   subst hkk;apply aF;simp(disch:=omega) ;rw[ahE] at k2;apply aO;clear aO;refine go _ ⟨⟨?_,λp hp=>?_⟩,?_,T4 _ _ _ _ _,⟨_,rfl⟩,⟨[],by simp⟩,k2⟩ ?_
   ·rw[(BV _ _).2];simp
   ·rw[(BV _ _).2] at hp;simp at hp;rcases hp with rfl|rfl|rfl<;>simp
   ·rw[(BV _ _).1];exact⟨by simp,λp hp=>by simp at hp⟩
   ·simp
theorem Ei (id f:Int):∀ts:List Tm,(occs ts id f).map (·.2)=((qL ts).filter λk=>k.1==f&&k.2.1==id).map (·.2.2)
 |[]=>rfl
 |t::ts=>by
  have h1:occs (t::ts) id f=pw (((t.l.filter λp=>p.1==id).map λp=>(t.f,p.2.map λa=>(t.w,a)))) f++occs ts id f:=by
   unfold occs R8 pw;rw[ahy,ah8,ahZ]
  have h2:qL (t::ts)=pq t++qL ts:=by simp[qL]
  rw[h1,h2,ahx,ah8,ahx,Ei id f ts]
  congr 1
  unfold pw pq;have key:∀l:List Ps,(((((l.filter λp=>p.1==id).map λp=>(t.f,p.2.map λa=>(t.w,a)))).filter λe=>e.1==f).flatMap (·.2)).map (·.2)=((l.flatMap (fg t.f)).filter λk=>k.1==f&&k.2.1==id).map (·.2.2):=by
   intro l
   induction l with
   |nil=>rfl
   |cons p l ih=>
    rw[ahy,ah8,ahx,<-ih];have e:(fg t.f p).filter (λk=>k.1==f&&k.2.1==id)=if t.f=f/\p.1=id then fg t.f p else []:=by
     unfold fg
     by_cases h:t.f=f/\p.1=id
     ·rw[ahs h,aiT];intro k hk;obtain⟨a,_,rfl⟩:=ahl.1 hk;simpa using h
     ·rw[ahq h,aiW];intro k hk;obtain⟨a,_,rfl⟩:=ahl.1 hk;simpa using h
    rw[e]
    by_cases hp:p.1=id
    ·rw[aiw (by simp[hp]),ahX]
     by_cases hf:t.f=f
     ·rw[aiw (by simp[hf]),ahs ⟨hf,hp⟩,ahy,ahx]
      congr 1
      simp[fg]
     ·rw[aiq (by simp[hf]),ahq λh=>hf h.1];rfl
    ·rw[aiq (by simp[hp]),ahq λh=>hp h.2];rfl
  exact key t.l
def JA {ts:List Tm}(h:(qL ts).Nodup)(id f:Int):(occs ts id f).Pairwise λx y=>x.2≠y.2:=by
 rw[<-List.pairwise_map (R:=λa b:Int=>a≠b),Ei];rw[ahY];refine((h.filter _).imp_of_mem λ{a b} ha hb hab he=>hab ?_);rw[ahF] at ha hb;obtain⟨a1,a2,a3⟩:=a;obtain⟨b1,b2,b3⟩:=b;simp at ha hb he;simp[ha.2,hb.2,he]
def et (s:Sg):List Dc:=if aX s=true then jh s else []
def pZ {g:Int->List Wd}{z:Zn}(h:z∈de g):z.ws≠[]/\z.ws=g z.f/\1<=z.f/\z.f<=4:=by
 unfold de at h;obtain⟨f,hf,hz⟩:=ah1.1 h
 by_cases hg:g f=[]
 ·rw[ahs hg] at hz;cases hz
 ·rw[ahq hg] at hz;obtain rfl:=ah0.1 hz;refine⟨hg,rfl,?_⟩;simp at hf;show 1<=f/\f<=4;omega
def DQ (s:Sg)(H:List az)(T:au):AV->List az->au->Prop:=λr J U=>
 (aX s=false/\r=.sl 0 [] .full/\gM H J/\gM T U)\/
 (aX s=true/\r=.bG (H.length+1) s.aA.length s.aA.length/\∃R N D,DS H T ((H.length,.cells (dC s))::R) (H.length+1) N J U D/\D.length=s.aA.length/\D.map Dz.dc=jh s)
attribute [-simp] getD_eq_getElem?_getD in
theorem rn (s:Sg)(hs:ve s)(H:List az)(T:au):ar prog 88 [jS s] H T (DQ s H T):=by
 have cv:=λH T=>jW s hs H T;have hdl:=hs.d;refine ah 190 [100100,100131] Tryz.ntmps88 Tryz.func88 rfl (λ_ _=>Tryz.call88 _ _) (by simp) (λHO=>?_);have ff:bJ (H++[.cells (dC s)]) T:=HO.snoc (by simp);apply ae;intro K Z;simp(disch:=omega);apply Z;refine af λK1 aO=>?_
 cases hv:aX s with
 |false=>
  rw[hv] at cv;refine ae λK hK=>?_;simp(disch:=omega) ;refine ak (cv _ _) ?_;simp(disch:=omega) ;apply hK;apply aG rfl;apply ae;intro K Z;simp(disch:=omega);apply Z;apply ay;simp(disch:=omega) ;exact .inl ⟨hv,rfl,⟨_,rfl⟩,⟨[],by simp⟩⟩
 |true=>
  rw[hv] at cv;obtain⟨⟨vd,_⟩,⟨vt,vn⟩,vc⟩:=iC hv;have hbd:=IL vd;have NY:=A0 (ko vd);refine ae λK hK=>?_;simp(disch:=omega) ;refine ak (cv _ _) ?_;simp(disch:=omega) ;apply hK;apply aD rfl;apply aq;simp(disch:=omega) ;apply aO;clear aO;apply ae;intro K Z;simp(disch:=omega);apply Z;apply ae;intro K Z;simp(disch:=omega);apply Z;have tU:gA [.int .i64 0,.sl 0 [] .full,.sl 0 [] .full] (s.aA.length*3)=fE (jI s.aA 0):=by rw[QI];simp[jI]
  rw[tU];refine dA λfx=>?_;simp only at fx;refine aH ⟨[(1,.ptr H.length 0),(3,.bG (H.length+1) s.aA.length s.aA.length),(4,.aP (H.length+2))],H++[.cells (dC s),.cells (fE (jI s.aA 0)),.map []],T⟩ (ag [] [] (by simp) (by simp) (by simp) (by simp) (by simpa using fx) (by simp)) ?_;refine Mu H T s (by omega) NY hbd (by simpa using fx) _ λe hD he=>?_;have aak:(jI s.aA s.aA.length).map (·.id)=s.aA:=by
   simp[jI,Function.comp_def,yF]
  have afk:(jI s.aA s.aA.length).map Dz.dc=s.aA.map λid=>⟨id,[],[]⟩:=by
   simp[jI,Function.comp_def,yF,Dz.dc]
  have aaf:(H++[az.cells (dC s),.cells (fE (jI s.aA s.aA.length)),.map (gW s.aA)]).length=H.length+3:=by simp
  generalize H++[az.cells (dC s),.cells (fE (jI s.aA s.aA.length)),.map (gW s.aA)]=J at *;refine aH ⟨[(1,.ptr H.length 0),(3,.bG (H.length+1) s.aA.length s.aA.length),(4,.aP (H.length+2))],J,T⟩ (ag [] [] (by simp) (by simp) (by show H.length<=_;omega) (by simp) hD.ok (by rw[aaf];exact he)) ?_;refine Ch H T s H.length (H.length+1) (H.length+2) s.aA.length 0 s.aA _ J T _ hD aak rfl NY hbd hs (λt ht=>(Oj hv ht).2.2.2) (by omega) (by simp) (by omega) (by simp) _ λe1 J1 D1 a1 a2 a3 a4=>?_;have lT1:=a1.pU.le;have lH1:=a1.pJ.le;refine aH ⟨[(1,.ptr H.length 0),(3,.bG (H.length+1) s.aA.length s.aA.length),(4,.aP (H.length+2))],J1,T⟩ (ag [] [] (by simp) (by simp) (by show H.length<=_;omega) (by simp) a1.ok a4) ?_;refine FZ H T s H.length (H.length+1) (H.length+2) s.aA.length _ s.aA _ J1 T D1 a1 a2 rfl NY hbd hs (λc hc=>(aax hv hc).2) (by omega) (by simp) (by omega) (by simp) _ λe2 J2 U2 D2 b1 b2 b3 b4=>?_;have Rf:=b1.pU.le;have Ni:=b1.pJ.le;have l1:=b1.hJ.lt (i:=H.length) (b:=.cells (dC s)) (by simp);have l3:=b1.hJ.lt (i:=H.length+2) (b:=.map (gW s.aA)) (by simp);refine aH ⟨[(1,.ptr H.length 0),(3,.bG (H.length+1) s.aA.length s.aA.length),(4,.aP (H.length+2))],J2,U2⟩ (ag [] [] (by simp) (by simp) (by show H.length<=_;omega) (by show T.length<=_;omega) b1.ok b4) ?_;rw[a3,afk] at b3;rw[Vm,Vp,ain,ain] at b3;simp only[Function.comp_def,aiQ] at b3;have zz:s.aA.length=D2.length:=by rw[<-b2,ahz]
  have Wx:∀d∈D2,d.dc=⟨d.id,de (occs s.bK d.id),Ng s.aN d.id⟩:=by
   intro d hd;have h1:d.dc∈D2.map Dz.dc:=ahl.2 ⟨d,hd,rfl⟩;rw[b3] at h1;obtain⟨i,_,h2⟩:=ahl.1 h1;rw[MF hv] at h2;have:i=d.id:=congrArg Dc.id h2;rw[<-h2,this]
  refine Lq H T H.length (H.length+1) (H.length+2) s.aA.length _ _ J2 U2 D2 b1 (by omega) zz (by omega) (λd hd z hz=>?_) l1 l3 _ λe3 J3 c1 c2=>?_
  ·have h1:z.zn∈d.dc.zs:=ahl.2 ⟨z,hz,rfl⟩;rw[Wx d hd] at h1;obtain⟨h2,h3,_⟩:=pZ h1;refine⟨h2,?_⟩;show z.zn.ws.Pairwise _;rw[h3];exact JA vn _ _
  conv=>arg 2;whnf
  have Ke:=c1.pU.le;have Kf:=c1.pJ.le;refine aH ⟨[(1,.ptr H.length 0),(3,.bG (H.length+1) s.aA.length s.aA.length),(4,.aP (H.length+2))],J3,U2⟩ (ag [] [] (by simp) (by simp) (by show H.length<=_;omega) (by show T.length<=_;omega) c1.ok c2) ?_;apply ae;intro K Z;simp(disch:=omega);apply Z;apply ay;simp(disch:=omega) ;have yW:(D2.map sM).map Dz.dc=jh s:=by
   unfold jh;rw[ain,<-b2,ain];refine ahW λd hd=>?_;simp only[Function.comp];have h1:(sM d).dc=⟨d.id,d.dc.zs.map V4,d.ns⟩:=by simp[sM,Dz.dc,ain,Function.comp_def,kb,Wz.zn,V4]
   rw[h1,Wx d hd,Fi];have h2:d.ns=Ng s.aN d.id:=congrArg Dc.ns (Wx d hd);rw[h2]
  have CT:(D2.map sM).length=s.aA.length:=by rw[ahz,<-zz]
  exact .inr ⟨hv,rfl,_,_,_,c1,CT,yW⟩
def kG (s:Sg)(hs:ve s)(H:List az)(T:au):ar prog 88 [jS s] H T (Is (.sl (et s).length (aM (et s)) .full) H T):=by
 refine ar.pn ?_;refine(rn s hs H T).mono λr J U h=>?_;rcases h with⟨hv,rfl,hJ,hU⟩|⟨hv,rfl,R,N,D,hS,hl,hd⟩
 ·have hP:et s=[]:=by unfold et;rw[hv];rfl
  rw[hP];exact⟨hJ,hU,.keep (.inl rfl) (by simp[tH])⟩
 ·have hP:et s=D.map Dz.dc:=by unfold et;rw[hv,hd];rfl
  have Nv:=hS.hJ.get (i:=H.length+1) (b:=.cells (fE D)) (by simp);rw[hP,ahz,hl];refine⟨hS.pJ,hS.pU,.ZI (by omega) Nv (by rw[EL];exact ahj _) λj hj=>JP hS (O7 hS) j hj⟩
def rq (s:Sg)(hs:ve s)(H:List az)(T:au):ar prog 88 [jS s] H T (Is (.sl (et s).length (aM (et s)) .none) H T):=
 ar.bV ((kG s hs H T).mono λr J U ⟨h1,h2,h3⟩=>⟨⟨[],by simp[h2]⟩,⟨[],by simp[h3]⟩,.inr (by rw[h1];rfl)⟩) (.sl _ _ _ (ya _ _ _) (by simp))
theorem Lp {H J:List az}{a b:az}(hp:gM H J)(h0:J[H.length]?=some a)(h1:J[H.length+1]?=some b):∃G,J=(H++[a])++b::G:=by
 obtain⟨X,rfl⟩:=hp;rw[ahC (ahj _),aiH] at h0;rw[ahC (by omega),show H.length+1-H.length=1 by omega] at h1
 match X,h0,h1 with
 |x::y::G,h0,h1=>
  simp at h0 h1;subst h0;subst h1;exact⟨G,by simp⟩
def yD (s:Sg)(hs:ve s)(hv:aX s=true)(H:List az)(T:au) :
  ar prog 88 [jS s] H T (Is (.bG (H.length+1) s.aA.length s.aA.length) (H++[.cells (dC s),.cells (aM (jh s))]) T):=by
 have key:=ar.Oz (P:=prog) (f:=88) (args:=[jS s]) (H:=H) (T:=T) (n:=s.aA.length) (cap:=s.aA.length) (vs':=aM (jh s)) (H++[.cells (dC s)]) (by simp) (λHO=>HO.snoc (by simp)) ?_
 ·simpa using key
 refine(rn s hs H T).mono λr J U h=>?_;rcases h with⟨I1,_⟩|⟨_,rfl,R,N,D,hS,hl,hd⟩
 ·rw[hv] at I1;cases I1
 ·have h0:=hS.hJ.get (i:=H.length) (b:=.cells (dC s)) (by simp);have h1:=hS.hJ.get (i:=H.length+1) (b:=.cells (fE D)) (by simp);obtain⟨G,hG⟩:=Lp hS.pJ h0 h1;rw[<-hd];refine⟨fE D,G,hG,hS.pU,EL D,λj hj=>?_,by simp⟩;refine JP hS (λx hx=>?_) j hj;have hb:=O7 hS x hx;have mU:=hS.hJ.1;simp only[ajv,ahX,ahx,ajz,ah2] at mU;have n1:x.1≠H.length:=λe=>mU.1 (by
   rw[<-e];simp only[ahw,ahL];exact .inr (.inr (ahl.2 ⟨x,hx,rfl⟩)))
  have n2:x.1≠H.length+1:=λe=>mU.2.2.1.1 (by rw[<-e];exact ahl.2 ⟨x,hx,rfl⟩);simp only[ahk,ahS,aiB];omega
def yC (s:Sg)(hs:ve s)(hv:aX s=false)(H:List az)(T:au):ar prog 88 [jS s] H T (Is (.sl 0 [] .full) H T):=by
 have h:=kG s hs H T;have hP:et s=[]:=by unfold et;rw[hv];rfl
 rw[hP] at h;exact h
end Go.Proofs.YtoejlmpbebjemaaGreat
namespace eT
open im
def rV (l:List Wd):(jA l).Perm l/\(jA l).Pairwise λx y=>x.2<=y.2:=by
 refine⟨ajl _ _,?_⟩;have:=ajc (le:=λx y:Wd=>!(decide (y.2<x.2))) (λa b c h1 h2=>by simp at *;omega) (λa b=>by simp;omega) l;exact this.imp λh=>by simpa using h
end eT
namespace Go.Proofs.YtoejlmpbebjemaaGreat
open Go Go.Am im cL eT
def VG (d f:Int)(t:Tm):List Wd:=if t.f=f then (posOf t.l d).map λa=>(t.w,a) else []
def zT (g:Int->List Wd)(k:Nat):List Zn:=(List.range k).flatMap λj=>if g (1+(j:Nat))=[] then [] else [⟨1+(j:Nat),g (1+(j:Nat))⟩]
def SN (g:Int->List Wd):zT g 4=de g:=by
 simp[zT,de,ajS]
def SM (g:Int->List Wd)(k:Nat):zT g (k+1)=zT g k++if g (1+(k:Nat))=[] then [] else [⟨1+(k:Nat),g (1+(k:Nat))⟩]:=by
 simp[zT,ajS]
theorem WJ (g:Int->List Wd)(k:Nat):(zT g k).length<=k:=by
 induction k with
 |zero=>simp[zT]
 |succ k ih=>rw[SM,ahk];split<;>simp<;>omega
def Qf (a b:List (Int×List Wd))(f:Int):pw (a++b) f=pw a f++pw b f:=by
 unfold pw;rw[ah8,ahZ]
theorem Aj:∀{l:List Ps},lq l->∀d:Int,posOf l d=(l.filter λp=>p.1==d).flatMap (·.2)
 |[],_,d=>rfl
 |p::l,h,d=>by
  have hp:=jm h
  by_cases e:p.1=d
  ·subst e;have h0:l.filter (λq=>q.1==p.1)=[]:=by
    rw[aiW];intro q hq;have:=hp.2 q hq;simp;omega
   rw[dK,aiw (by simp),h0];simp
  ·rw[cV e,aiq (by simpa using e)];exact Aj hp.1 d
theorem tB:∀{ts:List Tm},(∀t∈ts,lq t.l)->∀id f:Int,occs ts id f=ts.flatMap (VG id f)
 |[],_,_,_=>rfl
 |t::ts,h,id,f=>by
  have h1:occs (t::ts) id f=pw ((t.l.filter λp=>p.1==id).map λp=>(t.f,p.2.map λa=>(t.w,a))) f++occs ts id f:=by
   unfold occs R8;rw[ahy,Qf]
  rw[h1,ahy,tB (λt ht=>h t (by simp[ht]))]
  congr 1
  unfold VG pw;rw[Aj (h t (by simp))]
  by_cases e:t.f=f
  ·rw[ahs e,aiT.2 (λx hx=>by obtain⟨p,_,rfl⟩:=ahl.1 hx;simpa using e),aix,List.map_flatMap]
  ·rw[ahq e,aiW.2 (λx hx=>by obtain⟨p,_,rfl⟩:=ahl.1 hx;simpa using e)];rfl
end Go.Proofs.YtoejlmpbebjemaaGreat
