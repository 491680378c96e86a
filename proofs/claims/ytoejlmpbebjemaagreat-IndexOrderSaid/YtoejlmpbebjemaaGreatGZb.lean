/- segment.Documents (layer 39). The reference's words and Documents (layer 39). Documents of the reference (layer 39). Both Documents are one (layer 39).
  Conditions: as the theorems say. -/
import Derived.Test.YtoejlmpbebjemaaGreatGZa
import Derived.Test.YtoejlmpbebjemaaGreatGRA
import Derived.Test.YtoejlmpbebjemaaGreatAmC
import Derived.Test.YtoejlmpbebjemaaGreatPZ
set_option linter.all false
set_option maxRecDepth 100000
set_option maxHeartbeats 16000000
open List (getD_eq_getElem?_getD)
namespace Go.Proofs.YtoejlmpbebjemaaGreat
open Go.Proofs.Tryz(prog)
open Go Go.Am ia eN
def S7 {n0 t0:Nat}{H:List aA}{z:Wz}(h:z.ws≠[]->n0<=z.i/\H[z.i]?=some (.cells (dQ z.ws++z.rest))):fU n0 t0 H (gv z.ws.length z.i z.cap) (.sl z.ws.length (dQ z.ws) .none):=by
 by_cases hw:z.ws=[]
 ·rw[hw];exact .keep (.inr rfl) (by simp[Ov])
 ·have hl:z.ws.length≠0:=λe=>hw (aho.1 e);rw[gv,agL hl];obtain⟨a,b⟩:=h hw;exact .YZ a b (fG (f:=QM) (λx v hv=>by simp at hv;rcases hv with rfl|rfl<;>first|exact .int _ _|exact .str _) _)
theorem S6 {n0 t0:Nat}{H:List aA}{d:Dz}(h:d.zs≠[]->n0<=d.i/\H[d.i]?=some (.cells (nr d.zs++d.rest)))(hz:∀z∈d.zs,z.ws≠[]->n0<=z.i/\H[z.i]?=some (.cells (dQ z.ws++z.rest))) :
  fU n0 t0 H (gv d.zs.length d.i d.cap) (.sl d.dc.zs.length (fg d.dc.zs) .none):=by
 have jy:d.dc.zs.length=d.zs.length:=by simp[Dz.dc]
 by_cases hw:d.zs=[]
 ·have:d.dc.zs=[]:=by simp[Dz.dc,hw]
  rw[this,hw];exact .keep (.inr rfl) (by simp[On])
 ·have hl:d.zs.length≠0:=λe=>hw (aho.1 e);rw[gv,agL hl,jy];obtain⟨a,b⟩:=h hw;have h2:fg d.dc.zs=d.zs.flatMap λz=>oN z.zn:=by simp[fg,Dz.dc,ahR]
  rw[h2];refine .bJ a b ?_ λj hj=>?_
  ·rw[agF,kZ,bY (f:=λz:Wz=>oN z.zn) (k:=2) (λ_=>rfl)];omega
  ·refine kb (fa:=Wz.row) (fb:=λz=>oN z.zn) (k:=2) Bk (λ_=>rfl) d.zs (λz TE j hj=>?_) d.rest j hj
   match j,hj with
   |0,_=>exact .same (.int _ _)
   |1,_=>exact S7 (hz z TE)
theorem I3 {H:List aA}{T:au}{R:List (Nat×aA)}{bo N n0:Nat}{J:List aA}{U:au}{D:List Dz}(hS:DS H T R bo N J U D)(hn:∀x∈D.flatMap Dz.bx,n0<=x.1)(j:Nat)(hj:j<(aN (D.map Dz.dc)).length) :
  fU n0 T.length J ((fo D).getD j .top) ((aN (D.map Dz.dc))[j]'hj):=by
 have h2:aN (D.map Dz.dc)=D.flatMap λd=>dO d.dc:=by simp[aN,ahR]
 have hm:∀d∈D,∀x∈d.bx,n0<=x.1/\J[x.1]?=some x.2:=λd hd x hx=>by
  have Cc:x∈D.flatMap Dz.bx:=ahm.2 ⟨d,hd,hx⟩;exact⟨hn x Cc,hS.hJ.2 x (aiN _ (ahZ _ Cc))⟩
 simp only[h2];rw[h2] at hj;have:=kb (n0:=n0) (t0:=T.length) (H:=J) (fa:=Dz.row) (fb:=λd=>dO d.dc) (k:=3) BH (λ_=>rfl) D (λd hd j hj=>?_) [] j hj
 ·rw[ag2] at this;exact this
 ·match j,hj with
  |0,_=>exact .same (.int _ _)
  |1,_=>
   refine S6 (λhz=>?_) λz hz hw=>?_
   ·exact hm d hd (d.i,.cells (nr d.zs++d.rest)) (by simp[Dz.bx,gb,hz])
   ·exact hm d hd (z.i,.cells (dQ z.ws++z.rest)) (by
     unfold Dz.bx;exact aiN _ (ahm.2 ⟨z,hz,by simp[Wz.bx,gb,hw]⟩))
  |2,_=>
   show fU _ _ _ (ov d.ns d.tk) (.sl d.ns.length (bA d.ns) .none)
   by_cases hn:d.ns=[]
   ·rw[hn];exact .keep (.inr rfl) (by simp[DN])
   ·rw[ov,agL hn];exact .keep (.inr rfl) (.sl _ _ _ (xP _ _ _) (by simp))
def Oe {H:List aA}{T:au}{R:List (Nat×aA)}{bo N:Nat}{J:List aA}{U:au}{D:List Dz}(hS:DS H T R bo N J U D):∀x∈D.flatMap Dz.bx,H.length<=x.1:=by
 intro x hx;obtain⟨d,hd,hx⟩:=ahm.1 hx;have jC:=hS.hD d hd;unfold Dz.bx gb at hx;rcases agR.1 hx with h|h
 ·split at h
  ·simp at h
  ·rename_i hl;rw[ahl.1 h];exact(jC.z.2 hl).2.2
 ·obtain⟨z,hz,h⟩:=ahm.1 h;unfold Wz.bx gb at h
  split at h
  ·simp at h
  ·rename_i hl;rw[ahl.1 h];exact((jC.w z hz).2 hl).2.2
def Eh (D:List Dz):(aN (D.map Dz.dc)).length=(fo D).length:=by
 rw[lj,bf,agU]
attribute [-simp] getD_eq_getElem?_getD in
def Kw (H:List aA)(T:au)(b1 bo bm nd:Nat)(N:Nat)(R:List (Nat×aA))(J:List aA)(U:au)(D:List Dz)
  (hS:DS H T R bo N J U D) (hN:N<=1099511627776) (mM:nd=D.length) (QU:nd<=1000) (hW:∀d∈D,∀z∈d.zs,z.ws≠[]/\z.ws.Pairwise λx y=>x.2≠y.2) (wA:b1<J.length) (My:bm<J.length) (Q:Exit->St->Prop)
  (go:∀(e:Env)(J':List aA),DS H T R bo N J' U (D.map sB)->
   bC J'.length U.length e [(1,.ptr b1 0),(3,.bJ bo nd nd),(4,.aQ bm)]->AW ⟨prog,192,190,H.length,T.length,[100100,100131]⟩ (dX [1,1,1,1,1,1,1,1] (Tryz.f88.body.getD .skip)) Q ⟨e,J',U⟩) :
  AW ⟨prog,192,190,H.length,T.length,[100100,100131]⟩ (dX [1,1,1,1,1,1,1] (Tryz.f88.body.getD .skip)) Q ⟨[(1,.ptr b1 0),(3,.bJ bo nd nd),(4,.aQ bm)],J,U⟩:=by
 conv=>arg 2;whnf
 have lo:=hS.hJ.lt (i:=bo) (b:=.cells (fo D)) (by simp);have lH:=hS.pJ.le;have lT:=hS.pU.le;refine af λK1 aP=>?_;apply ae;intro K Z;simp(disch:=omega);apply Z;apply aj;refine aJ (X:=Nat×List aA) (λx=>⟨[(1,.ptr b1 0),(3,.bJ bo nd nd),(4,.aQ bm),(173,.cN bo 0 nd),(174,.int .i64 (nd:Nat)),(175,.int .i64 (x.1:Nat))],x.2,U⟩)
  (λx=>x.1<=nd/\DS H T R bo N x.2 U ((D.take x.1).map sB++D.drop x.1)/\J.length<=x.2.length) (λx=>nd-x.1) (0,J) ?_ ?_ ?_
 ·exact⟨agP _,by simpa using hS,agE _⟩
 ·refine ag [] [] ?_ ?_ ?_ ?_ hS.ok ?_
  all_goals simp
  all_goals omega
 ·rintro⟨k,J2⟩ ⟨k1,k2,k3⟩;simp only at k1 k2 k3;have Mr:=k2.pJ.le;have Qm:=k2.pU.le;apply ae;intro K Z;simp(disch:=omega);apply Z;refine af λK2 bp=>?_;refine aU rfl (λgB=>?_) (λgB=>?_)
  ·simp  at gB;apply aq;simp(disch:=omega) ;apply bp;clear bp;refine af λK3 bG=>?_;apply aj;refine aI ⟨[(1,.ptr b1 0),(3,.bJ bo nd nd),(4,.aQ bm),(173,.cN bo 0 nd),(174,.int .i64 (nd:Nat)),(175,.int .i64 (k:Nat))],J2,U⟩ (ag [] [] (by simp) (by simp) (by show H.length<=_;omega) (by show T.length<=_;omega) k2.ok (by simp;omega)) ?_;have hkD:k<D.length:=by omega
   have QA:D.drop k=D[k]::D.drop (k+1):=(List.getElem_cons_drop ..).symm;have iz:D.take (k+1)=D.take k++[D[k]]:=by rw[List.take_append_getElem]
   rw[QA] at k2;have hlen:((D.take k).map sB).length=k:=by simp;omega
   refine ZK H T b1 bo bm nd k N _ J2 U _ _ D[k] k2 hN hlen.symm (by rw[hlen,ahp];omega) (hW _ (ahb _)) (by omega) (by omega) _ λe J' a1 a2 a3=>?_;have Jm:=a1.pJ.le;have Jl:=a1.pU.le;refine bG _ (aI ⟨[(1,.ptr b1 0),(3,.bJ bo nd nd),(4,.aQ bm),(173,.cN bo 0 nd),(174,.int .i64 (nd:Nat)),(175,.int .i64 (k:Nat))],J',U⟩ (ag [] [] (by simp) (by simp) (by show H.length<=_;omega) (by show T.length<=_;omega) a1.ok a3) ?_);clear bG;refine aC λK hK=>?_;simp(disch:=omega) ;apply hK;refine⟨(k+1,J'),⟨by show k+1<=_;omega,by show DS _ _ _ _ _ _ _ ((D.take (k+1)).map sB++D.drop (k+1));rw[iz,agS,agV];exact a1,by show J.length<=J'.length;omega⟩,by show nd-(k+1)<nd-k;omega,?_⟩;refine ag [] [] ?_ ?_ ?_ ?_ a1.ok ?_
   all_goals simp
   all_goals omega
  ·simp  at gB;have qa:k=nd:=by omega
   subst qa;apply aG;simp(disch:=omega) ;rw[mM,agZ,ahH,ag2] at k2;apply aP;clear aP;refine go _ J2 k2 ?_;simp;omega
def ym (id:Int):Dz:=⟨id,[],0,0,[],[],0⟩
def jA (ids:List Int)(k:Nat):List Dz:=(ids.take k).map ym++List.replicate (ids.length-k) (ym 0)
def BA (ids:List Int)(k:Nat):(jA ids k).flatMap Dz.tx=[]/\(jA ids k).flatMap Dz.bx=[]:=by
 have h:∀d∈jA ids k,Dz.tx d=[]/\Dz.bx d=[]:=by
  intro d hd;rcases agR.1 hd with hd|hd
  ·obtain⟨i,_,rfl⟩:=agG.1 hd;exact⟨rfl,rfl⟩
  ·obtain rfl:=List.eq_of_mem_replicate hd;exact⟨rfl,rfl⟩
 exact⟨List.flatMap_eq_nil_iff.2 λd hd=>(h d hd).1,List.flatMap_eq_nil_iff.2 λd hd=>(h d hd).2⟩
def SV (ids:List Int)(k nb tb N:Nat):∀d∈jA ids k,JQ nb tb N d:=by
 have h:∀i,JQ nb tb N (ym i):=λi=>⟨⟨agP _,λh=>absurd rfl h⟩,λz hz=>by simp[ym] at hz,⟨agP _,λh=>absurd rfl h⟩⟩
 intro d hd;rcases agR.1 hd with hd|hd
 ·obtain⟨i,_,rfl⟩:=agG.1 hd;exact h i
 ·obtain rfl:=List.eq_of_mem_replicate hd;exact h 0
def PS (D1 D2:List Dz)(d d':Dz)(h:d'.zs=d.zs/\d'.i=d.i/\d'.cap=d.cap/\d'.ns=d.ns/\d'.tk=d.tk):(fo (D1++d::D2)).set (D1.length*3) (.int .i64 d'.id)=fo (D1++d'::D2):=by
 have hl:=lj D1;have e:∀x:Dz,fo (D1++x::D2)=fo D1++(x.row++fo D2):=λx=>by simp[fo]
 obtain⟨h1,h2,h3,h4,h5⟩:=h;rw[e,e,aib _ _ (by omega),hl,ah1];simp[Dz.row,h1,h2,h3,h4,h5]
def LH {ids:List Int}{k:Nat}(hk:k<ids.length):(fo (jA ids k)).set (k*3) (.int .i64 (ids.getD k 0))=fo (jA ids (k+1)):=by
 have h1:jA ids k=(ids.take k).map ym++ym 0::List.replicate (ids.length-(k+1)) (ym 0):=by
  unfold jA;rw[show ids.length-k=ids.length-(k+1)+1 by omega,List.replicate_succ]
 have h2:jA ids (k+1)=(ids.take k).map ym++ym (ids.getD k 0)::List.replicate (ids.length-(k+1)) (ym 0):=by
  unfold jA;rw[aV ids k 0 hk,agS,agV];rfl
 rw[h1,h2];have:=PS ((ids.take k).map ym) (List.replicate (ids.length-(k+1)) (ym 0)) (ym 0) (ym (ids.getD k 0)) ⟨rfl,rfl,rfl,rfl,rfl⟩;rw[agU,ag5,aje (Nat.le_of_lt hk)] at this;exact this
def Lr {ids:List Int}{k:Nat}(hn:ids.Nodup)(hk:k<ids.length):kO (gP (ids.take k)) (.one (.int .i64 (ids.getD k 0))) (.int .i64 (k:Nat))=gP (ids.take (k+1)):=by
 have kT:(cS.one (.int .i64 (ids.getD k 0)):cS)=kP (ids.getD k 0):=rfl;have oh:∀e∈gP (ids.take k),e.1≠kP (ids.getD k 0):=by
  intro e he h;have h1:e.1∈(gP (ids.take k)).map (·.1):=agG.2 ⟨e,he,rfl⟩;rw[uy] at h1;obtain⟨i,hi,e1⟩:=agG.1 h1;have:i=ids.getD k 0:=pM.1 (e1.trans h);subst this;have h2:ids=ids.take k++(ids.getD k 0::ids.drop (k+1)):=by rw[<-dM ids k 0 hk,ag7]
  rw[h2,ahn] at hn;exact hn.2.2 _ hi _ (by simp) rfl
 rw[kT,nT oh];unfold gP;have hl:(ids.take k).length=k:=by simp;omega
 have jy:(ids.take (k+1)).length=k+1:=by simp;omega
 rw[hl,jy,ajb,agS]
 congr 1
 ·refine ahh λj hj=>?_;rw[ag3] at hj;rw[agB,agB,ahu,ahu,agN hj,agN (by omega)]
 ·simp[agB,ahu]
theorem PR (n:Nat):gh [.int .i64 0,.sl 0 [] .full,.sl 0 [] .full] (n*3)=fo (List.replicate n (ym 0)):=by
 induction n with
 |zero=>rfl
 |succ n ih=>
  rw[List.replicate_succ',show fo (List.replicate n (ym 0)++[ym 0])=fo (List.replicate n (ym 0))++(ym 0).row by simp[fo],<-ih];unfold gh;rw[ahU,Nat.one_mul,List.range_add,agS]
  congr 1
  simp[ym,gv,ov,Nat.add_mod,ajb]
attribute [-simp] getD_eq_getElem?_getD in
def LG (H:List aA)(T:au)(s:Sg)(hs:s.aB.length<=1000)(mM:s.aB.Nodup)(np:∀i∈s.aB,1<=i/\i<=1000000000)(HO:bN (H++[.cells (dA s),.cells (fo (jA s.aB 0)),.map []]) T)(Q:Exit->St->Prop)
  (go:∀(e:Env),DS H T [(H.length,.cells (dA s)),(H.length+2,.map (gP s.aB))] (H.length+1) 0 (H++[.cells (dA s),.cells (fo (jA s.aB s.aB.length)),.map (gP s.aB)]) T (jA s.aB s.aB.length)->
   bC (H.length+3) T.length e [(1,.ptr H.length 0),(3,.bJ (H.length+1) s.aB.length s.aB.length),(4,.aQ (H.length+2))]->AW ⟨prog,192,190,H.length,T.length,[100100,100131]⟩ (dX [1,1,1,1,1] (Tryz.f88.body.getD .skip)) Q ⟨e,H++[.cells (dA s),.cells (fo (jA s.aB s.aB.length)),.map (gP s.aB)],T⟩) :
  AW ⟨prog,192,190,H.length,T.length,[100100,100131]⟩ (dX [1,1,1,1] (Tryz.f88.body.getD .skip)) Q ⟨[(1,.ptr H.length 0),(3,.bJ (H.length+1) s.aB.length s.aB.length),(4,.aQ (H.length+2))],H++[.cells (dA s),.cells (fo (jA s.aB 0)),.map []],T⟩:=by
 conv=>arg 2;whnf
 refine af λK1 aP=>?_;apply ae;intro K Z;simp(disch:=omega);apply Z;apply aj;refine aJ (X:=Nat) (λk=>⟨[(1,.ptr H.length 0),(3,.bJ (H.length+1) s.aB.length s.aB.length),(4,.aQ (H.length+2)),(34,.sl s.aB.length (ints s.aB) .none),(35,.int .i64 (s.aB.length:Nat)),(36,.int .i64 (k:Nat))],H++[.cells (dA s),.cells (fo (jA s.aB k)),.map (gP (s.aB.take k))],T⟩)
  (λk=>k<=s.aB.length/\bN (H++[.cells (dA s),.cells (fo (jA s.aB k)),.map (gP (s.aB.take k))]) T) (λk=>s.aB.length-k) 0 ?_ ?_ ?_
 ·exact⟨agP _,by simpa[gP] using HO⟩
 ·refine ag [] [] ?_ ?_ ?_ ?_ (by simpa[gP] using HO) ?_
  all_goals simp[gP]
  all_goals omega
 ·rintro k ⟨k1,k2⟩;apply ae;intro K Z;simp(disch:=omega);apply Z;refine af λK2 bp=>?_;refine aU rfl (λgB=>?_) (λgB=>?_)
  ·simp  at gB;apply aq;simp(disch:=omega) ;apply bp;clear bp;refine af λK3 bG=>?_;apply aj;have fX:k<(ints s.aB).length:=by simpa using gB
   have hga:=bM (xs:=s.aB) (k:=k) gB;have eH:(fo (jA s.aB k)).length=s.aB.length*3:=by rw[lj];simp[jA];omega
   have gA:=LH gB;have hmp:=Lr mM gB;have QX:dn prog 3 (gP (s.aB.take k))=true:=VK λi hi=>np i (aiR hi);have TS:=JL (s.aB.getD k 0) (by have:=np _ (aT s.aB k 0 gB);omega);rw[show kP (s.aB.getD k 0)=.one (.int .i64 (s.aB.getD k 0)) from rfl] at TS;generalize s.aB.getD k 0=id at *;refine ae λK hK=>?_;simp(disch:=omega)[hga];apply hK;refine ae λK hK=>?_;simp(disch:=omega)[eH,gA];apply hK;refine aC λK hK=>?_;simp(disch:=omega)[Bv,QX,TS,hmp];apply hK;refine bG _ ?_;clear bG;refine dy λAX=>?_;simp only at AX;refine aC λK hK=>?_;simp(disch:=omega) ;apply hK;refine⟨k+1,⟨by omega,AX⟩,by omega,?_⟩;refine ag [] [] ?_ ?_ ?_ ?_ AX ?_
   all_goals simp
   all_goals omega
  ·simp  at gB;have qa:k=s.aB.length:=by omega
   subst qa;apply aG;simp(disch:=omega) ;rw[agZ] at k2;apply aP;clear aP;refine go _ ⟨⟨?_,λp hp=>?_⟩,?_,SV _ _ _ _ _,⟨_,rfl⟩,⟨[],by simp⟩,k2⟩ ?_
   ·rw[(BA _ _).2];simp
   ·rw[(BA _ _).2] at hp;simp at hp;rcases hp with rfl|rfl|rfl<;>simp
   ·rw[(BA _ _).1];exact⟨by simp,λp hp=>by simp at hp⟩
   ·simp
theorem DM (id f:Int):∀ts:List Tm,(occs ts id f).map (·.2)=((qH ts).filter λk=>k.1==f&&k.2.1==id).map (·.2.2)
 |[]=>rfl
 |t::ts=>by
  have h1:occs (t::ts) id f=pk (((t.l.filter λp=>p.1==id).map λp=>(t.f,p.2.map λa=>(t.w,a)))) f++occs ts id f:=by
   unfold occs Re pk;rw[agT,aht,ahk]
  have h2:qH (t::ts)=ph t++qH ts:=by simp[qH]
  rw[h1,h2,agS,aht,agS,DM id f ts]
  congr 1
  unfold pk ph;have key:∀l:List Ps,(((((l.filter λp=>p.1==id).map λp=>(t.f,p.2.map λa=>(t.w,a)))).filter λe=>e.1==f).flatMap (·.2)).map (·.2)=((l.flatMap (eW t.f)).filter λk=>k.1==f&&k.2.1==id).map (·.2.2):=by
   intro l
   induction l with
   |nil=>rfl
   |cons p l ih=>
    rw[agT,aht,agS,<-ih];have e:(eW t.f p).filter (λk=>k.1==f&&k.2.1==id)=if t.f=f/\p.1=id then eW t.f p else []:=by
     unfold eW
     by_cases h:t.f=f/\p.1=id
     ·rw[agN h,aid];intro k hk;obtain⟨a,_,rfl⟩:=agG.1 hk;simpa using h
     ·rw[agL h,aif];intro k hk;obtain⟨a,_,rfl⟩:=agG.1 hk;simpa using h
    rw[e]
    by_cases hp:p.1=id
    ·rw[ahQ (by simp[hp]),ahi]
     by_cases hf:t.f=f
     ·rw[ahQ (by simp[hf]),agN ⟨hf,hp⟩,agT,agS]
      congr 1
      simp[eW]
     ·rw[ahK (by simp[hf]),agL λh=>hf h.1];rfl
    ·rw[ahK (by simp[hp]),agL λh=>hp h.2];rfl
  exact key t.l
def IL {ts:List Tm}(h:(qH ts).Nodup)(id f:Int):(occs ts id f).Pairwise λx y=>x.2≠y.2:=by
 rw[<-List.pairwise_map (R:=λa b:Int=>a≠b),DM];rw[ahj];refine((h.filter _).imp_of_mem λ{a b} ha hb jK he=>jK ?_);rw[ag0] at ha hb;obtain⟨a1,a2,a3⟩:=a;obtain⟨b1,b2,b3⟩:=b;simp at ha hb he;simp[ha.2,hb.2,he]
def eh (s:Sg):List Dc:=if aY s=true then ja s else []
def pS {g:Int->List Wd}{z:Zn}(h:z∈de g):z.ws≠[]/\z.ws=g z.f/\1<=z.f/\z.f<=4:=by
 unfold de at h;obtain⟨f,hf,hz⟩:=ahm.1 h
 by_cases hg:g f=[]
 ·rw[agN hg] at hz;cases hz
 ·rw[agL hg] at hz;obtain rfl:=ahl.1 hz;refine⟨hg,rfl,?_⟩;simp at hf;show 1<=f/\f<=4;omega
def DQ (s:Sg)(H:List aA)(T:au):AV->List aA->au->Prop:=λr J U=>
 (aY s=false/\r=.sl 0 [] .full/\gG H J/\gG T U)\/
 (aY s=true/\r=.bJ (H.length+1) s.aB.length s.aB.length/\∃R N D,DS H T ((H.length,.cells (dA s))::R) (H.length+1) N J U D/\D.length=s.aB.length/\D.map Dz.dc=ja s)
attribute [-simp] getD_eq_getElem?_getD in
theorem rf (s:Sg)(hs:uX s)(H:List aA)(T:au):ar prog 88 [jM s] H T (DQ s H T):=by
 have cv:=λH T=>jQ s hs H T;have mN:=hs.d;refine ah 190 [100100,100131] Tryz.ntmps88 Tryz.func88 rfl (λ_ _=>Tryz.call88 _ _) (by simp) (λHO=>?_);have eV:bN (H++[.cells (dA s)]) T:=HO.snoc (by simp);apply ae;intro K Z;simp(disch:=omega);apply Z;refine af λK1 aP=>?_
 cases hv:aY s with
 |false=>
  rw[hv] at cv;refine ae λK hK=>?_;simp(disch:=omega) ;refine ak (cv _ _) ?_;simp(disch:=omega) ;apply hK;apply aH rfl;apply ae;intro K Z;simp(disch:=omega);apply Z;apply az;simp(disch:=omega) ;exact .inl ⟨hv,rfl,⟨_,rfl⟩,⟨[],by simp⟩⟩
 |true=>
  rw[hv] at cv;obtain⟨⟨vd,_⟩,⟨vt,vn⟩,vc⟩:=ir hv;have vV:=HW vd;have Na:=AG (kg vd);refine ae λK hK=>?_;simp(disch:=omega) ;refine ak (cv _ _) ?_;simp(disch:=omega) ;apply hK;apply aF rfl;apply aq;simp(disch:=omega) ;apply aP;clear aP;apply ae;intro K Z;simp(disch:=omega);apply Z;apply ae;intro K Z;simp(disch:=omega);apply Z;have tH:gh [.int .i64 0,.sl 0 [] .full,.sl 0 [] .full] (s.aB.length*3)=fo (jA s.aB 0):=by rw[PR];simp[jA]
  rw[tH];refine dy λfj=>?_;simp only at fj;refine aI ⟨[(1,.ptr H.length 0),(3,.bJ (H.length+1) s.aB.length s.aB.length),(4,.aQ (H.length+2))],H++[.cells (dA s),.cells (fo (jA s.aB 0)),.map []],T⟩ (ag [] [] (by simp) (by simp) (by simp) (by simp) (by simpa using fj) (by simp)) ?_;refine LG H T s (by omega) Na vV (by simpa using fj) _ λe hD he=>?_;have Zz:(jA s.aB s.aB.length).map (·.id)=s.aB:=by
   simp[jA,Function.comp_def,ym]
  have aeC:(jA s.aB s.aB.length).map Dz.dc=s.aB.map λid=>⟨id,[],[]⟩:=by
   simp[jA,Function.comp_def,ym,Dz.dc]
  have Zu:(H++[aA.cells (dA s),.cells (fo (jA s.aB s.aB.length)),.map (gP s.aB)]).length=H.length+3:=by simp
  generalize H++[aA.cells (dA s),.cells (fo (jA s.aB s.aB.length)),.map (gP s.aB)]=J at *;refine aI ⟨[(1,.ptr H.length 0),(3,.bJ (H.length+1) s.aB.length s.aB.length),(4,.aQ (H.length+2))],J,T⟩ (ag [] [] (by simp) (by simp) (by show H.length<=_;omega) (by simp) hD.ok (by rw[Zu];exact he)) ?_;refine BR H T s H.length (H.length+1) (H.length+2) s.aB.length 0 s.aB _ J T _ hD Zz rfl Na vV hs (λt ht=>(Ns hv ht).2.2.2) (by omega) (by simp) (by omega) (by simp) _ λe1 J1 D1 a1 a2 a3 a4=>?_;have lT1:=a1.pU.le;have lH1:=a1.pJ.le;refine aI ⟨[(1,.ptr H.length 0),(3,.bJ (H.length+1) s.aB.length s.aB.length),(4,.aQ (H.length+2))],J1,T⟩ (ag [] [] (by simp) (by simp) (by show H.length<=_;omega) (by simp) a1.ok a4) ?_;refine Fv H T s H.length (H.length+1) (H.length+2) s.aB.length _ s.aB _ J1 T D1 a1 a2 rfl Na vV hs (λc hc=>(ZM hv hc).2) (by omega) (by simp) (by omega) (by simp) _ λe2 J2 U2 D2 b1 b2 b3 b4=>?_;have Qm:=b1.pU.le;have Mr:=b1.pJ.le;have l1:=b1.hJ.lt (i:=H.length) (b:=.cells (dA s)) (by simp);have l3:=b1.hJ.lt (i:=H.length+2) (b:=.map (gP s.aB)) (by simp);refine aI ⟨[(1,.ptr H.length 0),(3,.bJ (H.length+1) s.aB.length s.aB.length),(4,.aQ (H.length+2))],J2,U2⟩ (ag [] [] (by simp) (by simp) (by show H.length<=_;omega) (by show T.length<=_;omega) b1.ok b4) ?_;rw[a3,aeC] at b3;rw[Uo,Ur,ahG,ahG] at b3;simp only[Function.comp_def,aic] at b3;have zl:s.aB.length=D2.length:=by rw[<-b2,agU]
  have VG:∀d∈D2,d.dc=⟨d.id,de (occs s.bO d.id),Mp s.aO d.id⟩:=by
   intro d hd;have h1:d.dc∈D2.map Dz.dc:=agG.2 ⟨d,hd,rfl⟩;rw[b3] at h1;obtain⟨i,_,h2⟩:=agG.1 h1;rw[LP hv] at h2;have:i=d.id:=congrArg Dc.id h2;rw[<-h2,this]
  refine Kw H T H.length (H.length+1) (H.length+2) s.aB.length _ _ J2 U2 D2 b1 (by omega) zl (by omega) (λd hd z hz=>?_) l1 l3 _ λe3 J3 c1 c2=>?_
  ·have h1:z.zn∈d.dc.zs:=agG.2 ⟨z,hz,rfl⟩;rw[VG d hd] at h1;obtain⟨h2,h3,_⟩:=pS h1;refine⟨h2,?_⟩;show z.zn.ws.Pairwise _;rw[h3];exact IL vn _ _
  conv=>arg 2;whnf
  have Jl:=c1.pU.le;have Jm:=c1.pJ.le;refine aI ⟨[(1,.ptr H.length 0),(3,.bJ (H.length+1) s.aB.length s.aB.length),(4,.aQ (H.length+2))],J3,U2⟩ (ag [] [] (by simp) (by simp) (by show H.length<=_;omega) (by show T.length<=_;omega) c1.ok c2) ?_;apply ae;intro K Z;simp(disch:=omega);apply Z;apply az;simp(disch:=omega) ;have yL:(D2.map sB).map Dz.dc=ja s:=by
   unfold ja;rw[ahG,<-b2,ahG];refine ahh λd hd=>?_;simp only[Function.comp];have h1:(sB d).dc=⟨d.id,d.dc.zs.map Ve,d.ns⟩:=by simp[sB,Dz.dc,ahG,Function.comp_def,j6,Wz.zn,Ve]
   rw[h1,VG d hd,EM];have h2:d.ns=Mp s.aO d.id:=congrArg Dc.ns (VG d hd);rw[h2]
  have Cv:(D2.map sB).length=s.aB.length:=by rw[agU,<-zl]
  exact .inr ⟨hv,rfl,_,_,_,c1,Cv,yL⟩
def kz (s:Sg)(hs:uX s)(H:List aA)(T:au):ar prog 88 [jM s] H T (Is (.sl (eh s).length (aN (eh s)) .full) H T):=by
 refine ar.pf ?_;refine(rf s hs H T).mono λr J U h=>?_;rcases h with⟨hv,rfl,hJ,hU⟩|⟨hv,rfl,R,N,D,hS,hl,hd⟩
 ·have hP:eh s=[]:=by unfold eh;rw[hv];rfl
  rw[hP];exact⟨hJ,hU,.keep (.inl rfl) (by simp[tn])⟩
 ·have hP:eh s=D.map Dz.dc:=by unfold eh;rw[hv,hd];rfl
  have MD:=hS.hJ.get (i:=H.length+1) (b:=.cells (fo D)) (by simp);rw[hP,agU,hl];refine⟨hS.pJ,hS.pU,.YY (by omega) MD (by rw[Eh];exact agE _) λj hj=>I3 hS (Oe hS) j hj⟩
def rj (s:Sg)(hs:uX s)(H:List aA)(T:au):ar prog 88 [jM s] H T (Is (.sl (eh s).length (aN (eh s)) .none) H T):=
 ar.bZ ((kz s hs H T).mono λr J U ⟨h1,h2,h3⟩=>⟨⟨[],by simp[h2]⟩,⟨[],by simp[h3]⟩,.inr (by rw[h1];rfl)⟩) (.sl _ _ _ (xQ _ _ _) (by simp))
theorem Kv {H J:List aA}{a b:aA}(hp:gG H J)(h0:J[H.length]?=some a)(h1:J[H.length+1]?=some b):∃G,J=(H++[a])++b::G:=by
 obtain⟨X,rfl⟩:=hp;rw[agX (agE _),ah1] at h0;rw[agX (by omega),show H.length+1-H.length=1 by omega] at h1
 match X,h0,h1 with
 |x::y::G,h0,h1=>
  simp at h0 h1;subst h0;subst h1;exact⟨G,by simp⟩
def yk (s:Sg)(hs:uX s)(hv:aY s=true)(H:List aA)(T:au) :
  ar prog 88 [jM s] H T (Is (.bJ (H.length+1) s.aB.length s.aB.length) (H++[.cells (dA s),.cells (aN (ja s))]) T):=by
 have key:=ar.NG (P:=prog) (f:=88) (args:=[jM s]) (H:=H) (T:=T) (n:=s.aB.length) (cap:=s.aB.length) (vs':=aN (ja s)) (H++[.cells (dA s)]) (by simp) (λHO=>HO.snoc (by simp)) ?_
 ·simpa using key
 refine(rf s hs H T).mono λr J U h=>?_;rcases h with⟨H8,_⟩|⟨_,rfl,R,N,D,hS,hl,hd⟩
 ·rw[hv] at H8;cases H8
 ·have h0:=hS.hJ.get (i:=H.length) (b:=.cells (dA s)) (by simp);have h1:=hS.hJ.get (i:=H.length+1) (b:=.cells (fo D)) (by simp);obtain⟨G,hG⟩:=Kv hS.pJ h0 h1;rw[<-hd];refine⟨fo D,G,hG,hS.pU,Eh D,λj hj=>?_,by simp⟩;refine I3 hS (λx hx=>?_) j hj;have hb:=Oe hS x hx;have mM:=hS.hJ.1;simp only[aiQ,ahi,agS,aiU,ahn] at mM;have n1:x.1≠H.length:=λe=>mM.1 (by
   rw[<-e];simp only[agR,ag6];exact .inr (.inr (agG.2 ⟨x,hx,rfl⟩)))
  have n2:x.1≠H.length+1:=λe=>mM.2.2.1.1 (by rw[<-e];exact agG.2 ⟨x,hx,rfl⟩);simp only[agF,ahd,ahV];omega
def yj (s:Sg)(hs:uX s)(hv:aY s=false)(H:List aA)(T:au):ar prog 88 [jM s] H T (Is (.sl 0 [] .full) H T):=by
 have h:=kz s hs H T;have hP:eh s=[]:=by unfold eh;rw[hv];rfl
 rw[hP] at h;exact h
end Go.Proofs.YtoejlmpbebjemaaGreat
namespace eN
open ia
def rR (l:List Wd):(jq l).Perm l/\(jq l).Pairwise λx y=>x.2<=y.2:=by
 refine⟨aiG _ _,?_⟩;have:=aix (le:=λx y:Wd=>!(decide (y.2<x.2))) (λa b c h1 h2=>by simp at *;omega) (λa b=>by simp;omega) l;exact this.imp λh=>by simpa using h
end eN
namespace Go.Proofs.YtoejlmpbebjemaaGreat
open Go Go.Am ia cO eN
def UG (d f:Int)(t:Tm):List Wd:=if t.f=f then (posOf t.l d).map λa=>(t.w,a) else []
def zT (g:Int->List Wd)(k:Nat):List Zn:=(List.range k).flatMap λj=>if g (1+(j:Nat))=[] then [] else [⟨1+(j:Nat),g (1+(j:Nat))⟩]
def RO (g:Int->List Wd):zT g 4=de g:=by
 simp[zT,de,ajb]
def RN (g:Int->List Wd)(k:Nat):zT g (k+1)=zT g k++if g (1+(k:Nat))=[] then [] else [⟨1+(k:Nat),g (1+(k:Nat))⟩]:=by
 simp[zT,ajb]
theorem VR (g:Int->List Wd)(k:Nat):(zT g k).length<=k:=by
 induction k with
 |zero=>simp[zT]
 |succ k ih=>rw[RN,agF];split<;>simp<;>omega
def Pk (a b:List (Int×List Wd))(f:Int):pk (a++b) f=pk a f++pk b f:=by
 unfold pk;rw[aht,ahk]
theorem Aa:∀{l:List Ps},kY l->∀d:Int,posOf l d=(l.filter λp=>p.1==d).flatMap (·.2)
 |[],_,d=>rfl
 |p::l,h,d=>by
  have hp:=jf h
  by_cases e:p.1=d
  ·subst e;have h0:l.filter (λq=>q.1==p.1)=[]:=by
    rw[aif];intro q hq;have:=hp.2 q hq;simp;omega
   rw[dI,ahQ (by simp),h0];simp
  ·rw[cV e,ahK (by simpa using e)];exact Aa hp.1 d
theorem s8:∀{ts:List Tm},(∀t∈ts,kY t.l)->∀id f:Int,occs ts id f=ts.flatMap (UG id f)
 |[],_,_,_=>rfl
 |t::ts,h,id,f=>by
  have h1:occs (t::ts) id f=pk ((t.l.filter λp=>p.1==id).map λp=>(t.f,p.2.map λa=>(t.w,a))) f++occs ts id f:=by
   unfold occs Re;rw[agT,Pk]
  rw[h1,agT,s8 (λt ht=>h t (by simp[ht]))]
  congr 1
  unfold UG pk;rw[Aa (h t (by simp))]
  by_cases e:t.f=f
  ·rw[agN e,aid.2 (λx hx=>by obtain⟨p,_,rfl⟩:=agG.1 hx;simpa using e),ahR,List.map_flatMap]
  ·rw[agL e,aif.2 (λx hx=>by obtain⟨p,_,rfl⟩:=agG.1 hx;simpa using e)];rfl
end Go.Proofs.YtoejlmpbebjemaaGreat
