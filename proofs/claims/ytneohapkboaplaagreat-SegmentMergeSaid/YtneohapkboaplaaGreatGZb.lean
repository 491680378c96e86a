/- segment.Documents (layer 39). The reference's words and Documents (layer 39). Documents of the reference (layer 39). Both Documents are one (layer 39).
   Conditions: as the theorems say. -/
import Derived.Test.YtneohapkboaplaaGreatGZa
import Derived.Test.YtneohapkboaplaaGreatGRA
import Derived.Test.YtneohapkboaplaaGreatAmC
import Derived.Test.YtneohapkboaplaaGreatPZ
set_option linter.all false
set_option maxRecDepth 100000
set_option maxHeartbeats 16000000
open Nat (zero_le le_refl sub_self)
open List (getD_eq_getElem?_getD length_map map_append length_append append_nil take_length flatMap_cons length_take filter_append map_map append_assoc range_succ flatMap_append flatMap_map)
namespace Go.Proofs.YtneohapkboaplaaGreat
open Go Go.Am iF eJ
theorem N0 {n0 t0:Nat}{H:List aA}{z:Wz}(h:z.ws≠[]→n0≤z.i∧H[z.i]?=some (.cells (cJ z.ws++z.rest))):gk n0 t0 H (gv z.ws.length z.i z.cap) (.sl z.ws.length (cJ z.ws) .none):=by
 by_cases hw:z.ws=[]
 ·rw[hw];exact .keep (.inr rfl) (by simp[Ao])
 ·have hl:z.ws.length≠0:=fun e=>hw (List.length_eq_zero_iff.1 e);rw[gv,if_neg hl];obtain⟨a,b⟩:=h hw;exact .aaW a b (gd (f:=Ph) (fun x v hv=>by simp at hv;rcases hv with rfl|rfl<;>first|exact .int _ _|exact .str _) _)
theorem NZ {n0 t0:Nat}{H:List aA}{d:Dz}(h:d.zs≠[]→n0≤d.i∧H[d.i]?=some (.cells (lM d.zs++d.rest)))(hz:∀z∈d.zs,z.ws≠[]→n0≤z.i∧H[z.i]?=some (.cells (cJ z.ws++z.rest))) :
  gk n0 t0 H (gv d.zs.length d.i d.cap) (.sl d.dc.zs.length (dS d.dc.zs) .none):=by
 have iD:d.dc.zs.length=d.zs.length:=by simp[Dz.dc]
 by_cases hw:d.zs=[]
 ·have:d.dc.zs=[]:=by simp[Dz.dc,hw]
  rw[this,hw];exact .keep (.inr rfl) (by simp[Ae])
 ·have hl:d.zs.length≠0:=fun e=>hw (List.length_eq_zero_iff.1 e);rw[gv,if_neg hl,iD];obtain⟨a,b⟩:=h hw;have h2:dS d.dc.zs=d.zs.flatMap fun z=>mX z.zn:=by simp[dS,Dz.dc,flatMap_map]
  rw[h2];refine .bJ a b ?_ fun j hj=>?_
  ·rw[length_append,jP,b9 (f:=fun z:Wz=>mX z.zn) (k:=2) (fun _=>rfl)];omega
  ·refine iy (fa:=Wz.row) (fb:=fun z=>mX z.zn) (k:=2) yL (fun _=>rfl) d.zs (fun z Rh j hj=>?_) d.rest j hj
   match j,hj with
   |0,_=>exact .same (.int _ _)
   |1,_=>exact N0 (hz z Rh)
theorem Fj {H:List aA}{T:ar}{R:List (Nat×aA)}{bo N n0:Nat}{J:List aA}{U:ar}{D:List Dz}(hS:DS H T R bo N J U D)(hn:∀x∈D.flatMap Dz.bx,n0≤x.1)(j:Nat)(hj:j<(aM (D.map Dz.dc)).length) :
  gk n0 T.length J ((eD D).getD j .top) ((aM (D.map Dz.dc))[j]'hj):=by
 have h2:aM (D.map Dz.dc)=D.flatMap fun d=>fw d.dc:=by simp[aM,flatMap_map]
 have hm:∀d∈D,∀x∈d.bx,n0≤x.1∧J[x.1]?=some x.2:=fun d hd x hx=>by
  have Ix:x∈D.flatMap Dz.bx:=List.mem_flatMap.2 ⟨d,hd,hx⟩;exact⟨hn x Ix,hS.hJ.2 x (List.mem_append_right _ (List.mem_cons_of_mem _ Ix))⟩
 simp only[h2];rw[h2] at hj;have:=iy (n0:=n0) (t0:=T.length) (H:=J) (fa:=Dz.row) (fb:=fun d=>fw d.dc) (k:=3) yY (fun _=>rfl) D (fun d hd j hj=>?_) [] j hj
 ·rw[append_nil] at this;exact this
 ·match j,hj with
  |0,_=>exact .same (.int _ _)
  |1,_=>
   refine NZ (fun hz=>?_) fun z hz hw=>?_
   ·exact hm d hd (d.i,.cells (lM d.zs++d.rest)) (by simp[Dz.bx,gb,hz])
   ·exact hm d hd (z.i,.cells (cJ z.ws++z.rest)) (by
     unfold Dz.bx;exact List.mem_append_right _ (List.mem_flatMap.2 ⟨z,hz,by simp[Wz.bx,gb,hw]⟩))
  |2,_=>
   show gk _ _ _ (ov d.ns d.tk) (.sl d.ns.length (aU d.ns) .none)
   by_cases hn:d.ns=[]
   ·rw[hn];exact .keep (.inr rfl) (by simp[uT])
   ·rw[ov,if_neg hn];exact .keep (.inr rfl) (.sl _ _ _ (ri _ _ _) (by simp))
theorem Kc {H:List aA}{T:ar}{R:List (Nat×aA)}{bo N:Nat}{J:List aA}{U:ar}{D:List Dz}(hS:DS H T R bo N J U D):∀x∈D.flatMap Dz.bx,H.length≤x.1:=by
 intro x hx;obtain⟨d,hd,hx⟩:=List.mem_flatMap.1 hx;have iG:=hS.hD d hd;unfold Dz.bx gb at hx;rcases List.mem_append.1 hx with h|h
 ·split at h
  ·simp at h
  ·rename_i hl;rw[List.mem_singleton.1 h];exact(iG.z.2 hl).2.2
 ·obtain⟨z,hz,h⟩:=List.mem_flatMap.1 h;unfold Wz.bx gb at h
  split at h
  ·simp at h
  ·rename_i hl;rw[List.mem_singleton.1 h];exact((iG.w z hz).2 hl).2.2
theorem Bd (D:List Dz):(aM (D.map Dz.dc)).length=(eD D).length:=by
 rw[jR,bD,length_map]
attribute [-simp] getD_eq_getElem?_getD in
theorem GK (H:List aA)(T:ar)(b1 bo bm nd:Nat)(N:Nat)(R:List (Nat×aA))(J:List aA)(U:ar)(D:List Dz)
  (hS:DS H T R bo N J U D) (hN:N≤1099511627776) (lr:nd=D.length) (zA:nd≤1000) (hW:∀d∈D,∀z∈d.zs,z.ws≠[]∧z.ws.Pairwise fun x y=>x.2≠y.2) (oI:b1<J.length) (My:bm<J.length) (Q:Exit→St→Prop)
  (go:∀(e:Env)(J':List aA),DS H T R bo N J' U (D.map qz)→
   bt J'.length U.length e [(1,.ptr b1 0),(3,.bJ bo nd nd),(4,.aO bm)]→AW ⟨Tryz.prog,192,190,H.length,T.length,[100100,100131]⟩ (du [1,1,1,1,1,1,1,1] (Tryz.f40.body.getD .skip)) Q ⟨e,J',U⟩) :
  AW ⟨Tryz.prog,192,190,H.length,T.length,[100100,100131]⟩ (du [1,1,1,1,1,1,1] (Tryz.f40.body.getD .skip)) Q ⟨[(1,.ptr b1 0),(3,.bJ bo nd nd),(4,.aO bm)],J,U⟩:=by
 conv=>arg 2;whnf
 have lo:=hS.hJ.lt (i:=bo) (b:=.cells (eD D)) (by simp);have lH:=hS.pJ.le;have lT:=hS.pU.le;refine af fun K1 aQ=>?_;apply ae;intro K h;simp(disch:=omega);apply h;clear h K;apply ah;refine aG (X:=Nat×List aA) (fun x=>⟨[(1,.ptr b1 0),(3,.bJ bo nd nd),(4,.aO bm),(173,.bV bo 0 nd),(174,.int .i64 (nd:Nat)),(175,.int .i64 (x.1:Nat))],x.2,U⟩)
  (fun x=>x.1≤nd∧DS H T R bo N x.2 U ((D.take x.1).map qz++D.drop x.1)∧J.length≤x.2.length) (fun x=>nd-x.1) (0,J) ?_ ?_ ?_
 ·exact⟨zero_le _,by simpa using hS,le_refl _⟩
 ·refine ag [] [] ?_ ?_ ?_ ?_ hS.ok ?_
  all_goals simp
  all_goals omega
 ·rintro⟨k,J2⟩ ⟨k1,k2,k3⟩;simp only at k1 k2 k3;have Iv:=k2.pJ.le;have LX:=k2.pU.le;apply ae;intro K h;simp(disch:=omega);apply h;clear h K;refine af fun K2 aW=>?_;refine aN rfl (fun fD=>?_) (fun fD=>?_)
  ·simp  at fD;apply ai;simp(disch:=omega) ;apply aW;clear aW;refine af fun K3 bz=>?_;apply ah;refine aH ⟨[(1,.ptr b1 0),(3,.bJ bo nd nd),(4,.aO bm),(173,.bV bo 0 nd),(174,.int .i64 (nd:Nat)),(175,.int .i64 (k:Nat))],J2,U⟩ (ag [] [] (by simp) (by simp) (by show H.length≤_;omega) (by show T.length≤_;omega) k2.ok (by simp;omega)) ?_;have hkD:k<D.length:=by omega
   have L7:D.drop k=D[k]::D.drop (k+1):=(List.getElem_cons_drop ..).symm;have eN:D.take (k+1)=D.take k++[D[k]]:=by rw[List.take_append_getElem]
   rw[L7] at k2;have hlen:((D.take k).map qz).length=k:=by simp;omega
   refine UA H T b1 bo bm nd k N _ J2 U _ _ D[k] k2 hN hlen.symm (by rw[hlen,List.length_drop];omega) (hW _ (List.getElem_mem _)) (by omega) (by omega) _ fun e J' a1 a2 a3=>?_;have FE:=a1.pJ.le;have FD:=a1.pU.le;refine bz _ (aH ⟨[(1,.ptr b1 0),(3,.bJ bo nd nd),(4,.aO bm),(173,.bV bo 0 nd),(174,.int .i64 (nd:Nat)),(175,.int .i64 (k:Nat))],J',U⟩ (ag [] [] (by simp) (by simp) (by show H.length≤_;omega) (by show T.length≤_;omega) a1.ok a3) ?_);clear bz;refine au fun K hK=>?_;simp(disch:=omega) ;apply hK;clear hK K;refine⟨(k+1,J'),⟨by show k+1≤_;omega,by show DS _ _ _ _ _ _ _ ((D.take (k+1)).map qz++D.drop (k+1));rw[eN,map_append,append_assoc];exact a1,by show J.length≤J'.length;omega⟩,by show nd-(k+1)<nd-k;omega,?_⟩;refine ag [] [] ?_ ?_ ?_ ?_ a1.ok ?_
   all_goals simp
   all_goals omega
  ·simp  at fD;have pI:k=nd:=by omega
   subst pI;apply aC;simp(disch:=omega) ;rw[lr,take_length,List.drop_length,append_nil] at k2;apply aQ;clear aQ;refine go _ J2 k2 ?_;simp;omega
def vL (id:Int):Dz:=⟨id,[],0,0,[],[],0⟩
def iJ (ids:List Int)(k:Nat):List Dz:=(ids.take k).map vL++List.replicate (ids.length-k) (vL 0)
theorem yW (ids:List Int)(k:Nat):(iJ ids k).flatMap Dz.tx=[]∧(iJ ids k).flatMap Dz.bx=[]:=by
 have h:∀d∈iJ ids k,Dz.tx d=[]∧Dz.bx d=[]:=by
  intro d hd;rcases List.mem_append.1 hd with hd|hd
  ·obtain⟨i,_,rfl⟩:=List.mem_map.1 hd;exact⟨rfl,rfl⟩
  ·obtain rfl:=List.eq_of_mem_replicate hd;exact⟨rfl,rfl⟩
 exact⟨List.flatMap_eq_nil_iff.2 fun d hd=>(h d hd).1,List.flatMap_eq_nil_iff.2 fun d hd=>(h d hd).2⟩
theorem NS (ids:List Int)(k nb tb N:Nat):∀d∈iJ ids k,Gj nb tb N d:=by
 have h:∀i,Gj nb tb N (vL i):=fun i=>⟨⟨zero_le _,fun h=>absurd rfl h⟩,fun z hz=>by simp[vL] at hz,⟨zero_le _,fun h=>absurd rfl h⟩⟩
 intro d hd;rcases List.mem_append.1 hd with hd|hd
 ·obtain⟨i,_,rfl⟩:=List.mem_map.1 hd;exact h i
 ·obtain rfl:=List.eq_of_mem_replicate hd;exact h 0
theorem Lv (D1 D2:List Dz)(d d':Dz)(h:d'.zs=d.zs∧d'.i=d.i∧d'.cap=d.cap∧d'.ns=d.ns∧d'.tk=d.tk):(eD (D1++d::D2)).set (D1.length*3) (.int .i64 d'.id)=eD (D1++d'::D2):=by
 have hl:=jR D1;have e:∀x:Dz,eD (D1++x::D2)=eD D1++(x.row++eD D2):=fun x=>by simp[eD]
 obtain⟨h1,h2,h3,h4,h5⟩:=h;rw[e,e,List.set_append_right _ _ (by omega),hl,sub_self];simp[Dz.row,h1,h2,h3,h4,h5]
theorem HQ {ids:List Int}{k:Nat}(hk:k<ids.length):(eD (iJ ids k)).set (k*3) (.int .i64 (ids.getD k 0))=eD (iJ ids (k+1)):=by
 have h1:iJ ids k=(ids.take k).map vL++vL 0::List.replicate (ids.length-(k+1)) (vL 0):=by
  unfold iJ;rw[show ids.length-k=ids.length-(k+1)+1 by omega,List.replicate_succ]
 have h2:iJ ids (k+1)=(ids.take k).map vL++vL (ids.getD k 0)::List.replicate (ids.length-(k+1)) (vL 0):=by
  unfold iJ;rw[bf ids k 0 hk,map_append,append_assoc];rfl
 rw[h1,h2];have:=Lv ((ids.take k).map vL) (List.replicate (ids.length-(k+1)) (vL 0)) (vL 0) (vL (ids.getD k 0)) ⟨rfl,rfl,rfl,rfl,rfl⟩;rw[length_map,length_take,Nat.min_eq_left (Nat.le_of_lt hk)] at this;exact this
theorem HC {ids:List Int}{k:Nat}(hn:ids.Nodup)(hk:k<ids.length):jH (fR (ids.take k)) (.one (.int .i64 (ids.getD k 0))) (.int .i64 (k:Nat))=fR (ids.take (k+1)):=by
 have jK:(cN.one (.int .i64 (ids.getD k 0)):cN)=jI (ids.getD k 0):=rfl;have nC:∀e∈fR (ids.take k),e.1≠jI (ids.getD k 0):=by
  intro e he h;have h1:e.1∈(fR (ids.take k)).map (·.1):=List.mem_map.2 ⟨e,he,rfl⟩;rw[rY] at h1;obtain⟨i,hi,e1⟩:=List.mem_map.1 h1;have:i=ids.getD k 0:=oj.1 (e1.trans h);subst this;have h2:ids=ids.take k++(ids.getD k 0::ids.drop (k+1)):=by rw[←da ids k 0 hk,List.take_append_drop]
  rw[h2,List.nodup_append] at hn;exact hn.2.2 _ hi _ (by simp) rfl
 rw[jK,lZ nC];unfold fR;have hl:(ids.take k).length=k:=by simp;omega
 have iD:(ids.take (k+1)).length=k+1:=by simp;omega
 rw[hl,iD,range_succ,map_append]
 congr 1
 ·refine List.map_congr_left fun j hj=>?_;rw[List.mem_range] at hj;rw[getD_eq_getElem?_getD,getD_eq_getElem?_getD,List.getElem?_take,List.getElem?_take,if_pos hj,if_pos (by omega)]
 ·simp[getD_eq_getElem?_getD,List.getElem?_take]
theorem Lu (n:Nat):fH [.int .i64 0,.sl 0 [] .full,.sl 0 [] .full] (n*3)=eD (List.replicate n (vL 0)):=by
 induction n with
 |zero=>rfl
 |succ n ih=>
  rw[List.replicate_succ',show eD (List.replicate n (vL 0)++[vL 0])=eD (List.replicate n (vL 0))++(vL 0).row by simp[eD],←ih];unfold fH;rw[Nat.add_mul,Nat.one_mul,List.range_add,map_append]
  congr 1
  simp[vL,gv,ov,Nat.add_mod,range_succ]
attribute [-simp] getD_eq_getElem?_getD in
theorem HP (H:List aA)(T:ar)(s:Sg)(hs:s.an.length≤1000)(lr:s.an.Nodup)(kL:∀i∈s.an,1≤i∧i≤1000000000)(HO:bC (H++[.cells (bH s),.cells (eD (iJ s.an 0)),.map []]) T)(Q:Exit→St→Prop)
  (go:∀(e:Env),DS H T [(H.length,.cells (bH s)),(H.length+2,.map (fR s.an))] (H.length+1) 0 (H++[.cells (bH s),.cells (eD (iJ s.an s.an.length)),.map (fR s.an)]) T (iJ s.an s.an.length)→
   bt (H.length+3) T.length e [(1,.ptr H.length 0),(3,.bJ (H.length+1) s.an.length s.an.length),(4,.aO (H.length+2))]→AW ⟨Tryz.prog,192,190,H.length,T.length,[100100,100131]⟩ (du [1,1,1,1,1] (Tryz.f40.body.getD .skip)) Q ⟨e,H++[.cells (bH s),.cells (eD (iJ s.an s.an.length)),.map (fR s.an)],T⟩) :
  AW ⟨Tryz.prog,192,190,H.length,T.length,[100100,100131]⟩ (du [1,1,1,1] (Tryz.f40.body.getD .skip)) Q ⟨[(1,.ptr H.length 0),(3,.bJ (H.length+1) s.an.length s.an.length),(4,.aO (H.length+2))],H++[.cells (bH s),.cells (eD (iJ s.an 0)),.map []],T⟩:=by
 conv=>arg 2;whnf
 refine af fun K1 aQ=>?_;apply ae;intro K h;simp(disch:=omega);apply h;clear h K;apply ah;refine aG (X:=Nat) (fun k=>⟨[(1,.ptr H.length 0),(3,.bJ (H.length+1) s.an.length s.an.length),(4,.aO (H.length+2)),(34,.sl s.an.length (ints s.an) .none),(35,.int .i64 (s.an.length:Nat)),(36,.int .i64 (k:Nat))],H++[.cells (bH s),.cells (eD (iJ s.an k)),.map (fR (s.an.take k))],T⟩)
  (fun k=>k≤s.an.length∧bC (H++[.cells (bH s),.cells (eD (iJ s.an k)),.map (fR (s.an.take k))]) T) (fun k=>s.an.length-k) 0 ?_ ?_ ?_
 ·exact⟨zero_le _,by simpa[fR] using HO⟩
 ·refine ag [] [] ?_ ?_ ?_ ?_ (by simpa[fR] using HO) ?_
  all_goals simp[fR]
  all_goals omega
 ·rintro k ⟨k1,k2⟩;apply ae;intro K h;simp(disch:=omega);apply h;clear h K;refine af fun K2 aW=>?_;refine aN rfl (fun fD=>?_) (fun fD=>?_)
  ·simp  at fD;apply ai;simp(disch:=omega) ;apply aW;clear aW;refine af fun K3 bz=>?_;apply ah;have dg:k<(ints s.an).length:=by simpa using fD
   have Zx:=aS (xs:=s.an) (k:=k) fD;have cC:(eD (iJ s.an k)).length=s.an.length*3:=by rw[jR];simp[iJ];omega
   have eM:=HQ fD;have pw:=HC lr fD;have Mu:cW Tryz.prog 3 (fR (s.an.take k))=true:=Qo fun i hi=>kL i (List.mem_of_mem_take hi);have OD:=Gd (s.an.getD k 0) (by have:=kL _ (aR s.an k 0 fD);omega);rw[show jI (s.an.getD k 0)=.one (.int .i64 (s.an.getD k 0)) from rfl] at OD;generalize s.an.getD k 0=id at *;refine ae fun K hK=>?_;simp(disch:=omega)[Zx];apply hK;clear hK K;refine ae fun K hK=>?_;simp(disch:=omega)[cC,eM];apply hK;clear hK K;refine au fun K hK=>?_;simp(disch:=omega)[yT,Mu,OD,pw];apply hK;clear hK K;refine bz _ ?_;clear bz;refine cZ fun nG=>?_;simp only at nG;refine au fun K hK=>?_;simp(disch:=omega) ;apply hK;clear hK K;refine⟨k+1,⟨by omega,nG⟩,by omega,?_⟩;refine ag [] [] ?_ ?_ ?_ ?_ nG ?_
   all_goals simp
   all_goals omega
  ·simp  at fD;have pI:k=s.an.length:=by omega
   subst pI;apply aC;simp(disch:=omega) ;rw[take_length] at k2;apply aQ;clear aQ;refine go _ ⟨⟨?_,fun p hp=>?_⟩,?_,NS _ _ _ _ _,⟨_,rfl⟩,⟨[],by simp⟩,k2⟩ ?_
   ·rw[(yW _ _).2];simp
   ·rw[(yW _ _).2] at hp;simp at hp;rcases hp with rfl|rfl|rfl<;>simp
   ·rw[(yW _ _).1];exact⟨by simp,fun p hp=>by simp at hp⟩
   ·simp
theorem AQ (id f:Int):∀ts:List Tm,(occs ts id f).map (·.2)=((nw ts).filter fun k=>k.1==f&&k.2.1==id).map (·.2.2)
 |[]=>rfl
 |t::ts=>by
  have h1:occs (t::ts) id f=nK (((t.l.filter fun p=>p.1==id).map fun p=>(t.f,p.2.map fun a=>(t.w,a)))) f++occs ts id f:=by
   unfold occs MJ nK;rw[flatMap_cons,filter_append,flatMap_append]
  have h2:nw (t::ts)=nI t++nw ts:=by simp[nw]
  rw[h1,h2,map_append,filter_append,map_append,AQ id f ts]
  congr 1
  unfold nK nI;have key:∀l:List Ps,(((((l.filter fun p=>p.1==id).map fun p=>(t.f,p.2.map fun a=>(t.w,a)))).filter fun e=>e.1==f).flatMap (·.2)).map (·.2)=((l.flatMap (eh t.f)).filter fun k=>k.1==f&&k.2.1==id).map (·.2.2):=by
   intro l
   induction l with
   |nil=>rfl
   |cons p l ih=>
    rw[flatMap_cons,filter_append,map_append,←ih];have e:(eh t.f p).filter (fun k=>k.1==f&&k.2.1==id)=if t.f=f∧p.1=id then eh t.f p else []:=by
     unfold eh
     by_cases h:t.f=f∧p.1=id
     ·rw[if_pos h,List.filter_eq_self];intro k hk;obtain⟨a,_,rfl⟩:=List.mem_map.1 hk;simpa using h
     ·rw[if_neg h,List.filter_eq_nil_iff];intro k hk;obtain⟨a,_,rfl⟩:=List.mem_map.1 hk;simpa using h
    rw[e]
    by_cases hp:p.1=id
    ·rw[List.filter_cons_of_pos (by simp[hp]),List.map_cons]
     by_cases hf:t.f=f
     ·rw[List.filter_cons_of_pos (by simp[hf]),if_pos ⟨hf,hp⟩,flatMap_cons,map_append]
      congr 1
      simp[eh]
     ·rw[List.filter_cons_of_neg (by simp[hf]),if_neg fun h=>hf h.1];rfl
    ·rw[List.filter_cons_of_neg (by simp[hp]),if_neg fun h=>hp h.2];rfl
  exact key t.l
theorem yR {ts:List Tm}(h:(nw ts).Nodup)(id f:Int):(occs ts id f).Pairwise fun x y=>x.2≠y.2:=by
 rw[←List.pairwise_map (R:=fun a b:Int=>a≠b),AQ];rw[List.pairwise_map];refine((h.filter _).imp_of_mem fun {a b} ha hb iZ he=>iZ ?_);rw[List.mem_filter] at ha hb;obtain⟨a1,a2,a3⟩:=a;obtain⟨b1,b2,b3⟩:=b;simp at ha hb he;simp[ha.2,hb.2,he]
def bI (s:Sg):List Dc:=if aP s=true then fG s else []
theorem ll {g:Int→List Wd}{z:Zn}(h:z∈bP g):z.ws≠[]∧z.ws=g z.f∧1≤z.f∧z.f≤4:=by
 unfold bP at h;obtain⟨f,hf,hz⟩:=List.mem_flatMap.1 h
 by_cases hg:g f=[]
 ·rw[if_pos hg] at hz;cases hz
 ·rw[if_neg hg] at hz;obtain rfl:=List.mem_singleton.1 hz;refine⟨hg,rfl,?_⟩;simp at hf;show 1≤f∧f≤4;omega
def DQ (s:Sg)(H:List aA)(T:ar):AV→List aA→ar→Prop:=fun r J U=>
 (aP s=false∧r=.sl 0 [] .full∧eT H J∧eT T U)∨
 (aP s=true∧r=.bJ (H.length+1) s.an.length s.an.length∧∃R N D,DS H T ((H.length,.cells (bH s))::R) (H.length+1) N J U D∧D.length=s.an.length∧D.map Dz.dc=fG s)
attribute [-simp] getD_eq_getElem?_getD in
theorem pE (s:Sg)(hs:mh s)(H:List aA)(T:ar):aq Tryz.prog 40 [ec s] H T (DQ s H T):=by
 have cv:=fun H T=>iV s hs H T;have lN:=hs.d;refine aj 190 [100100,100131] Tryz.ntmps40 Tryz.func40 rfl (fun _ _=>Tryz.call40 _ _) (by simp) (fun HO=>?_);have eX:bC (H++[.cells (bH s)]) T:=HO.snoc (by simp);apply ae;intro K h;simp(disch:=omega);apply h;clear h K;refine af fun K1 aQ=>?_
 cases hv:aP s with
 |false=>
  rw[hv] at cv;refine ae fun K hK=>?_;simp(disch:=omega) ;refine ak (cv _ _) ?_;simp(disch:=omega) ;apply hK;clear hK K;apply aF rfl;apply ae;intro K h;simp(disch:=omega);apply h;clear h K;apply az;simp(disch:=omega) ;exact .inl ⟨hv,rfl,⟨_,rfl⟩,⟨[],by simp⟩⟩
 |true=>
  rw[hv] at cv;obtain⟨⟨vd,_⟩,⟨vt,vn⟩,vc⟩:=fi hv;have tj:=Ee vd;have Jd:=x5 (gI vd);refine ae fun K hK=>?_;simp(disch:=omega) ;refine ak (cv _ _) ?_;simp(disch:=omega) ;apply hK;clear hK K;apply aD rfl;apply ai;simp(disch:=omega) ;apply aQ;clear aQ;apply ae;intro K h;simp(disch:=omega);apply h;clear h K;apply ae;intro K h;simp(disch:=omega);apply h;clear h K;have vS:fH [.int .i64 0,.sl 0 [] .full,.sl 0 [] .full] (s.an.length*3)=eD (iJ s.an 0):=by rw[Lu];simp[iJ]
  rw[vS];refine cZ fun dy=>?_;simp only at dy;refine aH ⟨[(1,.ptr H.length 0),(3,.bJ (H.length+1) s.an.length s.an.length),(4,.aO (H.length+2))],H++[.cells (bH s),.cells (eD (iJ s.an 0)),.map []],T⟩ (ag [] [] (by simp) (by simp) (by simp) (by simp) (by simpa using dy) (by simp)) ?_;refine HP H T s (by omega) Jd tj (by simpa using dy) _ fun e hD he=>?_;have Ur:(iJ s.an s.an.length).map (·.id)=s.an:=by
   simp[iJ,Function.comp_def,vL]
  have aaG:(iJ s.an s.an.length).map Dz.dc=s.an.map fun id=>⟨id,[],[]⟩:=by
   simp[iJ,Function.comp_def,vL,Dz.dc]
  have Un:(H++[aA.cells (bH s),.cells (eD (iJ s.an s.an.length)),.map (fR s.an)]).length=H.length+3:=by simp
  generalize H++[aA.cells (bH s),.cells (eD (iJ s.an s.an.length)),.map (fR s.an)]=J at *;refine aH ⟨[(1,.ptr H.length 0),(3,.bJ (H.length+1) s.an.length s.an.length),(4,.aO (H.length+2))],J,T⟩ (ag [] [] (by simp) (by simp) (by show H.length≤_;omega) (by simp) hD.ok (by rw[Un];exact he)) ?_;refine y6 H T s H.length (H.length+1) (H.length+2) s.an.length 0 s.an _ J T _ hD Ur rfl Jd tj hs (fun t ht=>(ED hv ht).2.2.2) (by omega) (by simp) (by omega) (by simp) _ fun e1 J1 D1 a1 a2 a3 a4=>?_;have lT1:=a1.pU.le;have lH1:=a1.pJ.le;refine aH ⟨[(1,.ptr H.length 0),(3,.bJ (H.length+1) s.an.length s.an.length),(4,.aO (H.length+2))],J1,T⟩ (ag [] [] (by simp) (by simp) (by show H.length≤_;omega) (by simp) a1.ok a4) ?_;refine Cg H T s H.length (H.length+1) (H.length+2) s.an.length _ s.an _ J1 T D1 a1 a2 rfl Jd tj hs (fun c hc=>(UD hv hc).2) (by omega) (by simp) (by omega) (by simp) _ fun e2 J2 U2 D2 b1 b2 b3 b4=>?_;have LX:=b1.pU.le;have Iv:=b1.pJ.le;have l1:=b1.hJ.lt (i:=H.length) (b:=.cells (bH s)) (by simp);have l3:=b1.hJ.lt (i:=H.length+2) (b:=.map (fR s.an)) (by simp);refine aH ⟨[(1,.ptr H.length 0),(3,.bJ (H.length+1) s.an.length s.an.length),(4,.aO (H.length+2))],J2,U2⟩ (ag [] [] (by simp) (by simp) (by show H.length≤_;omega) (by show T.length≤_;omega) b1.ok b4) ?_;rw[a3,aaG] at b3;rw[O5,O8,map_map,map_map] at b3;simp only[Function.comp_def,List.nil_append] at b3;have EB:s.an.length=D2.length:=by rw[←b2,length_map]
  have Qj:∀d∈D2,d.dc=⟨d.id,bP (occs s.aK d.id),El s.aw d.id⟩:=by
   intro d hd;have h1:d.dc∈D2.map Dz.dc:=List.mem_map.2 ⟨d,hd,rfl⟩;rw[b3] at h1;obtain⟨i,_,h2⟩:=List.mem_map.1 h1;rw[HW hv] at h2;have:i=d.id:=congrArg Dc.id h2;rw[←h2,this]
  refine GK H T H.length (H.length+1) (H.length+2) s.an.length _ _ J2 U2 D2 b1 (by omega) EB (by omega) (fun d hd z hz=>?_) l1 l3 _ fun e3 J3 c1 c2=>?_
  ·have h1:z.zn∈d.dc.zs:=List.mem_map.2 ⟨z,hz,rfl⟩;rw[Qj d hd] at h1;obtain⟨h2,h3,_⟩:=ll h1;refine⟨h2,?_⟩;show z.zn.ws.Pairwise _;rw[h3];exact yR vn _ _
  conv=>arg 2;whnf
  have FD:=c1.pU.le;have FE:=c1.pJ.le;refine aH ⟨[(1,.ptr H.length 0),(3,.bJ (H.length+1) s.an.length s.an.length),(4,.aO (H.length+2))],J3,U2⟩ (ag [] [] (by simp) (by simp) (by show H.length≤_;omega) (by show T.length≤_;omega) c1.ok c2) ?_;apply ae;intro K h;simp(disch:=omega);apply h;clear h K;apply az;simp(disch:=omega) ;have F8:(D2.map qz).map Dz.dc=fG s:=by
   unfold fG;rw[map_map,←b2,map_map];refine List.map_congr_left fun d hd=>?_;simp only[Function.comp];have h1:(qz d).dc=⟨d.id,d.dc.zs.map PR,d.ns⟩:=by simp[qz,Dz.dc,map_map,Function.comp_def,jk,Wz.zn,PR]
   rw[h1,Qj d hd,By];have h2:d.ns=El s.aw d.id:=congrArg Dc.ns (Qj d hd);rw[h2]
  have wG:(D2.map qz).length=s.an.length:=by rw[length_map,←EB]
  exact .inr ⟨hv,rfl,_,_,_,c1,wG,F8⟩
theorem jz (s:Sg)(hs:mh s)(H:List aA)(T:ar):aq Tryz.prog 40 [ec s] H T (Is (.sl (bI s).length (aM (bI s)) .full) H T):=by
 refine aq.nF ?_;refine(pE s hs H T).mono fun r J U h=>?_;rcases h with⟨hv,rfl,hJ,hU⟩|⟨hv,rfl,R,N,D,hS,hl,hd⟩
 ·have hP:bI s=[]:=by unfold bI;rw[hv];rfl
  rw[hP];exact⟨hJ,hU,.keep (.inl rfl) (by simp[kC])⟩
 ·have hP:bI s=D.map Dz.dc:=by unfold bI;rw[hv,hd];rfl
  have IK:=hS.hJ.get (i:=H.length+1) (b:=.cells (eD D)) (by simp);rw[hP,length_map,hl];refine⟨hS.pJ,hS.pU,.TO (by omega) IK (by rw[Bd];exact le_refl _) fun j hj=>Fj hS (Kc hS) j hj⟩
theorem wz (s:Sg)(hs:mh s)(H:List aA)(T:ar):aq Tryz.prog 40 [ec s] H T (Is (.sl (bI s).length (aM (bI s)) .none) H T):=
 aq.cH ((jz s hs H T).mono fun r J U ⟨h1,h2,h3⟩=>⟨⟨[],by simp[h2]⟩,⟨[],by simp[h3]⟩,.inr (by rw[h1];rfl)⟩) (.sl _ _ _ (vl _ _ _) (by simp))
theorem GJ {H J:List aA}{a b:aA}(hp:eT H J)(h0:J[H.length]?=some a)(h1:J[H.length+1]?=some b):∃G,J=(H++[a])++b::G:=by
 obtain⟨X,rfl⟩:=hp;rw[List.getElem?_append_right (le_refl _),sub_self] at h0;rw[List.getElem?_append_right (by omega),show H.length+1-H.length=1 by omega] at h1
 match X,h0,h1 with
 |x::y::G,h0,h1=>
  simp at h0 h1;subst h0;subst h1;exact⟨G,by simp⟩
theorem vI (s:Sg)(hs:mh s)(hv:aP s=true)(H:List aA)(T:ar) :
  aq Tryz.prog 40 [ec s] H T (Is (.bJ (H.length+1) s.an.length s.an.length) (H++[.cells (bH s),.cells (aM (fG s))]) T):=by
 have key:=aq.JE (P:=Tryz.prog) (f:=40) (args:=[ec s]) (H:=H) (T:=T) (n:=s.an.length) (cap:=s.an.length) (vs':=aM (fG s)) (H++[.cells (bH s)]) (by simp) (fun HO=>HO.snoc (by simp)) ?_
 ·simpa using key
 refine(pE s hs H T).mono fun r J U h=>?_;rcases h with⟨qk,_⟩|⟨_,rfl,R,N,D,hS,hl,hd⟩
 ·rw[hv] at qk;cases qk
 ·have h0:=hS.hJ.get (i:=H.length) (b:=.cells (bH s)) (by simp);have h1:=hS.hJ.get (i:=H.length+1) (b:=.cells (eD D)) (by simp);obtain⟨G,hG⟩:=GJ hS.pJ h0 h1;rw[←hd];refine⟨eD D,G,hG,hS.pU,Bd D,fun j hj=>?_,by simp⟩;refine Fj hS (fun x hx=>?_) j hj;have hb:=Kc hS x hx;have lr:=hS.hJ.1;simp only[List.cons_append,List.map_cons,map_append,List.nodup_cons,List.nodup_append] at lr;have n1:x.1≠H.length:=fun e=>lr.1 (by
   rw[←e];simp only[List.mem_append,List.mem_cons];exact .inr (.inr (List.mem_map.2 ⟨x,hx,rfl⟩)))
  have n2:x.1≠H.length+1:=fun e=>lr.2.2.1.1 (by rw[←e];exact List.mem_map.2 ⟨x,hx,rfl⟩);simp only[length_append,List.length_cons,List.length_nil];omega
theorem vH (s:Sg)(hs:mh s)(hv:aP s=false)(H:List aA)(T:ar):aq Tryz.prog 40 [ec s] H T (Is (.sl 0 [] .full) H T):=by
 have h:=jz s hs H T;have hP:bI s=[]:=by unfold bI;rw[hv];rfl
 rw[hP] at h;exact h
end Go.Proofs.YtneohapkboaplaaGreat
namespace eJ
open iF
def np (k:Wd):List Wd→List Wd
 |[]=>[k]
 |x::r=>if x.2<k.2 then x::np k r else k::x::r
def fg (l:List Wd):List Wd:=l.foldl (fun a d=>np d a) []
theorem Fa (x:Wd):∀(d:List Wd)(n:Nat),n≤d.length→(∀j,j<n→(d.getD j w0).2<x.2)→(n<d.length→¬(d.getD n w0).2<x.2)→np x d=d.take n++x::d.drop n
 |[],n,h,_,_=>by
  have:n=0:=by simpa using h
  subst this;rfl
 |y::r,0,_,_,h=>by
  have h1:¬y.2<x.2:=h (by simp);rw[np,if_neg h1];rfl
 |y::r,n+1,h0,h1,h2=>by
  have hy:y.2<x.2:=h1 0 (by omega);rw[np,if_pos hy,Fa x r n (by simpa using h0) (fun j hj=>h1 (j+1) (by omega)) (fun hn=>h2 (by simpa using hn))];rfl
theorem B3 (l:List Wd)(x:Wd):fg (l++[x])=np x (fg l):=by simp[fg]
theorem xF (k:Wd)(l:List Wd):(np k l).Perm (k::l):=by
 induction l with
 |nil=>exact .refl _
 |cons x r ih=>
  unfold np
  split
  ·exact(ih.cons x).trans (.swap _ _ _)
  ·exact .refl _
theorem Lc (k:Wd){l:List Wd}(h:l.Pairwise fun x y=>x.2≤y.2):(np k l).Pairwise fun x y=>x.2≤y.2:=by
 induction l with
 |nil=>simp[np]
 |cons x r ih=>
  have ⟨h1,h2⟩:=List.pairwise_cons.1 h;unfold np
  split
  ·rename_i hx;refine List.pairwise_cons.2 ⟨fun y hy=>?_,ih h2⟩;rcases List.mem_cons.1 ((xF k r).mem_iff.1 hy) with rfl|hy
   ·omega
   ·exact h1 y hy
  ·rename_i hx;refine List.pairwise_cons.2 ⟨fun y hy=>?_,h⟩;rcases List.mem_cons.1 hy with rfl|hy
   ·omega
   ·have:=h1 y hy;omega
theorem oD (l:List Wd):(fg l).Perm l∧(fg l).Pairwise fun x y=>x.2≤y.2:=by
 have key:∀(l a:List Wd),(a.Pairwise fun x y=>x.2≤y.2)→(l.foldl (fun a d=>np d a) a).Perm (l++a)∧(l.foldl (fun a d=>np d a) a).Pairwise fun x y=>x.2≤y.2:=by
  intro l
  induction l with
  |nil=>intro a h;exact⟨.refl _,h⟩
  |cons d r ih=>
   intro a h;obtain⟨h1,h2⟩:=ih (np d a) (Lc d h);exact⟨h1.trans (((xF d a).append_left r).trans List.perm_middle),h2⟩
 have:=key l [] .nil;rw[append_nil] at this;exact this
theorem iY (l:List Wd):(gw l).Perm l∧(gw l).Pairwise fun x y=>x.2≤y.2:=by
 refine⟨List.mergeSort_perm _ _,?_⟩;have:=List.pairwise_mergeSort (le:=fun x y:Wd=>!(decide (y.2<x.2))) (fun a b c h1 h2=>by simp at *;omega) (fun a b=>by simp;omega) l;exact this.imp fun h=>by simpa using h
theorem BZ {l a b:List Wd}(hd:l.Pairwise fun x y=>x.2≠y.2)(ha:a.Perm l)(hb:b.Perm l)(oa:a.Pairwise fun x y=>x.2≤y.2)(ob:b.Pairwise fun x y=>x.2≤y.2):a=b:=by
 have sym:∀x y:Wd,x.2≠y.2→y.2≠x.2:=fun _ _ h e=>h e.symm;have st:∀{c:List Wd},c.Perm l→(c.Pairwise fun x y=>x.2≤y.2)→c.Pairwise fun x y=>x.2<y.2:=fun hp ho=>(ho.and ((hp.pairwise_iff (fun {x y} h=>sym x y h)).2 hd)).imp fun⟨h1,h2⟩=>by omega
 refine List.Perm.eq_of_pairwise (le:=fun x y:Wd=>x.2<y.2) (fun x y _ _ h1 h2=>by omega) (st ha oa) (st hb ob) (ha.trans hb.symm)
theorem HN {l:List Wd}(hd:l.Pairwise fun x y=>x.2≠y.2):fg l=gw l:=
 BZ hd (oD l).1 (iY l).1 (oD l).2 (iY l).2
end eJ
namespace Go.Proofs.YtneohapkboaplaaGreat
open Go Go.Am iF dh eJ
def wB (d f:Int)(t:Tm):List Wd:=if t.f=f then (posOf t.l d).map fun a=>(t.w,a) else []
theorem BV (s : Sg) (hs : mh s) (d f : Int) (H : List aA) (T : ar) : aq Tryz.prog 104 [ec s, .int .i64 d, .int .i64 f] H T (Is (.sl (fg (s.aK.flatMap (wB d f))).length (cJ (fg (s.aK.flatMap (wB d f)))) .none) H T) := by
  refine aq.cH ?_ (by simp);obtain ⟨an, ts, aw⟩ := s;obtain ⟨sd, st, sw, sc, sx⟩ := hs;simp only at sd st sw sc sx;have pg : ts.length ≤ 9223372036854775807 := by omega
  have Qk : ∀ i, i ≤ ts.length → ((ts.take i).flatMap (wB d f)).length ≤ 400 * i := by
    intro i
    induction i with
    | zero => intro _; simp
    | succ i ih =>
      intro hi
      have h1 := ih (by omega)
      rw [bf ts i t0 (by omega), flatMap_append, length_append]
      have h2 : (wB d f (ts.getD i t0)).length ≤ 400 := by
        unfold wB
        split
        · rw [length_map]; exact Hl (fun p hp => (sw _ (aR ts i t0 (by omega))).2.2 p hp) d
        · simp
      simp only [flatMap_cons, List.flatMap_nil, append_nil]
      omega
  refine aj 12 [] Tryz.ntmps104 Tryz.func104 rfl (fun _ _ => Tryz.call104 _ _) (by simp) (fun HO => ?_);have eX : bC (H ++ [.cells (bH ⟨an, ts, aw⟩)]) T := HO.snoc (by simp);simp only at eX ⊢;refine ae fun K hK => ?_; simp (maxSteps := 1000000) (disch := omega) [-getD_eq_getElem?_getD]; refine hK _ ?_; clear hK K;refine ae fun K hK => ?_; simp (maxSteps := 1000000) (disch := omega) [-getD_eq_getElem?_getD]; refine hK _ ?_; clear hK K;refine af fun K1 aQ => ?_;refine ae fun K hK => ?_; simp (maxSteps := 1000000) (disch := omega) [-getD_eq_getElem?_getD]; refine hK _ ?_; clear hK K;apply ah;refine aG (X := Nat) (fun i => ⟨[(3, .ptr H.length 0), (1, .int .i64 d), (2, .int .i64 f), (7, .sl (fg ((ts.take i).flatMap (wB d f))).length (cJ (fg ((ts.take i).flatMap (wB d f)))) .none), (8, .int .i64 (i : Nat))], H ++ [.cells (bH ⟨an, ts, aw⟩)], T⟩)
    (fun i => i ≤ ts.length) (fun i => ts.length - i) 0 ?_ ?_ ?_
  · exact zero_le _
  · refine ag [] [] ?_ ?_ ?_ ?_ eX ?_
    all_goals simp [fg, Ao]
  · intro i h1;refine af fun K2 aW => ?_;refine ae fun K hK => ?_; simp (maxSteps := 1000000) (disch := omega) [-getD_eq_getElem?_getD]; refine hK _ ?_; clear hK K;refine aN rfl (fun hk => ?_) (fun hk => ?_)
    · simp [-getD_eq_getElem?_getD] at hk;obtain ⟨Jl, aaM, aaL⟩ := qI ts i hk;have Pp := aR ts i t0 hk;have hw := sw _ Pp;have oG := jY ts (wB d f) t0 i hk;have oI := Qk (i + 1) (by omega);rw [oG] at oI;have cA := fun H T => Kg (ts.getD i t0).l d (by omega) H T .none;have Mk : wB d f (ts.getD i t0) = if (ts.getD i t0).f = f then (posOf (ts.getD i t0).l d).map (fun a => ((ts.getD i t0).w, a)) else [] := rfl
      generalize (ts.take i).flatMap (wB d f) = pre at *;generalize wB d f (ts.getD i t0) = il at *;generalize ts.getD i t0 = t at *;apply ai; simp (maxSteps := 1000000) (disch := omega) [-getD_eq_getElem?_getD];refine aW _ ?_; clear aW;refine af fun K3 bz => ?_;apply ah;refine af fun K4 eV => ?_
      by_cases hf : t.f = f
      rotate_left
      · have bd : (t.f != f) = true := by simpa using hf
        rw [if_neg hf] at Mk;refine ae fun K hK => ?_; simp (maxSteps := 1000000) (disch := omega) [-getD_eq_getElem?_getD, Jl, bU, hk, bd]; refine hK _ ?_; clear hK K;refine aN rfl (fun h => ?_) (fun h => absurd h (by simp));apply aC; simp (maxSteps := 1000000) (disch := omega) [-getD_eq_getElem?_getD];refine bz _ ?_; clear bz;refine au fun K hK => ?_; simp (maxSteps := 1000000) (disch := omega) [-getD_eq_getElem?_getD];refine hK _ ?_; clear hK K;refine ⟨i + 1, by show i + 1 ≤ _; omega, by show ts.length - (i + 1) < ts.length - i; omega, ?_⟩;simp only [oG, Mk, append_nil];refine ag [] [] ?_ ?_ ?_ ?_ eX ?_
        all_goals simp
      have bd : (t.f != f) = false := by simpa using hf
      rw [if_pos hf] at Mk;refine ae fun K hK => ?_; simp (maxSteps := 1000000) (disch := omega) [-getD_eq_getElem?_getD, Jl, bU, hk, bd]; refine hK _ ?_; clear hK K;refine aN rfl (fun h => absurd h (by simp)) (fun h => ?_);apply ai; simp (maxSteps := 1000000) (disch := omega) [-getD_eq_getElem?_getD];refine eV _ ?_; clear eV;have cC : il.length = (posOf t.l d).length := by rw [Mk, length_map]
      have Zw : ∀ m, m < (posOf t.l d).length → il.getD m w0 = (t.w, (posOf t.l d).getD m 0) := fun m hm => by
        rw [Mk, getD_eq_getElem?_getD, List.getElem?_map, getD_eq_getElem?_getD, List.getElem?_eq_getElem hm]; rfl
      generalize posOf t.l d = nl at *;have zA : nl.length ≤ 1000000 := by rw [length_append] at oI; omega
      refine ae fun K hK => ?_; simp (maxSteps := 1000000) (disch := omega) [-getD_eq_getElem?_getD, aaL, bU, hk];refine ak (cA _ _) ?_; simp (maxSteps := 1000000) (disch := omega) [-getD_eq_getElem?_getD];refine hK _ ?_; clear hK K;refine ae fun K hK => ?_; simp (maxSteps := 1000000) (disch := omega) [-getD_eq_getElem?_getD]; refine hK _ ?_; clear hK K;apply ah;refine aG (X := Nat) (fun m => ⟨[(3, .ptr H.length 0), (1, .int .i64 d), (2, .int .i64 f), (7, .sl (fg (pre ++ il.take m)).length (cJ (fg (pre ++ il.take m))) .none), (8, .int .i64 (i : Nat)), (9, .sl nl.length (ints nl) .none), (10, .int .i64 (m : Nat))], H ++ [.cells (bH ⟨an, ts, aw⟩)], T⟩)
        (fun m => m ≤ nl.length) (fun m => nl.length - m) 0 ?_ ?_ ?_
      · exact zero_le _
      · refine ag [] [] ?_ ?_ ?_ ?_ eX ?_
        all_goals simp
      · intro m FI;refine af fun K4 eV => ?_;refine ae fun K hK => ?_; simp (maxSteps := 1000000) (disch := omega) [-getD_eq_getElem?_getD]; refine hK _ ?_; clear hK K;refine aN rfl (fun hm => ?_) (fun hm => ?_)
        · simp [-getD_eq_getElem?_getD] at hm;have CO := aS hm;have Jh : pre ++ il.take (m + 1) = (pre ++ il.take m) ++ [(t.w, nl.getD m 0)] := by rw [bf il m w0 (by omega), Zw m hm, append_assoc]
          have aaF : (fg (pre ++ il.take m)).length ≤ 1000000 := by rw [(oD _).1.length_eq, length_append, length_take]; rw [length_append] at oI; omega
          generalize pre ++ il.take m = pm at *;have Jg : fg (pre ++ il.take (m + 1)) = np (t.w, nl.getD m 0) (fg pm) := by rw [Jh]; exact B3 _ _
          generalize fg pm = dd at *;generalize nl.getD m 0 = nv at *;have acn : m < (ints nl).length := by simpa using hm
          apply ai; simp (maxSteps := 1000000) (disch := omega) [-getD_eq_getElem?_getD];refine eV _ ?_; clear eV;refine af fun K5 gC => ?_;apply ah;refine ae fun K hK => ?_; simp (maxSteps := 1000000) (disch := omega) [-getD_eq_getElem?_getD]; refine hK _ ?_; clear hK K;refine af fun K6 iH => ?_;apply ah;refine aG (X := Nat) (fun n => ⟨[(3, .ptr H.length 0), (1, .int .i64 d), (2, .int .i64 f), (7, .sl dd.length (cJ dd) .none), (8, .int .i64 (i : Nat)), (9, .sl nl.length (ints nl) .none), (10, .int .i64 (m : Nat)), (11, .int .i64 (n : Nat))], H ++ [.cells (bH ⟨an, ts, aw⟩)], T⟩)
            (fun n => n ≤ dd.length ∧ ∀ j, j < n → (dd.getD j w0).2 < nv) (fun n => dd.length - n) 0 ?_ ?_ ?_
          · exact ⟨zero_le _, fun j hj => absurd hj (Nat.not_lt_zero _)⟩
          · refine ag [] [] ?_ ?_ ?_ ?_ eX ?_
            all_goals simp
          · rintro n ⟨zp, wF⟩;have go : (n < dd.length → ¬ (dd.getD n w0).2 < nv) → ∀ e, bt (H.length + 1) T.length e [(3, .ptr H.length 0), (1, .int .i64 d), (2, .int .i64 f), (7, .sl dd.length (cJ dd) .none), (8, .int .i64 (i : Nat)), (9, .sl nl.length (ints nl) .none), (10, .int .i64 (m : Nat)), (11, .int .i64 (n : Nat))] →
                K6 ⟨e, H ++ [.cells (bH ⟨an, ts, aw⟩)], T⟩ := by
              intro sY e he;have uk := Fa (t.w, nv) dd n zp wF sY;refine iH _ (aH ⟨[(3, .ptr H.length 0), (1, .int .i64 d), (2, .int .i64 f), (7, .sl dd.length (cJ dd) .none), (8, .int .i64 (i : Nat)), (9, .sl nl.length (ints nl) .none), (10, .int .i64 (m : Nat)), (11, .int .i64 (n : Nat))], H ++ [.cells (bH ⟨an, ts, aw⟩)], T⟩ (ag [] [] (by simp) (by simp) (by simp) (by simp) eX (by simpa using he)) ?_);have ht := Nj dd n;have oH := Gu dd n;have aZ : (cJ (dd.take n)).length = n * 2 := by rw [dV, length_take]; omega
              have Oz : (cJ (dd.drop n)).length = (dd.length - n) * 2 := by rw [dV, List.length_drop]
              have eN : (cJ (dd.drop n)).take ((dd.length - n) * 2) = cJ (dd.drop n) := by rw [← Oz, take_length]
              have tt : cJ (dd.take n) ++ .str t.w :: .int .i64 nv :: cJ (dd.drop n) = cJ (np (t.w, nv) dd) := by rw [uk]; simp [cJ]
              have hlen : n + 1 + (dd.length - n) = (np (t.w, nv) dd).length := by rw [uk]; simp; omega
              refine bZ [4, 17, 21] [0, 0, 0, 0, 0, 0, 0, 0, 0, 0, 0, 0, 0, 0, 0, 0, 0, 1, 0, 0, 0, 2, 3] [[], [], []] al (by kernel_rfl) (by kernel_rfl) fun K hK => ?_; simp (maxSteps := 1000000) (disch := omega) [-getD_eq_getElem?_getD, dR, dV, ht, oH, aZ, Oz, eN, aaM, bU, hk, CO];rw [tt, hlen];refine hK _ ?_;refine gC _ ?_; clear gC;refine au fun K hK => ?_; simp (maxSteps := 1000000) (disch := omega) [-getD_eq_getElem?_getD];refine hK _ ?_; clear hK K;refine ⟨m + 1, by show m + 1 ≤ _; omega, by show nl.length - (m + 1) < nl.length - m; omega, ?_⟩;simp only [Jg];refine ag [] [((np (t.w, nv) dd).length * 2, 2)] ?_ ?_ ?_ ?_ eX ?_
              all_goals simp
            clear iH;refine af fun K7 IZ => ?_
            by_cases sY : n < dd.length
            · have Ab := (tM dd n sY).2;have eM : (dd.getD n w0).2 < nv → ∀ j, j < n + 1 → (dd.getD j w0).2 < nv := fun h j hj => by
                rcases Nat.lt_or_ge j n with h3 | h3
                · exact wF j h3
                · have : j = n := by omega
                  subst this; exact h
              generalize dd.getD n w0 = y at *;have b4 : decide ((n : Int) < dd.length) = true := decide_eq_true (by omega)
              by_cases ha : y.2 < nv
              · have b5 : decide (y.2 < nv) = true := decide_eq_true ha;refine aI [] [] [] al (by kernel_rfl) (by kernel_rfl) fun K hK => ?_; simp (maxSteps := 1000000) (disch := omega) [-getD_eq_getElem?_getD, b4, sY, Ab, dV, CO, b5];refine hK _ ?_; clear hK K;refine aN rfl (fun h => ?_) (fun h => absurd h (by simp));apply ai; simp (maxSteps := 1000000) (disch := omega) [-getD_eq_getElem?_getD];refine IZ _ ?_; clear IZ;apply ah;refine au fun K hK => ?_; simp (maxSteps := 1000000) (disch := omega) [-getD_eq_getElem?_getD];refine hK _ ?_; clear hK K;refine ⟨n + 1, ⟨by show n + 1 ≤ _; omega, eM ha⟩, by show dd.length - (n + 1) < dd.length - n; omega, ?_⟩;refine ag [] [] ?_ ?_ ?_ ?_ eX ?_
                all_goals simp
              · have b5 : decide (y.2 < nv) = false := decide_eq_false ha;refine aI [] [] [] al (by kernel_rfl) (by kernel_rfl) fun K hK => ?_; simp (maxSteps := 1000000) (disch := omega) [-getD_eq_getElem?_getD, b4, sY, Ab, dV, CO, b5];refine hK _ ?_; clear hK K;refine aN rfl (fun h => absurd h (by simp)) (fun h => ?_);apply aC; simp (maxSteps := 1000000) (disch := omega) [-getD_eq_getElem?_getD];refine go (fun _ => ha) _ ?_;simp
            · have b4 : decide ((n : Int) < dd.length) = false := decide_eq_false (by omega);refine aI [] [] [] al (by kernel_rfl) (by kernel_rfl) fun K hK => ?_; simp (maxSteps := 1000000) (disch := omega) [-getD_eq_getElem?_getD, b4, sY];refine hK _ ?_; clear hK K;refine aN rfl (fun h => absurd h (by simp)) (fun h => ?_);apply aC; simp (maxSteps := 1000000) (disch := omega) [-getD_eq_getElem?_getD];refine go (fun h => absurd h sY) _ ?_;simp
        · simp [-getD_eq_getElem?_getD] at hm;have e : m = nl.length := by omega
          subst e;rw [← cC, take_length];apply aC; simp (maxSteps := 1000000) (disch := omega) [-getD_eq_getElem?_getD];refine bz _ ?_; clear bz;refine au fun K hK => ?_; simp (maxSteps := 1000000) (disch := omega) [-getD_eq_getElem?_getD];refine hK _ ?_; clear hK K;refine ⟨i + 1, by show i + 1 ≤ _; omega, by show ts.length - (i + 1) < ts.length - i; omega, ?_⟩;simp only [oG];refine ag [] [] ?_ ?_ ?_ ?_ eX ?_
          all_goals simp
    · simp [-getD_eq_getElem?_getD] at hk;have tJ : i = ts.length := by omega
      subst tJ;rw [take_length];apply aC; simp (maxSteps := 1000000) (disch := omega) [-getD_eq_getElem?_getD];refine aQ _ ?_; clear aQ;refine ae fun K hK => ?_; simp (maxSteps := 1000000) (disch := omega) [-getD_eq_getElem?_getD]; refine hK _ ?_; clear hK K;apply az; simp (maxSteps := 1000000) (disch := omega) [-getD_eq_getElem?_getD]
def zT (g:Int→List Wd)(k:Nat):List Zn:=(List.range k).flatMap fun j=>if g (1+(j:Nat))=[] then [] else [⟨1+(j:Nat),g (1+(j:Nat))⟩]
theorem EV (g:Int→List Wd):zT g 4=bP g:=by
 simp[zT,bP,range_succ]
theorem EU (g:Int→List Wd)(k:Nat):zT g (k+1)=zT g k++if g (1+(k:Nat))=[] then [] else [⟨1+(k:Nat),g (1+(k:Nat))⟩]:=by
 simp[zT,range_succ]
theorem JN (g:Int→List Wd)(k:Nat):(zT g k).length≤k:=by
 induction k with
 |zero=>simp[zT]
 |succ k ih=>rw[EU,length_append];split<;>simp<;>omega
def lu (s:Sg)(id f:Int):List Wd:=fg (s.aK.flatMap (wB id f))
def ny (id:Int)(c:Cl):List Nm:=(c.x.filter fun y=>y.2==id).map fun y=>(c.f,y.1)
def wb (s:Sg)(id:Int):Dc:=⟨id,bP (lu s id),s.aw.flatMap (ny id)⟩
def kY (s:Sg):List Dc:=if aP s=true then s.an.map (wb s) else []
abbrev dB (id:Int)(zs:List Zn)(ns:List Nm)(t:Nat):aA:=.cells [.int .i64 id,.sl zs.length (dS zs) (.own t),.sl ns.length (aU ns) (.own (t+1))]
abbrev dT (zs:List Zn)(ns:List Nm):List (Nat×Nat):=[(zs.length*2,2),(ns.length*2,2)]
attribute [-simp] getD_eq_getElem?_getD in
theorem Dw (s:Sg)(hs:mh s)(id:Int)(vo:AV)(i tb:Nat)(H:List aA)(T:ar)(eS:tb≤T.length)(hb:Below H.length T.length vo)(HO:bC (H++[.cells (bH s),dB id [] [] T.length]) (T++dT [] []))(Q:Exit→St→Prop)
  (go:∀e,bC (H++[.cells (bH s),dB id (bP (lu s id)) [] T.length]) (T++dT (bP (lu s id)) [])→bt (H.length+2) (T.length+2) e [(1,.ptr H.length 0),(3,vo),(4,.int .i64 (i:Nat)),(5,.ptr (H.length+1) 0)]→Q .normal ⟨e,H++[.cells (bH s),dB id (bP (lu s id)) [] T.length],T++dT (bP (lu s id)) []⟩) :
  AW ⟨Tryz.prog,104,10,H.length,tb,[]⟩ (du [1,1,1,0,1,0,0,1,0,0,1,0] (Tryz.f41.body.getD .skip)) Q ⟨[(1,.ptr H.length 0),(3,vo),(4,.int .i64 (i:Nat)),(5,.ptr (H.length+1) 0)],H++[.cells (bH s),dB id [] [] T.length],T++dT [] []⟩:=by
 conv=>arg 2;whnf
 have cw:=fun f H T=>BV s hs id f H T;apply ae;intro K h;simp(disch:=omega);apply h;clear h K;apply ah;refine aG (X:=Nat) (fun k=>⟨[(1,.ptr H.length 0),(3,vo),(4,.int .i64 (i:Nat)),(5,.ptr (H.length+1) 0),(6,.int .i64 (1+(k:Nat)))],H++[.cells (bH s),dB id (zT (lu s id) k) [] T.length],T++dT (zT (lu s id) k) []⟩)
  (fun k=>k≤4∧bC (H++[.cells (bH s),dB id (zT (lu s id) k) [] T.length]) (T++dT (zT (lu s id) k) [])) (fun k=>4-k) 0 ?_ ?_ ?_
 ·exact⟨zero_le _,by simpa[zT] using HO⟩
 ·refine ag [] [] ?_ ?_ ?_ ?_ (by simpa[zT] using HO) ?_
  all_goals simp[zT]
  all_goals first|omega|exact hb.more (by omega) (by omega)|exact⟨hb.more (by omega) (by omega),by omega⟩
 ·rintro k ⟨k1,dy⟩;have vR:=JN (lu s id) k;have Pr:=EU (lu s id) k;have cwk:=fun H T=>cw (1+(k:Nat)) H T;have Zh:lu s id (1+(k:Nat))=fg (s.aK.flatMap (wB id (1+(k:Nat)))):=rfl;rw[←Zh] at cwk;generalize rv:zT (lu s id) k=zs at *;generalize lu s id (1+(k:Nat))=ws at *;refine af fun K2 aW=>?_
  by_cases hk:k<4
  ·have bk:decide ((1:Int)+k≤4)=true:=decide_eq_true (by omega);refine ae fun K hK=>?_;simp(disch:=omega)[bk];apply hK;clear hK K;apply aF rfl;apply ai;simp(disch:=omega) ;apply aW;clear aW;refine af fun K3 bz=>?_;apply ah;refine ae fun K hK=>?_;simp(disch:=omega) ;refine ak (cwk _ _) ?_;simp(disch:=omega) ;apply hK;clear hK K
   by_cases hw:ws=[]
   ·subst hw;rw[if_pos rfl,append_nil] at Pr;apply ae;intro K h;simp(disch:=omega);apply h;clear h K;apply aD rfl;apply ai;simp(disch:=omega) ;apply bz;clear bz;refine au fun K hK=>?_;simp(disch:=omega) ;apply hK;clear hK K;refine⟨k+1,⟨by omega,by rw[Pr];exact dy⟩,by omega,?_⟩;simp only[Pr];refine ag [] [] ?_ ?_ ?_ ?_ dy ?_
    all_goals simp
    all_goals first|omega|exact hb.more (by omega) (by omega)|exact⟨hb.more (by omega) (by omega),by omega⟩
   ·have ua:0<ws.length:=List.length_pos_iff.2 hw;have bw:decide ((0:Int)<ws.length)=true:=decide_eq_true (by omega);rw[if_neg hw] at Pr;refine ae fun K hK=>?_;simp(disch:=omega)[bw];apply hK;clear hK K;refine aN rfl (fun h=>?_) (fun h=>absurd h (by simp[hw]));refine au fun K hK=>?_;simp(disch:=omega)[fm];apply hK;clear hK K;refine bz _ (cZ fun nG=>?_);simp only at nG;have zq:aA.cells [AV.int IntKind.i64 id,AV.sl (zs.length+1) (dS zs++[AV.int IntKind.i64 (1+(k:Nat)),AV.sl ws.length (cJ ws) Tag.none]) (Tag.own T.length),AV.sl 0 (aU []) (Tag.own (T.length+1))]=dB id (zs++[⟨1+(k:Nat),ws⟩]) [] T.length:=by simp[dB,←Gm]
    have eN:T++[((zs.length+1)*2,2),(0,2)]=T++dT (zs++[⟨1+(k:Nat),ws⟩]) []:=by simp[dT]
    rw[zq,eN] at nG ⊢;rw[←Pr] at nG ⊢;refine au fun K hK=>?_;simp(disch:=omega) ;apply hK;clear hK K;refine⟨k+1,⟨by omega,nG⟩,by omega,?_⟩;refine ag [] [] ?_ ?_ ?_ ?_ nG ?_
    all_goals simp
    all_goals first|omega|exact hb.more (by omega) (by omega)|exact⟨hb.more (by omega) (by omega),by omega⟩
  ·have Zv:k=4:=by omega
   subst Zv;have bk:decide ((1:Int)+(4:Nat)≤4)=false:=by decide
   refine ae fun K hK=>?_;simp(disch:=omega)[bk];apply hK;clear hK K;apply aD rfl;apply aC;simp(disch:=omega) ;rw[←rv,EV] at dy ⊢;refine go _ dy ?_;simp;exact hb.more (by omega) (by omega)
attribute [-simp] getD_eq_getElem?_getD in
theorem Hc (s:Sg)(hs:mh s)(id:Int)(vo:AV)(i tb:Nat)(zs:List Zn)(H:List aA)(T:ar)(eS:tb≤T.length)(hb:Below H.length T.length vo)(HO:bC (H++[.cells (bH s),dB id zs [] T.length]) (T++dT zs []))(Q:Exit→St→Prop)
  (go:∀e,bC (H++[.cells (bH s),dB id zs (s.aw.flatMap (ny id)) T.length]) (T++dT zs (s.aw.flatMap (ny id)))→bt (H.length+2) (T.length+2) e [(1,.ptr H.length 0),(3,vo),(4,.int .i64 (i:Nat)),(5,.ptr (H.length+1) 0)]→Q .normal ⟨e,H++[.cells (bH s),dB id zs (s.aw.flatMap (ny id)) T.length],T++dT zs (s.aw.flatMap (ny id))⟩) :
  AW ⟨Tryz.prog,104,10,H.length,tb,[]⟩ (du [1,1,1,0,1,0,0,1,0,0,1,1,0] (Tryz.f41.body.getD .skip)) Q ⟨[(1,.ptr H.length 0),(3,vo),(4,.int .i64 (i:Nat)),(5,.ptr (H.length+1) 0)],H++[.cells (bH s),dB id zs [] T.length],T++dT zs []⟩:=by
 conv=>arg 2;whnf
 obtain⟨an,ts,aw⟩:=s;obtain⟨sd,st,sw,sc,sx⟩:=hs;simp only at sd st sw sc sx go HO ⊢;have Qk:∀j,j≤aw.length→((aw.take j).flatMap (ny id)).length≤1000*j:=by
  intro j
  induction j with
  |zero=>intro _;simp
  |succ j ih=>
   intro hj;have h1:=ih (by omega);rw[bf aw j c0 (by omega),flatMap_append,length_append];have h2:(ny id (aw.getD j c0)).length≤1000:=by
    unfold ny;rw[length_map];exact Nat.le_trans (List.length_filter_le _ _) (sx _ (aR aw j c0 (by omega)))
   simp only[flatMap_cons,List.flatMap_nil,append_nil];omega
 apply ae;intro K h;simp(disch:=omega);apply h;clear h K;apply ah;refine aG (X:=Nat) (fun j=>⟨[(1,.ptr H.length 0),(3,vo),(4,.int .i64 (i:Nat)),(5,.ptr (H.length+1) 0),(8,.int .i64 (j:Nat))],H++[.cells (bH ⟨an,ts,aw⟩),dB id zs ((aw.take j).flatMap (ny id)) T.length],T++dT zs ((aw.take j).flatMap (ny id))⟩)
  (fun j=>j≤aw.length∧bC (H++[.cells (bH ⟨an,ts,aw⟩),dB id zs ((aw.take j).flatMap (ny id)) T.length]) (T++dT zs ((aw.take j).flatMap (ny id)))) (fun j=>aw.length-j) 0 ?_ ?_ ?_
 ·exact⟨zero_le _,by simpa using HO⟩
 ·refine ag [] [] ?_ ?_ ?_ ?_ (by simpa using HO) ?_
  all_goals simp
  all_goals first|omega|exact hb.more (by omega) (by omega)|exact⟨hb.more (by omega) (by omega),by omega⟩
 ·rintro j ⟨j1,dy⟩;refine af fun K2 aW=>?_;apply ae;intro K h;simp(disch:=omega);apply h;clear h K;refine aN rfl (fun hk=>?_) (fun hk=>?_)
  ·simp  at hk;have zM:=oN aw j hk;have kL:(aw.take (j+1)).flatMap (ny id)=(aw.take j).flatMap (ny id)++ny id (aw.getD j c0):=jY aw (ny id) c0 j hk;have oI:=Qk j j1;have vT:=sx _ (aR aw j c0 hk);generalize tu:(aw.take j).flatMap (ny id)=pre at *;generalize aw.getD j c0=c at *;obtain⟨cf,x⟩:=c;simp only at zM vT;obtain⟨nD,jg⟩:=zM;have Rn:ny id ⟨cf,x⟩=(x.filter fun y=>y.2==id).map fun y=>(cf,y.1):=rfl;apply ai;simp(disch:=omega) ;apply aW;clear aW;refine af fun K3 bz=>?_;apply ah;apply ae;intro K h;simp(disch:=omega);apply h;clear h K;apply ah;refine aG (X:=Nat) (fun m=>⟨[(1,.ptr H.length 0),(3,vo),(4,.int .i64 (i:Nat)),(5,.ptr (H.length+1) 0),(8,.int .i64 (j:Nat)),(9,.int .i64 (m:Nat))],H++[.cells (bH ⟨an,ts,aw⟩),dB id zs (pre++ny id ⟨cf,x.take m⟩) T.length],T++dT zs (pre++ny id ⟨cf,x.take m⟩)⟩)
    (fun m=>m≤x.length∧bC (H++[.cells (bH ⟨an,ts,aw⟩),dB id zs (pre++ny id ⟨cf,x.take m⟩) T.length]) (T++dT zs (pre++ny id ⟨cf,x.take m⟩))) (fun m=>x.length-m) 0 ?_ ?_ ?_
   ·exact⟨zero_le _,by simpa[ny] using dy⟩
   ·refine ag [] [] ?_ ?_ ?_ ?_ (by simpa[ny] using dy) ?_
    all_goals simp[ny]
    all_goals first|omega|exact hb.more (by omega) (by omega)|exact⟨hb.more (by omega) (by omega),by omega⟩
   ·rintro m ⟨m1,nG⟩;refine af fun K4 eV=>?_;refine ae fun K hK=>?_;simp(disch:=omega)[jg,cE,hk];apply hK;clear hK K;refine aN rfl (fun hm=>?_) (fun hm=>?_)
    ·simp  at hm;obtain⟨W7,dY⟩:=E0 x m hm;have Pr:ny id ⟨cf,x.take (m+1)⟩=ny id ⟨cf,x.take m⟩++if (x.getD m n0).2=id then [(cf,(x.getD m n0).1)] else []:=by
      unfold ny;rw[bf x m n0 hm,filter_append,map_append]
      congr 1
      by_cases h:(x.getD m n0).2=id
      ·rw[if_pos h,List.filter_cons_of_pos (by simpa using h)];rfl
      ·rw[if_neg h,List.filter_cons_of_neg (by simpa using h)];rfl
     have CC:(pre++ny id ⟨cf,x.take m⟩).length≤2000000:=by
      rw[length_append];have:(ny id ⟨cf,x.take m⟩).length≤1000:=by
       unfold ny;rw[length_map];refine Nat.le_trans (List.length_filter_le _ _) ?_;rw[length_take];omega
      omega
     have pt:pre++ny id ⟨cf,x.take (m+1)⟩=(pre++ny id ⟨cf,x.take m⟩)++if (x.getD m n0).2=id then [(cf,(x.getD m n0).1)] else []:=by rw[Pr,append_assoc]
     generalize pre++ny id ⟨cf,x.take m⟩=ns at *;generalize x.getD m n0=y at *;obtain⟨yn,yd⟩:=y;simp only at W7 dY pt;apply ai;simp(disch:=omega) ;apply eV;clear eV;refine af fun K4 eV=>?_;apply ah
     by_cases hd:yd=id
     ·rw[if_pos hd] at pt;have bd:(yd==id)=true:=by simpa using hd
      refine aI [] [] [] al (by kernel_rfl) (by kernel_rfl) fun K hK=>?_;simp(disch:=omega)[nD,jg,cE,bG,hk,hm,W7,dY,bd];refine hK _ ?_;apply aF rfl;refine bZ [20,22] [0,0,0,0,0,0,0,0,0,0,0,0,0,0,0,0,0,0,0,0,0,1,1] [[0,1],[]] al (by kernel_rfl) (by kernel_rfl) fun K hK=>?_;simp(disch:=omega)[nD,jg,cE,bG,hk,hm,W7,dY];refine hK _ ?_;refine eV _ (cZ fun wL=>?_);simp only at wL;have pG:=oV ns (cf,yn);simp only at pG;have zq:aA.cells [AV.int IntKind.i64 id,AV.sl zs.length (dS zs) (Tag.own T.length),AV.sl (ns.length+1) (aU ns++[AV.int IntKind.i64 cf,AV.int IntKind.i64 yn]) (Tag.own (T.length+1))]=dB id zs (ns++[(cf,yn)]) T.length:=by rw[pG];simp[dB]
      have eN:T++[(zs.length*2,2),((ns.length+1)*2,2)]=T++dT zs (ns++[(cf,yn)]):=by simp[dT]
      rw[zq,eN] at wL ⊢;rw[←pt] at wL ⊢;refine au fun K hK=>?_;simp(disch:=omega) ;apply hK;clear hK K;refine⟨m+1,⟨by omega,wL⟩,by omega,?_⟩;refine ag [] [] ?_ ?_ ?_ ?_ wL ?_
      all_goals simp
      all_goals first|omega|exact hb.more (by omega) (by omega)|exact⟨hb.more (by omega) (by omega),by omega⟩
     ·rw[if_neg hd,append_nil] at pt;have bd:(yd==id)=false:=by simpa using hd
      refine aI [] [] [] al (by kernel_rfl) (by kernel_rfl) fun K hK=>?_;simp(disch:=omega)[nD,jg,cE,bG,hk,hm,W7,dY,bd];refine hK _ ?_;apply aD rfl;apply ai;simp(disch:=omega) ;apply eV;clear eV;refine au fun K hK=>?_;simp(disch:=omega) ;apply hK;clear hK K;refine⟨m+1,⟨by omega,by rw[pt];exact nG⟩,by omega,?_⟩;simp only[pt];refine ag [] [] ?_ ?_ ?_ ?_ nG ?_
      all_goals simp
      all_goals first|omega|exact hb.more (by omega) (by omega)|exact⟨hb.more (by omega) (by omega),by omega⟩
    ·simp  at hm;have e:m=x.length:=by omega
     subst e;rw[take_length] at nG ⊢;apply aC;simp(disch:=omega) ;apply bz;clear bz;refine au fun K hK=>?_;simp(disch:=omega) ;apply hK;clear hK K;refine⟨j+1,⟨by omega,by rw[kL];exact nG⟩,by omega,?_⟩;simp only[kL];refine ag [] [] ?_ ?_ ?_ ?_ nG ?_
     all_goals simp
     all_goals first|omega|exact hb.more (by omega) (by omega)|exact⟨hb.more (by omega) (by omega),by omega⟩
  ·simp  at hk;have ID:j=aw.length:=by omega
   subst ID;rw[take_length] at dy ⊢;apply aC;simp(disch:=omega) ;refine go _ dy ?_;simp;exact hb.more (by omega) (by omega)
def RQ (s:Sg)(H:List aA)(T:ar):AV→List aA→ar→Prop:=fun r J U=>
 (aP s=false∧r=.sl 0 [] .full∧eT H J∧eT T U)∨
 (aP s=true∧∃oc,r=.sl s.an.length oc (.own T.length)∧oc.map cY=aM (s.an.map (wb s))∧U[T.length]?=some (s.an.length*3,3)∧eT H J∧eT T U)
attribute [-simp] getD_eq_getElem?_getD in
theorem sF (s:Sg)(hs:mh s)(H:List aA)(T:ar):aq Tryz.prog 41 [ec s] H T (RQ s H T):=by
 have cv:=fun H T=>qb s hs H T;have lN:=hs.d;refine aj 10 [] Tryz.ntmps41 Tryz.func41 rfl (fun _ _=>Tryz.call41 _ _) (by simp) (fun HO=>?_);have eX:bC (H++[.cells (bH s)]) T:=HO.snoc (by simp);apply ae;intro K h;simp(disch:=omega);apply h;clear h K;apply ae;intro K h;simp(disch:=omega);apply h;clear h K;refine af fun K1 aQ=>?_
 cases hv:aP s with
 |false=>
  rw[hv] at cv;refine ae fun K hK=>?_;simp(disch:=omega) ;refine ak (cv _ _) ?_;simp(disch:=omega) ;apply hK;clear hK K;apply aF rfl;apply ae;intro K h;simp(disch:=omega);apply h;clear h K;apply az;simp(disch:=omega) ;exact .inl ⟨hv,rfl,⟨_,rfl⟩,⟨[],by simp⟩⟩
 |true=>
  rw[hv] at cv;refine ae fun K hK=>?_;simp(disch:=omega) ;refine ak (cv _ _) ?_;simp(disch:=omega) ;apply hK;clear hK K;apply aD rfl;apply ai;simp(disch:=omega) ;apply aQ;clear aQ;refine af fun K1 aQ=>?_;apply ae;intro K h;simp(disch:=omega);apply h;clear h K;apply ah;refine lF 3 0 3 [] (by omega) rfl ?_;refine cZ fun IL=>?_;simp only at IL;refine aG (X:=Nat×ar×List AV) (fun x=>⟨[(1,.ptr H.length 0),(3,.sl x.1 x.2.2 (.own T.length)),(4,.int .i64 (x.1:Nat))],H++[.cells (bH s)],x.2.1⟩)
   (fun x=>x.1≤s.an.length∧x.2.2.map cY=aM ((s.an.take x.1).map (wb s))∧x.2.1[T.length]?=some (x.1*3,3)∧eT T x.2.1∧bC (H++[.cells (bH s)]) x.2.1∧aJ H.length x.2.1.length x.2.2) (fun x=>s.an.length-x.1) (0,T++[(0,3)],[]) ?_ ?_ ?_
  ·exact⟨zero_le _,by simp[kC],by simp,⟨_,rfl⟩,IL,by simp⟩
  ·refine ag [] [] ?_ ?_ ?_ ?_ IL ?_
   all_goals simp
  ·rintro⟨i,U,oc⟩ ⟨h1,h2,h3,h4,h5,h6⟩;simp only at h1 h2 h3 h4 h5 h6;have hol:oc.length=i*3:=by
    have:=congrArg List.length h2;rw[length_map,bD,length_map,length_take] at this;rw[this];congr 1;omega
   have PB:=(List.getElem?_eq_some_iff.1 h3).1;have lT:=h4.le;have eU:=aV h3;refine af fun K2 aW=>?_;apply ae;intro K h;simp(disch:=omega);apply h;clear h K;refine aN rfl (fun hk=>?_) (fun hk=>?_)
   ·simp  at hk;have CO:=aS hk;have gB:i<(ints s.an).length:=by simpa using hk
    have eN:aM ((s.an.take (i+1)).map (wb s))=aM ((s.an.take i).map (wb s))++fw (wb s (s.an.getD i 0)):=by rw[bf s.an i 0 hk,map_append];exact(xS _ _).symm
    rw[←h2] at eN;generalize s.an.getD i 0=id at *;apply ai;simp(disch:=omega) ;apply aW;clear aW;refine af fun K3 bz=>?_;apply ah;refine ae fun K hK=>?_;simp(disch:=omega)[CO];apply hK;clear hK K;refine iu 2 1 (H++[.cells (bH s)]) [.int .i64 id,.sl 0 [] .full,.sl 0 [] .full] 0 [] (by omega) rfl (by simp) ?_;refine iu 2 2 (H++[.cells (bH s)]) [.int .i64 id,.sl 0 [] (.own U.length),.sl 0 [] .full] 0 [] (by omega) rfl (by simp) ?_;have hSt:∀{P:St→Prop} {e:Env},P ⟨e,H++[.cells (bH s),dB id [] [] U.length],U++dT [] []⟩→P ⟨e,H++[.cells (bH s)]++[.cells (([.int .i64 id,.sl 0 [] (.own U.length),.sl 0 [] .full]:List AV).set 2 (.sl 0 [] (.own (U++[(0,2)]).length)))],U++[(0,2)]++[(0,2)]⟩:=by
     intro P e h;have e1:H++[aA.cells (bH s)]++[aA.cells (([.int .i64 id,.sl 0 [] (.own U.length),.sl 0 [] .full]:List AV).set 2 (.sl 0 [] (.own (U++[(0,2)]).length)))]=H++[.cells (bH s),dB id [] [] U.length]:=by simp[dB,Ae,uT]
     have e2:U++[(0,2)]++[(0,2)]=U++dT [] []:=by simp[dT]
     rw[e1,e2];exact h
    refine hSt (P:=fun st=>AW _ _ _ st) ?_;refine cZ fun dy=>?_;simp only at dy;have hbe:∀n t,H.length≤n→U.length≤t→aJ n t oc:=fun n t hn ht v hv=>(h6 v hv).more hn ht;refine aH ⟨[(1,.ptr H.length 0),(3,.sl i oc (.own T.length)),(4,.int .i64 (i:Nat)),(5,.ptr (H.length+1) 0)],H++[.cells (bH s),dB id [] [] U.length],U++dT [] []⟩ (ag [] [] (by simp) (by simp) (by simp) (by simp;omega) dy (by simp;exact⟨hbe _ _ (by omega) (by omega),by omega⟩)) ?_;have hbv:Below H.length U.length (.sl i oc (.own T.length)):=.sl _ _ _ h6 (by simp;omega);refine af fun K4 eV=>?_;refine Dw s hs id (.sl i oc (.own T.length)) i T.length H U lT hbv dy _ fun e nG he=>?_;apply eV;clear eV;refine aH ⟨[(1,.ptr H.length 0),(3,.sl i oc (.own T.length)),(4,.int .i64 (i:Nat)),(5,.ptr (H.length+1) 0)],H++[.cells (bH s),dB id (bP (lu s id)) [] U.length],U++dT (bP (lu s id)) []⟩ (ag [] [] (by simp) (by simp) (by simp) (by simp;omega) nG (by simpa using he)) ?_;refine af fun K4 eV=>?_;refine Hc s hs id (.sl i oc (.own T.length)) i T.length _ H U lT hbv nG _ fun e2 wL vM=>?_;apply eV;clear eV;have Zi:wb s id=⟨id,bP (lu s id),s.aw.flatMap (ny id)⟩:=rfl;rw[Zi] at eN;generalize bP (lu s id)=zs at *;generalize s.aw.flatMap (ny id)=ns at *;refine aH ⟨[(1,.ptr H.length 0),(3,.sl i oc (.own T.length)),(4,.int .i64 (i:Nat)),(5,.ptr (H.length+1) 0)],H++[.cells (bH s),dB id zs ns U.length],U++dT zs ns⟩ (ag [] [] (by simp) (by simp) (by simp) (by simp;omega) wL (by simpa using vM)) ?_;have eU2:(U++dT zs ns)[T.length]?=some (i*3,3):=by rw[List.getElem?_append_left PB];exact h3
    refine au fun K hK=>?_;simp(disch:=omega)[hol,eU,PB,List.getElem_append_left,List.set_append_left,List.getElem?_append_left];apply hK;clear hK K;refine bz _ ?_;obtain⟨U2,rC⟩:∃U2,U2=List.set U T.length ((i+1)*3,3)++dT zs ns:=⟨_,rfl⟩
    rw[←rC];have acr:U2.length=U.length+2:=by rw[rC];simp
    have h5':bC (H++[.cells (bH s)]) U2:=h5.fQ (by omega);have h4':eT T U2:=by rw[rC];exact(h4.set (le_refl _) _).app _
    have PF:U2[T.length]?=some ((i+1)*3,3):=by rw[rC,List.getElem?_append_left (by simpa using PB),List.getElem?_set_self PB]
    refine au fun K hK=>?_;simp(disch:=omega) ;apply hK;clear hK K;refine⟨(i+1,U2,oc++[AV.int .i64 id,.sl zs.length (dS zs) (.own U.length),.sl ns.length (aU ns) (.own (U.length+1))]),⟨by show i+1≤_;omega,?_,PF,h4',h5',?_⟩,by show s.an.length-(i+1)<s.an.length-i;omega,?_⟩
    ·show List.map cY (oc++_)=aM ((s.an.take (i+1)).map (wb s));rw[eN,map_append];rfl
    ·show aJ H.length U2.length (oc++_);intro v hv;rcases List.mem_append.1 hv with hv|hv
     ·exact(h6 v hv).more (le_refl _) (by omega)
     ·simp at hv;rcases hv with rfl|rfl|rfl
      ·exact .int _ _
      ·exact .sl _ _ _ (LM _ _ _) (by simp;omega)
      ·exact .sl _ _ _ (ri _ _ _) (by simp;omega)
    ·refine ag [dB id zs ns U.length] [] ?_ ?_ ?_ ?_ h5' ?_
     all_goals simp
     all_goals first|omega|exact⟨⟨fun v hv=>(h6 v hv).more (by omega) (by omega),by omega,by omega⟩,by omega⟩
   ·simp  at hk;have tJ:i=s.an.length:=by omega
    subst tJ;apply aC;simp(disch:=omega) ;apply aQ;clear aQ;apply ae;intro K h;simp(disch:=omega);apply h;clear h K;apply az;simp(disch:=omega) ;rw[take_length] at h2;exact .inr ⟨hv,oc,rfl,h2,h3,⟨_,rfl⟩,h4⟩
theorem Aw {l:List Dc}{oc:List AV}(h2:oc.map cY=aM l)(n0 t0:Nat)(H:List aA)(j:Nat)(hj:j<(aM l).length):gk n0 t0 H (oc.getD j .top) ((aM l)[j]'hj):=by
 have OB:j<oc.length:=by rw[←length_map (f:=cY),h2];exact hj
 refine .keep (.inr ?_) (vl _ _ _ _ (List.getElem_mem hj));rw[getD_eq_getElem?_getD,List.getElem?_eq_getElem OB];simp only[←h2,List.getElem_map,Option.getD_some]
theorem xQ {s:Sg}(hv:aP s=true):kY s=s.an.map (wb s)∧(kY s).length=s.an.length:=by
 have hP:kY s=s.an.map (wb s):=by unfold kY;rw[hv];rfl
 exact⟨hP,by rw[hP,length_map]⟩
theorem vu (s:Sg)(hs:mh s)(H:List aA)(T:ar):aq Tryz.prog 41 [ec s] H T (Is (.sl (kY s).length (aM (kY s)) .none) H T):=by
 refine aq.nF ((sF s hs H T).mono fun r J U h=>?_);rcases h with⟨hv,rfl,hJ,hU⟩|⟨hv,oc,rfl,h2,h3,hJ,hU⟩
 ·have hP:kY s=[]:=by unfold kY;rw[hv];rfl
  rw[hP];exact⟨hJ,hU,.keep (.inr rfl) (by simp[kC])⟩
 ·obtain⟨hP,hl⟩:=xQ hv;rw[hl,hP];exact⟨hJ,hU,.sl (by rw[←h2,length_map]) (Aw h2 _ _ _)⟩
theorem BX (s:Sg)(hs:mh s)(hv:aP s=true)(H:List aA)(T:ar):aq Tryz.prog 41 [ec s] H T (Is (.sl (kY s).length (aM (kY s)) (.own T.length)) H (T++[((kY s).length*3,3)])):=by
 refine aq.TI H (T++[((kY s).length*3,3)]) (le_refl _) (by simp) (fun HO=>HO.fQ (by simp)) ((sF s hs H T).mono fun r J U h=>?_);rcases h with⟨qk,_⟩|⟨_,oc,rfl,h2,h3,hJ,hU⟩
 ·rw[hv] at qk;cases qk
 ·obtain⟨hP,hl⟩:=xQ hv;rw[hl,hP];refine⟨hJ,?_,.slT (by rw[←h2,length_map]) (by simp) (Aw h2 _ _ _)⟩;obtain⟨X,rfl⟩:=hU;rw[List.getElem?_append_right (le_refl _),sub_self] at h3
  match X,h3 with
  |x::X,h3=>
   simp only[List.getElem?_cons_zero,Option.some.injEq] at h3;subst h3;exact⟨X,by simp⟩
theorem KU (a b:List (Int×List Wd))(f:Int):nK (a++b) f=nK a f++nK b f:=by
 unfold nK;rw[filter_append,flatMap_append]
theorem xk:∀{l:List Ps},nO l→∀d:Int,posOf l d=(l.filter fun p=>p.1==d).flatMap (·.2)
 |[],_,d=>rfl
 |p::l,h,d=>by
  have hp:=j6 h
  by_cases e:p.1=d
  ·subst e;have h0:l.filter (fun q=>q.1==p.1)=[]:=by
    rw[List.filter_eq_nil_iff];intro q hq;have:=hp.2 q hq;simp;omega
   rw[cO,List.filter_cons_of_pos (by simp),h0];simp
  ·rw[cG e,List.filter_cons_of_neg (by simpa using e)];exact xk hp.1 d
theorem oh:∀{ts:List Tm},(∀t∈ts,nO t.l)→∀id f:Int,occs ts id f=ts.flatMap (wB id f)
 |[],_,_,_=>rfl
 |t::ts,h,id,f=>by
  have h1:occs (t::ts) id f=nK ((t.l.filter fun p=>p.1==id).map fun p=>(t.f,p.2.map fun a=>(t.w,a))) f++occs ts id f:=by
   unfold occs MJ;rw[flatMap_cons,KU]
  rw[h1,flatMap_cons,oh (fun t ht=>h t (by simp[ht]))]
  congr 1
  unfold wB nK;rw[xk (h t (by simp))]
  by_cases e:t.f=f
  ·rw[if_pos e,List.filter_eq_self.2 (fun x hx=>by obtain⟨p,_,rfl⟩:=List.mem_map.1 hx;simpa using e),flatMap_map,List.map_flatMap]
  ·rw[if_neg e,List.filter_eq_nil_iff.2 (fun x hx=>by obtain⟨p,_,rfl⟩:=List.mem_map.1 hx;simpa using e)];rfl
theorem Bg (s:Sg):kY s=bI s:=by
 unfold kY bI
 by_cases hv:aP s=true
 ·rw[if_pos hv,if_pos hv];unfold fG;refine List.map_congr_left fun id IE=>?_;have hz:lu s id=fun f=>gw (occs s.aK id f):=by
   funext f
   unfold lu;rw[←oh (fun t ht=>(cU (ED hv ht).2.2.1).1),HN (yR (fi hv).2.1.2 id f)]
  show (⟨id,bP (lu s id),_⟩:Dc)=_;rw[hz];rfl
 ·rw[if_neg hv,if_neg hv]
end Go.Proofs.YtneohapkboaplaaGreat
