/- segment.Documents (layer 39). The reference's words and Documents (layer 39). Documents of the reference (layer 39). Both Documents are one (layer 39).
  Conditions: as the theorems say. -/
import Derived.Test.YtoejlmpbebjemaaGreatGZa
import Derived.Test.YtoejlmpbebjemaaGreatGRA
import Derived.Test.YtoejlmpbebjemaaGreatAmC
import Derived.Test.YtoejlmpbebjemaaGreatPZ
set_option linter.all false
set_option maxRecDepth 100000
set_option maxHeartbeats 16000000
open List (getD_eq_getElem?_getD)
namespace Go.Proofs.YtoejlmpbebjemaaGreat
open Go.Proofs.Tryz(prog)
open Go Go.Am ie eN
def T3 {n0 t0:Nat}{H:List aA}{z:Wz}(h:z.ws≠[]->n0<=z.i/\H[z.i]?=some (.cells (dX z.ws++z.rest))):gp n0 t0 H (gv z.ws.length z.i z.cap) (.sl z.ws.length (dX z.ws) .none):=by
 by_cases hw:z.ws=[]
 ·rw[hw];exact .keep (.inr rfl) (by simp[O9])
 ·have hl:z.ws.length≠0:=λe=>hw (ah9.1 e);rw[gv,ahC hl];obtain⟨a,b⟩:=h hw;exact .ZN a b (fO (f:=Ry) (λx v hv=>by simp at hv;rcases hv with rfl|rfl<;>first|exact .int _ _|exact .str _) _)
theorem TZ {n0 t0:Nat}{H:List aA}{d:Dz}(h:d.zs≠[]->n0<=d.i/\H[d.i]?=some (.cells (nS d.zs++d.rest)))(hz:∀z∈d.zs,z.ws≠[]->n0<=z.i/\H[z.i]?=some (.cells (dX z.ws++z.rest))) :
  gp n0 t0 H (gv d.zs.length d.i d.cap) (.sl d.dc.zs.length (fy d.dc.zs) .none):=by
 have jT:d.dc.zs.length=d.zs.length:=by simp[Dz.dc]
 by_cases hw:d.zs=[]
 ·have:d.dc.zs=[]:=by simp[Dz.dc,hw]
  rw[this,hw];exact .keep (.inr rfl) (by simp[O5])
 ·have hl:d.zs.length≠0:=λe=>hw (ah9.1 e);rw[gv,ahC hl,jT];obtain⟨a,b⟩:=h hw;have h2:fy d.dc.zs=d.zs.flatMap λz=>o8 z.zn:=by simp[fy,Dz.dc,aiK]
  rw[h2];refine .bQ a b ?_ λj hj=>?_
  ·rw[ahw,lS,cj (f:=λz:Wz=>o8 z.zn) (k:=2) (λ_=>rfl)];omega
  ·refine kR (fa:=Wz.row) (fb:=λz=>o8 z.zn) (k:=2) BW (λ_=>rfl) d.zs (λz Ur j hj=>?_) d.rest j hj
   match j,hj with
   |0,_=>exact .same (.int _ _)
   |1,_=>exact T3 (hz z Ur)
theorem JA {H:List aA}{T:au}{R:List (Nat×aA)}{bo N n0:Nat}{J:List aA}{U:au}{D:List Dz}(hS:DS H T R bo N J U D)(hn:∀x∈D.flatMap Dz.bx,n0<=x.1)(j:Nat)(hj:j<(aM (D.map Dz.dc)).length) :
  gp n0 T.length J ((fx D).getD j .top) ((aM (D.map Dz.dc))[j]'hj):=by
 have h2:aM (D.map Dz.dc)=D.flatMap λd=>dY d.dc:=by simp[aM,aiK]
 have hm:∀d∈D,∀x∈d.bx,n0<=x.1/\J[x.1]?=some x.2:=λd hd x hx=>by
  have CN:x∈D.flatMap Dz.bx:=ah7.2 ⟨d,hd,hx⟩;exact⟨hn x CN,hS.hJ.2 x (ajo _ (aiO _ CN))⟩
 simp only[h2];rw[h2] at hj;have:=kR (n0:=n0) (t0:=T.length) (H:=J) (fa:=Dz.row) (fb:=λd=>dY d.dc) (k:=3) Cm (λ_=>rfl) D (λd hd j hj=>?_) [] j hj
 ·rw[ahS] at this;exact this
 ·match j,hj with
  |0,_=>exact .same (.int _ _)
  |1,_=>
   refine TZ (λhz=>?_) λz hz hw=>?_
   ·exact hm d hd (d.i,.cells (nS d.zs++d.rest)) (by simp[Dz.bx,gb,hz])
   ·exact hm d hd (z.i,.cells (dX z.ws++z.rest)) (by
     unfold Dz.bx;exact ajo _ (ah7.2 ⟨z,hz,by simp[Wz.bx,gb,hw]⟩))
  |2,_=>
   show gp _ _ _ (ov d.ns d.tk) (.sl d.ns.length (bG d.ns) .none)
   by_cases hn:d.ns=[]
   ·rw[hn];exact .keep (.inr rfl) (by simp[EA])
   ·rw[ov,ahC hn];exact .keep (.inr rfl) (.sl _ _ _ (yl _ _ _) zS)
def OW {H:List aA}{T:au}{R:List (Nat×aA)}{bo N:Nat}{J:List aA}{U:au}{D:List Dz}(hS:DS H T R bo N J U D):∀x∈D.flatMap Dz.bx,H.length<=x.1:=by
 intro x hx;obtain⟨d,hd,hx⟩:=ah7.1 hx;have je:=hS.hD d hd;unfold Dz.bx gb at hx;rcases ahI.1 hx with h|h
 ·split at h
  ·simp at h
  ·rename_i hl;rw[aic.1 h];exact(je.z.2 hl).2.2
 ·obtain⟨z,hz,h⟩:=ah7.1 h;unfold Wz.bx gb at h
  split at h
  ·simp at h
  ·rename_i hl;rw[aic.1 h];exact((je.w z hz).2 hl).2.2
def EZ (D:List Dz):(aM (D.map Dz.dc)).length=(fx D).length:=by
 rw[lX,bI,ahL]
attribute [-simp] getD_eq_getElem?_getD in
def Lh (H:List aA)(T:au)(b1 bo bm nd:Nat)(N:Nat)(R:List (Nat×aA))(J:List aA)(U:au)(D:List Dz)
  (hS:DS H T R bo N J U D) (hN:N<=1099511627776) (nU:nd=D.length) (RK:nd<=1000) (hW:∀d∈D,∀z∈d.zs,z.ws≠[]/\z.ws.Pairwise λx y=>x.2≠y.2) (uq:b1<J.length) (Ng:bm<J.length) (Q:Exit->St->Prop)
  (go:∀(e:Env)(J':List aA),DS H T R bo N J' U (D.map s8)->
   bA J'.length U.length e [(1,.ptr b1 0),(3,.bQ bo nd nd),(4,.aP bm)]->AW ⟨prog,192,190,H.length,T.length,[100100,100131]⟩ (dZ [1,1,1,1,1,1,1,1] (Tryz.f88.body.getD .skip)) Q ⟨e,J',U⟩) :
  AW ⟨prog,192,190,H.length,T.length,[100100,100131]⟩ (dZ [1,1,1,1,1,1,1] (Tryz.f88.body.getD .skip)) Q ⟨[(1,.ptr b1 0),(3,.bQ bo nd nd),(4,.aP bm)],J,U⟩:=by
 conv=>arg 2;whnf
 have lo:=hS.hJ.lt (i:=bo) (b:=.cells (fx D)) (by simp);have lH:=hS.pJ.le;have lT:=hS.pU.le;refine ae λK1 aN=>?_;apply aK;intro K Z;simp(disch:=omega);apply Z;apply ag;refine aG (X:=Nat×List aA) (λx=>⟨[(1,.ptr b1 0),(3,.bQ bo nd nd),(4,.aP bm),(173,.cV bo 0 nd),(174,.int .i64 (nd:Nat)),(175,.int .i64 (x.1:Nat))],x.2,U⟩)
  (λx=>x.1<=nd/\DS H T R bo N x.2 U ((D.take x.1).map s8++D.drop x.1)/\J.length<=x.2.length) (λx=>nd-x.1) (0,J) ?_ ?_ ?_
 ·exact⟨ahE _,by simpa using hS,ahv _⟩
 ·refine ak [] [] ?_ ?_ ?_ ?_ hS.ok ?_
  all_goals simp
  all_goals omega
 ·rintro⟨k,J2⟩ ⟨k1,k2,k3⟩;simp only at k1 k2 k3;have M9:=k2.pJ.le;have Q4:=k2.pU.le;apply aK;intro K Z;simp(disch:=omega);apply Z;refine ae λK2 ba=>?_;refine aV rfl (λgN=>?_) (λgN=>?_)
  ·simp  at gN;apply aj;simp(disch:=omega) ;apply ba;clear ba;refine ae λK3 bH=>?_;apply ag;refine aF ⟨[(1,.ptr b1 0),(3,.bQ bo nd nd),(4,.aP bm),(173,.cV bo 0 nd),(174,.int .i64 (nd:Nat)),(175,.int .i64 (k:Nat))],J2,U⟩ (ak [] [] (by simp) (by simp) (by show H.length<=_;omega) (by show T.length<=_;omega) k2.ok (by simp;omega)) ?_;have hkD:k<D.length:=by omega
   have Rl:D.drop k=D[k]::D.drop (k+1):=(List.getElem_cons_drop ..).symm;have gV:D.take (k+1)=D.take k++[D[k]]:=by rw[List.take_append_getElem]
   rw[Rl] at k2;have hlen:((D.take k).map s8).length=k:=by simp;omega
   refine aaE H T b1 bo bm nd k N _ J2 U _ _ D[k] k2 hN hlen.symm (by rw[hlen,aii];omega) (hW _ (ah2 _)) (by omega) (by omega) _ λe J' a1 a2 a3=>?_;have JT:=a1.pJ.le;have JS:=a1.pU.le;refine bH _ (aF ⟨[(1,.ptr b1 0),(3,.bQ bo nd nd),(4,.aP bm),(173,.cV bo 0 nd),(174,.int .i64 (nd:Nat)),(175,.int .i64 (k:Nat))],J',U⟩ (ak [] [] (by simp) (by simp) (by show H.length<=_;omega) (by show T.length<=_;omega) a1.ok a3) ?_);clear bH;refine br λK hK=>?_;simp(disch:=omega) ;apply hK;refine⟨(k+1,J'),⟨by show k+1<=_;omega,by show DS _ _ _ _ _ _ _ ((D.take (k+1)).map s8++D.drop (k+1));rw[gV,ahJ,ahM];exact a1,by show J.length<=J'.length;omega⟩,by show nd-(k+1)<nd-k;omega,?_⟩;refine ak [] [] ?_ ?_ ?_ ?_ a1.ok ?_
   all_goals simp
   all_goals omega
  ·simp  at gN;have pD:k=nd:=by omega
   subst pD;apply aD;simp(disch:=omega) ;rw[nU,ahO,aiB,ahS] at k2;apply aN;clear aN;refine go _ J2 k2 ?_;simp;omega
def yS (id:Int):Dz:=⟨id,[],0,0,[],[],0⟩
def jW (ids:List Int)(k:Nat):List Dz:=(ids.take k).map yS++List.replicate (ids.length-k) (yS 0)
def Cf (ids:List Int)(k:Nat):(jW ids k).flatMap Dz.tx=[]/\(jW ids k).flatMap Dz.bx=[]:=by
 have h:∀d∈jW ids k,Dz.tx d=[]/\Dz.bx d=[]:=by
  intro d hd;rcases ahI.1 hd with hd|hd
  ·obtain⟨i,_,rfl⟩:=ahz.1 hd;exact⟨rfl,rfl⟩
  ·obtain rfl:=List.eq_of_mem_replicate hd;exact⟨rfl,rfl⟩
 exact⟨akd.2 λd hd=>(h d hd).1,akd.2 λd hd=>(h d hd).2⟩
def TO (ids:List Int)(k nb tb N:Nat):∀d∈jW ids k,KB nb tb N d:=by
 have h:∀i,KB nb tb N (yS i):=λi=>⟨⟨ahE _,λh=>absurd rfl h⟩,λz hz=>by simp[yS] at hz,⟨ahE _,λh=>absurd rfl h⟩⟩
 intro d hd;rcases ahI.1 hd with hd|hd
 ·obtain⟨i,_,rfl⟩:=ahz.1 hd;exact h i
 ·obtain rfl:=List.eq_of_mem_replicate hd;exact h 0
def Qw (D1 D2:List Dz)(d d':Dz)(h:d'.zs=d.zs/\d'.i=d.i/\d'.cap=d.cap/\d'.ns=d.ns/\d'.tk=d.tk):(fx (D1++d::D2)).set (D1.length*3) (.int .i64 d'.id)=fx (D1++d'::D2):=by
 have hl:=lX D1;have e:∀x:Dz,fx (D1++x::D2)=fx D1++(x.row++fx D2):=λx=>by simp[fx]
 obtain⟨h1,h2,h3,h4,h5⟩:=h;rw[e,e,ai2 _ _ zO,hl,aiT];simp[Dz.row,h1,h2,h3,h4,h5]
def Mn {ids:List Int}{k:Nat}(hk:k<ids.length):(fx (jW ids k)).set (k*3) (.int .i64 (ids.getD k 0))=fx (jW ids (k+1)):=by
 have h1:jW ids k=(ids.take k).map yS++yS 0::List.replicate (ids.length-(k+1)) (yS 0):=by
  unfold jW;rw[show ids.length-k=ids.length-(k+1)+1 by omega,List.replicate_succ]
 have h2:jW ids (k+1)=(ids.take k).map yS++yS (ids.getD k 0)::List.replicate (ids.length-(k+1)) (yS 0):=by
  unfold jW;rw[aX ids k 0 hk,ahJ,ahM];rfl
 rw[h1,h2];have:=Qw ((ids.take k).map yS) (List.replicate (ids.length-(k+1)) (yS 0)) (yS 0) (yS (ids.getD k 0)) ⟨rfl,rfl,rfl,rfl,rfl⟩;rw[ahL,ahW,aj5 (Nat.le_of_lt hk)] at this;exact this
def L8 {ids:List Int}{k:Nat}(hn:ids.Nodup)(hk:k<ids.length):lK (ig (ids.take k)) (.one (.int .i64 (ids.getD k 0))) (.int .i64 (k:Nat))=ig (ids.take (k+1)):=by
 have lO:(cZ.one (.int .i64 (ids.getD k 0)):cZ)=lL (ids.getD k 0):=rfl;have nQ:∀e∈ig (ids.take k),e.1≠lL (ids.getD k 0):=by
  intro e he h;have h1:e.1∈(ig (ids.take k)).map (·.1):=ahz.2 ⟨e,he,rfl⟩;rw[uS] at h1;obtain⟨i,hi,e1⟩:=ahz.1 h1;have:i=ids.getD k 0:=qi.1 (e1.trans h);subst this;have h2:ids=ids.take k++(ids.getD k 0::ids.drop (k+1)):=by rw[<-dF ids k 0 hk,ah1]
  rw[h2,aif] at hn;exact hn.2.2 _ hi _ zS rfl
 rw[lO,ou nQ];unfold ig;have hl:(ids.take k).length=k:=by simp;omega
 have jT:(ids.take (k+1)).length=k+1:=by simp;omega
 rw[hl,jT,aj3,ahJ]
 congr 1
 ·refine aib λj hj=>?_;rw[ahV] at hj;rw[ahs,ahs,aim,aim,ahF hj,ahF zO]
 ·simp[ahs,aim]
theorem Qv (n:Nat):iq [.int .i64 0,.sl 0 [] .full,.sl 0 [] .full] (n*3)=fx (List.replicate n (yS 0)):=by
 induction n with
 |zero=>rfl
 |succ n ih=>
  rw[List.replicate_succ',show fx (List.replicate n (yS 0)++[yS 0])=fx (List.replicate n (yS 0))++(yS 0).row by simp[fx],<-ih];unfold iq;rw[aiM,Nat.one_mul,List.range_add,ahJ]
  congr 1
  simp[yS,gv,ov,Nat.add_mod,aj3]
attribute [-simp] getD_eq_getElem?_getD in
def Mm (H:List aA)(T:au)(s:Sg)(hs:s.aw.length<=1000)(nU:s.aw.Nodup)(mY:∀i∈s.aw,1<=i/\i<=1000000000)(HO:bM (H++[.cells (cH s),.cells (fx (jW s.aw 0)),.map []]) T)(Q:Exit->St->Prop)
  (go:∀(e:Env),DS H T [(H.length,.cells (cH s)),(H.length+2,.map (ig s.aw))] (H.length+1) 0 (H++[.cells (cH s),.cells (fx (jW s.aw s.aw.length)),.map (ig s.aw)]) T (jW s.aw s.aw.length)->
   bA (H.length+3) T.length e [(1,.ptr H.length 0),(3,.bQ (H.length+1) s.aw.length s.aw.length),(4,.aP (H.length+2))]->AW ⟨prog,192,190,H.length,T.length,[100100,100131]⟩ (dZ [1,1,1,1,1] (Tryz.f88.body.getD .skip)) Q ⟨e,H++[.cells (cH s),.cells (fx (jW s.aw s.aw.length)),.map (ig s.aw)],T⟩) :
  AW ⟨prog,192,190,H.length,T.length,[100100,100131]⟩ (dZ [1,1,1,1] (Tryz.f88.body.getD .skip)) Q ⟨[(1,.ptr H.length 0),(3,.bQ (H.length+1) s.aw.length s.aw.length),(4,.aP (H.length+2))],H++[.cells (cH s),.cells (fx (jW s.aw 0)),.map []],T⟩:=by
 conv=>arg 2;whnf
 refine ae λK1 aN=>?_;refine af ?_;apply ag;refine aG (X:=Nat) (λk=>⟨[(1,.ptr H.length 0),(3,.bQ (H.length+1) s.aw.length s.aw.length),(4,.aP (H.length+2)),(34,.sl s.aw.length (ints s.aw) .none),(35,.int .i64 (s.aw.length:Nat)),(36,.int .i64 (k:Nat))],H++[.cells (cH s),.cells (fx (jW s.aw k)),.map (ig (s.aw.take k))],T⟩)
  (λk=>k<=s.aw.length/\bM (H++[.cells (cH s),.cells (fx (jW s.aw k)),.map (ig (s.aw.take k))]) T) (λk=>s.aw.length-k) 0 ?_ ?_ ?_
 ·exact⟨ahE _,by simpa[ig] using HO⟩
 ·refine ak [] [] ?_ ?_ ?_ ?_ (by simpa[ig] using HO) ?_
  all_goals simp[ig]
  all_goals omega
 ·rintro k ⟨k1,k2⟩;refine af ?_;refine ae λK2 ba=>?_;refine aV rfl (λgN=>?_) (λgN=>?_)
  ·simp  at gN;apply aj;refine zQ ?_;apply ba;clear ba;refine ae λK3 bH=>?_;apply ag;have eL:k<(ints s.aw).length:=by simpa using gN
   have hga:=aS (xs:=s.aw) (k:=k) gN;have eM:(fx (jW s.aw k)).length=s.aw.length*3:=by rw[lX];simp[jW];omega
   have fe:=Mn gN;have hmp:=L8 nU gN;have RN:dz prog 3 (ig (s.aw.take k))=true:=Wy λi hi=>mY i (ajt hi);have UB:=Ku (s.aw.getD k 0) (by have:=mY _ (aQ s.aw k 0 gN);omega);rw[show lL (s.aw.getD k 0)=.one (.int .i64 (s.aw.getD k 0)) from rfl] at UB;generalize s.aw.getD k 0=id at *;apply ar;simp(disch:=omega)[hga];apply ar;simp(disch:=omega)[eM,fe];refine br λK hK=>?_;simp(disch:=omega)[Ca,RN,UB,hmp];apply hK;refine bH _ ?_;clear bH;refine dE λz8=>?_;simp only at z8;refine aJ ?_;refine⟨k+1,⟨zO,z8⟩,zO,?_⟩;exact wk z8
   all_goals omega
  ·simp  at gN;have pD:k=s.aw.length:=zO;subst pD;apply aD;refine zQ ?_;rw[ahO] at k2;apply aN;clear aN;refine go _ ⟨⟨?_,λp hp=>?_⟩,?_,TO _ _ _ _ _,⟨_,rfl⟩,⟨[],zS⟩,k2⟩ ?_
   ·rw[(Cf _ _).2];simp
   ·rw[(Cf _ _).2] at hp;simp at hp;rcases hp with rfl|rfl|rfl<;>simp
   ·rw[(Cf _ _).1];exact⟨zS,λp hp=>by simp at hp⟩
   ·simp
theorem Ez (id f:Int):∀ts:List Tm,(occs ts id f).map (·.2)=((pC ts).filter λk=>k.1==f&&k.2.1==id).map (·.2.2)
 |[]=>rfl
 |t::ts=>by
  have h1:occs (t::ts) id f=pM (((t.l.filter λp=>p.1==id).map λp=>(t.f,p.2.map λa=>(t.w,a)))) f++occs ts id f:=by
   unfold occs R6 pM;rw[ahK,aij,aid]
  have h2:pC (t::ts)=pH t++pC ts:=by simp[pC]
  rw[h1,h2,ahJ,aij,ahJ,Ez id f ts]
  congr 1
  unfold pM pH;have key:∀l:List Ps,(((((l.filter λp=>p.1==id).map λp=>(t.f,p.2.map λa=>(t.w,a)))).filter λe=>e.1==f).flatMap (·.2)).map (·.2)=((l.flatMap (ff t.f)).filter λk=>k.1==f&&k.2.1==id).map (·.2.2):=by
   intro l
   induction l with
   |nil=>rfl
   |cons p l ih=>
    rw[ahK,aij,ahJ,<-ih];have e:(ff t.f p).filter (λk=>k.1==f&&k.2.1==id)=if t.f=f/\p.1=id then ff t.f p else []:=by
     unfold ff
     by_cases h:t.f=f/\p.1=id
     ·rw[ahF h,ai4];intro k hk;obtain⟨a,_,rfl⟩:=ahz.1 hk;simpa using h
     ·rw[ahC h,ai9];intro k hk;obtain⟨a,_,rfl⟩:=ahz.1 hk;simpa using h
    rw[e]
    by_cases hp:p.1=id
    ·rw[aiI (by simp[hp]),aih]
     by_cases hf:t.f=f
     ·rw[aiI (by simp[hf]),ahF ⟨hf,hp⟩,ahK,ahJ]
      congr 1
      simp[ff]
     ·rw[aiE (by simp[hf]),ahC λh=>hf h.1];rfl
    ·rw[aiE (by simp[hp]),ahC λh=>hp h.2];rfl
  exact key t.l
def Jm {ts:List Tm}(h:(pC ts).Nodup)(id f:Int):(occs ts id f).Pairwise λx y=>x.2≠y.2:=by
 rw[<-List.pairwise_map (R:=λa b:Int=>a≠b),Ez];rw[aie];refine((h.filter _).imp_of_mem λ{a b} ha hb j9 he=>j9 ?_);rw[ahU] at ha hb;obtain⟨a1,a2,a3⟩:=a;obtain⟨b1,b2,b3⟩:=b;simp at ha hb he;simp[ha.2,hb.2,he]
def eC (s:Sg):List Dc:=if aT s=true then jx s else []
def qo {g:Int->List Wd}{z:Zn}(h:z∈dm g):z.ws≠[]/\z.ws=g z.f/\1<=z.f/\z.f<=4:=by
 unfold dm at h;obtain⟨f,hf,hz⟩:=ah7.1 h
 by_cases hg:g f=[]
 ·rw[ahF hg] at hz;cases hz
 ·rw[ahC hg] at hz;obtain rfl:=aic.1 hz;refine⟨hg,rfl,?_⟩;simp at hf;show 1<=f/\f<=4;omega
def DQ (s:Sg)(H:List aA)(T:au):AV->List aA->au->Prop:=λr J U=>
 (aT s=false/\r=.sl 0 [] .full/\gW H J/\gW T U)\/
 (aT s=true/\r=.bQ (H.length+1) s.aw.length s.aw.length/\∃R N D,DS H T ((H.length,.cells (cH s))::R) (H.length+1) N J U D/\D.length=s.aw.length/\D.map Dz.dc=jx s)
attribute [-simp] getD_eq_getElem?_getD in
theorem rQ (s:Sg)(hs:rz s)(H:List aA)(T:au):aq prog 88 [jh s] H T (DQ s H T):=by
 have cv:=λH T=>kj s hs H T;have kW:=hs.d;refine ah 190 [100100,100131] Tryz.ntmps88 Tryz.func88 rfl (λ_ _=>Tryz.call88 _ _) zS (λHO=>?_);have eu:bM (H++[.cells (cH s)]) T:=HO.snoc zS;refine af ?_;refine ae λK1 aN=>?_
 cases hv:aT s with
 |false=>
  rw[hv] at cv;apply ar;refine zQ ?_;refine ai (cv _ _) ?_;refine zQ ?_;apply aC rfl;refine af ?_;refine aI ?_;exact .inl ⟨hv,rfl,⟨_,rfl⟩,⟨[],zS⟩⟩
 |true=>
  rw[hv] at cv;obtain⟨⟨vd,_⟩,⟨vt,vn⟩,vc⟩:=fJ hv;have wB:=yH vd;have NT:=vl (iY vd);apply ar;refine zQ ?_;refine ai (cv _ _) ?_;refine zQ ?_;apply aB rfl;apply aj;refine zQ ?_;apply aN;clear aN;refine af ?_;refine af ?_;have yY:iq [.int .i64 0,.sl 0 [] .full,.sl 0 [] .full] (s.aw.length*3)=fx (jW s.aw 0):=by rw[Qv];simp[jW]
  rw[yY];refine dE λeG=>?_;simp only at eG;refine aF ⟨[(1,.ptr H.length 0),(3,.bQ (H.length+1) s.aw.length s.aw.length),(4,.aP (H.length+2))],H++[.cells (cH s),.cells (fx (jW s.aw 0)),.map []],T⟩ (wk (zU eG)) ?_;refine Mm H T s zO NT wB (zU eG) _ λe hD he=>?_;have aar:(jW s.aw s.aw.length).map (·.id)=s.aw:=by
   simp[jW,Function.comp_def,yS]
  have afp:(jW s.aw s.aw.length).map Dz.dc=s.aw.map λid=>⟨id,[],[]⟩:=by
   simp[jW,Function.comp_def,yS,Dz.dc]
  have aam:(H++[aA.cells (cH s),.cells (fx (jW s.aw s.aw.length)),.map (ig s.aw)]).length=H.length+3:=zS;generalize H++[aA.cells (cH s),.cells (fx (jW s.aw s.aw.length)),.map (ig s.aw)]=J at *;refine aF ⟨[(1,.ptr H.length 0),(3,.bQ (H.length+1) s.aw.length s.aw.length),(4,.aP (H.length+2))],J,T⟩ (ak [] [] zS zS (by show H.length<=_;omega) zS hD.ok (by rw[aam];exact he)) ?_;refine Cw H T s H.length (H.length+1) (H.length+2) s.aw.length 0 s.aw _ J T _ hD aar rfl NT wB hs (λt ht=>(N9 hv ht).2.2.2) zO zS zO zS _ λe1 J1 D1 a1 a2 a3 a4=>?_;have lT1:=a1.pU.le;have lH1:=a1.pJ.le;refine aF ⟨[(1,.ptr H.length 0),(3,.bQ (H.length+1) s.aw.length s.aw.length),(4,.aP (H.length+2))],J1,T⟩ (ak [] [] zS zS (by show H.length<=_;omega) zS a1.ok a4) ?_;refine Ga H T s H.length (H.length+1) (H.length+2) s.aw.length _ s.aw _ J1 T D1 a1 a2 rfl NT wB hs (λc hc=>(aaG hv hc).2) zO zS zO zS _ λe2 J2 U2 D2 b1 b2 b3 b4=>?_;have Q4:=b1.pU.le;have M9:=b1.pJ.le;have l1:=b1.hJ.lt (i:=H.length) (b:=.cells (cH s)) zS;have l3:=b1.hJ.lt (i:=H.length+2) (b:=.map (ig s.aw)) zS;refine aF ⟨[(1,.ptr H.length 0),(3,.bQ (H.length+1) s.aw.length s.aw.length),(4,.aP (H.length+2))],J2,U2⟩ (ak [] [] zS zS (by show H.length<=_;omega) (by show T.length<=_;omega) b1.ok b4) ?_;rw[a3,afp] at b3;rw[U8,Vb,aiA,aiA] at b3;simp only[Function.comp_def,ai3] at b3;have zY:s.aw.length=D2.length:=by rw[<-b2,ahL]
  have Wu:∀d∈D2,d.dc=⟨d.id,dm (occs s.aW d.id),M7 s.aH d.id⟩:=by
   intro d hd;have h1:d.dc∈D2.map Dz.dc:=ahz.2 ⟨d,hd,rfl⟩;rw[b3] at h1;obtain⟨i,_,h2⟩:=ahz.1 h1;rw[Mx hv] at h2;have:i=d.id:=congrArg Dc.id h2;rw[<-h2,this]
  refine Lh H T H.length (H.length+1) (H.length+2) s.aw.length _ _ J2 U2 D2 b1 zO zY zO (λd hd z hz=>?_) l1 l3 _ λe3 J3 c1 c2=>?_
  ·have h1:z.zn∈d.dc.zs:=ahz.2 ⟨z,hz,rfl⟩;rw[Wu d hd] at h1;obtain⟨h2,h3,_⟩:=qo h1;refine⟨h2,?_⟩;show z.zn.ws.Pairwise _;rw[h3];exact Jm vn _ _
  conv=>arg 2;whnf
  have JS:=c1.pU.le;have JT:=c1.pJ.le;refine aF ⟨[(1,.ptr H.length 0),(3,.bQ (H.length+1) s.aw.length s.aw.length),(4,.aP (H.length+2))],J3,U2⟩ (ak [] [] zS zS (by show H.length<=_;omega) (by show T.length<=_;omega) c1.ok c2) ?_;refine af ?_;refine aI ?_;have zk:(D2.map s8).map Dz.dc=jx s:=by
   unfold jx;rw[aiA,<-b2,aiA];refine aib λd hd=>?_;simp only[Function.comp];have h1:(s8 d).dc=⟨d.id,d.dc.zs.map V1,d.ns⟩:=by simp[s8,Dz.dc,aiA,Function.comp_def,kM,Wz.zn,V1]
   rw[h1,Wu d hd,Fu];have h2:d.ns=M7 s.aH d.id:=congrArg Dc.ns (Wu d hd);rw[h2]
  have CT:(D2.map s8).length=s.aw.length:=by rw[ahL,<-zY]
  exact .inr ⟨hv,rfl,_,_,_,c1,CT,zk⟩
def lq (s:Sg)(hs:rz s)(H:List aA)(T:au):aq prog 88 [jh s] H T (Is (.sl (eC s).length (aM (eC s)) .full) H T):=by
 refine aq.pF ?_;refine(rQ s hs H T).mono λr J U h=>?_;rcases h with⟨hv,rfl,hJ,hU⟩|⟨hv,rfl,R,N,D,hS,hl,hd⟩
 ·have hP:eC s=[]:=by unfold eC;rw[hv];rfl
  rw[hP];exact⟨hJ,hU,.keep (.inl rfl) (by simp[oc])⟩
 ·have hP:eC s=D.map Dz.dc:=by unfold eC;rw[hv,hd];rfl
  have Nl:=hS.hJ.get (i:=H.length+1) (b:=.cells (fx D)) zS;rw[hP,ahL,hl];refine⟨hS.pJ,hS.pU,.ZM zO Nl (by rw[EZ];exact ahv _) λj hj=>JA hS (OW hS) j hj⟩
def rR (s:Sg)(hs:rz s)(H:List aA)(T:au):aq prog 88 [jh s] H T (Is (.sl (eC s).length (aM (eC s)) .none) H T):=
 aq.bK ((lq s hs H T).mono λr J U ⟨h1,h2,h3⟩=>⟨⟨[],by simp[h2]⟩,⟨[],by simp[h3]⟩,.inr (by rw[h1];rfl)⟩) (.sl _ _ _ (ym _ _ _) zS)
theorem Lg {H J:List aA}{a b:aA}(hp:gW H J)(h0:J[H.length]?=some a)(h1:J[H.length+1]?=some b):∃G,J=(H++[a])++b::G:=by
 obtain⟨X,rfl⟩:=hp;rw[ahP (ahv _),aiT] at h0;rw[ahP zO,show H.length+1-H.length=1 by omega] at h1
 match X,h0,h1 with
 |x::y::G,h0,h1=>
  simp at h0 h1;subst h0;subst h1;exact⟨G,zS⟩
def yP (s:Sg)(hs:rz s)(hv:aT s=true)(H:List aA)(T:au) :
  aq prog 88 [jh s] H T (Is (.bQ (H.length+1) s.aw.length s.aw.length) (H++[.cells (cH s),.cells (aM (jx s))]) T):=by
 have key:=aq.Oo (P:=prog) (f:=88) (args:=[jh s]) (H:=H) (T:=T) (n:=s.aw.length) (cap:=s.aw.length) (vs':=aM (jx s)) (H++[.cells (cH s)]) zS (λHO=>HO.snoc zS) ?_
 ·simpa using key
 refine(rQ s hs H T).mono λr J U h=>?_;rcases h with⟨IH,_⟩|⟨_,rfl,R,N,D,hS,hl,hd⟩
 ·rw[hv] at IH;cases IH
 ·have h0:=hS.hJ.get (i:=H.length) (b:=.cells (cH s)) zS;have h1:=hS.hJ.get (i:=H.length+1) (b:=.cells (fx D)) zS;obtain⟨G,hG⟩:=Lg hS.pJ h0 h1;rw[<-hd];refine⟨fx D,G,hG,hS.pU,EZ D,λj hj=>?_,zS⟩;refine JA hS (λx hx=>?_) j hj;have hb:=OW hS x hx;have nU:=hS.hJ.1;simp only[ajI,aih,ahJ,ajM,aif] at nU;have n1:x.1≠H.length:=λe=>nU.1 (by
   rw[<-e];simp only[ahI,ah4];exact .inr (.inr (ahz.2 ⟨x,hx,rfl⟩)))
  have n2:x.1≠H.length+1:=λe=>nU.2.2.1.1 (by rw[<-e];exact ahz.2 ⟨x,hx,rfl⟩);simp only[ahw,ahY,ais];omega
def yO (s:Sg)(hs:rz s)(hv:aT s=false)(H:List aA)(T:au):aq prog 88 [jh s] H T (Is (.sl 0 [] .full) H T):=by
 have h:=lq s hs H T;have hP:eC s=[]:=by unfold eC;rw[hv];rfl
 rw[hP] at h;exact h
end Go.Proofs.YtoejlmpbebjemaaGreat
namespace eN
open ie
def sy (l:List Wd):(jM l).Perm l/\(jM l).Pairwise λx y=>x.2<=y.2:=by
 refine⟨ajz _ _,?_⟩;have:=ajp (le:=λx y:Wd=>!(decide (y.2<x.2))) (λa b c h1 h2=>by simp at *;omega) (λa b=>by simp;omega) l;exact this.imp λh=>by simpa using h
end eN
namespace Go.Proofs.YtoejlmpbebjemaaGreat
open Go Go.Am ie cN eN
def Vt (d f:Int)(t:Tm):List Wd:=if t.f=f then (posOf t.l d).map λa=>(t.w,a) else []
def zT (g:Int->List Wd)(k:Nat):List Zn:=(List.range k).flatMap λj=>if g (1+(j:Nat))=[] then [] else [⟨1+(j:Nat),g (1+(j:Nat))⟩]
def SK (g:Int->List Wd):zT g 4=dm g:=by
 simp[zT,dm,aj3]
def SI (g:Int->List Wd)(k:Nat):zT g (k+1)=zT g k++if g (1+(k:Nat))=[] then [] else [⟨1+(k:Nat),g (1+(k:Nat))⟩]:=by
 simp[zT,aj3]
theorem WH (g:Int->List Wd)(k:Nat):(zT g k).length<=k:=by
 induction k with
 |zero=>simp[zT]
 |succ k ih=>rw[SI,ahw];split<;>simp<;>omega
def P1 (a b:List (Int×List Wd))(f:Int):pM (a++b) f=pM a f++pM b f:=by
 unfold pM;rw[aij,aid]
theorem AK:∀{l:List Ps},lR l->∀d:Int,posOf l d=(l.filter λp=>p.1==d).flatMap (·.2)
 |[],_,d=>rfl
 |p::l,h,d=>by
  have hp:=jA h
  by_cases e:p.1=d
  ·subst e;have h0:l.filter (λq=>q.1==p.1)=[]:=by
    rw[ai9];intro q hq;have:=hp.2 q hq;simp;omega
   rw[df,aiI zS,h0];simp
  ·rw[cM e,aiE (zU e)];exact AK hp.1 d
theorem tM:∀{ts:List Tm},(∀t∈ts,lR t.l)->∀id f:Int,occs ts id f=ts.flatMap (Vt id f)
 |[],_,_,_=>rfl
 |t::ts,h,id,f=>by
  have h1:occs (t::ts) id f=pM ((t.l.filter λp=>p.1==id).map λp=>(t.f,p.2.map λa=>(t.w,a))) f++occs ts id f:=by
   unfold occs R6;rw[ahK,P1]
  rw[h1,ahK,tM (λt ht=>h t (by simp[ht]))]
  congr 1
  unfold Vt pM;rw[AK (h t zS)]
  by_cases e:t.f=f
  ·rw[ahF e,ai4.2 (λx hx=>by obtain⟨p,_,rfl⟩:=ahz.1 hx;simpa using e),aiK,List.map_flatMap]
  ·rw[ahC e,ai9.2 (λx hx=>by obtain⟨p,_,rfl⟩:=ahz.1 hx;simpa using e)];rfl
end Go.Proofs.YtoejlmpbebjemaaGreat
