/- What the law's bookplatelaw39.Own returns (layer 39): the segment. What the law's bookplatelaw39.Theirs returns (layer 39): the segment. The reference's Equal of a segment and itself, and the law's equal (layer 39).
   Conditions: as the theorems say. -/
import Derived.Test.YtneohapkboaplaaGreatGV
import Derived.Test.YtneohapkboaplaaGreatGBC
import Derived.Test.YtneohapkboaplaaGreatAmC
set_option linter.all false
set_option maxRecDepth 100000
set_option maxHeartbeats 16000000
open List (length_take take_length length_set)
namespace Go.Proofs.YtneohapkboaplaaGreat
open Go Go.Am iF eJ dh
abbrev RL (x:Cl×Nat):List AV:=[.int .i64 x.1.f,.sl x.1.x.length (aU x.1.x) (.own x.2)]
def gM (l:List (Cl×Nat)):List AV:=l.flatMap RL
theorem Fo:eC RL 2:=fun _=>rfl
theorem vf (l:List (Cl×Nat)):(gM l).length=l.length*2:=b9 Fo l
theorem xV (l:List (Cl×Nat))(x:Cl×Nat):gM l++[.int .i64 x.1.f,.sl x.1.x.length (aU x.1.x) (.own x.2)]=gM (l++[x]):=iW (f:=RL) l x
theorem rj {n t:Nat}{l:List (Cl×Nat)}(h:∀x∈l,x.2<t):aJ n t (gM l):=by
 intro v hv;obtain⟨x,hx,hv⟩:=List.mem_flatMap.1 hv;simp only[RL,List.mem_cons,List.not_mem_nil,or_false] at hv;rcases hv with rfl|rfl
 ·exact .int _ _
 ·simp[h x hx]
theorem Kb {n0 t0 n:Nat}{H:List aA}{l:List (Cl×Nat)}{tg:Tag}:gk n0 t0 H (.sl n (gM l) tg) (.sl n (cR (l.map (·.1))) .none):=by
 have h1:gM l=l.flatMap RL++[]:=by simp[gM]
 have h2:cR (l.map (·.1))=l.flatMap fun e=>fL e.1:=by simp[cR,List.flatMap_map]
 rw[h2];refine .sl ?_ fun j hj=>?_
 ·rw[vf,b9 (f:=fun e:Cl×Nat=>fL e.1) (k:=2) (fun _=>rfl)]
 ·rw[h1];refine iy (fa:=RL) (fb:=fun e=>fL e.1) Fo (fun _=>rfl) l (fun e yi j hj=>?_) [] j hj
  match j,hj with
  |0,_=>exact .keep (.inl rfl) (.int _ _)
  |1,_=>exact .keep (.inr rfl) (by simp)
attribute [-simp] List.getD_eq_getElem?_getD in
theorem JS (s:Sg)(hs:mh s)(H:List aA)(T:ar):aq Tryz.prog 18 [ec s] H T (Is (ec s) H T):=by
 refine aq.nF ?_;show aq Tryz.prog _ _ H T (BQ H T _);have pg:=hs.t;have hw:=hs.w;have fK:=hs.c;have hx:=hs.x;obtain⟨an,aK,aw⟩:=s;simp only at pg hw fK hx;have MQ:aK.length≤9223372036854775807:=by omega
 have MS:aw.length≤9223372036854775807:=by omega
 refine aj 10 [] Tryz.ntmps18 Tryz.func18 rfl (fun _ _=>Tryz.call18 _ _) (by simp) (fun HO=>?_);apply ae;intro K h;simp(disch:=omega);apply h;clear h K;apply ae;intro K h;simp(disch:=omega);apply h;clear h K;refine iu 3 1 (H++[.cells (bH ⟨an,aK,aw⟩),.cells [.sl 0 [] .full,.sl 0 [] .full,.sl 0 [] .full]]) [.sl an.length (ints an) .none,.sl 0 [] .full,.sl 0 [] .full] 0 [] (by omega) rfl (by simp) ?_;refine iu 2 2 (H++[.cells (bH ⟨an,aK,aw⟩),.cells [.sl 0 [] .full,.sl 0 [] .full,.sl 0 [] .full]]) [.sl an.length (ints an) .none,.sl 0 [] (.own T.length),.sl 0 [] .full] 0 [] (by omega) rfl (by simp) ?_;simp(disch:=omega) ;have I5:∀i j:Nat,∀cs ds:List AV,∀U:ar,T.length+2≤U.length→aJ (H.length+3) U.length cs→aJ (H.length+3) U.length ds→bC (H++[.cells (bH ⟨an,aK,aw⟩),.cells [.sl 0 [] .full,.sl 0 [] .full,.sl 0 [] .full],.cells [.sl an.length (ints an) .none,.sl i cs (.own T.length),.sl j ds (.own (T.length+1))]]) U:=by
  intro i j cs ds U hU hc hd;have h1:=((HO.snoc (vs:=bH ⟨an,aK,aw⟩) (by simp)).snoc (vs:=[.sl 0 [] .full,.sl 0 [] .full,.sl 0 [] .full]) (by simp)).fQ (T':=U) (by omega);have h2:=h1.snoc (vs:=[.sl an.length (ints an) .none,.sl i cs (.own T.length),.sl j ds (.own (T.length+1))]) (by simp[hc,hd];omega);simpa using h2
 refine af fun K1 aQ=>?_;apply ae;intro K h;simp(disch:=omega);apply h;clear h K;apply ah;refine aG (X:=Nat) (fun i=>⟨[(1,.ptr H.length 0),(2,.ptr (H.length+1) 0),(3,.ptr (H.length+2) 0),(4,.int .i64 (i:Nat))],H++[.cells (bH ⟨an,aK,aw⟩),.cells [.sl 0 [] .full,.sl 0 [] .full,.sl 0 [] .full],.cells [.sl an.length (ints an) .none,.sl i (bO (aK.take i)) (.own T.length),.sl 0 [] (.own (T.length+1))]],T++[(i*3,3),(0,2)]⟩)
  (fun i=>i≤aK.length) (fun i=>aK.length-i) 0 ?_ ?_ ?_
 ·exact Nat.zero_le _
 ·refine ag [] [] ?_ ?_ ?_ ?_ (I5 0 0 _ _ _ (by simp) (by simp) (by simp)) ?_
  all_goals simp[bO]
 ·intro i g1;have FY:(bO (aK.take i)).length=i*3:=by rw[bU,length_take];omega
  refine af fun K2 aW=>?_;apply ae;intro K h;simp(disch:=omega);apply h;clear h K;refine aN rfl (fun hk=>?_) (fun hk=>?_)
  ·simp  at hk;have bA:=gH aK i hk;have eN:=w8 aK i hk;obtain⟨q1,q2,q3⟩:=hw _ (aR aK i t0 hk);generalize aK.getD i t0=t at *;obtain⟨f,w,l⟩:=t;simp only at bA eN q1 q2 q3;have PE:=I5 (i+1) 0 (bO (aK.take (i+1))) [] (T++[((i+1)*3,3),(0,2)]) (by simp) (by simp) (by simp);have yj:∀n t:Nat,aJ n t (bO (aK.take i)):=fun n t=>by simp
   have co:=fun H T=>NH l (by omega) H T .none;generalize bO (aK.take i)=out at *;apply ai;simp(disch:=omega) ;apply aW;clear aW;refine af fun K3 bz=>?_;apply ah;refine ae fun K hK=>?_;simp(disch:=omega)[bA,bU];apply hK;clear hK K;refine bZ [11,13] [0,0,0,0,0,0,0,0,0,0,0,0,1,1] [[],[]] al (by kernel_rfl) (by kernel_rfl) fun K hK=>?_;simp(disch:=omega)[FY];refine aB (co _ _) rfl ?_;simp(disch:=omega)[eN];apply hK;clear hK K;apply bz;clear bz;refine au fun K hK=>?_;simp(disch:=omega) ;apply hK;clear hK K;refine⟨i+1,by show i+1≤_;omega,by show aK.length-(i+1)<aK.length-i;omega,?_⟩;refine ag [.cells (js ⟨f,w,l⟩)] [] ?_ ?_ ?_ ?_ PE ?_
   all_goals simp
  ·simp  at hk;have tJ:i=aK.length:=by omega
   subst tJ;rw[take_length] at FY ⊢;apply aC;simp(disch:=omega) ;apply aQ;clear aQ;have ZG:(T++[(aK.length*3,3),(0,2)]).length=T.length+2:=by simp
   have wJ:eT T (T++[(aK.length*3,3),(0,2)]):=⟨_,rfl⟩
   have ZE:(T++[(aK.length*3,3),(0,2)])[T.length+1]?=some (0,2):=by simp
   generalize T++[(aK.length*3,3),(0,2)]=U0 at *;have Qm:T.length+2≤U0.length:=Nat.le_of_eq ZG.symm;refine af fun K1 aQ=>?_;apply ae;intro K h;simp(disch:=omega);apply h;clear h K;apply ah;refine aG (X:=Nat×List (Cl×Nat)×ar) (fun x=>⟨[(1,.ptr H.length 0),(2,.ptr (H.length+1) 0),(3,.ptr (H.length+2) 0),(6,.int .i64 (x.1:Nat))],H++[.cells (bH ⟨an,aK,aw⟩),.cells [.sl 0 [] .full,.sl 0 [] .full,.sl 0 [] .full],.cells [.sl an.length (ints an) .none,.sl aK.length (bO aK) (.own T.length),.sl x.1 (gM x.2.1) (.own (T.length+1))]],x.2.2⟩)
    (fun x=>x.1≤aw.length∧x.2.1.map (·.1)=aw.take x.1∧(∀c∈x.2.1,c.2<x.2.2.length)∧T.length+2≤x.2.2.length∧eT T x.2.2∧x.2.2[T.length+1]?=some (x.1*2,2)) (fun x=>aw.length-x.1) (0,[],U0) ?_ ?_ ?_
   ·exact⟨Nat.zero_le _,rfl,by simp,by omega,wJ,ZE⟩
   ·refine ag [] [] ?_ ?_ ?_ ?_ (I5 aK.length 0 (bO aK) [] U0 Qm (by simp) (by simp)) ?_
    all_goals simp[gM]
    all_goals omega
   ·rintro⟨i,P,U⟩ ⟨g1,g2,g3,g4,g5,g6⟩;simp only at g1 g2 g3 g4 g5 g6;have RE:P.length=i:=by
     have:=congrArg List.length g2;rw[List.length_map,length_take] at this;omega
    have Ql:aJ (H.length+3) U.length (gM P):=rj g3;have lT:=g5.le;refine af fun K4 eV=>?_;apply ae;intro K h;simp(disch:=omega);apply h;clear h K;refine aN rfl (fun hk=>?_) (fun hk=>?_)
    ·simp  at hk;obtain⟨a1,a2⟩:=oN aw i hk;have vT:=hx _ (aR aw i c0 hk);have eN:=bf aw i c0 hk;generalize aw.getD i c0=c at *;obtain⟨f,x⟩:=c;simp only at a1 a2 vT;have FX:x.length≤9223372036854775807:=by omega
     apply ai;simp(disch:=omega) ;apply eV;clear eV;refine af fun K5 gC=>?_;apply ah;refine ae fun K hK=>?_;simp(disch:=omega)[a1,a2,cE,hk];apply hK;clear hK K;refine iu 2 1 (H++[.cells (bH ⟨an,aK,aw⟩),.cells [.sl 0 [] .full,.sl 0 [] .full,.sl 0 [] .full],.cells [.sl an.length (ints an) .none,.sl aK.length (bO aK) (.own T.length),.sl i (gM P) (.own (T.length+1))]]) [.int .i64 f,.sl 0 [] .full] 0 [] (by omega) rfl (by simp) ?_;simp(disch:=omega) ;have yv:∀k:Nat,∀cs:List AV,∀V:ar,U.length+1≤V.length→aJ (H.length+4) V.length cs→bC (H++[.cells (bH ⟨an,aK,aw⟩),.cells [.sl 0 [] .full,.sl 0 [] .full,.sl 0 [] .full],.cells [.sl an.length (ints an) .none,.sl aK.length (bO aK) (.own T.length),.sl i (gM P) (.own (T.length+1))],.cells [.int .i64 f,.sl k cs (.own U.length)]]) V:=by
      intro k cs V hV hc;have h1:=I5 aK.length i (bO aK) (gM P) V (by omega) (by simp) (fun v hv=>(Ql v hv).more (Nat.le_refl _) (by omega));have h2:=h1.snoc (vs:=[.int .i64 f,.sl k cs (.own U.length)]) (by simp[hc];omega);simpa using h2
     refine af fun K6 iH=>?_;apply ae;intro K h;simp(disch:=omega);apply h;clear h K;apply ah;refine aG (X:=Nat) (fun k=>⟨[(1,.ptr H.length 0),(2,.ptr (H.length+1) 0),(3,.ptr (H.length+2) 0),(6,.int .i64 (i:Nat)),(7,.ptr (H.length+3) 0),(8,.int .i64 (k:Nat))],H++[.cells (bH ⟨an,aK,aw⟩),.cells [.sl 0 [] .full,.sl 0 [] .full,.sl 0 [] .full],.cells [.sl an.length (ints an) .none,.sl aK.length (bO aK) (.own T.length),.sl i (gM P) (.own (T.length+1))],.cells [.int .i64 f,.sl k (aU (x.take k)) (.own U.length)]],U++[(k*2,2)]⟩)
      (fun k=>k≤x.length) (fun k=>x.length-k) 0 ?_ ?_ ?_
     ·exact Nat.zero_le _
     ·refine ag [] [] ?_ ?_ ?_ ?_ (yv 0 (aU (x.take 0)) (U++[(0*2,2)]) (by simp) (by simp)) ?_
      all_goals simp[aU]
      all_goals omega
     ·intro k k1;have zA:(aU (x.take k)).length=k*2:=by rw[bG,length_take];omega
      refine af fun K7 IZ=>?_;refine ae fun K hK=>?_;simp(disch:=omega)[a1,a2,cE,hk];apply hK;clear hK K;refine aN rfl (fun dg=>?_) (fun dg=>?_)
      ·simp  at dg;have pL:=eA x k dg;have Eu:=xr x k dg;have PE:=yv (k+1) (aU (x.take (k+1))) (U++[((k+1)*2,2)]) (by simp) (by simp);have yj:∀n t:Nat,aJ n t (aU (x.take k)):=fun n t=>by simp
       generalize aU (x.take k)=out at *;generalize x.getD k n0=y at *;obtain⟨y1,y2⟩:=y;simp only at pL Eu;apply ai;simp(disch:=omega) ;apply IZ;clear IZ;refine af fun K8 SX=>?_;apply ah;refine bZ [12,14] [0,0,0,0,0,0,0,0,0,0,0,0,0,1,1] [[],[]] al (by kernel_rfl) (by kernel_rfl) fun K hK=>?_;simp(disch:=omega)[a1,a2,cE,hk,pL,bG,dg,zA,Eu];apply hK;clear hK K;apply SX;clear SX;refine au fun K hK=>?_;simp(disch:=omega) ;apply hK;clear hK K;refine⟨k+1,by show k+1≤_;omega,by show x.length-(k+1)<x.length-k;omega,?_⟩;refine ag [] [] ?_ ?_ ?_ ?_ PE ?_
       all_goals simp
       all_goals omega
      ·simp  at dg;have CE:k=x.length:=by omega
       subst CE;rw[take_length] at zA ⊢;apply aC;simp(disch:=omega) ;apply iH;clear iH;have rC:(U++[(x.length*2,2)])[T.length+1]?=some (i*2,2):=by rw[List.getElem?_append_left (by omega)];exact g6
       have oJ:eT T (U++[(x.length*2,2)]):=g5.app _;have SV:(U++[(x.length*2,2)]).length=U.length+1:=by simp
       have Cs:=I5 aK.length (i+1) (bO aK);have Jo:=yv x.length (aU x) (U++[(x.length*2,2)]) (by simp) (by simp);have wh:(gM P).length=i*2:=by rw[vf,RE]
       have pG:=xV P (⟨f,x⟩,U.length);simp only at pG;have OE:(P++[((⟨f,x⟩:Cl),U.length)]).map (·.1)=aw.take (i+1):=by rw[eN,List.map_append,g2];rfl
       have II:∀c∈P++[((⟨f,x⟩:Cl),U.length)],c.2<U.length+1:=fun c hc=>by
        rcases List.mem_append.1 hc with h|h
        ·have:=g3 c h;omega
        ·rw[List.mem_singleton.1 h];exact Nat.lt_succ_self _
       have tj:aJ (H.length+3) (U.length+1) (gM (P++[((⟨f,x⟩:Cl),U.length)])):=rj II;generalize hPP:P++[((⟨f,x⟩:Cl),U.length)]=P2 at *;clear yv;have SI:=g3;generalize gM P=ca at *;have lU:T.length+1<(U++[(x.length*2,2)]).length:=by omega
       obtain⟨u,hu⟩:∃u,u=U.length:=⟨_,rfl⟩
       rw[←hu] at pG tj II SV Jo;simp only[←hu];clear SI;generalize hUU:U++[(x.length*2,2)]=U2 at *;have eU:=aV rC;refine aH ⟨[(1,.ptr H.length 0),(2,.ptr (H.length+1) 0),(3,.ptr (H.length+2) 0),(6,.int .i64 (i:Nat)),(7,.ptr (H.length+3) 0)],H++[.cells (bH ⟨an,aK,aw⟩),.cells [.sl 0 [] .full,.sl 0 [] .full,.sl 0 [] .full],.cells [.sl an.length (ints an) .none,.sl aK.length (bO aK) (.own T.length),.sl i ca (.own (T.length+1))],.cells [.int .i64 f,.sl x.length (aU x) (.own u)]],U2⟩ (ag [] [] (by simp) (by simp) (by simp) (by simp;omega) Jo (by simp)) ?_;refine au fun K hK=>?_;simp(disch:=omega)[eU,wh,pG];apply hK;clear hK K;have MB:=Cs (gM P2) (U2.set (T.length+1) ((i+1)*2,2)) (by simp;omega) (by simp) (by simp[SV,tj]);apply gC;clear gC;refine au fun K hK=>?_;simp(disch:=omega) ;apply hK;clear hK K;refine⟨(i+1,P2,U2.set (T.length+1) ((i+1)*2,2)),⟨by show i+1≤_;omega,OE,fun c hc=>by have:=II c hc;simp only[length_set];omega,by simp only[length_set];omega,oJ.set (by omega) _,List.getElem?_set_self (by omega)⟩,by show aw.length-(i+1)<aw.length-i;omega,?_⟩;refine ag [.cells [.int .i64 f,.sl x.length (aU x) (.own u)]] [] ?_ ?_ ?_ ?_ MB ?_
       all_goals simp
       all_goals omega
    ·simp  at hk;have tJ:i=aw.length:=by omega
     subst tJ;rw[take_length] at g2;apply aC;simp(disch:=omega) ;apply aQ;clear aQ;apply ae;intro K h;simp(disch:=omega);apply h;clear h K;apply az;simp(disch:=omega) ;refine⟨⟨_,rfl⟩,g5,.agg rfl fun j hj=>?_⟩
     match j,hj with
     |0,_=>exact .keep (.inl rfl) (by simp)
     |1,_=>exact .keep (.inr rfl) (by simp)
     |2,_=>
      have hc:cR aw=cR (P.map (·.1)):=by rw[g2]
      show gk H.length T.length _ (.sl aw.length (gM P) (.own (T.length+1))) (.sl aw.length (cR aw) .none);rw[hc];exact Kb
attribute [-simp] List.getD_eq_getElem?_getD in
theorem Dk (s:Sg)(hs:mh s)(H:List aA)(T:ar):aq Tryz.prog 70 [ec s] H T (Is (ec s) H T):=by
 refine aq.nF ?_;show aq Tryz.prog _ _ H T (BQ H T _);have pg:=hs.t;have hw:=hs.w;have fK:=hs.c;have hx:=hs.x;obtain⟨an,aK,aw⟩:=s;simp only at pg hw fK hx;have MQ:aK.length≤9223372036854775807:=by omega
 have MS:aw.length≤9223372036854775807:=by omega
 refine aj 10 [] Tryz.ntmps70 Tryz.func70 rfl (fun _ _=>Tryz.call70 _ _) (by simp) (fun HO=>?_);apply ae;intro K h;simp(disch:=omega);apply h;clear h K;apply ae;intro K h;simp(disch:=omega);apply h;clear h K;refine iu 3 1 (H++[.cells (bH ⟨an,aK,aw⟩),.cells [.sl 0 [] .full,.sl 0 [] .full,.sl 0 [] .full]]) [.sl an.length (ints an) .none,.sl 0 [] .full,.sl 0 [] .full] 0 [] (by omega) rfl (by simp) ?_;refine iu 2 2 (H++[.cells (bH ⟨an,aK,aw⟩),.cells [.sl 0 [] .full,.sl 0 [] .full,.sl 0 [] .full]]) [.sl an.length (ints an) .none,.sl 0 [] (.own T.length),.sl 0 [] .full] 0 [] (by omega) rfl (by simp) ?_;simp(disch:=omega) ;have I5:∀i j:Nat,∀cs ds:List AV,∀U:ar,T.length+2≤U.length→aJ (H.length+3) U.length cs→aJ (H.length+3) U.length ds→bC (H++[.cells (bH ⟨an,aK,aw⟩),.cells [.sl 0 [] .full,.sl 0 [] .full,.sl 0 [] .full],.cells [.sl an.length (ints an) .none,.sl i cs (.own T.length),.sl j ds (.own (T.length+1))]]) U:=by
  intro i j cs ds U hU hc hd;have h1:=((HO.snoc (vs:=bH ⟨an,aK,aw⟩) (by simp)).snoc (vs:=[.sl 0 [] .full,.sl 0 [] .full,.sl 0 [] .full]) (by simp)).fQ (T':=U) (by omega);have h2:=h1.snoc (vs:=[.sl an.length (ints an) .none,.sl i cs (.own T.length),.sl j ds (.own (T.length+1))]) (by simp[hc,hd];omega);simpa using h2
 refine af fun K1 aQ=>?_;apply ae;intro K h;simp(disch:=omega);apply h;clear h K;apply ah;refine aG (X:=Nat) (fun i=>⟨[(1,.ptr H.length 0),(2,.ptr (H.length+1) 0),(3,.ptr (H.length+2) 0),(4,.int .i64 (i:Nat))],H++[.cells (bH ⟨an,aK,aw⟩),.cells [.sl 0 [] .full,.sl 0 [] .full,.sl 0 [] .full],.cells [.sl an.length (ints an) .none,.sl i (bO (aK.take i)) (.own T.length),.sl 0 [] (.own (T.length+1))]],T++[(i*3,3),(0,2)]⟩)
  (fun i=>i≤aK.length) (fun i=>aK.length-i) 0 ?_ ?_ ?_
 ·exact Nat.zero_le _
 ·refine ag [] [] ?_ ?_ ?_ ?_ (I5 0 0 _ _ _ (by simp) (by simp) (by simp)) ?_
  all_goals simp[bO]
 ·intro i g1;have FY:(bO (aK.take i)).length=i*3:=by rw[bU,length_take];omega
  refine af fun K2 aW=>?_;apply ae;intro K h;simp(disch:=omega);apply h;clear h K;refine aN rfl (fun hk=>?_) (fun hk=>?_)
  ·simp  at hk;have bA:=gH aK i hk;have eN:=w8 aK i hk;obtain⟨q1,q2,q3⟩:=hw _ (aR aK i t0 hk);generalize aK.getD i t0=t at *;obtain⟨f,w,l⟩:=t;simp only at bA eN q1 q2 q3;have PE:=I5 (i+1) 0 (bO (aK.take (i+1))) [] (T++[((i+1)*3,3),(0,2)]) (by simp) (by simp) (by simp);have yj:∀n t:Nat,aJ n t (bO (aK.take i)):=fun n t=>by simp
   have co:=fun H T=>w9 l (by omega) H T .none;generalize bO (aK.take i)=out at *;apply ai;simp(disch:=omega) ;apply aW;clear aW;refine af fun K3 bz=>?_;apply ah;refine ae fun K hK=>?_;simp(disch:=omega)[bA,bU];apply hK;clear hK K;refine bZ [11,13] [0,0,0,0,0,0,0,0,0,0,0,0,1,1] [[],[]] al (by kernel_rfl) (by kernel_rfl) fun K hK=>?_;simp(disch:=omega)[FY];refine aB (co _ _) rfl ?_;simp(disch:=omega)[FY,eN];apply hK;clear hK K;apply bz;clear bz;refine au fun K hK=>?_;simp(disch:=omega) ;apply hK;clear hK K;refine⟨i+1,by show i+1≤_;omega,by show aK.length-(i+1)<aK.length-i;omega,?_⟩;refine ag [.cells (js ⟨f,w,l⟩)] [] ?_ ?_ ?_ ?_ PE ?_
   all_goals simp
  ·simp  at hk;have tJ:i=aK.length:=by omega
   subst tJ;rw[take_length] at FY ⊢;apply aC;simp(disch:=omega) ;apply aQ;clear aQ;have ZG:(T++[(aK.length*3,3),(0,2)]).length=T.length+2:=by simp
   have wJ:eT T (T++[(aK.length*3,3),(0,2)]):=⟨_,rfl⟩
   have ZE:(T++[(aK.length*3,3),(0,2)])[T.length+1]?=some (0,2):=by simp
   generalize T++[(aK.length*3,3),(0,2)]=U0 at *;have Qm:T.length+2≤U0.length:=Nat.le_of_eq ZG.symm;refine af fun K1 aQ=>?_;apply ae;intro K h;simp(disch:=omega);apply h;clear h K;apply ah;refine aG (X:=Nat×List (Cl×Nat)×ar) (fun x=>⟨[(1,.ptr H.length 0),(2,.ptr (H.length+1) 0),(3,.ptr (H.length+2) 0),(6,.int .i64 (x.1:Nat))],H++[.cells (bH ⟨an,aK,aw⟩),.cells [.sl 0 [] .full,.sl 0 [] .full,.sl 0 [] .full],.cells [.sl an.length (ints an) .none,.sl aK.length (bO aK) (.own T.length),.sl x.1 (gM x.2.1) (.own (T.length+1))]],x.2.2⟩)
    (fun x=>x.1≤aw.length∧x.2.1.map (·.1)=aw.take x.1∧(∀c∈x.2.1,c.2<x.2.2.length)∧T.length+2≤x.2.2.length∧eT T x.2.2∧x.2.2[T.length+1]?=some (x.1*2,2)) (fun x=>aw.length-x.1) (0,[],U0) ?_ ?_ ?_
   ·exact⟨Nat.zero_le _,rfl,by simp,by omega,wJ,ZE⟩
   ·refine ag [] [] ?_ ?_ ?_ ?_ (I5 aK.length 0 (bO aK) [] U0 Qm (by simp) (by simp)) ?_
    all_goals simp[gM]
    all_goals omega
   ·rintro⟨i,P,U⟩ ⟨g1,g2,g3,g4,g5,g6⟩;simp only at g1 g2 g3 g4 g5 g6;have RE:P.length=i:=by
     have:=congrArg List.length g2;rw[List.length_map,length_take] at this;omega
    have Ql:aJ (H.length+3) U.length (gM P):=rj g3;have lT:=g5.le;refine af fun K4 eV=>?_;apply ae;intro K h;simp(disch:=omega);apply h;clear h K;refine aN rfl (fun hk=>?_) (fun hk=>?_)
    ·simp  at hk;obtain⟨a1,a2⟩:=oN aw i hk;have vT:=hx _ (aR aw i c0 hk);have eN:=bf aw i c0 hk;generalize aw.getD i c0=c at *;obtain⟨f,x⟩:=c;simp only at a1 a2 vT;have FX:x.length≤9223372036854775807:=by omega
     apply ai;simp(disch:=omega) ;apply eV;clear eV;refine af fun K5 gC=>?_;apply ah;refine ae fun K hK=>?_;simp(disch:=omega)[a1,a2,cE,hk];apply hK;clear hK K;refine iu 2 1 (H++[.cells (bH ⟨an,aK,aw⟩),.cells [.sl 0 [] .full,.sl 0 [] .full,.sl 0 [] .full],.cells [.sl an.length (ints an) .none,.sl aK.length (bO aK) (.own T.length),.sl i (gM P) (.own (T.length+1))]]) [.int .i64 f,.sl 0 [] .full] 0 [] (by omega) rfl (by simp) ?_;simp(disch:=omega) ;have yv:∀k:Nat,∀cs:List AV,∀V:ar,U.length+1≤V.length→aJ (H.length+4) V.length cs→bC (H++[.cells (bH ⟨an,aK,aw⟩),.cells [.sl 0 [] .full,.sl 0 [] .full,.sl 0 [] .full],.cells [.sl an.length (ints an) .none,.sl aK.length (bO aK) (.own T.length),.sl i (gM P) (.own (T.length+1))],.cells [.int .i64 f,.sl k cs (.own U.length)]]) V:=by
      intro k cs V hV hc;have h1:=I5 aK.length i (bO aK) (gM P) V (by omega) (by simp) (fun v hv=>(Ql v hv).more (Nat.le_refl _) (by omega));have h2:=h1.snoc (vs:=[.int .i64 f,.sl k cs (.own U.length)]) (by simp[hc];omega);simpa using h2
     refine af fun K6 iH=>?_;apply ae;intro K h;simp(disch:=omega);apply h;clear h K;apply ah;refine aG (X:=Nat) (fun k=>⟨[(1,.ptr H.length 0),(2,.ptr (H.length+1) 0),(3,.ptr (H.length+2) 0),(6,.int .i64 (i:Nat)),(7,.ptr (H.length+3) 0),(8,.int .i64 (k:Nat))],H++[.cells (bH ⟨an,aK,aw⟩),.cells [.sl 0 [] .full,.sl 0 [] .full,.sl 0 [] .full],.cells [.sl an.length (ints an) .none,.sl aK.length (bO aK) (.own T.length),.sl i (gM P) (.own (T.length+1))],.cells [.int .i64 f,.sl k (aU (x.take k)) (.own U.length)]],U++[(k*2,2)]⟩)
      (fun k=>k≤x.length) (fun k=>x.length-k) 0 ?_ ?_ ?_
     ·exact Nat.zero_le _
     ·refine ag [] [] ?_ ?_ ?_ ?_ (yv 0 (aU (x.take 0)) (U++[(0*2,2)]) (by simp) (by simp)) ?_
      all_goals simp[aU]
      all_goals omega
     ·intro k k1;have zA:(aU (x.take k)).length=k*2:=by rw[bG,length_take];omega
      refine af fun K7 IZ=>?_;refine ae fun K hK=>?_;simp(disch:=omega)[a1,a2,cE,hk];apply hK;clear hK K;refine aN rfl (fun dg=>?_) (fun dg=>?_)
      ·simp  at dg;have pL:=eA x k dg;have Eu:=xr x k dg;have PE:=yv (k+1) (aU (x.take (k+1))) (U++[((k+1)*2,2)]) (by simp) (by simp);have yj:∀n t:Nat,aJ n t (aU (x.take k)):=fun n t=>by simp
       generalize aU (x.take k)=out at *;generalize x.getD k n0=y at *;obtain⟨y1,y2⟩:=y;simp only at pL Eu;apply ai;simp(disch:=omega) ;apply IZ;clear IZ;refine af fun K8 SX=>?_;apply ah;refine bZ [12,14] [0,0,0,0,0,0,0,0,0,0,0,0,0,1,1] [[],[]] al (by kernel_rfl) (by kernel_rfl) fun K hK=>?_;simp(disch:=omega)[a1,a2,cE,hk,pL,bG,dg,zA,Eu];apply hK;clear hK K;apply SX;clear SX;refine au fun K hK=>?_;simp(disch:=omega) ;apply hK;clear hK K;refine⟨k+1,by show k+1≤_;omega,by show x.length-(k+1)<x.length-k;omega,?_⟩;refine ag [] [] ?_ ?_ ?_ ?_ PE ?_
       all_goals simp
       all_goals omega
      ·simp  at dg;have CE:k=x.length:=by omega
       subst CE;rw[take_length] at zA ⊢;apply aC;simp(disch:=omega) ;apply iH;clear iH;have rC:(U++[(x.length*2,2)])[T.length+1]?=some (i*2,2):=by rw[List.getElem?_append_left (by omega)];exact g6
       have oJ:eT T (U++[(x.length*2,2)]):=g5.app _;have SV:(U++[(x.length*2,2)]).length=U.length+1:=by simp
       have Cs:=I5 aK.length (i+1) (bO aK);have Jo:=yv x.length (aU x) (U++[(x.length*2,2)]) (by simp) (by simp);have wh:(gM P).length=i*2:=by rw[vf,RE]
       have pG:=xV P (⟨f,x⟩,U.length);simp only at pG;have OE:(P++[((⟨f,x⟩:Cl),U.length)]).map (·.1)=aw.take (i+1):=by rw[eN,List.map_append,g2];rfl
       have II:∀c∈P++[((⟨f,x⟩:Cl),U.length)],c.2<U.length+1:=fun c hc=>by
        rcases List.mem_append.1 hc with h|h
        ·have:=g3 c h;omega
        ·rw[List.mem_singleton.1 h];exact Nat.lt_succ_self _
       have tj:aJ (H.length+3) (U.length+1) (gM (P++[((⟨f,x⟩:Cl),U.length)])):=rj II;generalize hPP:P++[((⟨f,x⟩:Cl),U.length)]=P2 at *;clear yv;have SI:=g3;generalize gM P=ca at *;have lU:T.length+1<(U++[(x.length*2,2)]).length:=by omega
       obtain⟨u,hu⟩:∃u,u=U.length:=⟨_,rfl⟩
       rw[←hu] at pG tj II SV Jo;simp only[←hu];clear SI;generalize hUU:U++[(x.length*2,2)]=U2 at *;have eU:=aV rC;refine aH ⟨[(1,.ptr H.length 0),(2,.ptr (H.length+1) 0),(3,.ptr (H.length+2) 0),(6,.int .i64 (i:Nat)),(7,.ptr (H.length+3) 0)],H++[.cells (bH ⟨an,aK,aw⟩),.cells [.sl 0 [] .full,.sl 0 [] .full,.sl 0 [] .full],.cells [.sl an.length (ints an) .none,.sl aK.length (bO aK) (.own T.length),.sl i ca (.own (T.length+1))],.cells [.int .i64 f,.sl x.length (aU x) (.own u)]],U2⟩ (ag [] [] (by simp) (by simp) (by simp) (by simp;omega) Jo (by simp)) ?_;refine au fun K hK=>?_;simp(disch:=omega)[eU,wh,pG];apply hK;clear hK K;have MB:=Cs (gM P2) (U2.set (T.length+1) ((i+1)*2,2)) (by simp;omega) (by simp) (by simp[SV,tj]);apply gC;clear gC;refine au fun K hK=>?_;simp(disch:=omega) ;apply hK;clear hK K;refine⟨(i+1,P2,U2.set (T.length+1) ((i+1)*2,2)),⟨by show i+1≤_;omega,OE,fun c hc=>by have:=II c hc;simp only[length_set];omega,by simp only[length_set];omega,oJ.set (by omega) _,List.getElem?_set_self (by omega)⟩,by show aw.length-(i+1)<aw.length-i;omega,?_⟩;refine ag [.cells [.int .i64 f,.sl x.length (aU x) (.own u)]] [] ?_ ?_ ?_ ?_ MB ?_
       all_goals simp
       all_goals omega
    ·simp  at hk;have tJ:i=aw.length:=by omega
     subst tJ;rw[take_length] at g2;apply aC;simp(disch:=omega) ;apply aQ;clear aQ;apply ae;intro K h;simp(disch:=omega);apply h;clear h K;apply az;simp(disch:=omega) ;refine⟨⟨_,rfl⟩,g5,.agg rfl fun j hj=>?_⟩
     match j,hj with
     |0,_=>exact .keep (.inl rfl) (by simp)
     |1,_=>exact .keep (.inr rfl) (by simp)
     |2,_=>
      have hc:cR aw=cR (P.map (·.1)):=by rw[g2]
      show gk H.length T.length _ (.sl aw.length (gM P) (.own (T.length+1))) (.sl aw.length (cR aw) .none);rw[hc];exact Kb
attribute [-simp] List.getD_eq_getElem?_getD in
theorem BW (s:Sg)(hs:mh s)(H:List aA)(T:ar):aq Tryz.prog 38 [ec s,ec s] H T (Is (.bool true) H T):=by
 refine aq.cH ?_ (by simp);have hY:(400:Nat)≤maxLen:=by decide
 have hd:=hs.d;have pg:=hs.t;have hw:=hs.w;have fK:=hs.c;have hx:=hs.x;obtain⟨an,aK,aw⟩:=s;simp only at hd pg hw fK hx;have MQ:aK.length≤9223372036854775807:=by omega
 have MS:aw.length≤9223372036854775807:=by omega
 have cd:=fun H T=>oA an an (by omega) (by omega) H T .none .none;rw[beq_self_eq_true] at cd;refine aj 10 [] Tryz.ntmps38 Tryz.func38 rfl (fun _ _=>Tryz.call38 _ _) (by simp) (fun HO=>?_);apply ae;intro K h;simp(disch:=omega);apply h;clear h K;have eX:bC (H++[.cells (bH ⟨an,aK,aw⟩),.cells (bH ⟨an,aK,aw⟩)]) T:=by
  have:=(HO.snoc (vs:=bH ⟨an,aK,aw⟩) (by simp)).snoc (vs:=bH ⟨an,aK,aw⟩) (by simp);simpa using this
 refine af fun K1 aQ=>?_;refine ae fun K hK=>?_;simp(disch:=omega) ;refine ak (cd _ _) ?_;simp(disch:=omega) ;apply hK;clear hK K;apply aD rfl;apply ai;apply aQ;clear aQ;refine af fun K1 aQ=>?_;apply ae;intro K h;simp(disch:=omega);apply h;clear h K;apply ah;refine aG (X:=Nat) (fun i=>⟨[(2,.ptr H.length 0),(3,.ptr (H.length+1) 0),(5,.int .i64 (i:Nat))],H++[.cells (bH ⟨an,aK,aw⟩),.cells (bH ⟨an,aK,aw⟩)],T⟩)
  (fun i=>i≤aK.length) (fun i=>aK.length-i) 0 ?_ ?_ ?_
 ·exact Nat.zero_le _
 ·refine ag [] [] ?_ ?_ ?_ ?_ eX ?_
  all_goals simp
 ·intro i g1;refine af fun K2 aW=>?_;apply ae;intro K h;simp(disch:=omega);apply h;clear h K;refine aN rfl (fun hk=>?_) (fun hk=>?_)
  ·simp  at hk;obtain⟨a1,a2,a3⟩:=qI aK i hk;obtain⟨_,q2,q3⟩:=hw _ (aR aK i t0 hk);have c:=fun H=>AE (aK.getD i t0).l (aK.getD i t0).l (by omega) (by omega) (fun p hp=>Nat.le_trans (q3 p hp) hY) (fun p hp=>Nat.le_trans (q3 p hp) hY) H T .none .none;simp only[decide_true] at c;generalize aK.getD i t0=t at *;obtain⟨f,w,l⟩:=t;simp only at a1 a2 a3 c;apply ai;apply aW;clear aW;refine af fun K3 bz=>?_;apply ah;refine aI [] [] [] al (by kernel_rfl) (by kernel_rfl) fun K hK=>?_;simp(disch:=omega)[a1,a2,a3,bU,hk];refine aB (c _) rfl ?_;simp(disch:=omega) ;apply hK;clear hK K;apply aD rfl;apply ai;apply bz;clear bz;refine au fun K hK=>?_;simp(disch:=omega) ;apply hK;clear hK K;refine⟨i+1,by show i+1≤_;omega,by show aK.length-(i+1)<aK.length-i;omega,?_⟩;refine ag [] [] ?_ ?_ ?_ ?_ eX ?_
   all_goals simp
  ·simp  at hk;apply aC;simp(disch:=omega) ;apply aQ;clear aQ;refine af fun K1 aQ=>?_;apply ae;intro K h;simp(disch:=omega);apply h;clear h K;apply ah;refine aG (X:=Nat) (fun i=>⟨[(2,.ptr H.length 0),(3,.ptr (H.length+1) 0),(6,.int .i64 (i:Nat))],H++[.cells (bH ⟨an,aK,aw⟩),.cells (bH ⟨an,aK,aw⟩)],T⟩)
    (fun i=>i≤aw.length) (fun i=>aw.length-i) 0 ?_ ?_ ?_
   ·exact Nat.zero_le _
   ·refine ag [] [] ?_ ?_ ?_ ?_ eX ?_
    all_goals simp
   ·intro j j1;refine af fun K2 aW=>?_;apply ae;intro K h;simp(disch:=omega);apply h;clear h K;refine aN rfl (fun dg=>?_) (fun dg=>?_)
    ·simp  at dg;have bA:=ot aw j dg;have vT:=hx _ (aR aw j c0 dg);generalize aw.getD j c0=c at *;obtain⟨f,x⟩:=c;simp only at bA vT;have FX:x.length≤9223372036854775807:=by omega
     apply ai;apply aW;clear aW;refine af fun K3 bz=>?_;apply ah;refine LN 10 11 [10,11,12,13] [0,0,0,0,0,0,0,0,0,0,0,1,2,3] [[0,1,2,3,4,5,6,7,8,9],[0,1,2,3,4,5,6,7,8,9],[5,6,7,8,9],[]] [10,11,12,13] [0,0,0,0,0,0,0,0,0,0,0,1,2,3] [[0,1,2,3,4,5,6,7,8,9],[0,1,2,3,4,5,6,7,8,9],[5,6,7,8,9],[]] al (by kernel_rfl) (by kernel_rfl) (by kernel_rfl) (by kernel_rfl) (by kernel_rfl) fun K hK=>?_;have key:∀(e:Env)(pa pb:Nat),(H++[.cells (bH ⟨an,aK,aw⟩),.cells (bH ⟨an,aK,aw⟩),.cells (fL ⟨f,x⟩),.cells (fL ⟨f,x⟩)])[pa]?=some (.cells (fL ⟨f,x⟩))→(H++[.cells (bH ⟨an,aK,aw⟩),.cells (bH ⟨an,aK,aw⟩),.cells (fL ⟨f,x⟩),.cells (fL ⟨f,x⟩)])[pb]?=some (.cells (fL ⟨f,x⟩))→
       bt (H.length+4) T.length e [(2,.ptr H.length 0),(3,.ptr (H.length+1) 0),(6,.int .i64 (j:Nat)),(7,.ptr pa 0),(8,.ptr pb 0)]→K ⟨e,H++[.cells (bH ⟨an,aK,aw⟩),.cells (bH ⟨an,aK,aw⟩),.cells (fL ⟨f,x⟩),.cells (fL ⟨f,x⟩)],T⟩:=by
      intro e pa pb ga gb he;have dy:bC (H++[.cells (bH ⟨an,aK,aw⟩),.cells (bH ⟨an,aK,aw⟩),.cells (fL ⟨f,x⟩),.cells (fL ⟨f,x⟩)]) T:=by
       have:=(eX.snoc (vs:=fL ⟨f,x⟩) (by simp)).snoc (vs:=fL ⟨f,x⟩) (by simp);simpa using this
      have hlen:(H++[aA.cells (bH ⟨an,aK,aw⟩),.cells (bH ⟨an,aK,aw⟩),.cells (fL ⟨f,x⟩),.cells (fL ⟨f,x⟩)]).length=H.length+4:=by simp
      have tu:H++[aA.cells (bH ⟨an,aK,aw⟩),.cells (bH ⟨an,aK,aw⟩),.cells (fL ⟨f,x⟩),.cells (fL ⟨f,x⟩)]=(H++[aA.cells (bH ⟨an,aK,aw⟩),.cells (bH ⟨an,aK,aw⟩)])++[.cells (fL ⟨f,x⟩),.cells (fL ⟨f,x⟩)]:=by simp
      generalize H++[aA.cells (bH ⟨an,aK,aw⟩),.cells (bH ⟨an,aK,aw⟩),.cells (fL ⟨f,x⟩),.cells (fL ⟨f,x⟩)]=G at *;have ea:=aV ga;have eb:=aV gb;have la:=(List.getElem?_eq_some_iff.1 ga).1;have lb:=(List.getElem?_eq_some_iff.1 gb).1;refine hK _ (aH ⟨[(2,.ptr H.length 0),(3,.ptr (H.length+1) 0),(6,.int .i64 (j:Nat)),(7,.ptr pa 0),(8,.ptr pb 0)],G,T⟩ (ag [] [] (by simp) (by simp) (by show H.length≤G.length;omega) (by simp) dy (by rw[hlen];exact he)) ?_);clear hK he;refine af fun K4 eV=>?_;refine ae fun K hK=>?_;simp(disch:=omega)[ea,eb,la,lb];apply hK;clear hK K;apply aD rfl;apply ai;apply eV;clear eV;apply ae;intro K h;simp(disch:=omega);apply h;clear h K;apply ah;refine aG (X:=Nat) (fun m=>⟨[(2,.ptr H.length 0),(3,.ptr (H.length+1) 0),(6,.int .i64 (j:Nat)),(7,.ptr pa 0),(8,.ptr pb 0),(9,.int .i64 (m:Nat))],G,T⟩)
       (fun m=>m≤x.length) (fun m=>x.length-m) 0 ?_ ?_ ?_
      ·exact Nat.zero_le _
      ·refine ag [] [] (by simp) (by simp) (by show H.length≤G.length;omega) (by simp) dy ?_;simp[la,lb];omega
      ·intro m m1;refine af fun K5 gC=>?_;refine ae fun K hK=>?_;simp(disch:=omega)[ea,la];apply hK;clear hK K;refine aN rfl (fun qm=>?_) (fun qm=>?_)
       ·simp  at qm;have pL:=eA x m qm;generalize x.getD m n0=y at *;obtain⟨y1,y2⟩:=y;simp only at pL;apply ai;apply gC;clear gC;refine af fun K6 iH=>?_;apply ah;refine aI [] [] [] al (by kernel_rfl) (by kernel_rfl) fun K hK=>?_;simp(disch:=omega)[ea,eb,la,lb,pL,bG,qm];apply hK;clear hK K;apply aD rfl;apply ai;apply iH;clear iH;refine au fun K hK=>?_;simp(disch:=omega) ;apply hK;clear hK K;refine⟨m+1,by show m+1≤_;omega,by show x.length-(m+1)<x.length-m;omega,?_⟩;refine ag [] [] (by simp) (by simp) (by show H.length≤G.length;omega) (by simp) dy ?_;simp[la,lb];omega
       ·simp  at qm;apply aC;simp(disch:=omega) ;refine bz _ (aH ⟨[(2,.ptr H.length 0),(3,.ptr (H.length+1) 0),(6,.int .i64 (j:Nat))],H++[.cells (bH ⟨an,aK,aw⟩),.cells (bH ⟨an,aK,aw⟩)],T⟩ (ag [.cells (fL ⟨f,x⟩),.cells (fL ⟨f,x⟩)] [] tu (by simp) (by simp) (by simp) eX (by simp)) ?_);refine au fun K hK=>?_;simp(disch:=omega) ;apply hK;clear hK K;refine⟨j+1,by show j+1≤_;omega,by show aw.length-(j+1)<aw.length-j;omega,?_⟩;refine ag [] [] ?_ ?_ ?_ ?_ eX ?_
        all_goals simp
     clear hK;refine⟨?_,?_⟩
     ·simp(disch:=omega)[gE,bA,cE,dg];refine key _ (H.length+2) (H.length+3) (by simp) (by simp) ?_;simp
     ·simp(disch:=omega)[gE,jC,ym,sw,bA,cE,dg];refine key _ (H.length+3) (H.length+2) (by simp) (by simp) ?_;simp
    ·simp  at dg;apply aC;simp(disch:=omega) ;apply aQ;clear aQ;apply ae;intro K h;simp(disch:=omega);apply h;clear h K;apply az;simp(disch:=omega) 
attribute [-simp] List.getD_eq_getElem?_getD in
theorem Ba (s:Sg)(hs:mh s)(H:List aA)(T:ar):aq Tryz.prog 15 [ec s,ec s] H T (Is (.bool true) H T):=by
 refine aq.cH ?_ (by simp);refine aj 5 [] Tryz.ntmps15 Tryz.func15 rfl (fun _ _=>Tryz.call15 _ _) (by simp) (fun HO=>?_);apply ae;intro K h;simp(disch:=omega);apply h;clear h K;refine aI [] [] [] al (by kernel_rfl) (by kernel_rfl) fun K hK=>?_;simp(disch:=omega) ;refine aB (Dk s hs _ _) rfl ?_;simp(disch:=omega) ;refine aB (BW s hs _ _) rfl ?_;simp(disch:=omega) ;apply hK;clear hK K;apply az;simp(disch:=omega) 
end Go.Proofs.YtneohapkboaplaaGreat
