/- What the law's bookplatelaw39.Own returns (layer 39): the segment. What the law's bookplatelaw39.Theirs returns (layer 39): the segment. The reference's Equal of a segment and itself, and the law's equal (layer 39).
  Conditions: as the theorems say. -/
import Derived.Test.YtneohapkboaplaaGreatGV
import Derived.Test.YtneohapkboaplaaGreatGBC
import Derived.Test.YtneohapkboaplaaGreatAmC
set_option linter.all false
set_option maxRecDepth 100000
set_option maxHeartbeats 16000000
open List (length_take take_length length_set)
namespace Go.Proofs.YtneohapkboaplaaGreat
open Go Go.Am gH eB dc
abbrev Rp (x:Cl×Nat):List AV:=[.int .i64 x.1.f,.sl x.1.x.length (br x.1.x) (.own x.2)]
def cS (l:List (Cl×Nat)):List AV:=l.flatMap Rp
theorem EG:fI Rp 2:=fun _=>rfl
theorem nQ (l:List (Cl×Nat)):(cS l).length=l.length*2:=dm EG l
theorem oE (l:List (Cl×Nat))(x:Cl×Nat):cS l++[.int .i64 x.1.f,.sl x.1.x.length (br x.1.x) (.own x.2)]=cS (l++[x]):=oi (f:=Rp) l x
theorem iV {n t:Nat}{l:List (Cl×Nat)}(h:∀x∈l,x.2<t):aL n t (cS l):=by
 intro v hv;obtain⟨x,hx,hv⟩:=List.mem_flatMap.1 hv;simp only[Rp,List.mem_cons,List.not_mem_nil,or_false] at hv;rcases hv with rfl|rfl
 ·exact .int _ _
 ·simp[h x hx]
theorem xL {n0 t0 n:Nat}{H:List aG}{l:List (Cl×Nat)}{tg:Tag}:gn n0 t0 H (.sl n (cS l) tg) (.sl n (eA (l.map (·.1))) .none):=by
 have h1:cS l=l.flatMap Rp++[]:=by simp[cS]
 have h2:eA (l.map (·.1))=l.flatMap fun e=>e7 e.1:=by simp[eA,List.flatMap_map]
 rw[h2];refine .sl ?_ fun j hj=>?_
 ·rw[nQ,dm (f:=fun e:Cl×Nat=>e7 e.1) (k:=2) (fun _=>rfl)]
 ·rw[h1];refine lG (fa:=Rp) (fb:=fun e=>e7 e.1) EG (fun _=>rfl) l (fun e mZ j hj=>?_) [] j hj
  match j,hj with
  |0,_=>exact .keep (.inl rfl) (.int _ _)
  |1,_=>exact .keep (.inr rfl) (by simp)
attribute [-simp] List.getD_eq_getElem?_getD in
theorem Qm (s:Sg)(hs:re s)(H:List aG)(T:ay):al Tryz.prog 18 [il s] H T (Is (il s) H T):=by
 refine al.r9 ?_;show al Tryz.prog _ _ H T (BQ H T _);have lV:=hs.t;have hw:=hs.w;have fS:=hs.c;have hx:=hs.x;obtain⟨aw,aJ,az⟩:=s;simp only at lV hw fS hx;have Mf:aJ.length≤9223372036854775807:=by omega
 have Mh:az.length≤9223372036854775807:=by omega
 refine aj 10 [] Tryz.ntmps18 Tryz.func18 rfl (fun _ _=>Tryz.call18 _ _) (by simp) (fun HO=>?_);apply ae;intro K h;simp(disch:=omega);apply h;clear h K;apply ae;intro K h;simp(disch:=omega);apply h;clear h K;refine fP 3 1 (H++[.cells (cG ⟨aw,aJ,az⟩),.cells [.sl 0 [] .full,.sl 0 [] .full,.sl 0 [] .full]]) [.sl aw.length (ints aw) .none,.sl 0 [] .full,.sl 0 [] .full] 0 [] (by omega) rfl (by simp) ?_;refine fP 2 2 (H++[.cells (cG ⟨aw,aJ,az⟩),.cells [.sl 0 [] .full,.sl 0 [] .full,.sl 0 [] .full]]) [.sl aw.length (ints aw) .none,.sl 0 [] (.own T.length),.sl 0 [] .full] 0 [] (by omega) rfl (by simp) ?_;simp(disch:=omega) ;have qU:∀i j:Nat,∀cs ds:List AV,∀U:ay,T.length+2≤U.length→aL (H.length+3) U.length cs→aL (H.length+3) U.length ds→bM (H++[.cells (cG ⟨aw,aJ,az⟩),.cells [.sl 0 [] .full,.sl 0 [] .full,.sl 0 [] .full],.cells [.sl aw.length (ints aw) .none,.sl i cs (.own T.length),.sl j ds (.own (T.length+1))]]) U:=by
  intro i j cs ds U hU hc hd;have h1:=((HO.snoc (vs:=cG ⟨aw,aJ,az⟩) (by simp)).snoc (vs:=[.sl 0 [] .full,.sl 0 [] .full,.sl 0 [] .full]) (by simp)).df (T':=U) (by omega);have h2:=h1.snoc (vs:=[.sl aw.length (ints aw) .none,.sl i cs (.own T.length),.sl j ds (.own (T.length+1))]) (by simp[hc,hd];omega);simpa using h2
 refine af fun K1 aO=>?_;apply ae;intro K h;simp(disch:=omega);apply h;clear h K;apply ai;refine aK (X:=Nat) (fun i=>⟨[(1,.ptr H.length 0),(2,.ptr (H.length+1) 0),(3,.ptr (H.length+2) 0),(4,.int .i64 (i:Nat))],H++[.cells (cG ⟨aw,aJ,az⟩),.cells [.sl 0 [] .full,.sl 0 [] .full,.sl 0 [] .full],.cells [.sl aw.length (ints aw) .none,.sl i (bX (aJ.take i)) (.own T.length),.sl 0 [] (.own (T.length+1))]],T++[(i*3,3),(0,2)]⟩)
  (fun i=>i≤aJ.length) (fun i=>aJ.length-i) 0 ?_ ?_ ?_
 ·exact Nat.zero_le _
 ·refine ag [] [] ?_ ?_ ?_ ?_ (qU 0 0 _ _ _ (by simp) (by simp) (by simp)) ?_
  all_goals simp[bX]
 ·intro i g1;have Ft:(bX (aJ.take i)).length=i*3:=by rw[bH,length_take];omega
  refine af fun K2 aY=>?_;apply ae;intro K h;simp(disch:=omega);apply h;clear h K;refine aP rfl (fun hk=>?_) (fun hk=>?_)
  ·simp  at hk;have bY:=gk aJ i hk;have kS:=wg aJ i hk;obtain⟨q1,q2,q3⟩:=hw _ (aR aJ i t0 hk);generalize aJ.getD i t0=t at *;obtain⟨f,w,l⟩:=t;simp only at bY kS q1 q2 q3;have xp:=qU (i+1) 0 (bX (aJ.take (i+1))) [] (T++[((i+1)*3,3),(0,2)]) (by simp) (by simp) (by simp);have Sj:∀n t:Nat,aL n t (bX (aJ.take i)):=fun n t=>by simp
   have co:=fun H T=>M7 l (by omega) H T .none;generalize bX (aJ.take i)=out at *;apply ak;simp(disch:=omega) ;apply aY;clear aY;refine af fun K3 bA=>?_;apply ai;refine ae fun K hK=>?_;simp(disch:=omega)[bY,bH];apply hK;clear hK K;refine cE [11,13] [0,0,0,0,0,0,0,0,0,0,0,0,1,1] [[],[]] au (by kernel_rfl) (by kernel_rfl) fun K hK=>?_;simp(disch:=omega)[Ft];refine aB (co _ _) rfl ?_;simp(disch:=omega)[kS];apply hK;clear hK K;apply bA;clear bA;refine ar fun K hK=>?_;simp(disch:=omega) ;apply hK;clear hK K;refine⟨i+1,by show i+1≤_;omega,by show aJ.length-(i+1)<aJ.length-i;omega,?_⟩;refine ag [.cells (jb ⟨f,w,l⟩)] [] ?_ ?_ ?_ ?_ xp ?_
   all_goals simp
  ·simp  at hk;have yx:i=aJ.length:=by omega
   subst yx;rw[take_length] at Ft ⊢;apply aD;simp(disch:=omega) ;apply aO;clear aO;have Sv:(T++[(aJ.length*3,3),(0,2)]).length=T.length+2:=by simp
   have xo:gP T (T++[(aJ.length*3,3),(0,2)]):=⟨_,rfl⟩
   have Pj:(T++[(aJ.length*3,3),(0,2)])[T.length+1]?=some (0,2):=by simp
   generalize T++[(aJ.length*3,3),(0,2)]=U0 at *;have P3:T.length+2≤U0.length:=Nat.le_of_eq Sv.symm;refine af fun K1 aO=>?_;apply ae;intro K h;simp(disch:=omega);apply h;clear h K;apply ai;refine aK (X:=Nat×List (Cl×Nat)×ay) (fun x=>⟨[(1,.ptr H.length 0),(2,.ptr (H.length+1) 0),(3,.ptr (H.length+2) 0),(6,.int .i64 (x.1:Nat))],H++[.cells (cG ⟨aw,aJ,az⟩),.cells [.sl 0 [] .full,.sl 0 [] .full,.sl 0 [] .full],.cells [.sl aw.length (ints aw) .none,.sl aJ.length (bX aJ) (.own T.length),.sl x.1 (cS x.2.1) (.own (T.length+1))]],x.2.2⟩)
    (fun x=>x.1≤az.length∧x.2.1.map (·.1)=az.take x.1∧(∀c∈x.2.1,c.2<x.2.2.length)∧T.length+2≤x.2.2.length∧gP T x.2.2∧x.2.2[T.length+1]?=some (x.1*2,2)) (fun x=>az.length-x.1) (0,[],U0) ?_ ?_ ?_
   ·exact⟨Nat.zero_le _,rfl,by simp,by omega,xo,Pj⟩
   ·refine ag [] [] ?_ ?_ ?_ ?_ (qU aJ.length 0 (bX aJ) [] U0 P3 (by simp) (by simp)) ?_
    all_goals simp[cS]
    all_goals omega
   ·rintro⟨i,P,U⟩ ⟨g1,g2,g3,g4,g5,g6⟩;simp only at g1 g2 g3 g4 g5 g6;have Ri:P.length=i:=by
     have:=congrArg List.length g2;rw[List.length_map,length_take] at this;omega
    have xy:aL (H.length+3) U.length (cS P):=iV g3;have lT:=g5.le;refine af fun K4 ec=>?_;apply ae;intro K h;simp(disch:=omega);apply h;clear h K;refine aP rfl (fun hk=>?_) (fun hk=>?_)
    ·simp  at hk;obtain⟨a1,a2⟩:=qo az i hk;have yu:=hx _ (aR az i c0 hk);have kS:=dx az i c0 hk;generalize az.getD i c0=c at *;obtain⟨f,x⟩:=c;simp only at a1 a2 yu;have Fs:x.length≤9223372036854775807:=by omega
     apply ak;simp(disch:=omega) ;apply ec;clear ec;refine af fun K5 gO=>?_;apply ai;refine ae fun K hK=>?_;simp(disch:=omega)[a1,a2,de,hk];apply hK;clear hK K;refine fP 2 1 (H++[.cells (cG ⟨aw,aJ,az⟩),.cells [.sl 0 [] .full,.sl 0 [] .full,.sl 0 [] .full],.cells [.sl aw.length (ints aw) .none,.sl aJ.length (bX aJ) (.own T.length),.sl i (cS P) (.own (T.length+1))]]) [.int .i64 f,.sl 0 [] .full] 0 [] (by omega) rfl (by simp) ?_;simp(disch:=omega) ;have mi:∀k:Nat,∀cs:List AV,∀V:ay,U.length+1≤V.length→aL (H.length+4) V.length cs→bM (H++[.cells (cG ⟨aw,aJ,az⟩),.cells [.sl 0 [] .full,.sl 0 [] .full,.sl 0 [] .full],.cells [.sl aw.length (ints aw) .none,.sl aJ.length (bX aJ) (.own T.length),.sl i (cS P) (.own (T.length+1))],.cells [.int .i64 f,.sl k cs (.own U.length)]]) V:=by
      intro k cs V hV hc;have h1:=qU aJ.length i (bX aJ) (cS P) V (by omega) (by simp) (fun v hv=>(xy v hv).more (Nat.le_refl _) (by omega));have h2:=h1.snoc (vs:=[.int .i64 f,.sl k cs (.own U.length)]) (by simp[hc];omega);simpa using h2
     refine af fun K6 lp=>?_;apply ae;intro K h;simp(disch:=omega);apply h;clear h K;apply ai;refine aK (X:=Nat) (fun k=>⟨[(1,.ptr H.length 0),(2,.ptr (H.length+1) 0),(3,.ptr (H.length+2) 0),(6,.int .i64 (i:Nat)),(7,.ptr (H.length+3) 0),(8,.int .i64 (k:Nat))],H++[.cells (cG ⟨aw,aJ,az⟩),.cells [.sl 0 [] .full,.sl 0 [] .full,.sl 0 [] .full],.cells [.sl aw.length (ints aw) .none,.sl aJ.length (bX aJ) (.own T.length),.sl i (cS P) (.own (T.length+1))],.cells [.int .i64 f,.sl k (br (x.take k)) (.own U.length)]],U++[(k*2,2)]⟩)
      (fun k=>k≤x.length) (fun k=>x.length-k) 0 ?_ ?_ ?_
     ·exact Nat.zero_le _
     ·refine ag [] [] ?_ ?_ ?_ ?_ (mi 0 (br (x.take 0)) (U++[(0*2,2)]) (by simp) (by simp)) ?_
      all_goals simp[br]
      all_goals omega
     ·intro k k1;have BJ:(br (x.take k)).length=k*2:=by rw[cj,length_take];omega
      refine af fun K7 NZ=>?_;refine ae fun K hK=>?_;simp(disch:=omega)[a1,a2,de,hk];apply hK;clear hK K;refine aP rfl (fun da=>?_) (fun da=>?_)
      ·simp  at da;have sN:=fh x k da;have LR:=wK x k da;have xp:=mi (k+1) (br (x.take (k+1))) (U++[((k+1)*2,2)]) (by simp) (by simp);have Sj:∀n t:Nat,aL n t (br (x.take k)):=fun n t=>by simp
       generalize br (x.take k)=out at *;generalize x.getD k n0=y at *;obtain⟨y1,y2⟩:=y;simp only at sN LR;apply ak;simp(disch:=omega) ;apply NZ;clear NZ;refine af fun K8 SB=>?_;apply ai;refine cE [12,14] [0,0,0,0,0,0,0,0,0,0,0,0,0,1,1] [[],[]] au (by kernel_rfl) (by kernel_rfl) fun K hK=>?_;simp(disch:=omega)[a1,a2,de,hk,sN,cj,da,BJ,LR];apply hK;clear hK K;apply SB;clear SB;refine ar fun K hK=>?_;simp(disch:=omega) ;apply hK;clear hK K;refine⟨k+1,by show k+1≤_;omega,by show x.length-(k+1)<x.length-k;omega,?_⟩;refine ag [] [] ?_ ?_ ?_ ?_ xp ?_
       all_goals simp
       all_goals omega
      ·simp  at da;have Pc:k=x.length:=by omega
       subst Pc;rw[take_length] at BJ ⊢;apply aD;simp(disch:=omega) ;apply lp;clear lp;have Lw:(U++[(x.length*2,2)])[T.length+1]?=some (i*2,2):=by rw[List.getElem?_append_left (by omega)];exact g6
       have oT:gP T (U++[(x.length*2,2)]):=g5.app _;have H3:(U++[(x.length*2,2)]).length=U.length+1:=by simp
       have BM:=qU aJ.length (i+1) (bX aJ);have tZ:=mi x.length (br x) (U++[(x.length*2,2)]) (by simp) (by simp);have pV:(cS P).length=i*2:=by rw[nQ,Ri]
       have kH:=oE P (⟨f,x⟩,U.length);simp only at kH;have DQ:(P++[((⟨f,x⟩:Cl),U.length)]).map (·.1)=az.take (i+1):=by rw[kS,List.map_append,g2];rfl
       have vU:∀c∈P++[((⟨f,x⟩:Cl),U.length)],c.2<U.length+1:=fun c hc=>by
        rcases List.mem_append.1 hc with h|h
        ·have:=g3 c h;omega
        ·rw[List.mem_singleton.1 h];exact Nat.lt_succ_self _
       have pN:aL (H.length+3) (U.length+1) (cS (P++[((⟨f,x⟩:Cl),U.length)])):=iV vU;generalize Z9:P++[((⟨f,x⟩:Cl),U.length)]=P2 at *;clear mi;have R9:=g3;generalize cS P=ca at *;have lU:T.length+1<(U++[(x.length*2,2)]).length:=by omega
       obtain⟨u,hu⟩:∃u,u=U.length:=⟨_,rfl⟩
       rw[←hu] at kH pN vU H3 tZ;simp only[←hu];clear R9;generalize Z7:U++[(x.length*2,2)]=U2 at *;have eU:=bT Lw;refine aQ ⟨[(1,.ptr H.length 0),(2,.ptr (H.length+1) 0),(3,.ptr (H.length+2) 0),(6,.int .i64 (i:Nat)),(7,.ptr (H.length+3) 0)],H++[.cells (cG ⟨aw,aJ,az⟩),.cells [.sl 0 [] .full,.sl 0 [] .full,.sl 0 [] .full],.cells [.sl aw.length (ints aw) .none,.sl aJ.length (bX aJ) (.own T.length),.sl i ca (.own (T.length+1))],.cells [.int .i64 f,.sl x.length (br x) (.own u)]],U2⟩ (ag [] [] (by simp) (by simp) (by simp) (by simp;omega) tZ (by simp)) ?_;refine ar fun K hK=>?_;simp(disch:=omega)[eU,pV,kH];apply hK;clear hK K;have Fh:=BM (cS P2) (U2.set (T.length+1) ((i+1)*2,2)) (by simp;omega) (by simp) (by simp[H3,pN]);apply gO;clear gO;refine ar fun K hK=>?_;simp(disch:=omega) ;apply hK;clear hK K;refine⟨(i+1,P2,U2.set (T.length+1) ((i+1)*2,2)),⟨by show i+1≤_;omega,DQ,fun c hc=>by have:=vU c hc;simp only[length_set];omega,by simp only[length_set];omega,oT.set (by omega) _,List.getElem?_set_self (by omega)⟩,by show az.length-(i+1)<az.length-i;omega,?_⟩;refine ag [.cells [.int .i64 f,.sl x.length (br x) (.own u)]] [] ?_ ?_ ?_ ?_ Fh ?_
       all_goals simp
       all_goals omega
    ·simp  at hk;have yx:i=az.length:=by omega
     subst yx;rw[take_length] at g2;apply aD;simp(disch:=omega) ;apply aO;clear aO;apply ae;intro K h;simp(disch:=omega);apply h;clear h K;apply an;simp(disch:=omega) ;refine⟨⟨_,rfl⟩,g5,.agg rfl fun j hj=>?_⟩
     match j,hj with
     |0,_=>exact .keep (.inl rfl) (by simp)
     |1,_=>exact .keep (.inr rfl) (by simp)
     |2,_=>
      have hc:eA az=eA (P.map (·.1)):=by rw[g2]
      show gn H.length T.length _ (.sl az.length (cS P) (.own (T.length+1))) (.sl az.length (eA az) .none);rw[hc];exact xL
attribute [-simp] List.getD_eq_getElem?_getD in
theorem CI (s:Sg)(hs:re s)(H:List aG)(T:ay):al Tryz.prog 70 [il s] H T (Is (il s) H T):=by
 refine al.r9 ?_;show al Tryz.prog _ _ H T (BQ H T _);have lV:=hs.t;have hw:=hs.w;have fS:=hs.c;have hx:=hs.x;obtain⟨aw,aJ,az⟩:=s;simp only at lV hw fS hx;have Mf:aJ.length≤9223372036854775807:=by omega
 have Mh:az.length≤9223372036854775807:=by omega
 refine aj 10 [] Tryz.ntmps70 Tryz.func70 rfl (fun _ _=>Tryz.call70 _ _) (by simp) (fun HO=>?_);apply ae;intro K h;simp(disch:=omega);apply h;clear h K;apply ae;intro K h;simp(disch:=omega);apply h;clear h K;refine fP 3 1 (H++[.cells (cG ⟨aw,aJ,az⟩),.cells [.sl 0 [] .full,.sl 0 [] .full,.sl 0 [] .full]]) [.sl aw.length (ints aw) .none,.sl 0 [] .full,.sl 0 [] .full] 0 [] (by omega) rfl (by simp) ?_;refine fP 2 2 (H++[.cells (cG ⟨aw,aJ,az⟩),.cells [.sl 0 [] .full,.sl 0 [] .full,.sl 0 [] .full]]) [.sl aw.length (ints aw) .none,.sl 0 [] (.own T.length),.sl 0 [] .full] 0 [] (by omega) rfl (by simp) ?_;simp(disch:=omega) ;have qU:∀i j:Nat,∀cs ds:List AV,∀U:ay,T.length+2≤U.length→aL (H.length+3) U.length cs→aL (H.length+3) U.length ds→bM (H++[.cells (cG ⟨aw,aJ,az⟩),.cells [.sl 0 [] .full,.sl 0 [] .full,.sl 0 [] .full],.cells [.sl aw.length (ints aw) .none,.sl i cs (.own T.length),.sl j ds (.own (T.length+1))]]) U:=by
  intro i j cs ds U hU hc hd;have h1:=((HO.snoc (vs:=cG ⟨aw,aJ,az⟩) (by simp)).snoc (vs:=[.sl 0 [] .full,.sl 0 [] .full,.sl 0 [] .full]) (by simp)).df (T':=U) (by omega);have h2:=h1.snoc (vs:=[.sl aw.length (ints aw) .none,.sl i cs (.own T.length),.sl j ds (.own (T.length+1))]) (by simp[hc,hd];omega);simpa using h2
 refine af fun K1 aO=>?_;apply ae;intro K h;simp(disch:=omega);apply h;clear h K;apply ai;refine aK (X:=Nat) (fun i=>⟨[(1,.ptr H.length 0),(2,.ptr (H.length+1) 0),(3,.ptr (H.length+2) 0),(4,.int .i64 (i:Nat))],H++[.cells (cG ⟨aw,aJ,az⟩),.cells [.sl 0 [] .full,.sl 0 [] .full,.sl 0 [] .full],.cells [.sl aw.length (ints aw) .none,.sl i (bX (aJ.take i)) (.own T.length),.sl 0 [] (.own (T.length+1))]],T++[(i*3,3),(0,2)]⟩)
  (fun i=>i≤aJ.length) (fun i=>aJ.length-i) 0 ?_ ?_ ?_
 ·exact Nat.zero_le _
 ·refine ag [] [] ?_ ?_ ?_ ?_ (qU 0 0 _ _ _ (by simp) (by simp) (by simp)) ?_
  all_goals simp[bX]
 ·intro i g1;have Ft:(bX (aJ.take i)).length=i*3:=by rw[bH,length_take];omega
  refine af fun K2 aY=>?_;apply ae;intro K h;simp(disch:=omega);apply h;clear h K;refine aP rfl (fun hk=>?_) (fun hk=>?_)
  ·simp  at hk;have bY:=gk aJ i hk;have kS:=wg aJ i hk;obtain⟨q1,q2,q3⟩:=hw _ (aR aJ i t0 hk);generalize aJ.getD i t0=t at *;obtain⟨f,w,l⟩:=t;simp only at bY kS q1 q2 q3;have xp:=qU (i+1) 0 (bX (aJ.take (i+1))) [] (T++[((i+1)*3,3),(0,2)]) (by simp) (by simp) (by simp);have Sj:∀n t:Nat,aL n t (bX (aJ.take i)):=fun n t=>by simp
   have co:=fun H T=>wi l (by omega) H T .none;generalize bX (aJ.take i)=out at *;apply ak;simp(disch:=omega) ;apply aY;clear aY;refine af fun K3 bA=>?_;apply ai;refine ae fun K hK=>?_;simp(disch:=omega)[bY,bH];apply hK;clear hK K;refine cE [11,13] [0,0,0,0,0,0,0,0,0,0,0,0,1,1] [[],[]] au (by kernel_rfl) (by kernel_rfl) fun K hK=>?_;simp(disch:=omega)[Ft];refine aB (co _ _) rfl ?_;simp(disch:=omega)[Ft,kS];apply hK;clear hK K;apply bA;clear bA;refine ar fun K hK=>?_;simp(disch:=omega) ;apply hK;clear hK K;refine⟨i+1,by show i+1≤_;omega,by show aJ.length-(i+1)<aJ.length-i;omega,?_⟩;refine ag [.cells (jb ⟨f,w,l⟩)] [] ?_ ?_ ?_ ?_ xp ?_
   all_goals simp
  ·simp  at hk;have yx:i=aJ.length:=by omega
   subst yx;rw[take_length] at Ft ⊢;apply aD;simp(disch:=omega) ;apply aO;clear aO;have Sv:(T++[(aJ.length*3,3),(0,2)]).length=T.length+2:=by simp
   have xo:gP T (T++[(aJ.length*3,3),(0,2)]):=⟨_,rfl⟩
   have Pj:(T++[(aJ.length*3,3),(0,2)])[T.length+1]?=some (0,2):=by simp
   generalize T++[(aJ.length*3,3),(0,2)]=U0 at *;have P3:T.length+2≤U0.length:=Nat.le_of_eq Sv.symm;refine af fun K1 aO=>?_;apply ae;intro K h;simp(disch:=omega);apply h;clear h K;apply ai;refine aK (X:=Nat×List (Cl×Nat)×ay) (fun x=>⟨[(1,.ptr H.length 0),(2,.ptr (H.length+1) 0),(3,.ptr (H.length+2) 0),(6,.int .i64 (x.1:Nat))],H++[.cells (cG ⟨aw,aJ,az⟩),.cells [.sl 0 [] .full,.sl 0 [] .full,.sl 0 [] .full],.cells [.sl aw.length (ints aw) .none,.sl aJ.length (bX aJ) (.own T.length),.sl x.1 (cS x.2.1) (.own (T.length+1))]],x.2.2⟩)
    (fun x=>x.1≤az.length∧x.2.1.map (·.1)=az.take x.1∧(∀c∈x.2.1,c.2<x.2.2.length)∧T.length+2≤x.2.2.length∧gP T x.2.2∧x.2.2[T.length+1]?=some (x.1*2,2)) (fun x=>az.length-x.1) (0,[],U0) ?_ ?_ ?_
   ·exact⟨Nat.zero_le _,rfl,by simp,by omega,xo,Pj⟩
   ·refine ag [] [] ?_ ?_ ?_ ?_ (qU aJ.length 0 (bX aJ) [] U0 P3 (by simp) (by simp)) ?_
    all_goals simp[cS]
    all_goals omega
   ·rintro⟨i,P,U⟩ ⟨g1,g2,g3,g4,g5,g6⟩;simp only at g1 g2 g3 g4 g5 g6;have Ri:P.length=i:=by
     have:=congrArg List.length g2;rw[List.length_map,length_take] at this;omega
    have xy:aL (H.length+3) U.length (cS P):=iV g3;have lT:=g5.le;refine af fun K4 ec=>?_;apply ae;intro K h;simp(disch:=omega);apply h;clear h K;refine aP rfl (fun hk=>?_) (fun hk=>?_)
    ·simp  at hk;obtain⟨a1,a2⟩:=qo az i hk;have yu:=hx _ (aR az i c0 hk);have kS:=dx az i c0 hk;generalize az.getD i c0=c at *;obtain⟨f,x⟩:=c;simp only at a1 a2 yu;have Fs:x.length≤9223372036854775807:=by omega
     apply ak;simp(disch:=omega) ;apply ec;clear ec;refine af fun K5 gO=>?_;apply ai;refine ae fun K hK=>?_;simp(disch:=omega)[a1,a2,de,hk];apply hK;clear hK K;refine fP 2 1 (H++[.cells (cG ⟨aw,aJ,az⟩),.cells [.sl 0 [] .full,.sl 0 [] .full,.sl 0 [] .full],.cells [.sl aw.length (ints aw) .none,.sl aJ.length (bX aJ) (.own T.length),.sl i (cS P) (.own (T.length+1))]]) [.int .i64 f,.sl 0 [] .full] 0 [] (by omega) rfl (by simp) ?_;simp(disch:=omega) ;have mi:∀k:Nat,∀cs:List AV,∀V:ay,U.length+1≤V.length→aL (H.length+4) V.length cs→bM (H++[.cells (cG ⟨aw,aJ,az⟩),.cells [.sl 0 [] .full,.sl 0 [] .full,.sl 0 [] .full],.cells [.sl aw.length (ints aw) .none,.sl aJ.length (bX aJ) (.own T.length),.sl i (cS P) (.own (T.length+1))],.cells [.int .i64 f,.sl k cs (.own U.length)]]) V:=by
      intro k cs V hV hc;have h1:=qU aJ.length i (bX aJ) (cS P) V (by omega) (by simp) (fun v hv=>(xy v hv).more (Nat.le_refl _) (by omega));have h2:=h1.snoc (vs:=[.int .i64 f,.sl k cs (.own U.length)]) (by simp[hc];omega);simpa using h2
     refine af fun K6 lp=>?_;apply ae;intro K h;simp(disch:=omega);apply h;clear h K;apply ai;refine aK (X:=Nat) (fun k=>⟨[(1,.ptr H.length 0),(2,.ptr (H.length+1) 0),(3,.ptr (H.length+2) 0),(6,.int .i64 (i:Nat)),(7,.ptr (H.length+3) 0),(8,.int .i64 (k:Nat))],H++[.cells (cG ⟨aw,aJ,az⟩),.cells [.sl 0 [] .full,.sl 0 [] .full,.sl 0 [] .full],.cells [.sl aw.length (ints aw) .none,.sl aJ.length (bX aJ) (.own T.length),.sl i (cS P) (.own (T.length+1))],.cells [.int .i64 f,.sl k (br (x.take k)) (.own U.length)]],U++[(k*2,2)]⟩)
      (fun k=>k≤x.length) (fun k=>x.length-k) 0 ?_ ?_ ?_
     ·exact Nat.zero_le _
     ·refine ag [] [] ?_ ?_ ?_ ?_ (mi 0 (br (x.take 0)) (U++[(0*2,2)]) (by simp) (by simp)) ?_
      all_goals simp[br]
      all_goals omega
     ·intro k k1;have BJ:(br (x.take k)).length=k*2:=by rw[cj,length_take];omega
      refine af fun K7 NZ=>?_;refine ae fun K hK=>?_;simp(disch:=omega)[a1,a2,de,hk];apply hK;clear hK K;refine aP rfl (fun da=>?_) (fun da=>?_)
      ·simp  at da;have sN:=fh x k da;have LR:=wK x k da;have xp:=mi (k+1) (br (x.take (k+1))) (U++[((k+1)*2,2)]) (by simp) (by simp);have Sj:∀n t:Nat,aL n t (br (x.take k)):=fun n t=>by simp
       generalize br (x.take k)=out at *;generalize x.getD k n0=y at *;obtain⟨y1,y2⟩:=y;simp only at sN LR;apply ak;simp(disch:=omega) ;apply NZ;clear NZ;refine af fun K8 SB=>?_;apply ai;refine cE [12,14] [0,0,0,0,0,0,0,0,0,0,0,0,0,1,1] [[],[]] au (by kernel_rfl) (by kernel_rfl) fun K hK=>?_;simp(disch:=omega)[a1,a2,de,hk,sN,cj,da,BJ,LR];apply hK;clear hK K;apply SB;clear SB;refine ar fun K hK=>?_;simp(disch:=omega) ;apply hK;clear hK K;refine⟨k+1,by show k+1≤_;omega,by show x.length-(k+1)<x.length-k;omega,?_⟩;refine ag [] [] ?_ ?_ ?_ ?_ xp ?_
       all_goals simp
       all_goals omega
      ·simp  at da;have Pc:k=x.length:=by omega
       subst Pc;rw[take_length] at BJ ⊢;apply aD;simp(disch:=omega) ;apply lp;clear lp;have Lw:(U++[(x.length*2,2)])[T.length+1]?=some (i*2,2):=by rw[List.getElem?_append_left (by omega)];exact g6
       have oT:gP T (U++[(x.length*2,2)]):=g5.app _;have H3:(U++[(x.length*2,2)]).length=U.length+1:=by simp
       have BM:=qU aJ.length (i+1) (bX aJ);have tZ:=mi x.length (br x) (U++[(x.length*2,2)]) (by simp) (by simp);have pV:(cS P).length=i*2:=by rw[nQ,Ri]
       have kH:=oE P (⟨f,x⟩,U.length);simp only at kH;have DQ:(P++[((⟨f,x⟩:Cl),U.length)]).map (·.1)=az.take (i+1):=by rw[kS,List.map_append,g2];rfl
       have vU:∀c∈P++[((⟨f,x⟩:Cl),U.length)],c.2<U.length+1:=fun c hc=>by
        rcases List.mem_append.1 hc with h|h
        ·have:=g3 c h;omega
        ·rw[List.mem_singleton.1 h];exact Nat.lt_succ_self _
       have pN:aL (H.length+3) (U.length+1) (cS (P++[((⟨f,x⟩:Cl),U.length)])):=iV vU;generalize Z9:P++[((⟨f,x⟩:Cl),U.length)]=P2 at *;clear mi;have R9:=g3;generalize cS P=ca at *;have lU:T.length+1<(U++[(x.length*2,2)]).length:=by omega
       obtain⟨u,hu⟩:∃u,u=U.length:=⟨_,rfl⟩
       rw[←hu] at kH pN vU H3 tZ;simp only[←hu];clear R9;generalize Z7:U++[(x.length*2,2)]=U2 at *;have eU:=bT Lw;refine aQ ⟨[(1,.ptr H.length 0),(2,.ptr (H.length+1) 0),(3,.ptr (H.length+2) 0),(6,.int .i64 (i:Nat)),(7,.ptr (H.length+3) 0)],H++[.cells (cG ⟨aw,aJ,az⟩),.cells [.sl 0 [] .full,.sl 0 [] .full,.sl 0 [] .full],.cells [.sl aw.length (ints aw) .none,.sl aJ.length (bX aJ) (.own T.length),.sl i ca (.own (T.length+1))],.cells [.int .i64 f,.sl x.length (br x) (.own u)]],U2⟩ (ag [] [] (by simp) (by simp) (by simp) (by simp;omega) tZ (by simp)) ?_;refine ar fun K hK=>?_;simp(disch:=omega)[eU,pV,kH];apply hK;clear hK K;have Fh:=BM (cS P2) (U2.set (T.length+1) ((i+1)*2,2)) (by simp;omega) (by simp) (by simp[H3,pN]);apply gO;clear gO;refine ar fun K hK=>?_;simp(disch:=omega) ;apply hK;clear hK K;refine⟨(i+1,P2,U2.set (T.length+1) ((i+1)*2,2)),⟨by show i+1≤_;omega,DQ,fun c hc=>by have:=vU c hc;simp only[length_set];omega,by simp only[length_set];omega,oT.set (by omega) _,List.getElem?_set_self (by omega)⟩,by show az.length-(i+1)<az.length-i;omega,?_⟩;refine ag [.cells [.int .i64 f,.sl x.length (br x) (.own u)]] [] ?_ ?_ ?_ ?_ Fh ?_
       all_goals simp
       all_goals omega
    ·simp  at hk;have yx:i=az.length:=by omega
     subst yx;rw[take_length] at g2;apply aD;simp(disch:=omega) ;apply aO;clear aO;apply ae;intro K h;simp(disch:=omega);apply h;clear h K;apply an;simp(disch:=omega) ;refine⟨⟨_,rfl⟩,g5,.agg rfl fun j hj=>?_⟩
     match j,hj with
     |0,_=>exact .keep (.inl rfl) (by simp)
     |1,_=>exact .keep (.inr rfl) (by simp)
     |2,_=>
      have hc:eA az=eA (P.map (·.1)):=by rw[g2]
      show gn H.length T.length _ (.sl az.length (cS P) (.own (T.length+1))) (.sl az.length (eA az) .none);rw[hc];exact xL
attribute [-simp] List.getD_eq_getElem?_getD in
theorem Bd (s:Sg)(hs:re s)(H:List aG)(T:ay):al Tryz.prog 38 [il s,il s] H T (Is (.bool true) H T):=by
 refine al.dS ?_ (by simp);have ik:(1000:Nat)≤maxLen:=by decide
 have hd:=hs.d;have lV:=hs.t;have hw:=hs.w;have fS:=hs.c;have hx:=hs.x;obtain⟨aw,aJ,az⟩:=s;simp only at hd lV hw fS hx;have Mf:aJ.length≤9223372036854775807:=by omega
 have Mh:az.length≤9223372036854775807:=by omega
 have cd:=fun H T=>nU aw aw (by omega) (by omega) H T .none .none;rw[beq_self_eq_true] at cd;refine aj 10 [] Tryz.ntmps38 Tryz.func38 rfl (fun _ _=>Tryz.call38 _ _) (by simp) (fun HO=>?_);apply ae;intro K h;simp(disch:=omega);apply h;clear h K;have kx:bM (H++[.cells (cG ⟨aw,aJ,az⟩),.cells (cG ⟨aw,aJ,az⟩)]) T:=by
  have:=(HO.snoc (vs:=cG ⟨aw,aJ,az⟩) (by simp)).snoc (vs:=cG ⟨aw,aJ,az⟩) (by simp);simpa using this
 refine af fun K1 aO=>?_;refine ae fun K hK=>?_;simp(disch:=omega) ;refine ah (cd _ _) ?_;simp(disch:=omega) ;apply hK;clear hK K;apply aC rfl;apply ak;apply aO;clear aO;refine af fun K1 aO=>?_;apply ae;intro K h;simp(disch:=omega);apply h;clear h K;apply ai;refine aK (X:=Nat) (fun i=>⟨[(2,.ptr H.length 0),(3,.ptr (H.length+1) 0),(5,.int .i64 (i:Nat))],H++[.cells (cG ⟨aw,aJ,az⟩),.cells (cG ⟨aw,aJ,az⟩)],T⟩)
  (fun i=>i≤aJ.length) (fun i=>aJ.length-i) 0 ?_ ?_ ?_
 ·exact Nat.zero_le _
 ·refine ag [] [] ?_ ?_ ?_ ?_ kx ?_
  all_goals simp
 ·intro i g1;refine af fun K2 aY=>?_;apply ae;intro K h;simp(disch:=omega);apply h;clear h K;refine aP rfl (fun hk=>?_) (fun hk=>?_)
  ·simp  at hk;obtain⟨a1,a2,a3⟩:=qf aJ i hk;obtain⟨_,q2,q3⟩:=hw _ (aR aJ i t0 hk);have c:=fun H=>zC (aJ.getD i t0).l (aJ.getD i t0).l (by omega) (by omega) (fun p hp=>Nat.le_trans (q3 p hp) ik) (fun p hp=>Nat.le_trans (q3 p hp) ik) H T .none .none;simp only[decide_true] at c;generalize aJ.getD i t0=t at *;obtain⟨f,w,l⟩:=t;simp only at a1 a2 a3 c;apply ak;apply aY;clear aY;refine af fun K3 bA=>?_;apply ai;refine aM [] [] [] au (by kernel_rfl) (by kernel_rfl) fun K hK=>?_;simp(disch:=omega)[a1,a2,a3,bH,hk];refine aB (c _) rfl ?_;simp(disch:=omega) ;apply hK;clear hK K;apply aC rfl;apply ak;apply bA;clear bA;refine ar fun K hK=>?_;simp(disch:=omega) ;apply hK;clear hK K;refine⟨i+1,by show i+1≤_;omega,by show aJ.length-(i+1)<aJ.length-i;omega,?_⟩;refine ag [] [] ?_ ?_ ?_ ?_ kx ?_
   all_goals simp
  ·simp  at hk;apply aD;simp(disch:=omega) ;apply aO;clear aO;refine af fun K1 aO=>?_;apply ae;intro K h;simp(disch:=omega);apply h;clear h K;apply ai;refine aK (X:=Nat) (fun i=>⟨[(2,.ptr H.length 0),(3,.ptr (H.length+1) 0),(6,.int .i64 (i:Nat))],H++[.cells (cG ⟨aw,aJ,az⟩),.cells (cG ⟨aw,aJ,az⟩)],T⟩)
    (fun i=>i≤az.length) (fun i=>az.length-i) 0 ?_ ?_ ?_
   ·exact Nat.zero_le _
   ·refine ag [] [] ?_ ?_ ?_ ?_ kx ?_
    all_goals simp
   ·intro j j1;refine af fun K2 aY=>?_;apply ae;intro K h;simp(disch:=omega);apply h;clear h K;refine aP rfl (fun da=>?_) (fun da=>?_)
    ·simp  at da;have bY:=lK az j da;have yu:=hx _ (aR az j c0 da);generalize az.getD j c0=c at *;obtain⟨f,x⟩:=c;simp only at bY yu;have Fs:x.length≤9223372036854775807:=by omega
     apply ak;apply aY;clear aY;refine af fun K3 bA=>?_;apply ai;refine K0 10 11 [10,11,12,13] [0,0,0,0,0,0,0,0,0,0,0,1,2,3] [[0,1,2,3,4,5,6,7,8,9],[0,1,2,3,4,5,6,7,8,9],[5,6,7,8,9],[]] [10,11,12,13] [0,0,0,0,0,0,0,0,0,0,0,1,2,3] [[0,1,2,3,4,5,6,7,8,9],[0,1,2,3,4,5,6,7,8,9],[5,6,7,8,9],[]] au (by kernel_rfl) (by kernel_rfl) (by kernel_rfl) (by kernel_rfl) (by kernel_rfl) fun K hK=>?_;have key:∀(e:Env)(pa pb:Nat),(H++[.cells (cG ⟨aw,aJ,az⟩),.cells (cG ⟨aw,aJ,az⟩),.cells (e7 ⟨f,x⟩),.cells (e7 ⟨f,x⟩)])[pa]?=some (.cells (e7 ⟨f,x⟩))→(H++[.cells (cG ⟨aw,aJ,az⟩),.cells (cG ⟨aw,aJ,az⟩),.cells (e7 ⟨f,x⟩),.cells (e7 ⟨f,x⟩)])[pb]?=some (.cells (e7 ⟨f,x⟩))→
       b9 (H.length+4) T.length e [(2,.ptr H.length 0),(3,.ptr (H.length+1) 0),(6,.int .i64 (j:Nat)),(7,.ptr pa 0),(8,.ptr pb 0)]→K ⟨e,H++[.cells (cG ⟨aw,aJ,az⟩),.cells (cG ⟨aw,aJ,az⟩),.cells (e7 ⟨f,x⟩),.cells (e7 ⟨f,x⟩)],T⟩:=by
      intro e pa pb ga gb he;have fD:bM (H++[.cells (cG ⟨aw,aJ,az⟩),.cells (cG ⟨aw,aJ,az⟩),.cells (e7 ⟨f,x⟩),.cells (e7 ⟨f,x⟩)]) T:=by
       have:=(kx.snoc (vs:=e7 ⟨f,x⟩) (by simp)).snoc (vs:=e7 ⟨f,x⟩) (by simp);simpa using this
      have hlen:(H++[aG.cells (cG ⟨aw,aJ,az⟩),.cells (cG ⟨aw,aJ,az⟩),.cells (e7 ⟨f,x⟩),.cells (e7 ⟨f,x⟩)]).length=H.length+4:=by simp
      have yL:H++[aG.cells (cG ⟨aw,aJ,az⟩),.cells (cG ⟨aw,aJ,az⟩),.cells (e7 ⟨f,x⟩),.cells (e7 ⟨f,x⟩)]=(H++[aG.cells (cG ⟨aw,aJ,az⟩),.cells (cG ⟨aw,aJ,az⟩)])++[.cells (e7 ⟨f,x⟩),.cells (e7 ⟨f,x⟩)]:=by simp
      generalize H++[aG.cells (cG ⟨aw,aJ,az⟩),.cells (cG ⟨aw,aJ,az⟩),.cells (e7 ⟨f,x⟩),.cells (e7 ⟨f,x⟩)]=G at *;have ea:=bT ga;have eb:=bT gb;have la:=(List.getElem?_eq_some_iff.1 ga).1;have lb:=(List.getElem?_eq_some_iff.1 gb).1;refine hK _ (aQ ⟨[(2,.ptr H.length 0),(3,.ptr (H.length+1) 0),(6,.int .i64 (j:Nat)),(7,.ptr pa 0),(8,.ptr pb 0)],G,T⟩ (ag [] [] (by simp) (by simp) (by show H.length≤G.length;omega) (by simp) fD (by rw[hlen];exact he)) ?_);clear hK he;refine af fun K4 ec=>?_;refine ae fun K hK=>?_;simp(disch:=omega)[ea,eb,la,lb];apply hK;clear hK K;apply aC rfl;apply ak;apply ec;clear ec;apply ae;intro K h;simp(disch:=omega);apply h;clear h K;apply ai;refine aK (X:=Nat) (fun m=>⟨[(2,.ptr H.length 0),(3,.ptr (H.length+1) 0),(6,.int .i64 (j:Nat)),(7,.ptr pa 0),(8,.ptr pb 0),(9,.int .i64 (m:Nat))],G,T⟩)
       (fun m=>m≤x.length) (fun m=>x.length-m) 0 ?_ ?_ ?_
      ·exact Nat.zero_le _
      ·refine ag [] [] (by simp) (by simp) (by show H.length≤G.length;omega) (by simp) fD ?_;simp[la,lb];omega
      ·intro m m1;refine af fun K5 gO=>?_;refine ae fun K hK=>?_;simp(disch:=omega)[ea,la];apply hK;clear hK K;refine aP rfl (fun ko=>?_) (fun ko=>?_)
       ·simp  at ko;have sN:=fh x m ko;generalize x.getD m n0=y at *;obtain⟨y1,y2⟩:=y;simp only at sN;apply ak;apply gO;clear gO;refine af fun K6 lp=>?_;apply ai;refine aM [] [] [] au (by kernel_rfl) (by kernel_rfl) fun K hK=>?_;simp(disch:=omega)[ea,eb,la,lb,sN,cj,ko];apply hK;clear hK K;apply aC rfl;apply ak;apply lp;clear lp;refine ar fun K hK=>?_;simp(disch:=omega) ;apply hK;clear hK K;refine⟨m+1,by show m+1≤_;omega,by show x.length-(m+1)<x.length-m;omega,?_⟩;refine ag [] [] (by simp) (by simp) (by show H.length≤G.length;omega) (by simp) fD ?_;simp[la,lb];omega
       ·simp  at ko;apply aD;simp(disch:=omega) ;refine bA _ (aQ ⟨[(2,.ptr H.length 0),(3,.ptr (H.length+1) 0),(6,.int .i64 (j:Nat))],H++[.cells (cG ⟨aw,aJ,az⟩),.cells (cG ⟨aw,aJ,az⟩)],T⟩ (ag [.cells (e7 ⟨f,x⟩),.cells (e7 ⟨f,x⟩)] [] yL (by simp) (by simp) (by simp) kx (by simp)) ?_);refine ar fun K hK=>?_;simp(disch:=omega) ;apply hK;clear hK K;refine⟨j+1,by show j+1≤_;omega,by show az.length-(j+1)<az.length-j;omega,?_⟩;refine ag [] [] ?_ ?_ ?_ ?_ kx ?_
        all_goals simp
     clear hK;refine⟨?_,?_⟩
     ·simp(disch:=omega)[gg,bY,de,da];refine key _ (H.length+2) (H.length+3) (by simp) (by simp) ?_;simp
     ·simp(disch:=omega)[gg,jt,xt,sw,bY,de,da];refine key _ (H.length+3) (H.length+2) (by simp) (by simp) ?_;simp
    ·simp  at da;apply aD;simp(disch:=omega) ;apply aO;clear aO;apply ae;intro K h;simp(disch:=omega);apply h;clear h K;apply an;simp(disch:=omega) 
attribute [-simp] List.getD_eq_getElem?_getD in
theorem Ah (s:Sg)(hs:re s)(H:List aG)(T:ay):al Tryz.prog 15 [il s,il s] H T (Is (.bool true) H T):=by
 refine al.dS ?_ (by simp);refine aj 5 [] Tryz.ntmps15 Tryz.func15 rfl (fun _ _=>Tryz.call15 _ _) (by simp) (fun HO=>?_);apply ae;intro K h;simp(disch:=omega);apply h;clear h K;refine aM [] [] [] au (by kernel_rfl) (by kernel_rfl) fun K hK=>?_;simp(disch:=omega) ;refine aB (CI s hs _ _) rfl ?_;simp(disch:=omega) ;refine aB (Bd s hs _ _) rfl ?_;simp(disch:=omega) ;apply hK;clear hK K;apply an;simp(disch:=omega) 
end Go.Proofs.YtneohapkboaplaaGreat
