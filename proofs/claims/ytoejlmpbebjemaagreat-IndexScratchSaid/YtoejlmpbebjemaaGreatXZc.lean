/- index.New, Put and Drop (layer 40), and documents with one word. Play (layer 40): changes, one after the other; the example of the document.
  Conditions: as the theorems say. -/
import Derived.Test.YtoejlmpbebjemaaGreatXZb
import Derived.Test.YtoejlmpbebjemaaGreatXE
import Derived.Test.YtoejlmpbebjemaaGreatPZ
set_option linter.all false
set_option maxRecDepth 100000
set_option maxHeartbeats 8000000
namespace Go.Proofs.YtoejlmpbebjemaaGreat
open Go.Proofs.Tryz(prog)
open Go Go.Am ie cN eN
attribute [-simp] List.getD_eq_getElem?_getD in
def Tv (H:List aA)(T:au):aq prog 25 [] H T (Is (yW []) H T):=by
 refine aq.Vg ?_ zS;refine ah 2 [] Tryz.ntmps25 Tryz.func25 rfl (λ_ _=>Tryz.call25 _ _) zS (λHO=>?_);refine af ?_;refine af ?_;refine aI ?_;rfl
def LO (x:List Sd)(d:Dc):gY (dg x d.id).1 (dg x d.id).1.length (dg x d.id).1.length [d]=gk x d:=by
 unfold gY gk rY;rw[ahO,aiB,ahC zS,ahS]
def EH (x:List Sd)(id:Int):(dg x id).1.length=x.length:=by
 unfold dg
 split<;>simp
attribute [-simp] List.getD_eq_getElem?_getD in
theorem Qx {m:Nat}{x:List Sd}(h:BX m x)(ht:GV x)(hl:x.length<=400)(id:Int)(H:List aA)(T:au) :
  aq prog 20 [yW x,.int .i64 id] H T (Is (.dn [yW (xu x id),.bool (dg x id).2]) H T):=by
 refine aq.Hg ?_ zS;have cv:=λH T=>h.jP ht hl H T;have ck:=λH T=>Jp h.g (h.Uq hl) id H T;have ct:=λH T=>Ja (h.kill id) (by rw[EH];exact hl) H T;unfold xu;refine ah 8 [] Tryz.ntmps20 Tryz.func20 rfl (λ_ _=>Tryz.call20 _ _) zS (λHO=>?_);refine af ?_;refine ae λK1 aN=>?_;apply ar;refine zQ ?_;refine ai (cv _ _) ?_;refine zQ ?_;apply aB rfl;apply aj;refine zQ ?_;apply aN;clear aN;apply ar;refine zQ ?_;refine ai (ck _ _) ?_;refine zQ ?_;refine ae λK1 aN=>?_
 cases hw:(dg x id).2 with
 |false=>
  rw[ahC zS];apply ar;simp(disch:=omega)[hw];apply aC rfl;refine af ?_;refine aI ?_;exact⟨rfl,rfl⟩
 |true=>
  rw[ahF rfl];apply ar;simp(disch:=omega)[hw];apply aB rfl;apply aj;refine zQ ?_;apply aN;clear aN;apply ar;refine zQ ?_;refine ai (ct _ _) ?_;refine zQ ?_;refine aI ?_;exact⟨rfl,by rw[hw];rfl⟩
attribute [-simp] List.getD_eq_getElem?_getD in
def PJ {x:List Sd}{d:Dc}(hd:pt d)(hv:aU d=false)(H:List aA)(T:au) :
  aq prog 18 [yW x,.agg (dY d)] H T (Is (.dn [yW [],.int .i64 1]) H T):=by
 refine aq.Hg ?_ zS;have ce:=λH T=>Ci d hd H T;rw[hv] at ce;refine ah 9 [] Tryz.ntmps18 Tryz.func18 rfl (λ_ _=>Tryz.call18 _ _) zS (λHO=>?_);refine af ?_;apply hY;apply ar;refine zQ ?_;refine ai (ce _ _) ?_;refine zQ ?_;apply aC rfl;refine af ?_;refine aI ?_;exact⟨rfl,rfl⟩
attribute [-simp] List.getD_eq_getElem?_getD in
theorem Ji {m:Nat}{x:List Sd}(h:BX m x)(ht:GV x)(hl:x.length<=399){d:Dc}(hd:pt d)(hw:Db m d)(hv:aU d=true)(ha:(alive (gk x d)).length<=19)(hm:(alive (gk x d)).length*m<=1000)(H:List aA)(T:au) :
  aq prog 18 [yW x,.agg (dY d)] H T (Is (.dn [yW (Bz x d),.int .i64 0]) H T):=by
 refine aq.Hg ?_ zS;have ce:=λH T=>Ci d hd H T;rw[hv] at ce;have cv:=λH T=>h.jP ht zO H T;have hk:=h.kill d.id;have gy:=EH x d.id;have ck:=λH T=>Jp h.g (h.Uq zO) d.id H T;have cD:=λH T=>Qy hk zO H T;have Vz:VD [d]:=⟨zS,zS,λy hy=>by rw[aic.1 hy];exact hv⟩
 have cb:=λH T=>rj [d] zS (λy hy=>by rw[aic.1 hy];exact hd) (λy hy=>by rw[aic.1 hy];have:=hw.n;omega) H T .full;rw[Vz.build] at cb;have hS:=fF (dg x d.id).1;have hD:=mG (dg x d.id).1;have cr:=λH T=>vK (bF (dg x d.id).1) (cI (dg x d.id).1) (bF (dg x d.id).1).length (bF (dg x d.id).1).length (er [d]) (hk.Uq zO) zO (ahv _) (ahv _) (by simp[er]) H T;rw[hS,<-uO,<-uP,LO,<-hS] at cr;have ct:=λH T=>Ja (h.plus hv hw ha hm) (by unfold gk;rw[ahw,gy];simp;omega) H T;rw[show gE (et (gk x d)) (gk x d)=Bz x d from rfl] at ct;have kW:=va hk.g (ahv _);have Rf:=hk.a;generalize hq:j7 (dg x d.id).1 (dg x d.id).1.length=q at *;clear hq;have b1:decide ((2000:Int)<=(q.length:Int))=false:=ahy zO;have b2:¬2000<=q.length:=zO;have eb:aM [d]=dY d:=by simp[aM]
 rw[show (aM [d])=dY d from eb] at cb;generalize Bz x d=y at *;generalize gk x d=pl at *;generalize dg x d.id=kx at *;obtain⟨kx,was⟩:=kx;simp only at ck cr cD hS hD gy;generalize er [d]=s at *;refine ah 9 [] Tryz.ntmps18 Tryz.func18 rfl (λ_ _=>Tryz.call18 _ _) zS (λHO=>?_);refine af ?_;refine ae λK1 aN=>?_;apply ar;refine zQ ?_;refine ai (ce _ _) ?_;refine zQ ?_;refine ai (cv _ _) ?_;refine zQ ?_;apply aB rfl;apply aj;refine zQ ?_;apply aN;clear aN;apply ar;refine zQ ?_;refine ai (ck _ _) ?_;refine zQ ?_;refine ae λK1 aN=>?_;refine aK λK hK=>?_;have key:∀e,bA (H.length+3) T.length e [(2,.ptr H.length 0),(3,.ptr (H.length+1) 0),(4,.ptr (H.length+2) 0),(32,.bool false)]->K ⟨e,H++[.cells (jr (bF kx) (cI kx)),.cells (dY d),.cells [.sl 0 [] .full,.sl 0 [] .full]],T⟩:=by
  intro e he;refine hK _ (dE λho=>aF ⟨[(2,.ptr H.length 0),(3,.ptr (H.length+1) 0),(4,.ptr (H.length+2) 0),(32,.bool false)],_,_⟩ (wk ho (zU he)) ?_);apply aB rfl;apply aj;refine zQ ?_;apply aN;clear aN;apply ar;refine zQ ?_;refine ai (cb _ _) ?_;refine zQ ?_;apply ar;refine zQ ?_;refine ai (cr _ _) ?_;refine zQ ?_;refine ai (ct _ _) ?_;refine zQ ?_;refine aI ?_;exact⟨rfl,rfl⟩
 cases was with
 |false=>
  refine zQ ?_;refine ai (cD _ _) ?_;simp(disch:=omega)[b1,b2];refine key _ ?_;simp
 |true=>
  refine zQ ?_;refine key _ ?_;simp
attribute [-simp] List.getD_eq_getElem?_getD in
def qN (id:Int)(w:Bs)(H:List aA)(T:au):aq prog 26 [.int .i64 id,.str w] H T (Is (.agg (dY (nP id w))) H T):=by
 refine aq.Vg ?_ zS;refine ah 5 [] Tryz.ntmps26 Tryz.func26 rfl (λ_ _=>Tryz.call26 _ _) zS (λHO=>?_);refine af ?_;refine af ?_;refine aI ?_;rfl
abbrev Xz (o:oI):List AV:=.bool o.1::dY o.2
def gF (l:List oI):List AV:=l.flatMap Xz
abbrev o0:oI:=(false,d0)
def tL:eE Xz 4:=λ_=>rfl
def dV (l:List oI):(gF l).length=l.length*4:=cj tL l
def Eu (l:List oI)(i:Nat)(h:i<l.length):(gF l).getD (i*4) .top=.bool (l.getD i o0).1/\(gF l).getD (i*4+1) .top=.int .i64 (l.getD i o0).2.id:=⟨eP tL l i 0 o0 h zO,eP tL l i 1 o0 h zO⟩
def AN (l:List oI)(i:Nat)(h:i<l.length):((gF l).drop (i*4+1)).take 3=dY (l.getD i o0).2:=by
 have h1:=fX tL l i o0 h;have h2:((gF l).drop (i*4+1)).take 3=(((gF l).drop (i*4)).take 4).drop 1:=by
  rw[List.drop_take,ajR]
 rw[h2];unfold gF;rw[h1];rfl
@[simp] theorem X7 (n t:Nat) (l:List oI):aL n t (gF l):=fO (f:=Xz) (λx=>by simp) l
def IX.szB {l:List oI}{B m:Nat}{x:List Sd}(h:IX (M6 l) B x)(hl:l.length<=B)(hw:∀o∈l,aU o.2=true->Db m o.2)(hB:B<=19)(hm:B*m<=1000):BX m x/\x.length<=7:=by
 have ha:(alive x).length<=B:=ahA (qh h.g.nd h.p.each) hl;refine⟨h.bx (λd ⟨o,ho,e,hv⟩=>by rw[<-e] at hv ⊢;exact hw o ho hv) ha hB hm,?_⟩;rcases ahD 7 x.length with h7|h7
 ·have h1:=Pa h.g h.t ha (λe=>by rw[e] at h7;simp at h7);have h2:2 ^ 7<=2 ^ (x.length-1):=Nat.pow_le_pow_right zO zO;omega
 ·exact h7
attribute [-simp] List.getD_eq_getElem?_getD in
theorem Jk {m B:Nat}(l:List oI)(hl:l.length<=B)(hs:∀o∈l,pt o.2)(hw:∀o∈l,aU o.2=true->Db m o.2)(hB:B<=19)(hm:B*m<=1000)(H:List aA)(T:au)(tg:Tag) :
  aq prog 13 [.sl l.length (gF l) tg] H T (Is (yW (fE l)) H T):=by
 refine aq.bR ?_;refine aq.bK ?_ zS;have De:∀x,bM H T->bM (H++[.cells [.sl 0 [] .full,.sl 0 [] .full],.cells (jr (bF x) (cI x))]) T:=λx HO=>by
  have:=(HO.snoc (vs:=[.sl 0 [] .full,.sl 0 [] .full]) zS).snoc (vs:=jr (bF x) (cI x)) zS;simpa using this
 have cn:=λH T=>Tv H T;refine ah 7 [] Tryz.ntmps13 Tryz.func13 rfl (λ_ _=>Tryz.call13 _ _) zS (λHO=>?_);have De:=λx=>De x HO;refine af ?_;apply ar;refine zQ ?_;refine ai (cn _ _) ?_;refine zQ ?_;refine ae λK1 aN=>?_;refine af ?_;apply ag;refine aG (X:=Nat) (λi=>⟨[(0,.sl l.length (gF l) .none),(2,.ptr H.length 0),(3,.ptr (H.length+1) 0),(4,.int .i64 (i:Nat))],H++[.cells [.sl 0 [] .full,.sl 0 [] .full],.cells (jr (bF (fE (l.take i))) (cI (fE (l.take i))))],T⟩)
  (λi=>i<=l.length) (λi=>l.length-i) 0 ?_ ?_ ?_
 ·exact ahE _
 ·refine ak [] [] ?_ ?_ ?_ ?_ (De _) ?_
  all_goals simp[fE,bF,cI]
 ·intro i g1;have hx:=lW hl zO i g1;obtain⟨hb,h7⟩:=hx.szB hl hw hB hm;refine ae λK2 ba=>?_
  by_cases hk:i<l.length
  ·have b1:decide ((i:Int)<(l.length:Int))=true:=ahx zO;apply ar;simp(disch:=omega)[hk];apply aC rfl;obtain⟨a1,a2⟩:=Eu l i hk;have a3:=AN l i hk;have gO:l.getD i o0∈l:=aQ l i o0 hk;have xo:fE (l.take (i+1))=uz (fE (l.take i)) (l.getD i o0):=by
    unfold fE;rw[aX l i o0 hk,ai8];rfl
   have CN:=lW hl zO (i+1) hk;have aag:∀{d},M6 l d->aU d=true->(alive (gk (fE (l.take i)) d)).length<=B:=λ{d} h1 h2=>
    ahA (qh (oo hx.g h2 (.inl (by have:=hb.a;omega))).nd (hx.p.plus h1 zO).each) hl
   generalize Uz:fE (l.take (i+1))=z at *;generalize fE (l.take i)=x at *;generalize Gy:l.getD i o0=o at *;obtain⟨dr,d⟩:=o;simp only at a1 a2 a3;have CP:=hs _ gO;simp only at CP;apply aj;refine zQ ?_;apply ba;clear ba;refine ae λK3 bH=>?_;apply ag;apply ar;simp(disch:=omega)[a1,hk,dV]
   cases dr with
   |true=>
    have cd:=λH T=>Qx hb hx.t zO d.id H T;have e:z=xu x d.id:=by rw[xo];unfold uz;rw[ahF rfl]
    rw[<-e] at cd;apply aC rfl;refine du [11] [0,0,0,0,0,0,0,0,0,0,0,0] [[10]] aO zK zK λK hK=>?_;simp(disch:=omega)[a2,hk,dV];refine az (cd _ _) rfl ?_;refine zQ ?_;apply hK;apply bH;clear bH;refine aJ ?_;refine⟨i+1,by show i+1<=_;omega,by show l.length-(i+1)<l.length-i;omega,?_⟩;refine ak [] [] ?_ ?_ ?_ ?_ (De _) ?_
    all_goals simp[Uz]
   |false=>
    apply aB rfl;have mn:∀e G,bA (H.length+2) T.length e [(0,.sl l.length (gF l) .none),(2,.ptr H.length 0),(3,.ptr (H.length+1) 0),(4,.int .i64 (i:Nat))]->
      K3 ⟨e,H++.cells [.sl 0 [] .full,.sl 0 [] .full]::.cells (jr (bF z) (cI z))::G,T⟩:=by
     intro e G he;refine bH _ (aF ⟨[(0,.sl l.length (gF l) .none),(2,.ptr H.length 0),(3,.ptr (H.length+1) 0),(4,.int .i64 (i:Nat))],H++[.cells [.sl 0 [] .full,.sl 0 [] .full],.cells (jr (bF z) (cI z))],T⟩ (ak G [] zS zS zS zS (De _) (zU he)) ?_);refine aJ ?_;refine⟨i+1,by show i+1<=_;omega,by show l.length-(i+1)<l.length-i;omega,?_⟩;refine ak [] [] ?_ ?_ ?_ ?_ (De _) ?_
     all_goals simp[Uz]
    clear bH
    cases hv:aU d with
    |true=>
     have hd:M6 l d:=⟨_,gO,rfl,hv⟩
     have hp:=aag hd hv;have cp:=λH T=>Ji hb hx.t zO CP (hw _ gO hv) hv zO (ahA (aiz m hp) hm) H T;have e:z=Bz x d:=by rw[xo];unfold uz;rw[ahC zS,ahF hv]
     rw[<-e] at cp;refine cQ [10,11] [0,0,0,0,0,0,0,0,0,0,0,1,2] [[0,1,2,3,4,5,6,7,8,9],[9]] aO zK zK λK hK=>?_;simp(disch:=omega)[a3,hk,dV];refine az (cp _ _) rfl ?_;simp(disch:=omega)[a3,hk,dV];refine⟨cp _ _,hK _ ?_⟩;clear hK K;refine af ?_;apply aC rfl;refine aJ ?_;refine mn _ [_] ?_;simp
    |false=>
     have cp:=λH T=>PJ (x:=x) CP hv H T;have e:z=x:=by rw[xo];unfold uz;rw[ahC zS,ahC (by rw[hv];simp)]
     refine cQ [10,11] [0,0,0,0,0,0,0,0,0,0,0,1,2] [[0,1,2,3,4,5,6,7,8,9],[9]] aO zK zK λK hK=>?_;simp(disch:=omega)[a3,hk,dV];refine az (cp _ _) rfl ?_;simp(disch:=omega)[a3,hk,dV];refine⟨cp _ _,hK _ ?_⟩;clear hK K;refine af ?_;apply aB rfl;apply aj;rw[<-e];refine mn _ [_] ?_;simp
  ·have b1:decide ((i:Int)<(l.length:Int))=false:=ahy zO;have:i=l.length:=zO;subst this;apply ar;simp(disch:=omega)[b1,hk];apply aB rfl;apply aD;refine zQ ?_;apply aN;clear aN;refine af ?_;exact bu zC
def Th {x:List Sd}(h:GX x)(d:Dc):(alive (gk x d)).length<=(alive x).length+1:=by
 rw[oZ h,ahw,ain];have:=ahX (λy:Dc=>!decide (y.id=d.id)) (alive x);omega
def z6:List oI:=[(false,nP 1 [97]),(false,nP 2 [97]),(false,nP 3 [98])]
def I9 (id:Int)(w:Bs)(hw:w.length<=maxLen):pt (nP id w):=⟨by simp[nP,maxLen],λz hz=>by
 have:z=⟨1,[(w,0)]⟩:=by simpa[nP] using hz
 subst this;exact⟨by simp[maxLen],λy hy=>by
  have:y=(w,0):=by simpa using hy
  rw[this];exact hw⟩,by simp[nP,maxLen]⟩
attribute [-simp] List.getD_eq_getElem?_getD in
def MX (H:List aA)(T:au):aq prog 10 [] H T (Is (.bool true) H T):=by
 refine aq.bK ?_ zS;have v4:aU (nP 1 [99])=true:=by decide +kernel
 have hw:∀o∈z6++[(false,nP 1 [99])],aU o.2=true->Db 1 o.2:=λo ho _=>by
  simp[z6] at ho;rcases ho with rfl|rfl|rfl|rfl<;>exact I7 _ _
 have hs:∀o∈z6,pt o.2:=λo ho=>by
  simp[z6] at ho;rcases ho with rfl|rfl|rfl<;>exact I9 _ _ (by simp[maxLen])
 have ct1:=λH T=>qN 1 [97] H T;have ct2:=λH T=>qN 2 [97] H T;have ct3:=λH T=>qN 3 [98] H T;have ct4:=λH T=>qN 1 [99] H T;have cp:=λH T=>Jk (m:=1) (B:=3) z6 (by simp[z6]) hs (λo ho=>hw o (ahR _ ho)) zO zO H T .full;have hx:=lW (l:=z6) (B:=3) (by simp[z6]) zO 3 (by simp[z6]);obtain⟨CY,h7⟩:=hx.szB (m:=1) (by simp[z6]) (λo ho=>hw o (ahR _ ho)) zO zO;have eX:fE (z6.take 3)=NH:=rfl;have eX2:fE z6=NH:=rfl;rw[eX] at hx CY h7;rw[eX2] at cp;have hy:=lW (l:=z6++[(false,nP 1 [99])]) (B:=4) (by simp[z6]) zO 4 (by simp[z6]);obtain⟨rv,h8⟩:=hy.szB (m:=1) (by simp[z6]) hw zO zO;have eY:fE ((z6++[(false,nP 1 [99])]).take 4)=zZ:=by
  show uz NH (false,nP 1 [99])=zZ;unfold uz;rw[ahC zS,ahF v4];rfl
 rw[eY] at hy rv h8;have zM:=Th hx.g (nP 1 [99]);have ur:(alive NH).length<=3:=ahA (qh hx.g.nd hx.p.each) (by simp[z6]);have cq:=λH T=>Ji CY hx.t zO (I9 1 [99] (by simp[maxLen])) (I7 1 [99]) v4 zO zO H T;rw[show Bz NH (nP 1 [99])=zZ from rfl] at cq;have cf:=λH T=>x8 rv zO zO 1 [97] H T;have cv:=λH T=>rv.jP hy.t zO H T;have hvY:=gT hy.g;have hq:=u5 hy.g (1,[97]);have q1:(fj zZ (1,[97]) zZ.length).length<=5000:=by
  rw[hq];have h1:=oi (fM zZ) (1,[97]);have h2:(fM zZ).length=(alive zZ).length:=dU _;have:=rv.a;omega
 have q2:∀p∈fj zZ (1,[97]) zZ.length,p.2.length<=maxLen:=λp hp=>by
  rw[hq] at hp;refine ahA (rv.post zO (λd hd=>?_) (1,[97]) p hp) zD;obtain⟨q,hq,hd⟩:=qK.1 hd;exact⟨q,hq,mE hd⟩
 have cD:=λH T=>E6 (fj zZ (1,[97]) zZ.length) q1 q2 H T .none;have eD:lC (fj zZ (1,[97]) zZ.length)=[2]:=by
  unfold lC;rw[hq,ahF (iD hvY.lt hvY.v _)];exact Qp
 rw[eD] at cD;have cs:=λH T=>qu [2] [2] (by simp[maxLen]) (by simp[maxLen]) H T .none .full;have x1:(bF NH).length=2:=by rw[fF,ZJ];rfl
 have x2:=(B1 (bF NH) 0 zO).1;rw[show (bF NH).getD 0 bY=er [nP 1 [97],nP 2 [97]] by rw[ZJ];rfl] at x2;have x3:(er [nP 1 [97],nP 2 [97]]).aw.length=2:=rfl;have y1:(bF zZ).length=1:=by rw[fF,afF];rfl
 have eo:gF z6=[.bool false]++dY (nP 1 [97])++[.bool false]++dY (nP 2 [97])++[.bool false]++dY (nP 3 [98]):=rfl;rw[eo,show z6.length=3 from rfl] at cp;generalize er [nP 1 [97],nP 2 [97]]=s0 at *;generalize fj zZ (1,[97]) zZ.length=fq at *;clear hx CY hy rv hs hw eo eD hq q1 q2 hvY zM ur eX eX2 eY;generalize nP 1 [97]=d1 at *;generalize nP 2 [97]=d2 at *;generalize nP 3 [98]=d3 at *;generalize nP 1 [99]=d4 at *;generalize NH=X at *;generalize zZ=Y at *;have S1:=dL (bF X);simp only[yW,BD,jr,y1] at cf cv;refine ah 4 [] Tryz.ntmps10 Tryz.func10 rfl (λ_ _=>Tryz.call10 _ _) zS (λHO=>?_);refine af ?_;apply ar;refine zQ ?_;refine ai (ct1 _ _) ?_;refine zQ ?_;refine ai (ct2 _ _) ?_;refine zQ ?_;refine ai (ct3 _ _) ?_;refine zQ ?_;refine ai (cp _ _) ?_;refine zQ ?_;refine cQ [6,7] [0,0,0,0,0,0,0,1,2] [[0,1,2,3,4,5],[5]] aO zK zK λK hK=>?_;refine zQ ?_;refine az (ct4 _ _) rfl ?_;refine zQ ?_;refine az (cq _ _) rfl ?_;refine zQ ?_;refine⟨⟨ct4 _ _,cq _ _⟩,hK _ ?_⟩;clear hK K;apply ar;simp(disch:=omega)[x1,x2,x3,y1,S1];refine ai (cf _ _) ?_;simp(disch:=omega)[x1,x2,x3,y1,S1];refine ai (cD _ _) ?_;refine zQ ?_;refine ai (cs _ _) ?_;refine zQ ?_;refine ai (cv _ _) ?_;refine zQ ?_;exact bu zC
end Go.Proofs.YtoejlmpbebjemaaGreat
