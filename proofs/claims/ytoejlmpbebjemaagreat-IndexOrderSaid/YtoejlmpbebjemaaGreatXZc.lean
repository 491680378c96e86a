/- index.New, Put and Drop (layer 40), and documents with one word. Play (layer 40): changes, one after the other; the example of the document.
  Conditions: as the theorems say. -/
import Derived.Test.YtoejlmpbebjemaaGreatXZb
import Derived.Test.YtoejlmpbebjemaaGreatXE
import Derived.Test.YtoejlmpbebjemaaGreatPZ
set_option linter.all false
set_option maxRecDepth 100000
set_option maxHeartbeats 8000000
namespace Go.Proofs.YtoejlmpbebjemaaGreat
open Go.Proofs.Tryz(prog)
open Go Go.Am ia cO eN
attribute [-simp] List.getD_eq_getElem?_getD in
def SB (H:List aA)(T:au):ar prog 25 [] H T (Is (yp []) H T):=by
 refine ar.Uw ?_ (by simp);refine ah 2 [] Tryz.ntmps25 Tryz.func25 rfl (λ_ _=>Tryz.call25 _ _) (by simp) (λHO=>?_);apply ae;intro K Z;simp(disch:=omega);apply Z;apply ae;intro K Z;simp(disch:=omega);apply Z;apply az;simp(disch:=omega) ;rfl
def La (x:List Sd)(d:Dc):gI (cW x d.id).1 (cW x d.id).1.length (cW x d.id).1.length [d]=fS x d:=by
 unfold gI fS rv;rw[agZ,ahH,agL (by simp),ag2]
def DX (x:List Sd)(id:Int):(cW x id).1.length=x.length:=by
 unfold cW
 split<;>simp
attribute [-simp] List.getD_eq_getElem?_getD in
theorem PT {m:Nat}{x:List Sd}(h:BX m x)(ht:Gi x)(hl:x.length<=400)(id:Int)(H:List aA)(T:au) :
  ar prog 20 [yp x,.int .i64 id] H T (Is (.df [yp (wT x id),.bool (cW x id).2]) H T):=by
 refine ar.Gy ?_ (by simp);have cv:=λH T=>h.ju ht hl H T;have ck:=λH T=>IQ h.g (h.TC hl) id H T;have ct:=λH T=>IA (h.kill id) (by rw[DX];exact hl) H T;unfold wT;refine ah 8 [] Tryz.ntmps20 Tryz.func20 rfl (λ_ _=>Tryz.call20 _ _) (by simp) (λHO=>?_);apply ae;intro K Z;simp(disch:=omega);apply Z;refine af λK1 aP=>?_;refine ae λK hK=>?_;simp(disch:=omega) ;refine ak (cv _ _) ?_;simp(disch:=omega) ;apply hK;apply aF rfl;apply aq;simp(disch:=omega) ;apply aP;clear aP;refine ae λK hK=>?_;simp(disch:=omega) ;refine ak (ck _ _) ?_;simp(disch:=omega) ;apply hK;refine af λK1 aP=>?_
 cases hw:(cW x id).2 with
 |false=>
  rw[agL (by simp)];refine ae λK hK=>?_;simp(disch:=omega)[hw];apply hK;apply aH rfl;apply ae;intro K Z;simp(disch:=omega);apply Z;apply az;simp(disch:=omega) ;exact⟨rfl,rfl⟩
 |true=>
  rw[agN rfl];refine ae λK hK=>?_;simp(disch:=omega)[hw];apply hK;apply aF rfl;apply aq;simp(disch:=omega) ;apply aP;clear aP;refine ae λK hK=>?_;simp(disch:=omega) ;refine ak (ct _ _) ?_;simp(disch:=omega) ;apply hK;apply az;simp(disch:=omega) ;exact⟨rfl,by rw[hw];rfl⟩
attribute [-simp] List.getD_eq_getElem?_getD in
def O3 {x:List Sd}{d:Dc}(hd:oY d)(hv:aS d=false)(H:List aA)(T:au) :
  ar prog 18 [yp x,.agg (dO d)] H T (Is (.df [yp [],.int .i64 1]) H T):=by
 refine ar.Gy ?_ (by simp);have ce:=λH T=>BD d hd H T;rw[hv] at ce;refine ah 9 [] Tryz.ntmps18 Tryz.func18 rfl (λ_ _=>Tryz.call18 _ _) (by simp) (λHO=>?_);apply ae;intro K Z;simp(disch:=omega);apply Z;refine af λK1 aP=>?_;refine ae λK hK=>?_;simp(disch:=omega) ;refine ak (ce _ _) ?_;simp(disch:=omega) ;apply hK;apply aH rfl;apply ae;intro K Z;simp(disch:=omega);apply Z;apply az;simp(disch:=omega) ;exact⟨rfl,rfl⟩
attribute [-simp] List.getD_eq_getElem?_getD in
theorem IH {m:Nat}{x:List Sd}(h:BX m x)(ht:Gi x)(hl:x.length<=399){d:Dc}(hd:oY d)(hw:Cz m d)(hv:aS d=true)(ha:(alive (fS x d)).length<=19)(hm:(alive (fS x d)).length*m<=1000)(H:List aA)(T:au) :
  ar prog 18 [yp x,.agg (dO d)] H T (Is (.df [yp (A0 x d),.int .i64 0]) H T):=by
 refine ar.Gy ?_ (by simp);have ce:=λH T=>BD d hd H T;rw[hv] at ce;have cv:=λH T=>h.ju ht (by omega) H T;have hk:=h.kill d.id;have gO:=DX x d.id;have ck:=λH T=>IQ h.g (h.TC (by omega)) d.id H T;have cD:=λH T=>PU hk (by omega) H T;have hvd:VD [d]:=⟨by simp,by simp,λy hy=>by rw[ahl.1 hy];exact hv⟩
 have cb:=λH T=>qC [d] (by simp) (λy hy=>by rw[ahl.1 hy];exact hd) (λy hy=>by rw[ahl.1 hy];have:=hw.n;omega) H T .full;rw[hvd.build] at cb;have hS:=fw (cW x d.id).1;have hD:=l0 (cW x d.id).1;have cr:=λH T=>vh (br (cW x d.id).1) (cj (cW x d.id).1) (br (cW x d.id).1).length (br (cW x d.id).1).length (eu [d]) (hk.TC (by omega)) (by omega) (agE _) (agE _) (by simp[eu]) H T;rw[hS,<-ur,<-uu,La,<-hS] at cr;have ct:=λH T=>IA (h.plus hv hw ha hm) (by unfold fS;rw[agF,gO];simp;omega) H T;rw[show gg (dW (fS x d)) (fS x d)=A0 x d from rfl] at ct;have mN:=uK hk.g (agE _);have WV:=hk.a;generalize hq:jI (cW x d.id).1 (cW x d.id).1.length=q at *;clear hq;have b1:decide ((2000:Int)<=(q.length:Int))=false:=agI (by omega);have b2:¬2000<=q.length:=by omega
 have eb:aN [d]=dO d:=by simp[aN]
 rw[show (aN [d])=dO d from eb] at cb;generalize A0 x d=y at *;generalize fS x d=pl at *;generalize cW x d.id=kx at *;obtain⟨kx,was⟩:=kx;simp only at ck cr cD hS hD gO;generalize eu [d]=s at *;refine ah 9 [] Tryz.ntmps18 Tryz.func18 rfl (λ_ _=>Tryz.call18 _ _) (by simp) (λHO=>?_);apply ae;intro K Z;simp(disch:=omega);apply Z;refine af λK1 aP=>?_;refine ae λK hK=>?_;simp(disch:=omega) ;refine ak (ce _ _) ?_;simp(disch:=omega) ;refine ak (cv _ _) ?_;simp(disch:=omega) ;apply hK;apply aF rfl;apply aq;simp(disch:=omega) ;apply aP;clear aP;refine ae λK hK=>?_;simp(disch:=omega) ;refine ak (ck _ _) ?_;simp(disch:=omega) ;apply hK;refine af λK1 aP=>?_;refine ae λK hK=>?_;have key:∀e,bC (H.length+3) T.length e [(2,.ptr H.length 0),(3,.ptr (H.length+1) 0),(4,.ptr (H.length+2) 0),(32,.bool false)]->K ⟨e,H++[.cells (iv (br kx) (cj kx)),.cells (dO d),.cells [.sl 0 [] .full,.sl 0 [] .full]],T⟩:=by
  intro e he;refine hK _ (dy λho=>aI ⟨[(2,.ptr H.length 0),(3,.ptr (H.length+1) 0),(4,.ptr (H.length+2) 0),(32,.bool false)],_,_⟩ (ag [] [] (by simp) (by simp) (by simp) (by simp) ho (by simpa using he)) ?_);apply aF rfl;apply aq;simp(disch:=omega) ;apply aP;clear aP;refine ae λK hK=>?_;simp(disch:=omega) ;refine ak (cb _ _) ?_;simp(disch:=omega) ;apply hK;refine ae λK hK=>?_;simp(disch:=omega) ;refine ak (cr _ _) ?_;simp(disch:=omega) ;refine ak (ct _ _) ?_;simp(disch:=omega) ;apply hK;apply az;simp(disch:=omega) ;exact⟨rfl,rfl⟩
 cases was with
 |false=>
  simp(disch:=omega) ;refine ak (cD _ _) ?_;simp(disch:=omega)[b1,b2];refine key _ ?_;simp
 |true=>
  simp(disch:=omega) ;refine key _ ?_;simp
attribute [-simp] List.getD_eq_getElem?_getD in
def ql (id:Int)(w:Bs)(H:List aA)(T:au):ar prog 26 [.int .i64 id,.str w] H T (Is (.agg (dO (nm id w))) H T):=by
 refine ar.Uw ?_ (by simp);refine ah 5 [] Tryz.ntmps26 Tryz.func26 rfl (λ_ _=>Tryz.call26 _ _) (by simp) (λHO=>?_);apply ae;intro K Z;simp(disch:=omega);apply Z;apply ae;intro K Z;simp(disch:=omega);apply Z;apply az;simp(disch:=omega) ;rfl
abbrev Xs (o:qM):List AV:=.bool o.1::dO o.2
def iF (l:List qM):List AV:=l.flatMap Xs
abbrev o0:qM:=(false,d0)
def sZ:ep Xs 4:=λ_=>rfl
def iq (l:List qM):(iF l).length=l.length*4:=bY sZ l
def Pf (l:List qM)(i:Nat)(h:i<l.length):(iF l).getD (i*4) .top=.bool (l.getD i o0).1/\(iF l).getD (i*4+1) .top=.int .i64 (l.getD i o0).2.id:=⟨eJ sZ l i 0 o0 h (by omega),eJ sZ l i 1 o0 h (by omega)⟩
def Le (l:List qM)(i:Nat)(h:i<l.length):((iF l).drop (i*4+1)).take 3=dO (l.getD i o0).2:=by
 have h1:=fO sZ l i o0 h;have h2:((iF l).drop (i*4+1)).take 3=(((iF l).drop (i*4)).take 4).drop 1:=by
  rw[List.drop_take,aiY]
 rw[h2];unfold iF;rw[h1];rfl
@[simp] theorem Xj (n t:Nat) (l:List qM):aM n t (iF l):=fG (f:=Xs) (λx=>by simp) l
def IX.szB {l:List qM}{B m:Nat}{x:List Sd}(h:IX (Mo l) B x)(hl:l.length<=B)(hw:∀o∈l,aS o.2=true->Cz m o.2)(hB:B<=19)(hm:B*m<=1000):BX m x/\x.length<=7:=by
 have ha:(alive x).length<=B:=agJ (pL h.g.nd h.p.each) hl;refine⟨h.bx (λd ⟨o,ho,e,hv⟩=>by rw[<-e] at hv ⊢;exact hw o ho hv) ha hB hm,?_⟩;rcases agM 7 x.length with h7|h7
 ·have h1:=Oy h.g h.t ha (λe=>by rw[e] at h7;simp at h7);have h2:2 ^ 7<=2 ^ (x.length-1):=Nat.pow_le_pow_right (by omega) (by omega);omega
 ·exact h7
attribute [-simp] List.getD_eq_getElem?_getD in
theorem Bt {m B:Nat}(l:List qM)(hl:l.length<=B)(hs:∀o∈l,oY o.2)(hw:∀o∈l,aS o.2=true->Cz m o.2)(hB:B<=19)(hm:B*m<=1000)(H:List aA)(T:au)(tg:Tag) :
  ar prog 13 [.sl l.length (iF l) tg] H T (Is (yp (fc l)) H T):=by
 refine ar.cF ?_;refine ar.bZ ?_ (by simp);have CB:∀x,bN H T->bN (H++[.cells [.sl 0 [] .full,.sl 0 [] .full],.cells (iv (br x) (cj x))]) T:=λx HO=>by
  have:=(HO.snoc (vs:=[.sl 0 [] .full,.sl 0 [] .full]) (by simp)).snoc (vs:=iv (br x) (cj x)) (by simp);simpa using this
 have cn:=λH T=>SB H T;refine ah 7 [] Tryz.ntmps13 Tryz.func13 rfl (λ_ _=>Tryz.call13 _ _) (by simp) (λHO=>?_);have CB:=λx=>CB x HO;apply ae;intro K Z;simp(disch:=omega);apply Z;refine ae λK hK=>?_;simp(disch:=omega) ;refine ak (cn _ _) ?_;simp(disch:=omega) ;apply hK;refine af λK1 aP=>?_;apply ae;intro K Z;simp(disch:=omega);apply Z;apply aj;refine aJ (X:=Nat) (λi=>⟨[(0,.sl l.length (iF l) .none),(2,.ptr H.length 0),(3,.ptr (H.length+1) 0),(4,.int .i64 (i:Nat))],H++[.cells [.sl 0 [] .full,.sl 0 [] .full],.cells (iv (br (fc (l.take i))) (cj (fc (l.take i))))],T⟩)
  (λi=>i<=l.length) (λi=>l.length-i) 0 ?_ ?_ ?_
 ·exact agP _
 ·refine ag [] [] ?_ ?_ ?_ ?_ (CB _) ?_
  all_goals simp[fc,br,cj]
 ·intro i g1;have hx:=mH hl (by omega) i g1;obtain⟨hb,h7⟩:=hx.szB hl hw hB hm;refine af λK2 bp=>?_
  by_cases hk:i<l.length
  ·have b1:decide ((i:Int)<(l.length:Int))=true:=agH (by omega);refine ae λK hK=>?_;simp(disch:=omega)[hk];apply hK;apply aH rfl;obtain⟨a1,a2⟩:=Pf l i hk;have a3:=Le l i hk;have fK:l.getD i o0∈l:=aT l i o0 hk;have wQ:fc (l.take (i+1))=tV (fc (l.take i)) (l.getD i o0):=by
    unfold fc;rw[aV l i o0 hk,ail];rfl
   have Cc:=mH hl (by omega) (i+1) hk;have Zo:∀{d},Mo l d->aS d=true->(alive (fS (fc (l.take i)) d)).length<=B:=λ{d} h1 h2=>
    agJ (pL (nR hx.g h2 (.inl (by have:=hb.a;omega))).nd (hx.p.plus h1 (by omega)).each) hl
   generalize TP:fc (l.take (i+1))=z at *;generalize fc (l.take i)=x at *;generalize Mx:l.getD i o0=o at *;obtain⟨dr,d⟩:=o;simp only at a1 a2 a3;have FR:=hs _ fK;simp only at FR;apply aq;simp(disch:=omega) ;apply bp;clear bp;refine af λK3 bG=>?_;apply aj;refine ae λK hK=>?_;simp(disch:=omega)[a1,hk,iq];apply hK
   cases dr with
   |true=>
    have cd:=λH T=>PT hb hx.t (by omega) d.id H T;have e:z=wT x d.id:=by rw[wQ];unfold tV;rw[agN rfl]
    rw[<-e] at cd;apply aH rfl;refine cT [11] [0,0,0,0,0,0,0,0,0,0,0,0] [[10]] aw (by kernel_rfl) (by kernel_rfl) λK hK=>?_;simp(disch:=omega)[a2,hk,iq];refine aD (cd _ _) rfl ?_;simp(disch:=omega) ;apply hK;apply bG;clear bG;refine aC λK hK=>?_;simp(disch:=omega) ;apply hK;refine⟨i+1,by show i+1<=_;omega,by show l.length-(i+1)<l.length-i;omega,?_⟩;refine ag [] [] ?_ ?_ ?_ ?_ (CB _) ?_
    all_goals simp[TP]
   |false=>
    apply aF rfl;have mV:∀e G,bC (H.length+2) T.length e [(0,.sl l.length (iF l) .none),(2,.ptr H.length 0),(3,.ptr (H.length+1) 0),(4,.int .i64 (i:Nat))]->
      K3 ⟨e,H++.cells [.sl 0 [] .full,.sl 0 [] .full]::.cells (iv (br z) (cj z))::G,T⟩:=by
     intro e G he;refine bG _ (aI ⟨[(0,.sl l.length (iF l) .none),(2,.ptr H.length 0),(3,.ptr (H.length+1) 0),(4,.int .i64 (i:Nat))],H++[.cells [.sl 0 [] .full,.sl 0 [] .full],.cells (iv (br z) (cj z))],T⟩ (ag G [] (by simp) (by simp) (by simp) (by simp) (CB _) (by simpa using he)) ?_);refine aC λK hK=>?_;simp(disch:=omega) ;apply hK;refine⟨i+1,by show i+1<=_;omega,by show l.length-(i+1)<l.length-i;omega,?_⟩;refine ag [] [] ?_ ?_ ?_ ?_ (CB _) ?_
     all_goals simp[TP]
    clear bG
    cases hv:aS d with
    |true=>
     have hd:Mo l d:=⟨_,fK,rfl,hv⟩
     have hp:=Zo hd hv;have cp:=λH T=>IH hb hx.t (by omega) FR (hw _ fK hv) hv (by omega) (agJ (ahF m hp) hm) H T;have e:z=A0 x d:=by rw[wQ];unfold tV;rw[agL (by simp),agN hv]
     rw[<-e] at cp;refine aK [10,11] [0,0,0,0,0,0,0,0,0,0,0,1,2] [[0,1,2,3,4,5,6,7,8,9],[9]] aw (by kernel_rfl) (by kernel_rfl) λK hK=>?_;simp(disch:=omega)[a3,hk,iq];refine aD (cp _ _) rfl ?_;simp(disch:=omega)[a3,hk,iq];refine⟨cp _ _,hK _ ?_⟩;clear hK K;apply ae;intro K Z;simp(disch:=omega);apply Z;apply aH rfl;refine aC λK hK=>?_;simp(disch:=omega) ;apply hK;refine mV _ [_] ?_;simp
    |false=>
     have cp:=λH T=>O3 (x:=x) FR hv H T;have e:z=x:=by rw[wQ];unfold tV;rw[agL (by simp),agL (by rw[hv];simp)]
     refine aK [10,11] [0,0,0,0,0,0,0,0,0,0,0,1,2] [[0,1,2,3,4,5,6,7,8,9],[9]] aw (by kernel_rfl) (by kernel_rfl) λK hK=>?_;simp(disch:=omega)[a3,hk,iq];refine aD (cp _ _) rfl ?_;simp(disch:=omega)[a3,hk,iq];refine⟨cp _ _,hK _ ?_⟩;clear hK K;apply ae;intro K Z;simp(disch:=omega);apply Z;apply aF rfl;apply aq;rw[<-e];refine mV _ [_] ?_;simp
  ·have b1:decide ((i:Int)<(l.length:Int))=false:=agI (by omega);have:i=l.length:=by omega
   subst this;refine ae λK hK=>?_;simp(disch:=omega)[b1,hk];apply hK;apply aF rfl;apply aG;simp(disch:=omega) ;apply aP;clear aP;apply ae;intro K Z;simp(disch:=omega);apply Z;apply az;simp(disch:=omega) 
def Sq {x:List Sd}(h:GX x)(d:Dc):(alive (fS x d)).length<=(alive x).length+1:=by
 rw[oH h,agF,ahw];have:=ahf (λy:Dc=>!decide (y.id=d.id)) (alive x);omega
def zo:List qM:=[(false,nm 1 [97]),(false,nm 2 [97]),(false,nm 3 [98])]
def Iz (id:Int)(w:Bs)(hw:w.length<=maxLen):oY (nm id w):=⟨by simp[nm,maxLen],λz hz=>by
 have:z=⟨1,[(w,0)]⟩:=by simpa[nm] using hz
 subst this;exact⟨by simp[maxLen],λy hy=>by
  have:y=(w,0):=by simpa using hy
  rw[this];exact hw⟩,by simp[nm,maxLen]⟩
attribute [-simp] List.getD_eq_getElem?_getD in
def Me (H:List aA)(T:au):ar prog 10 [] H T (Is (.bool true) H T):=by
 refine ar.bZ ?_ (by simp);have v4:aS (nm 1 [99])=true:=by decide +kernel
 have hw:∀o∈zo++[(false,nm 1 [99])],aS o.2=true->Cz 1 o.2:=λo ho _=>by
  simp[zo] at ho;rcases ho with rfl|rfl|rfl|rfl<;>exact Ix _ _
 have hs:∀o∈zo,oY o.2:=λo ho=>by
  simp[zo] at ho;rcases ho with rfl|rfl|rfl<;>exact Iz _ _ (by simp[maxLen])
 have ct1:=λH T=>ql 1 [97] H T;have ct2:=λH T=>ql 2 [97] H T;have ct3:=λH T=>ql 3 [98] H T;have ct4:=λH T=>ql 1 [99] H T;have cp:=λH T=>Bt (m:=1) (B:=3) zo (by simp[zo]) hs (λo ho=>hw o (ag1 _ ho)) (by omega) (by omega) H T .full;have hx:=mH (l:=zo) (B:=3) (by simp[zo]) (by omega) 3 (by simp[zo]);obtain⟨Cj,h7⟩:=hx.szB (m:=1) (by simp[zo]) (λo ho=>hw o (ag1 _ ho)) (by omega) (by omega);have eX:fc (zo.take 3)=MX:=rfl;have eX2:fc zo=MX:=rfl;rw[eX] at hx Cj h7;rw[eX2] at cp;have hy:=mH (l:=zo++[(false,nm 1 [99])]) (B:=4) (by simp[zo]) (by omega) 4 (by simp[zo]);obtain⟨qK,h8⟩:=hy.szB (m:=1) (by simp[zo]) hw (by omega) (by omega);have eY:fc ((zo++[(false,nm 1 [99])]).take 4)=zm:=by
  show tV MX (false,nm 1 [99])=zm;unfold tV;rw[agL (by simp),agN v4];rfl
 rw[eY] at hy qK h8;have zb:=Sq hx.g (nm 1 [99]);have uW:(alive MX).length<=3:=agJ (pL hx.g.nd hx.p.each) (by simp[zo]);have cq:=λH T=>IH Cj hx.t (by omega) (Iz 1 [99] (by simp[maxLen])) (Ix 1 [99]) v4 (by omega) (by omega) H T;rw[show A0 MX (nm 1 [99])=zm from rfl] at cq;have cf:=λH T=>th qK (by omega) (by omega) 1 [97] H T;have cv:=λH T=>qK.ju hy.t (by omega) H T;have hvY:=gF hy.g;have hq:=nV hy.g (1,[97]);have q1:(eC zm (1,[97]) zm.length).length<=5000:=by
  rw[hq];have h1:=nO (fl zm) (1,[97]);have h2:(fl zm).length=(alive zm).length:=dV _;have:=qK.a;omega
 have q2:∀p∈eC zm (1,[97]) zm.length,p.2.length<=maxLen:=λp hp=>by
  rw[hq] at hp;refine agJ (qK.post (by omega) (λd hd=>?_) (1,[97]) p hp) (by decide);obtain⟨q,hq,hd⟩:=qi.1 hd;exact⟨q,hq,lY hd⟩
 have cD:=λH T=>Ek (eC zm (1,[97]) zm.length) q1 q2 H T .none;have eD:sH (eC zm (1,[97]) zm.length)=[2]:=by
  unfold sH;rw[hq,agN (gZ hvY.lt hvY.v _)];exact PJ
 rw[eD] at cD;have cs:=λH T=>pV [2] [2] (by simp[maxLen]) (by simp[maxLen]) H T .none .full;have x1:(br MX).length=2:=by rw[fw,YV];rfl
 have x2:=(Bn (br MX) 0 (by omega)).1;rw[show (br MX).getD 0 bV=eu [nm 1 [97],nm 2 [97]] by rw[YV];rfl] at x2;have x3:(eu [nm 1 [97],nm 2 [97]]).aB.length=2:=rfl;have y1:(br zm).length=1:=by rw[fw,aeR];rfl
 have eo:iF zo=[.bool false]++dO (nm 1 [97])++[.bool false]++dO (nm 2 [97])++[.bool false]++dO (nm 3 [98]):=rfl;rw[eo,show zo.length=3 from rfl] at cp;generalize eu [nm 1 [97],nm 2 [97]]=s0 at *;generalize eC zm (1,[97]) zm.length=fq at *;clear hx Cj hy qK hs hw eo eD hq q1 q2 hvY zb uW eX eX2 eY;generalize nm 1 [97]=d1 at *;generalize nm 2 [97]=d2 at *;generalize nm 3 [98]=d3 at *;generalize nm 1 [99]=d4 at *;generalize MX=X at *;generalize zm=Y at *;have S1:=dD (br X);simp only[yp,A4,iv,y1] at cf cv;refine ah 4 [] Tryz.ntmps10 Tryz.func10 rfl (λ_ _=>Tryz.call10 _ _) (by simp) (λHO=>?_);apply ae;intro K Z;simp(disch:=omega);apply Z;refine ae λK hK=>?_;simp(disch:=omega) ;refine ak (ct1 _ _) ?_;simp(disch:=omega) ;refine ak (ct2 _ _) ?_;simp(disch:=omega) ;refine ak (ct3 _ _) ?_;simp(disch:=omega) ;refine ak (cp _ _) ?_;simp(disch:=omega) ;apply hK;refine aK [6,7] [0,0,0,0,0,0,0,1,2] [[0,1,2,3,4,5],[5]] aw (by kernel_rfl) (by kernel_rfl) λK hK=>?_;simp(disch:=omega) ;refine aD (ct4 _ _) rfl ?_;simp(disch:=omega) ;refine aD (cq _ _) rfl ?_;simp(disch:=omega) ;refine⟨⟨ct4 _ _,cq _ _⟩,hK _ ?_⟩;clear hK K;refine ae λK hK=>?_;simp(disch:=omega)[x1,x2,x3,y1,S1];refine ak (cf _ _) ?_;simp(disch:=omega)[x1,x2,x3,y1,S1];refine ak (cD _ _) ?_;simp(disch:=omega) ;refine ak (cs _ _) ?_;simp(disch:=omega) ;refine ak (cv _ _) ?_;simp(disch:=omega) ;apply hK;apply az;simp(disch:=omega) 
end Go.Proofs.YtoejlmpbebjemaaGreat
