/- index.New, Put and Drop (layer 40), and documents with one word. Play (layer 40): changes, one after the other; the example of the document.
  Conditions: as the theorems say. -/
import Derived.Test.YtoejlmpbebjemaaGreatXZb
import Derived.Test.YtoejlmpbebjemaaGreatXE
import Derived.Test.YtoejlmpbebjemaaGreatPZ
set_option linter.all false
set_option maxRecDepth 100000
set_option maxHeartbeats 8000000
namespace Go.Proofs.YtoejlmpbebjemaaGreat
open Go.Proofs.Tryz(prog)
open Go Go.Am im cL eT
attribute [-simp] List.getD_eq_getElem?_getD in
def TG (H:List az)(T:au):ar prog 25 [] H T (Is (yH []) H T):=by
 refine ar.Vu ?_ (by simp);refine ah 2 [] Tryz.ntmps25 Tryz.func25 rfl (λ_ _=>Tryz.call25 _ _) (by simp) (λHO=>?_);apply ae;intro K Z;simp(disch:=omega);apply Z;apply ae;intro K Z;simp(disch:=omega);apply Z;apply ay;simp(disch:=omega) ;rfl
def LX (x:List Sd)(d:Dc):gO (cW x d.id).1 (cW x d.id).1.length (cW x d.id).1.length [d]=gg x d:=by
 unfold gO gg rz;rw[ahE,aim,ahq (by simp),ahH]
def Et (x:List Sd)(id:Int):(cW x id).1.length=x.length:=by
 unfold cW
 split<;>simp
attribute [-simp] List.getD_eq_getElem?_getD in
theorem QK {m:Nat}{x:List Sd}(h:BX m x)(ht:GK x)(hl:x.length<=400)(id:Int)(H:List az)(T:au) :
  ar prog 20 [yH x,.int .i64 id] H T (Is (.df [yH (xe x id),.bool (cW x id).2]) H T):=by
 refine ar.G6 ?_ (by simp);have cv:=λH T=>h.jD ht hl H T;have ck:=λH T=>JE h.g (h.UD hl) id H T;have ct:=λH T=>Jp (h.kill id) (by rw[Et];exact hl) H T;unfold xe;refine ah 8 [] Tryz.ntmps20 Tryz.func20 rfl (λ_ _=>Tryz.call20 _ _) (by simp) (λHO=>?_);apply ae;intro K Z;simp(disch:=omega);apply Z;refine af λK1 aO=>?_;refine ae λK hK=>?_;simp(disch:=omega) ;refine ak (cv _ _) ?_;simp(disch:=omega) ;apply hK;apply aD rfl;apply aq;simp(disch:=omega) ;apply aO;clear aO;refine ae λK hK=>?_;simp(disch:=omega) ;refine ak (ck _ _) ?_;simp(disch:=omega) ;apply hK;refine af λK1 aO=>?_
 cases hw:(cW x id).2 with
 |false=>
  rw[ahq (by simp)];refine ae λK hK=>?_;simp(disch:=omega)[hw];apply hK;apply aG rfl;apply ae;intro K Z;simp(disch:=omega);apply Z;apply ay;simp(disch:=omega) ;exact⟨rfl,rfl⟩
 |true=>
  rw[ahs rfl];refine ae λK hK=>?_;simp(disch:=omega)[hw];apply hK;apply aD rfl;apply aq;simp(disch:=omega) ;apply aO;clear aO;refine ae λK hK=>?_;simp(disch:=omega) ;refine ak (ct _ _) ?_;simp(disch:=omega) ;apply hK;apply ay;simp(disch:=omega) ;exact⟨rfl,by rw[hw];rfl⟩
attribute [-simp] List.getD_eq_getElem?_getD in
def PZ {x:List Sd}{d:Dc}(hd:o5 d)(hv:aR d=false)(H:List az)(T:au) :
  ar prog 18 [yH x,.agg (dP d)] H T (Is (.df [yH [],.int .i64 1]) H T):=by
 refine ar.G6 ?_ (by simp);have ce:=λH T=>B4 d hd H T;rw[hv] at ce;refine ah 9 [] Tryz.ntmps18 Tryz.func18 rfl (λ_ _=>Tryz.call18 _ _) (by simp) (λHO=>?_);apply ae;intro K Z;simp(disch:=omega);apply Z;refine af λK1 aO=>?_;refine ae λK hK=>?_;simp(disch:=omega) ;refine ak (ce _ _) ?_;simp(disch:=omega) ;apply hK;apply aG rfl;apply ae;intro K Z;simp(disch:=omega);apply Z;apply ay;simp(disch:=omega) ;exact⟨rfl,rfl⟩
attribute [-simp] List.getD_eq_getElem?_getD in
theorem Jw {m:Nat}{x:List Sd}(h:BX m x)(ht:GK x)(hl:x.length<=399){d:Dc}(hd:o5 d)(hw:CX m d)(hv:aR d=true)(ha:(alive (gg x d)).length<=19)(hm:(alive (gg x d)).length*m<=1000)(H:List az)(T:au) :
  ar prog 18 [yH x,.agg (dP d)] H T (Is (.df [yH (Bg x d),.int .i64 0]) H T):=by
 refine ar.G6 ?_ (by simp);have ce:=λH T=>B4 d hd H T;rw[hv] at ce;have cv:=λH T=>h.jD ht (by omega) H T;have hk:=h.kill d.id;have gV:=Et x d.id;have ck:=λH T=>JE h.g (h.UD (by omega)) d.id H T;have cD:=λH T=>QL hk (by omega) H T;have hvd:VD [d]:=⟨by simp,by simp,λy hy=>by rw[ah0.1 hy];exact hv⟩
 have cb:=λH T=>qG [d] (by simp) (λy hy=>by rw[ah0.1 hy];exact hd) (λy hy=>by rw[ah0.1 hy];have:=hw.n;omega) H T .full;rw[hvd.build] at cb;have hS:=fG (cW x d.id).1;have hD:=mh (cW x d.id).1;have cr:=λH T=>vy (bf (cW x d.id).1) (bX (cW x d.id).1) (bf (cW x d.id).1).length (bf (cW x d.id).1).length (eB [d]) (hk.UD (by omega)) (by omega) (ahj _) (ahj _) (by simp[eB]) H T;rw[hS,<-uE,<-uF,LX,<-hS] at cr;have ct:=λH T=>Jp (h.plus hv hw ha hm) (by unfold gg;rw[ahk,gV];simp;omega) H T;rw[show gy (dX (gg x d)) (gg x d)=Bg x d from rfl] at ct;have hdl:=uV hk.g (ahj _);have hka:=hk.a;generalize hq:jQ (cW x d.id).1 (cW x d.id).1.length=q at *;clear hq;have b1:decide ((2000:Int)<=(q.length:Int))=false:=ahn (by omega);have b2:¬2000<=q.length:=by omega
 have eb:aM [d]=dP d:=by simp[aM]
 rw[show (aM [d])=dP d from eb] at cb;generalize Bg x d=y at *;generalize gg x d=pl at *;generalize cW x d.id=kx at *;obtain⟨kx,was⟩:=kx;simp only at ck cr cD hS hD gV;generalize eB [d]=s at *;refine ah 9 [] Tryz.ntmps18 Tryz.func18 rfl (λ_ _=>Tryz.call18 _ _) (by simp) (λHO=>?_);apply ae;intro K Z;simp(disch:=omega);apply Z;refine af λK1 aO=>?_;refine ae λK hK=>?_;simp(disch:=omega) ;refine ak (ce _ _) ?_;simp(disch:=omega) ;refine ak (cv _ _) ?_;simp(disch:=omega) ;apply hK;apply aD rfl;apply aq;simp(disch:=omega) ;apply aO;clear aO;refine ae λK hK=>?_;simp(disch:=omega) ;refine ak (ck _ _) ?_;simp(disch:=omega) ;apply hK;refine af λK1 aO=>?_;refine ae λK hK=>?_;have key:∀e,bu (H.length+3) T.length e [(2,.ptr H.length 0),(3,.ptr (H.length+1) 0),(4,.ptr (H.length+2) 0),(32,.bool false)]->K ⟨e,H++[.cells (iE (bf kx) (bX kx)),.cells (dP d),.cells [.sl 0 [] .full,.sl 0 [] .full]],T⟩:=by
  intro e he;refine hK _ (dA λho=>aH ⟨[(2,.ptr H.length 0),(3,.ptr (H.length+1) 0),(4,.ptr (H.length+2) 0),(32,.bool false)],_,_⟩ (ag [] [] (by simp) (by simp) (by simp) (by simp) ho (by simpa using he)) ?_);apply aD rfl;apply aq;simp(disch:=omega) ;apply aO;clear aO;refine ae λK hK=>?_;simp(disch:=omega) ;refine ak (cb _ _) ?_;simp(disch:=omega) ;apply hK;refine ae λK hK=>?_;simp(disch:=omega) ;refine ak (cr _ _) ?_;simp(disch:=omega) ;refine ak (ct _ _) ?_;simp(disch:=omega) ;apply hK;apply ay;simp(disch:=omega) ;exact⟨rfl,rfl⟩
 cases was with
 |false=>
  simp(disch:=omega) ;refine ak (cD _ _) ?_;simp(disch:=omega)[b1,b2];refine key _ ?_;simp
 |true=>
  simp(disch:=omega) ;refine key _ ?_;simp
attribute [-simp] List.getD_eq_getElem?_getD in
def qp (id:Int)(w:Bs)(H:List az)(T:au):ar prog 26 [.int .i64 id,.str w] H T (Is (.agg (dP (nr id w))) H T):=by
 refine ar.Vu ?_ (by simp);refine ah 5 [] Tryz.ntmps26 Tryz.func26 rfl (λ_ _=>Tryz.call26 _ _) (by simp) (λHO=>?_);apply ae;intro K Z;simp(disch:=omega);apply Z;apply ae;intro K Z;simp(disch:=omega);apply Z;apply ay;simp(disch:=omega) ;rfl
abbrev Yd (o:qQ):List AV:=.bool o.1::dP o.2
def iM (l:List qQ):List AV:=l.flatMap Yd
abbrev o0:qQ:=(false,d0)
def tA:eu Yd 4:=λ_=>rfl
def iz (l:List qQ):(iM l).length=l.length*4:=bU tA l
def Qb (l:List qQ)(i:Nat)(h:i<l.length):(iM l).getD (i*4) .top=.bool (l.getD i o0).1/\(iM l).getD (i*4+1) .top=.int .i64 (l.getD i o0).2.id:=⟨eP tA l i 0 o0 h (by omega),eP tA l i 1 o0 h (by omega)⟩
def L4 (l:List qQ)(i:Nat)(h:i<l.length):((iM l).drop (i*4+1)).take 3=dP (l.getD i o0).2:=by
 have h1:=fW tA l i o0 h;have h2:((iM l).drop (i*4+1)).take 3=(((iM l).drop (i*4)).take 4).drop 1:=by
  rw[List.drop_take,ajG]
 rw[h2];unfold iM;rw[h1];rfl
@[simp] theorem X5 (n t:Nat) (l:List qQ):aK n t (iM l):=fN (f:=Yd) (λx=>by simp) l
def IX.szB {l:List qQ}{B m:Nat}{x:List Sd}(h:IX (Nf l) B x)(hl:l.length<=B)(hw:∀o∈l,aR o.2=true->CX m o.2)(hB:B<=19)(hm:B*m<=1000):BX m x/\x.length<=7:=by
 have ha:(alive x).length<=B:=aho (pR h.g.nd h.p.each) hl;refine⟨h.bx (λd ⟨o,ho,e,hv⟩=>by rw[<-e] at hv ⊢;exact hw o ho hv) ha hB hm,?_⟩;rcases ahr 7 x.length with h7|h7
 ·have h1:=Pp h.g h.t ha (λe=>by rw[e] at h7;simp at h7);have h2:2 ^ 7<=2 ^ (x.length-1):=Nat.pow_le_pow_right (by omega) (by omega);omega
 ·exact h7
attribute [-simp] List.getD_eq_getElem?_getD in
theorem BN {m B:Nat}(l:List qQ)(hl:l.length<=B)(hs:∀o∈l,o5 o.2)(hw:∀o∈l,aR o.2=true->CX m o.2)(hB:B<=19)(hm:B*m<=1000)(H:List az)(T:au)(tg:Tag) :
  ar prog 13 [.sl l.length (iM l) tg] H T (Is (yH (fl l)) H T):=by
 refine ar.cg ?_;refine ar.bV ?_ (by simp);have CZ:∀x,bJ H T->bJ (H++[.cells [.sl 0 [] .full,.sl 0 [] .full],.cells (iE (bf x) (bX x))]) T:=λx HO=>by
  have:=(HO.snoc (vs:=[.sl 0 [] .full,.sl 0 [] .full]) (by simp)).snoc (vs:=iE (bf x) (bX x)) (by simp);simpa using this
 have cn:=λH T=>TG H T;refine ah 7 [] Tryz.ntmps13 Tryz.func13 rfl (λ_ _=>Tryz.call13 _ _) (by simp) (λHO=>?_);have CZ:=λx=>CZ x HO;apply ae;intro K Z;simp(disch:=omega);apply Z;refine ae λK hK=>?_;simp(disch:=omega) ;refine ak (cn _ _) ?_;simp(disch:=omega) ;apply hK;refine af λK1 aO=>?_;apply ae;intro K Z;simp(disch:=omega);apply Z;apply aj;refine aI (X:=Nat) (λi=>⟨[(0,.sl l.length (iM l) .none),(2,.ptr H.length 0),(3,.ptr (H.length+1) 0),(4,.int .i64 (i:Nat))],H++[.cells [.sl 0 [] .full,.sl 0 [] .full],.cells (iE (bf (fl (l.take i))) (bX (fl (l.take i))))],T⟩)
  (λi=>i<=l.length) (λi=>l.length-i) 0 ?_ ?_ ?_
 ·exact ahu _
 ·refine ag [] [] ?_ ?_ ?_ ?_ (CZ _) ?_
  all_goals simp[fl,bf,bX]
 ·intro i g1;have hx:=mQ hl (by omega) i g1;obtain⟨hb,h7⟩:=hx.szB hl hw hB hm;refine af λK2 bc=>?_
  by_cases hk:i<l.length
  ·have b1:decide ((i:Int)<(l.length:Int))=true:=ahm (by omega);refine ae λK hK=>?_;simp(disch:=omega)[hk];apply hK;apply aG rfl;obtain⟨a1,a2⟩:=Qb l i hk;have a3:=L4 l i hk;have fS:l.getD i o0∈l:=aS l i o0 hk;have xa:fl (l.take (i+1))=ug (fl (l.take i)) (l.getD i o0):=by
    unfold fl;rw[aU l i o0 hk,ai0];rfl
   have CA:=mQ hl (by omega) (i+1) hk;have Z7:∀{d},Nf l d->aR d=true->(alive (gg (fl (l.take i)) d)).length<=B:=λ{d} h1 h2=>
    aho (pR (nU hx.g h2 (.inl (by have:=hb.a;omega))).nd (hx.p.plus h1 (by omega)).each) hl
   generalize UN:fl (l.take (i+1))=z at *;generalize fl (l.take i)=x at *;generalize Np:l.getD i o0=o at *;obtain⟨dr,d⟩:=o;simp only at a1 a2 a3;have hsd:=hs _ fS;simp only at hsd;apply aq;simp(disch:=omega) ;apply bc;clear bc;refine af λK3 bD=>?_;apply aj;refine ae λK hK=>?_;simp(disch:=omega)[a1,hk,iz];apply hK
   cases dr with
   |true=>
    have cd:=λH T=>QK hb hx.t (by omega) d.id H T;have e:z=xe x d.id:=by rw[xa];unfold ug;rw[ahs rfl]
    rw[<-e] at cd;apply aG rfl;refine cT [11] [0,0,0,0,0,0,0,0,0,0,0,0] [[10]] aw (by kernel_rfl) (by kernel_rfl) λK hK=>?_;simp(disch:=omega)[a2,hk,iz];refine aC (cd _ _) rfl ?_;simp(disch:=omega) ;apply hK;apply bD;clear bD;refine aB λK hK=>?_;simp(disch:=omega) ;apply hK;refine⟨i+1,by show i+1<=_;omega,by show l.length-(i+1)<l.length-i;omega,?_⟩;refine ag [] [] ?_ ?_ ?_ ?_ (CZ _) ?_
    all_goals simp[UN]
   |false=>
    apply aD rfl;have hend:∀e G,bu (H.length+2) T.length e [(0,.sl l.length (iM l) .none),(2,.ptr H.length 0),(3,.ptr (H.length+1) 0),(4,.int .i64 (i:Nat))]->
      K3 ⟨e,H++.cells [.sl 0 [] .full,.sl 0 [] .full]::.cells (iE (bf z) (bX z))::G,T⟩:=by
     intro e G he;refine bD _ (aH ⟨[(0,.sl l.length (iM l) .none),(2,.ptr H.length 0),(3,.ptr (H.length+1) 0),(4,.int .i64 (i:Nat))],H++[.cells [.sl 0 [] .full,.sl 0 [] .full],.cells (iE (bf z) (bX z))],T⟩ (ag G [] (by simp) (by simp) (by simp) (by simp) (CZ _) (by simpa using he)) ?_);refine aB λK hK=>?_;simp(disch:=omega) ;apply hK;refine⟨i+1,by show i+1<=_;omega,by show l.length-(i+1)<l.length-i;omega,?_⟩;refine ag [] [] ?_ ?_ ?_ ?_ (CZ _) ?_
     all_goals simp[UN]
    clear bD
    cases hv:aR d with
    |true=>
     have hd:Nf l d:=⟨_,fS,rfl,hv⟩
     have hp:=Z7 hd hv;have cp:=λH T=>Jw hb hx.t (by omega) hsd (hw _ fS hv) hv (by omega) (aho (ail m hp) hm) H T;have e:z=Bg x d:=by rw[xa];unfold ug;rw[ahq (by simp),ahs hv]
     rw[<-e] at cp;refine aJ [10,11] [0,0,0,0,0,0,0,0,0,0,0,1,2] [[0,1,2,3,4,5,6,7,8,9],[9]] aw (by kernel_rfl) (by kernel_rfl) λK hK=>?_;simp(disch:=omega)[a3,hk,iz];refine aC (cp _ _) rfl ?_;simp(disch:=omega)[a3,hk,iz];refine⟨cp _ _,hK _ ?_⟩;clear hK K;apply ae;intro K Z;simp(disch:=omega);apply Z;apply aG rfl;refine aB λK hK=>?_;simp(disch:=omega) ;apply hK;refine hend _ [_] ?_;simp
    |false=>
     have cp:=λH T=>PZ (x:=x) hsd hv H T;have e:z=x:=by rw[xa];unfold ug;rw[ahq (by simp),ahq (by rw[hv];simp)]
     refine aJ [10,11] [0,0,0,0,0,0,0,0,0,0,0,1,2] [[0,1,2,3,4,5,6,7,8,9],[9]] aw (by kernel_rfl) (by kernel_rfl) λK hK=>?_;simp(disch:=omega)[a3,hk,iz];refine aC (cp _ _) rfl ?_;simp(disch:=omega)[a3,hk,iz];refine⟨cp _ _,hK _ ?_⟩;clear hK K;apply ae;intro K Z;simp(disch:=omega);apply Z;apply aD rfl;apply aq;rw[<-e];refine hend _ [_] ?_;simp
  ·have b1:decide ((i:Int)<(l.length:Int))=false:=ahn (by omega);have:i=l.length:=by omega
   subst this;refine ae λK hK=>?_;simp(disch:=omega)[b1,hk];apply hK;apply aD rfl;apply aF;simp(disch:=omega) ;apply aO;clear aO;apply ae;intro K Z;simp(disch:=omega);apply Z;apply ay;simp(disch:=omega) 
def Tw {x:List Sd}(h:GX x)(d:Dc):(alive (gg x d)).length<=(alive x).length+1:=by
 rw[oL h,ahk,aib];have:=ahU (λy:Dc=>!decide (y.id=d.id)) (alive x);omega
def zB:List qQ:=[(false,nr 1 [97]),(false,nr 2 [97]),(false,nr 3 [98])]
def Jo (id:Int)(w:Bs)(hw:w.length<=maxLen):o5 (nr id w):=⟨by simp[nr,maxLen],λz hz=>by
 have:z=⟨1,[(w,0)]⟩:=by simpa[nr] using hz
 subst this;exact⟨by simp[maxLen],λy hy=>by
  have:y=(w,0):=by simpa using hy
  rw[this];exact hw⟩,by simp[nr,maxLen]⟩
attribute [-simp] List.getD_eq_getElem?_getD in
def M4 (H:List az)(T:au):ar prog 10 [] H T (Is (.bool true) H T):=by
 refine ar.bV ?_ (by simp);have v4:aR (nr 1 [99])=true:=by decide +kernel
 have hw:∀o∈zB++[(false,nr 1 [99])],aR o.2=true->CX 1 o.2:=λo ho _=>by
  simp[zB] at ho;rcases ho with rfl|rfl|rfl|rfl<;>exact Jm _ _
 have hs:∀o∈zB,o5 o.2:=λo ho=>by
  simp[zB] at ho;rcases ho with rfl|rfl|rfl<;>exact Jo _ _ (by simp[maxLen])
 have ct1:=λH T=>qp 1 [97] H T;have ct2:=λH T=>qp 2 [97] H T;have ct3:=λH T=>qp 3 [98] H T;have ct4:=λH T=>qp 1 [99] H T;have cp:=λH T=>BN (m:=1) (B:=3) zB (by simp[zB]) hs (λo ho=>hw o (ahG _ ho)) (by omega) (by omega) H T .full;have hx:=mQ (l:=zB) (B:=3) (by simp[zB]) (by omega) 3 (by simp[zB]);obtain⟨CH,h7⟩:=hx.szB (m:=1) (by simp[zB]) (λo ho=>hw o (ahG _ ho)) (by omega) (by omega);have eX:fl (zB.take 3)=NM:=rfl;have eX2:fl zB=NM:=rfl;rw[eX] at hx CH h7;rw[eX2] at cp;have hy:=mQ (l:=zB++[(false,nr 1 [99])]) (B:=4) (by simp[zB]) (by omega) 4 (by simp[zB]);obtain⟨qO,h8⟩:=hy.szB (m:=1) (by simp[zB]) hw (by omega) (by omega);have eY:fl ((zB++[(false,nr 1 [99])]).take 4)=zA:=by
  show ug NM (false,nr 1 [99])=zA;unfold ug;rw[ahq (by simp),ahs v4];rfl
 rw[eY] at hy qO h8;have zt:=Tw hx.g (nr 1 [99]);have vb:(alive NM).length<=3:=aho (pR hx.g.nd hx.p.each) (by simp[zB]);have cq:=λH T=>Jw CH hx.t (by omega) (Jo 1 [99] (by simp[maxLen])) (Jm 1 [99]) v4 (by omega) (by omega) H T;rw[show Bg NM (nr 1 [99])=zA from rfl] at cq;have cf:=λH T=>tE qO (by omega) (by omega) 1 [97] H T;have cv:=λH T=>qO.jD hy.t (by omega) H T;have hvY:=gL hy.g;have hq:=nZ hy.g (1,[97]);have q1:(eF zA (1,[97]) zA.length).length<=5000:=by
  rw[hq];have h1:=nR (fC zA) (1,[97]);have h2:(fC zA).length=(alive zA).length:=dW _;have:=qO.a;omega
 have q2:∀p∈eF zA (1,[97]) zA.length,p.2.length<=maxLen:=λp hp=>by
  rw[hq] at hp;refine aho (qO.post (by omega) (λd hd=>?_) (1,[97]) p hp) (by decide);obtain⟨q,hq,hd⟩:=qm.1 hd;exact⟨q,hq,mf hd⟩
 have cD:=λH T=>EO (eF zA (1,[97]) zA.length) q1 q2 H T .none;have eD:sS (eF zA (1,[97]) zA.length)=[2]:=by
  unfold sS;rw[hq,ahs (ij hvY.lt hvY.v _)];exact QC
 rw[eD] at cD;have cs:=λH T=>p9 [2] [2] (by simp[maxLen]) (by simp[maxLen]) H T .none .full;have x1:(bf NM).length=2:=by rw[fG,ZF];rfl
 have x2:=(BH (bf NM) 0 (by omega)).1;rw[show (bf NM).getD 0 bR=eB [nr 1 [97],nr 2 [97]] by rw[ZF];rfl] at x2;have x3:(eB [nr 1 [97],nr 2 [97]]).aA.length=2:=rfl;have y1:(bf zA).length=1:=by rw[fG,afz];rfl
 have eo:iM zB=[.bool false]++dP (nr 1 [97])++[.bool false]++dP (nr 2 [97])++[.bool false]++dP (nr 3 [98]):=rfl;rw[eo,show zB.length=3 from rfl] at cp;generalize eB [nr 1 [97],nr 2 [97]]=s0 at *;generalize eF zA (1,[97]) zA.length=fq at *;clear hx CH hy qO hs hw eo eD hq q1 q2 hvY zt vb eX eX2 eY;generalize nr 1 [97]=d1 at *;generalize nr 2 [97]=d2 at *;generalize nr 3 [98]=d3 at *;generalize nr 1 [99]=d4 at *;generalize NM=X at *;generalize zA=Y at *;have S1:=dF (bf X);simp only[yH,Bk,iE,y1] at cf cv;refine ah 4 [] Tryz.ntmps10 Tryz.func10 rfl (λ_ _=>Tryz.call10 _ _) (by simp) (λHO=>?_);apply ae;intro K Z;simp(disch:=omega);apply Z;refine ae λK hK=>?_;simp(disch:=omega) ;refine ak (ct1 _ _) ?_;simp(disch:=omega) ;refine ak (ct2 _ _) ?_;simp(disch:=omega) ;refine ak (ct3 _ _) ?_;simp(disch:=omega) ;refine ak (cp _ _) ?_;simp(disch:=omega) ;apply hK;refine aJ [6,7] [0,0,0,0,0,0,0,1,2] [[0,1,2,3,4,5],[5]] aw (by kernel_rfl) (by kernel_rfl) λK hK=>?_;simp(disch:=omega) ;refine aC (ct4 _ _) rfl ?_;simp(disch:=omega) ;refine aC (cq _ _) rfl ?_;simp(disch:=omega) ;refine⟨⟨ct4 _ _,cq _ _⟩,hK _ ?_⟩;clear hK K;refine ae λK hK=>?_;simp(disch:=omega)[x1,x2,x3,y1,S1];refine ak (cf _ _) ?_;simp(disch:=omega)[x1,x2,x3,y1,S1];refine ak (cD _ _) ?_;simp(disch:=omega) ;refine ak (cs _ _) ?_;simp(disch:=omega) ;refine ak (cv _ _) ?_;simp(disch:=omega) ;apply hK;apply ay;simp(disch:=omega) 
end Go.Proofs.YtoejlmpbebjemaaGreat
