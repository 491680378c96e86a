/- The reference of layers 37 and 39, the parts that Build calls: words and numbers of a field, documents in order. The reference's test of documents (layer 37). The reference's terms (layer 39): the words of the fields of documents, in order, each once; the list is a box that is written to later. The reference's positions and columns (layer 39). The reference's Build (layer 39): the lists of the terms grow in place. The reference's Build (layer 39): the loops. The reference's Build (layer 39): the whole.
  Conditions: as the theorems say. -/
import Derived.Test.YtoejlmpbebjemaaGreatGBC
import Derived.Test.YtoejlmpbebjemaaGreatGRA
import Derived.Test.YtoejlmpbebjemaaGreatAmC
set_option linter.all false
set_option maxRecDepth 100000
set_option maxHeartbeats 8000000

open List (getD_eq_getElem?_getD append_nil take_append_drop)
namespace eN
open ia Go.Am
def o7:List Zn->Int->List Wd
 |[],_=>[]
 |z::r,f=>if z.f=f then z.ws else o7 r f
def Cb (ns:List Nm)(f:Int):List Int:=(ns.filter λx=>x.1==f).map (·.2)
theorem NP (f:Int):∀(zs:List Zn)(i:Nat),i<zs.length->(∀j,j<i->(zs.getD j z0).f≠f)->(zs.getD i z0).f=f->o7 zs f=(zs.getD i z0).ws
 |[],i,h,_,_=>absurd h (ag9 _)
 |z::r,0,_,_,h=>by
  have h:z.f=f:=h;unfold o7;rw[agN h];rfl
 |z::r,i+1,hi,h,h2=>by
  have h0:z.f≠f:=h 0 (by omega);unfold o7;rw[agL h0];exact NP f r i (by simpa using hi) (λj hj=>h (j+1) (by omega)) h2
theorem Db (f:Int):∀(zs:List Zn),(∀j,j<zs.length->(zs.getD j z0).f≠f)->o7 zs f=[]
 |[],_=>rfl
 |z::r,h=>by
  have h0:z.f≠f:=h 0 (by simp);unfold o7;rw[agL h0];exact Db f r λj hj=>h (j+1) (by simpa using hj)
def Pp (ns:List Nm)(f:Int)(i:Nat)(h:i<ns.length):Cb (ns.take (i+1)) f=Cb (ns.take i) f++(if (ns.getD i n0).1=f then [(ns.getD i n0).2] else []):=by
 unfold Cb;rw[aV ns i n0 h,aht,agS]
 congr 1
 rw[List.filter_cons]
 by_cases h1:(ns.getD i n0).1=f
 ·rw[agN h1,agN (by simpa using h1)];rfl
 ·rw[agL h1,agL (by simpa using h1)];rfl
theorem IZ (x:Dc):∀(d:List Dc)(n:Nat),n<=d.length->(∀j,j<n->(d.getD j d0).id<=x.id)->(n<d.length->¬(d.getD n d0).id<=x.id)->o4 x d=d.take n++x::d.drop n
 |[],n,h,_,_=>by
  have:n=0:=by simpa using h
  subst this;rfl
 |y::r,0,_,_,h=>by
  have:=h (by simp);have h1:¬y.id<=x.id:=this;rw[o4,agL h1];rfl
 |y::r,n+1,h0,h1,h2=>by
  have hy:y.id<=x.id:=h1 0 (by omega);rw[o4,agN hy,IZ x r n (by simpa using h0) (λj hj=>h1 (j+1) (by omega)) (λhn=>h2 (by simpa using hn))];rfl
def GV (l:List Dc)(x:Dc):eg (l++[x])=o4 x (eg l):=by simp[eg]
def dV (l:List Dc):(eg l).length=l.length:=(fT l).perm.length_eq
theorem IW (x:Nm):∀(d:List Nm)(n:Nat),n<=d.length->(∀j,j<n->dh (d.getD j n0) x=true)->(n<d.length->dh (d.getD n n0) x=false)->nA x d=d.take n++x::d.drop n
 |[],n,h,_,_=>by
  have:n=0:=by simpa using h
  subst this;rfl
 |y::r,0,_,_,h=>by
  have h1:dh y x=false:=h (by simp);rw[nA,agL (by simp[h1])];rfl
 |y::r,n+1,h0,h1,h2=>by
  have hy:dh y x=true:=h1 0 (by omega);rw[nA,agN hy,IW x r n (by simpa using h0) (λj hj=>h1 (j+1) (by omega)) (λhn=>h2 (by simpa using hn))];rfl
def Fg (l:List Nm)(x:Nm):dx (l++[x])=nA x (dx l):=by simp[dx]
def eM (l:List Nm):(dx l).Perm l:=by
 rw[Al];exact aiG _ _
end eN
namespace Go.Proofs.YtoejlmpbebjemaaGreat
open Go Go.Am ia eN
attribute [-simp] getD_eq_getElem?_getD in
def GG (d:Dc)(hs:oY d)(Mt:∀z∈d.zs,z.ws.length<=1000000)(f:Int)(H:List aA)(T:au):ar Tryz.prog 151 [.agg (dO d),.int .i64 f] H T (Is (.sl (o7 d.zs f).length (dQ (o7 d.zs f)) .none) H T):=by
 refine ar.bZ ?_ (by simp);have kC:maxLen<=9223372036854775807:=by decide
 obtain⟨id,zs,ns⟩:=d;obtain⟨hz,hw,hn⟩:=hs;simp only at hz hw hn Mt ⊢;have Jn:=agJ hz kC;refine ah 6 [] Tryz.ntmps151 Tryz.func151 rfl (λ_ _=>Tryz.call151 _ _) (by simp) (λHO=>?_);apply ae;intro K Z;simp(disch:=omega);apply Z;have eV:bN (H++[.cells (dO ⟨id,zs,ns⟩)]) T:=HO.snoc (by simp);refine af λK1 aP=>?_;apply ae;intro K Z;simp(disch:=omega);apply Z;apply aj;refine aJ (X:=Nat) (λi=>⟨[(1,.int .i64 f),(2,.ptr H.length 0),(5,.int .i64 (i:Nat))],H++[.cells (dO ⟨id,zs,ns⟩)],T⟩)
  (λi=>i<=zs.length/\∀j,j<i->(zs.getD j z0).f≠f) (λi=>zs.length-i) 0 ?_ ?_ ?_
 ·exact⟨agP _,λj hj=>absurd hj (ag9 _)⟩
 ·refine ag [] [] ?_ ?_ ?_ ?_ eV ?_
  all_goals simp
 ·rintro i ⟨g1,g2⟩;refine af λK2 bp=>?_;apply ae;intro K Z;simp(disch:=omega);apply Z;refine aU rfl (λhk=>?_) (λhk=>?_)
  ·simp  at hk;obtain⟨a1,a2⟩:=vZ zs i hk;have sa:=Mt _ (aT zs i z0 hk);have eO:=NP f zs i hk g2;have sq:(zs.getD i z0).f≠f->∀j,j<i+1->(zs.getD j z0).f≠f:=λh j hj=>by
    rcases agM j i with h1|h1
    ·exact g2 j h1
    ·have:j=i:=by omega
     subst this;exact h
   generalize zs.getD i z0=z at *;obtain⟨zf,ws⟩:=z;simp only at a1 a2 sa eO sq;apply aq;simp(disch:=omega) ;apply bp;clear bp;refine af λK3 bG=>?_;apply aj
   by_cases h1:zf=f
   ·have b1:(zf==f)=true:=by simpa using h1
    have hp:=eO h1;refine ae λK hK=>?_;simp(disch:=omega)[a1,a2,fN,hk,b1,h1];apply hK;apply aH rfl;have Yw:(0+ws.length)*24<=140737488355328:=by omega
    have age:0+ws.length<=9223372036854775807:=by omega
    refine ae λK hK=>?_;simp(disch:=omega)[a1,a2,fN,hk,gj,dj];apply hK;apply az;simp(disch:=omega) ;rw[hp];exact⟨rfl,rfl⟩
   ·have b1:(zf==f)=false:=by simpa using h1
    refine ae λK hK=>?_;simp(disch:=omega)[a1,a2,fN,hk,b1,h1];apply hK;apply aF rfl;apply aq;simp(disch:=omega) ;apply bG;clear bG;refine aC λK hK=>?_;simp(disch:=omega) ;apply hK;refine⟨i+1,⟨by show i+1<=_;omega,sq h1⟩,by show zs.length-(i+1)<zs.length-i;omega,?_⟩;refine ag [] [] ?_ ?_ ?_ ?_ eV ?_
    all_goals simp
  ·simp  at hk;have hn:=Db f zs λj hj=>g2 j (by omega);apply aG;simp(disch:=omega) ;apply aP;clear aP;apply ae;intro K Z;simp(disch:=omega);apply Z;apply az;simp(disch:=omega) ;rw[hn];exact⟨rfl,rfl⟩
attribute [-simp] getD_eq_getElem?_getD in
def Lg (d:Dc)(hs:oY d)(hn6:d.ns.length<=1000000)(f:Int)(H:List aA)(T:au):ar Tryz.prog 152 [.agg (dO d),.int .i64 f] H T (Is (.sl (Cb d.ns f).length (ints (Cb d.ns f)) .none) H T):=by
 refine ar.bZ ?_ (by simp);obtain⟨id,zs,ns⟩:=d;simp only at hn6 ⊢;refine ah 7 [] Tryz.ntmps152 Tryz.func152 rfl (λ_ _=>Tryz.call152 _ _) (by simp) (λHO=>?_);apply ae;intro K Z;simp(disch:=omega);apply Z;have eV:bN (H++[.cells (dO ⟨id,zs,ns⟩)]) T:=HO.snoc (by simp);apply ae;intro K Z;simp(disch:=omega);apply Z;refine af λK1 aP=>?_;apply ae;intro K Z;simp(disch:=omega);apply Z;apply aj;refine mX 5 0 1 [] (by omega) (by simp) ?_;refine aJ (X:=Nat) (λi=>⟨[(1,.int .i64 f),(2,.ptr H.length 0),(5,.sl (Cb (ns.take i) f).length (ints (Cb (ns.take i) f)) (.own T.length)),(6,.int .i64 (i:Nat))],H++[.cells (dO ⟨id,zs,ns⟩)],T++[((Cb (ns.take i) f).length,1)]⟩)
  (λi=>i<=ns.length) (λi=>ns.length-i) 0 ?_ ?_ ?_
 ·exact agP _
 ·refine ag [] [] ?_ ?_ ?_ ?_ (eV.ko (by simp)) ?_
  all_goals simp[Cb]
 ·intro i g1;refine af λK2 bp=>?_;apply ae;intro K Z;simp(disch:=omega);apply Z;refine aU rfl (λhk=>?_) (λhk=>?_)
  ·simp  at hk;obtain⟨a1,a2⟩:=SA ns i hk;have iz:=Pp ns f i hk;have Cv:(Cb (ns.take i) f).length<=1000000:=by
    unfold Cb;rw[agU];exact agJ (ahf _ _) (by rw[ag5];omega)
   generalize Cb (ns.take i) f=out at *;generalize ns.getD i n0=x at *;obtain⟨xf,xn⟩:=x;simp only at a1 a2 iz;apply aq;simp(disch:=omega) ;apply bp;clear bp;refine af λK3 bG=>?_;apply aj
   by_cases h1:xf=f
   ·have b1:(xf==f)=true:=by simpa using h1
    rw[agN h1] at iz;refine ae λK hK=>?_;simp(disch:=omega)[a1,a2,cL,hk,b1,h1];apply hK;apply aH rfl;refine aC λK hK=>?_;simp(disch:=omega)[a1,a2,cL,hk,eE];apply hK;apply bG;clear bG;refine aC λK hK=>?_;simp(disch:=omega) ;apply hK;refine⟨i+1,by show i+1<=_;omega,by show ns.length-(i+1)<ns.length-i;omega,?_⟩;refine ag [] [] ?_ ?_ ?_ ?_ (eV.ko (by simp)) ?_
    all_goals simp[iz]
   ·have b1:(xf==f)=false:=by simpa using h1
    rw[agL h1,ag2] at iz;refine ae λK hK=>?_;simp(disch:=omega)[a1,a2,cL,hk,b1,h1];apply hK;apply aF rfl;apply aq;simp(disch:=omega) ;apply bG;clear bG;refine aC λK hK=>?_;simp(disch:=omega) ;apply hK;refine⟨i+1,by show i+1<=_;omega,by show ns.length-(i+1)<ns.length-i;omega,?_⟩;refine ag [] [] ?_ ?_ ?_ ?_ (eV.ko (by simp)) ?_
    all_goals simp[iz]
  ·simp  at hk;have Cg:i=ns.length:=by omega
   subst Cg;rw[agZ];apply aG;simp(disch:=omega) ;apply aP;clear aP;apply ae;intro K Z;simp(disch:=omega);apply Z;apply az;simp(disch:=omega) 
attribute [-simp] getD_eq_getElem?_getD in
def EX (l:List Dc)(hl:l.length<=1000000)(H:List aA)(T:au)(tg:Tag):ar Tryz.prog 84 [.sl l.length (aN l) tg] H T (Is (.sl (eg l).length (aN (eg l)) .none) H T):=by
 refine ar.cF ?_;refine ar.bZ ?_ (by simp);refine ah 6 [] Tryz.ntmps84 Tryz.func84 rfl (λ_ _=>Tryz.call84 _ _) (by simp) (λHO=>?_);apply ae;intro K Z;simp(disch:=omega);apply Z;apply ae;intro K Z;simp(disch:=omega);apply Z;refine af λK1 aP=>?_;apply ae;intro K Z;simp(disch:=omega);apply Z;apply aj;refine aJ (X:=Nat) (λk=>⟨[(0,.sl l.length (aN l) .none),(3,.sl (eg (l.take k)).length (aN (eg (l.take k))) .none),(4,.int .i64 (k:Nat))],H,T⟩)
  (λk=>k<=l.length) (λk=>l.length-k) 0 ?_ ?_ ?_
 ·exact agP _
 ·refine ag [] [] ?_ ?_ ?_ ?_ HO ?_
  all_goals simp[eg,tn]
 ·intro k g1;refine af λK2 bp=>?_;apply ae;intro K Z;simp(disch:=omega);apply Z;refine aU rfl (λhk=>?_) (λhk=>?_)
  ·simp  at hk;have jl:=(iO l k hk).1;have bu:=fC l k hk;have np:eg (l.take (k+1))=o4 (l.getD k d0) (eg (l.take k)):=by rw[aV l k d0 hk];exact GV _ _
   have mN:(eg (l.take k)).length<=1000000:=by rw[dV,ag5];omega
   generalize eg (l.take k)=d at *;generalize l.getD k d0=x at *;apply aq;simp(disch:=omega) ;apply bp;clear bp;refine af λK3 bG=>?_;apply aj;apply ae;intro K Z;simp(disch:=omega);apply Z;refine af λK5 lq=>?_;apply aj;refine aJ (X:=Nat) (λn=>⟨[(0,.sl l.length (aN l) .none),(3,.sl d.length (aN d) .none),(4,.int .i64 (k:Nat)),(5,.int .i64 (n:Nat))],H,T⟩)
    (λn=>n<=d.length/\∀j,j<n->(d.getD j d0).id<=x.id) (λn=>d.length-n) 0 ?_ ?_ ?_
   ·exact⟨agP _,λj hj=>absurd hj (ag9 _)⟩
   ·refine ag [] [] ?_ ?_ ?_ ?_ HO ?_
    all_goals simp
   ·rintro n ⟨AP,Cf⟩;have go:(n<d.length->¬(d.getD n d0).id<=x.id)->∀e,bC H.length T.length e [(0,.sl l.length (aN l) .none),(3,.sl d.length (aN d) .none),(4,.int .i64 (k:Nat)),(5,.int .i64 (n:Nat))]->K5 ⟨e,H,T⟩:=by
     intro zd e he;have CK:=IZ x d n AP Cf zd;refine lq _ (aI ⟨[(0,.sl l.length (aN l) .none),(3,.sl d.length (aN d) .none),(4,.int .i64 (k:Nat)),(5,.int .i64 (n:Nat))],H,T⟩ (ag [] [] (by simp) (by simp) (by simp) (by simp) HO (by simpa using he)) ?_);have ht:=Tc d n;have qc:=LZ d n;have aZ:(aN (d.take n)).length=n*3:=by rw[bf,ag5];omega
     have XN:(aN (d.drop n)).length=(d.length-n)*3:=by rw[bf,ahp]
     have iz:(aN (d.drop n)).take ((d.length-n)*3)=aN (d.drop n):=by rw[<-XN,agZ]
     have yI:aN (d.take n)++.int .i64 x.id::.sl x.zs.length (fg x.zs) .none::.sl x.ns.length (bA x.ns) .none::aN (d.drop n)=aN (o4 x d):=by rw[CK];simp[aN]
     have hlen:n+1+(d.length-n)=(o4 x d).length:=by rw[CK];simp;omega
     refine cT [4,10,14] [0,0,0,0,0,0,0,0,0,0,1,0,0,0,2,3] [[],[],[]] aw (by kernel_rfl) (by kernel_rfl) λK hK=>?_;simp(disch:=omega)[dj,bf,ht,qc,aZ,XN,iz,jl,bu,hk];rw[yI,hlen];apply hK;apply bG;clear bG;refine aC λK hK=>?_;simp(disch:=omega) ;apply hK;refine⟨k+1,by show k+1<=_;omega,by show l.length-(k+1)<l.length-k;omega,?_⟩;simp only[np];refine ag [] [((o4 x d).length*3,3)] ?_ ?_ ?_ ?_ HO ?_
     all_goals simp
    refine af λK6 oe=>?_
    by_cases zd:n<d.length
    ·have YL:=(iO d n zd).1;have gA:(d.getD n d0).id<=x.id->∀j,j<n+1->(d.getD j d0).id<=x.id:=λh j hj=>by
      rcases agM j n with h3|h3
      ·exact Cf j h3
      ·have:j=n:=by omega
       subst this;exact h
     generalize d.getD n d0=y at *;have b4:decide ((n:Int)<d.length)=true:=agH (by omega)
     by_cases ha:y.id<=x.id
     ·have b5:decide (y.id<=x.id)=true:=agH ha;refine aK [] [] [] aw (by kernel_rfl) (by kernel_rfl) λK hK=>?_;simp(disch:=omega)[b4,zd,YL,bf,jl,hk,b5,ha];apply hK;apply aH rfl;apply aq;simp(disch:=omega) ;apply oe;clear oe;apply aj;refine aC λK hK=>?_;simp(disch:=omega) ;apply hK;refine⟨n+1,⟨by show n+1<=_;omega,gA ha⟩,by show d.length-(n+1)<d.length-n;omega,?_⟩;refine ag [] [] ?_ ?_ ?_ ?_ HO ?_
      all_goals simp
     ·have b5:decide (y.id<=x.id)=false:=agI ha;refine aK [] [] [] aw (by kernel_rfl) (by kernel_rfl) λK hK=>?_;simp(disch:=omega)[b4,zd,YL,bf,jl,hk,b5,ha];apply hK;apply aF rfl;apply aG;simp(disch:=omega) ;refine go (λ_=>ha) _ ?_;simp
    ·have b4:decide ((n:Int)<d.length)=false:=agI (by omega);refine aK [] [] [] aw (by kernel_rfl) (by kernel_rfl) λK hK=>?_;simp(disch:=omega)[b4,zd];apply hK;apply aF rfl;apply aG;simp(disch:=omega) ;refine go (λh=>absurd h zd) _ ?_;simp
  ·simp  at hk;have e:k=l.length:=by omega
   subst e;rw[agZ];apply aG;simp(disch:=omega) ;apply aP;clear aP;apply ae;intro K Z;simp(disch:=omega);apply Z;apply az;simp(disch:=omega) 
attribute [-simp] getD_eq_getElem?_getD in
def Hi (x y:Nm)(H:List aA)(T:au):ar Tryz.prog 150 [.agg [.int .i64 x.1,.int .i64 x.2],.agg [.int .i64 y.1,.int .i64 y.2]] H T (Is (.bool (dh x y)) H T):=by
 refine ar.bZ ?_ (by simp);generalize hq:dh x y=q;unfold dh at hq;obtain⟨x1,x2⟩:=x;obtain⟨y1,y2⟩:=y;simp only at hq;refine ah 5 [] Tryz.ntmps150 Tryz.func150 rfl (λ_ _=>Tryz.call150 _ _) (by simp) (λHO=>?_);apply ae;intro K Z;simp(disch:=omega);apply Z
 by_cases h1:x1<y1
 ·have b1:decide (x1<y1)=true:=agH h1;rw[b1] at hq;refine ae λK hK=>?_;simp(disch:=omega)[b1,h1];apply hK;apply az;simp(disch:=omega) ;rw[<-hq];rfl
 ·have b1:decide (x1<y1)=false:=agI h1
  by_cases h2:x1=y1
  ·have b2:(x1==y1)=true:=by simpa using h2
   rw[b1,agH h2,ahM,aim] at hq;refine ae λK hK=>?_;simp(disch:=omega)[b1,h1,b2,h2];apply hK;apply az;simp(disch:=omega) ;exact hq
  ·have b2:(x1==y1)=false:=by simpa using h2
   rw[b1,agI h2,Bool.false_and,aim] at hq;refine ae λK hK=>?_;simp(disch:=omega)[b1,h1,b2,h2];apply hK;apply az;simp(disch:=omega) ;exact hq.symm
end Go.Proofs.YtoejlmpbebjemaaGreat
namespace eN
theorem DV (ws:List Wd):∀k,(∀j,j<k->o3 ws j=true)->-1<=iG ws k
 |0,_=>by simp[iG]
 |k+1,h=>by
  have h1:=DV ws k λj hj=>h j (by omega);have h2:=h k (by omega);unfold o3 at h2;simp only[agO,agQ] at h2;have h3:=h2.2.1;have h4:iG ws (k+1)=(ws.getD k w0).2:=by simp[iG]
  rw[h4];omega
theorem DU (zs:List Zn):∀k,(∀j,j<k->mB zs j=true)->0<=iw zs k
 |0,_=>by simp[iw]
 |k+1,h=>by
  have h1:=DU zs k λj hj=>h j (by omega);have h2:=h k (by omega);unfold mB at h2;simp only[agO,agQ] at h2;have h3:=h2.1.1;have h4:iw zs (k+1)=(zs.getD k z0).f:=by simp[iw]
  rw[h4];omega
end eN
namespace Go.Proofs.YtoejlmpbebjemaaGreat
open Go.Proofs.Tryz(prog)
open Go Go.Am ia eN
attribute [-simp] getD_eq_getElem?_getD in
theorem GJ (id:Int)(zs:List Zn)(ns:List Nm)(f:Int)(ws:List Wd)(i:Nat)(sa:ws.length<=maxLen)(Cd:∀w∈ws,w.1.length<=maxLen)(H:List aA)(T:au)(fj:bN (H++[.cells (dO ⟨id,zs,ns⟩),.cells (oN ⟨f,ws⟩)]) T)
  (Q:Exit->St->Prop) (bad:∀k,k<ws.length->o3 ws k=false->∀(e:Env)(rH:List aA)(rT:au),bH e 2=.bool false->Q .ret ⟨e,H++rH,T++rT⟩)
  (go:(∀k,k<ws.length->o3 ws k=true)->∀e:Env,bC (H.length+2) T.length e [(1,.ptr H.length 0),(3,.int .i64 (i:Nat))]->Q .normal ⟨e,H++[.cells (dO ⟨id,zs,ns⟩),.cells (oN ⟨f,ws⟩)],T⟩) :
  AW ⟨prog,146,9,H.length,T.length,[]⟩ (dX [1,0,1,0,0,1,0,0,1,1] (Tryz.f83.body.getD .skip)) Q ⟨[(1,.ptr H.length 0),(3,.int .i64 (i:Nat)),(4,.ptr (H.length+1) 0)],H++[.cells (dO ⟨id,zs,ns⟩),.cells (oN ⟨f,ws⟩)],T⟩:=by
 conv=>arg 2;whnf
 have kC:maxLen<=9223372036854775807:=by decide
 have Yw:=agJ sa kC;apply ae;intro K Z;simp(disch:=omega);apply Z;apply aj;refine aJ (X:=Nat) (λk=>⟨[(1,.ptr H.length 0),(3,.int .i64 (i:Nat)),(4,.ptr (H.length+1) 0),(5,.int .i64 (k:Nat))],H++[.cells (dO ⟨id,zs,ns⟩),.cells (oN ⟨f,ws⟩)],T⟩)
  (λk=>k<=ws.length/\∀j,j<k->o3 ws j=true) (λk=>ws.length-k) 0 ?_ ?_ ?_
 ·exact⟨agP _,λj hj=>absurd hj (ag9 _)⟩
 ·refine ag [] [] ?_ ?_ ?_ ?_ fj ?_
  all_goals simp
 ·rintro m ⟨m1,m2⟩;refine af λK5 lq=>?_;apply ae;intro K Z;simp(disch:=omega);apply Z;refine aU rfl (λfX=>?_) (λfX=>?_)
  ·simp  at fX;have yC:=sS ws m fX;have od:=DV ws m m2;have gD:o3 ws m=(okW (ws.getD m w0).1&&(decide (iG ws m<(ws.getD m w0).2)&&decide ((ws.getD m w0).2<=1000000))):=rfl;have dw:0<m->iG ws m=(ws.getD (m-1) w0).2:=λh=>by unfold iG;rw[agL (by omega)]
   have Gu:m=0->iG ws m=-1:=λh=>by unfold iG;rw[agN h]
   have FW:=λh=>(Bm ws (m-1) h).2;have FD:=Cd _ (aT ws m w0 fX);generalize iG ws m=la at *;generalize (ws.getD (m-1) w0).2=py at *;generalize UT:ws.getD m w0=z at *;obtain⟨x1,x2⟩:=z;simp only at yC FW gD FD;apply aq;simp(disch:=omega) ;apply lq;clear lq;refine af λK6 oe=>?_;apply aj;refine ae λK hK=>?_;simp(disch:=omega)[yC,gj];apply hK;have AX:bN (H++[.cells (dO ⟨id,zs,ns⟩),.cells (oN ⟨f,ws⟩),.cells [.str x1,.int .i64 x2]]) T:=by
    have:=bN.snoc (vs:=[.str x1,.int .i64 x2]) fj (by simp);simpa using this
   have cw:=Oq x1 FD (H++[.cells (dO ⟨id,zs,ns⟩),.cells (oN ⟨f,ws⟩),.cells [.str x1,.int .i64 x2]]) T;refine aK [] [] [] aw (by kernel_rfl) (by kernel_rfl) λK hK=>?_;have kQ:∀e b,b=o3 ws m->bC (H.length+3) T.length e [(1,.ptr H.length 0),(3,.int .i64 (i:Nat)),(4,.ptr (H.length+1) 0),(5,.int .i64 (m:Nat)),(92,.bool (!b))]->K ⟨e,H++[.cells (dO ⟨id,zs,ns⟩),.cells (oN ⟨f,ws⟩),.cells [.str x1,.int .i64 x2]],T⟩:=by
    intro e b2 kK yA;refine hK _ (aI ⟨[(1,.ptr H.length 0),(3,.int .i64 (i:Nat)),(4,.ptr (H.length+1) 0),(5,.int .i64 (m:Nat)),(92,.bool (!b2))],H++[.cells (dO ⟨id,zs,ns⟩),.cells (oN ⟨f,ws⟩)],T⟩ (ag [.cells [.str x1,.int .i64 x2]] [] (by simp) (by simp) (by simp) (by simp) fj (by simpa using yA)) ?_)
    cases b2 with
    |false=>
     apply aH rfl;apply ae;intro K Z;simp(disch:=omega);apply Z;apply az;rw[<-append_nil T];exact bad m fX kK.symm _ _ _ rfl
    |true=>
     apply aF rfl;apply aq;simp(disch:=omega) ;apply oe;clear oe;refine aC λK hK=>?_;simp(disch:=omega) ;apply hK;refine⟨m+1,⟨by show m+1<=_;omega,λj hj=>?_⟩,by show ws.length-(m+1)<ws.length-m;omega,?_⟩
     ·rcases agM j m with h|h
      ·exact m2 j h
      ·have:j=m:=by omega
       subst this;exact kK.symm
     ·refine ag [] [] ?_ ?_ ?_ ?_ fj ?_
      all_goals simp
   clear hK
   cases hw:okW x1 with
   |false=>
    rw[hw] at cw gD;simp(disch:=omega) ;refine aD (cw) rfl ?_;simp(disch:=omega) ;refine kQ _ false (by rw[gD];rfl) (by simp)
   |true=>
   rw[hw] at cw gD;rw[ahM] at gD
   by_cases v3:x2<0
   ·have w3:decide (x2<0)=true:=agH v3;simp(disch:=omega) ;refine aD (cw) rfl ?_;simp(disch:=omega)[w3,v3];refine kQ _ false (by rw[gD,agI (by omega:¬la<x2)];rfl) (by simp)
   have w3:decide (x2<0)=false:=agI v3
   by_cases v4:1000000<x2
   ·have w4:decide (1000000<x2)=true:=agH v4;simp(disch:=omega) ;refine aD (cw) rfl ?_;simp(disch:=omega)[w3,v3,w4,v4];refine kQ _ false (by rw[gD,agI (by omega:¬x2<=1000000)];simp) (by simp)
   have w4:decide (1000000<x2)=false:=agI v4;rw[agH (by omega:x2<=1000000),Bool.and_true] at gD;rcases ahc m with h5|h5
   ·have AQ:=Gu h5;subst h5;simp(disch:=omega) ;refine aD (cw) rfl ?_;simp(disch:=omega)[w3,v3,w4,v4];refine kQ _ true (by rw[gD,agH (by omega:la<x2)]) (by simp)
   ·have e6:((m:Int)-1)=((m-1:Nat):Int):=by omega
    have b5:decide ((0:Int)<(m:Int))=true:=agH (by omega);have tS:=FW (by omega);have AQ:=dw h5
    by_cases v5:x2<=py
    ·have w5:decide (x2<=py)=true:=agH v5;simp(disch:=omega) ;refine aD (cw) rfl ?_;simp(disch:=omega)[w3,v3,w4,v4,b5,h5,e6,tS,gj,w5,v5];refine kQ _ false (by rw[gD,agI (by omega:¬la<x2)]) (by simp)
    ·have w5:decide (x2<=py)=false:=agI v5;simp(disch:=omega) ;refine aD (cw) rfl ?_;simp(disch:=omega)[w3,v3,w4,v4,b5,h5,e6,tS,gj,w5,v5];refine kQ _ true (by rw[gD,agH (by omega:la<x2)]) (by simp)
  ·simp  at fX;apply aG;simp(disch:=omega) ;exact go (λk h=>m2 k (by omega)) _ (by simp)
attribute [-simp] getD_eq_getElem?_getD in
theorem Hk (d:Dc)(hs:oY d)(hz:∀i,i<d.zs.length->mB d.zs i=true)(H:List aA)(T:au)(HO:bN (H++[.cells (dO d)]) T) :
  AW ⟨prog,146,9,H.length,T.length,[]⟩ (dX [1,1] (Tryz.f83.body.getD .skip)) (sy prog Tryz.f83.results.toList λr H' T'=>(∃rH,H'=H++rH)/\(∃rT,T'=T++rT)/\(r=.bool (aS d)\/cK r=.bool (aS d))) ⟨[(1,.ptr H.length 0)],H++[.cells (dO d)],T⟩:=by
 conv=>arg 2;whnf
 have kC:maxLen<=9223372036854775807:=by decide
 have RB:=λi h=>Dk (d:=d) (i:=i) h;have A8:=qj (d:=d);have wI:=λh1 h3=>va (d:=d) h1 hz h3;obtain⟨id,zs,ns⟩:=d;obtain⟨_,_,hn⟩:=hs;simp only at hn RB A8 wI;have XK:=agJ hn kC;generalize hq:aS ⟨id,zs,ns⟩=q at *;refine af λK1 aP=>?_;apply ae;intro K Z;simp(disch:=omega);apply Z;apply aj;refine aJ (X:=Nat) (λi=>⟨[(1,.ptr H.length 0),(7,.int .i64 (i:Nat))],H++[.cells (dO ⟨id,zs,ns⟩)],T⟩)
  (λi=>i<=ns.length/\∀j,j<i->qN ns j=true) (λi=>ns.length-i) 0 ?_ ?_ ?_
 ·exact⟨agP _,λj hj=>absurd hj (ag9 _)⟩
 ·refine ag [] [] ?_ ?_ ?_ ?_ HO ?_
  all_goals simp
 ·rintro m ⟨m1,m2⟩;refine af λK5 lq=>?_;apply ae;intro K Z;simp(disch:=omega);apply Z;refine aU rfl (λfX=>?_) (λfX=>?_)
  ·simp  at fX;have yC:=gV ns m fX;have gD:qN ns m=(vH (ns.getD m n0)&&(decide (m=0)||dh (ns.getD (m-1) n0) (ns.getD m n0))):=rfl;have cn:=λH T=>Hi (ns.getD (m-1) n0) (ns.getD m n0) H T;replace RB:=RB m fX;generalize dh (ns.getD (m-1) n0) (ns.getD m n0)=cq at *;have FW:=λh=>gV ns (m-1) h;generalize ns.getD (m-1) n0=y at *;generalize UT:ns.getD m n0=z at *;obtain⟨x1,x2⟩:=z;obtain⟨y1,y2⟩:=y;simp only at yC FW gD;unfold vH at gD;simp only at gD;apply aq;simp(disch:=omega) ;apply lq;clear lq;refine af λK6 oe=>?_;apply aj;refine ae λK hK=>?_;simp(disch:=omega)[yC,cL];apply hK;have c:=cn (H++[.cells (dO ⟨id,zs,ns⟩),.cells [.int .i64 x1,.int .i64 x2]]) T;refine aK [] [] [] aw (by kernel_rfl) (by kernel_rfl) λK hK=>?_;have kQ:∀e b,b=qN ns m->bC (H.length+2) T.length e [(1,.ptr H.length 0),(7,.int .i64 (m:Nat)),(137,.bool (!b))]->K ⟨e,H++[.cells (dO ⟨id,zs,ns⟩),.cells [.int .i64 x1,.int .i64 x2]],T⟩:=by
    intro e b2 kK yA;refine hK _ (aI ⟨[(1,.ptr H.length 0),(7,.int .i64 (m:Nat)),(137,.bool (!b2))],H++[.cells (dO ⟨id,zs,ns⟩)],T⟩ (ag [.cells [.int .i64 x1,.int .i64 x2]] [] (by simp) (by simp) (by simp) (by simp) HO (by simpa using yA)) ?_)
    cases b2 with
    |false=>
     apply aH rfl;apply ae;intro K Z;simp(disch:=omega);apply Z;apply az;simp(disch:=omega) ;exact RB kK.symm
    |true=>
     apply aF rfl;apply aq;simp(disch:=omega) ;apply oe;clear oe;refine aC λK hK=>?_;simp(disch:=omega) ;apply hK;refine⟨m+1,⟨by show m+1<=_;omega,λj hj=>?_⟩,by show ns.length-(m+1)<ns.length-m;omega,?_⟩
     ·rcases agM j m with h|h
      ·exact m2 j h
      ·have:j=m:=by omega
       subst this;exact kK.symm
     ·refine ag [] [] ?_ ?_ ?_ ?_ HO ?_
      all_goals simp
   clear hK
   by_cases v1:x1<5
   ·have w1:decide (x1<5)=true:=agH v1;simp(disch:=omega)[w1,v1];refine kQ _ false (by rw[gD,agI (by omega:¬(5<=x1/\x1<=7))];rfl) (by simp)
   have w1:decide (x1<5)=false:=agI v1
   by_cases v2:7<x1
   ·have w2:decide (7<x1)=true:=agH v2;simp(disch:=omega)[w1,v1,w2,v2];refine kQ _ false (by rw[gD,agI (by omega:¬(5<=x1/\x1<=7))];rfl) (by simp)
   have w2:decide (7<x1)=false:=agI v2;rw[agH (by omega:5<=x1/\x1<=7),ahM] at gD
   by_cases v3:x2<0
   ·have w3:decide (x2<0)=true:=agH v3;simp(disch:=omega)[w1,v1,w2,v2,w3,v3];refine kQ _ false (by rw[gD,agI (by omega:¬(0<=x2/\x2<=1000000000000))];rfl) (by simp)
   have w3:decide (x2<0)=false:=agI v3
   by_cases v4:1000000000000<x2
   ·have w4:decide (1000000000000<x2)=true:=agH v4;simp(disch:=omega)[w1,v1,w2,v2,w3,v3,w4,v4];refine kQ _ false (by rw[gD,agI (by omega:¬(0<=x2/\x2<=1000000000000))];rfl) (by simp)
   have w4:decide (1000000000000<x2)=false:=agI v4;rw[agH (by omega:0<=x2/\x2<=1000000000000),ahM] at gD;rcases ahc m with h5|h5
   ·subst h5;simp(disch:=omega)[w1,v1,w2,v2,w3,v3,w4,v4];refine kQ _ true (by rw[gD];rfl) (by simp)
   ·have e6:((m:Int)-1)=((m-1:Nat):Int):=by omega
    have b5:decide ((0:Int)<(m:Int))=true:=agH (by omega);have tS:=FW (by omega);rw[agI (by omega:¬m=0),aim] at gD;simp(disch:=omega)[w1,v1,w2,v2,w3,v3,w4,v4,b5,h5,e6,tS,cL];refine aD (c) rfl ?_;simp(disch:=omega) ;refine kQ _ cq gD.symm (by simp)
  ·simp  at fX;apply aG;simp(disch:=omega) ;apply aP;clear aP
   by_cases h1:1<=id
   ·have b1:decide (1<=id)=true:=agH h1
    by_cases h2:id<=1000000000
    ·have b2:decide (id<=1000000000)=true:=agH h2;refine ae λK hK=>?_;simp(disch:=omega)[b1,h1,b2,h2];apply hK;apply az;simp(disch:=omega) ;exact wI ⟨h1,h2⟩ (λj hj=>m2 j (by omega))
    ·have b2:decide (id<=1000000000)=false:=agI h2;refine ae λK hK=>?_;simp(disch:=omega)[b1,h1,b2,h2];apply hK;apply az;simp(disch:=omega) ;exact A8 (by omega)
   ·have b1:decide (1<=id)=false:=agI h1;refine ae λK hK=>?_;simp(disch:=omega)[b1,h1];apply hK;apply az;simp(disch:=omega) ;exact A8 (by omega)
attribute [-simp] getD_eq_getElem?_getD in
theorem EV (d:Dc)(hs:oY d)(H:List aA)(T:au):ar prog 83 [.agg (dO d)] H T (Is (.bool (aS d)) H T):=by
 refine ar.bZ ?_ (by simp);have kC:maxLen<=9223372036854775807:=by decide
 have Nl:=λi h=>lZ (d:=d) (i:=i) h;have tail:=λhz=>Hk d hs hz H T;obtain⟨id,zs,ns⟩:=d;obtain⟨hz,hw,hn⟩:=hs;simp only at hz hw hn Nl tail;have Jn:=agJ hz kC;generalize hq:aS ⟨id,zs,ns⟩=q at *;refine ah 9 [] Tryz.ntmps83 Tryz.func83 rfl (λ_ _=>Tryz.call83 _ _) (by simp) (λHO=>?_);apply ae;intro K Z;simp(disch:=omega);apply Z;have eV:bN (H++[.cells (dO ⟨id,zs,ns⟩)]) T:=HO.snoc (by simp);replace tail:=λhz=>tail hz eV;refine af λK1 aP=>?_;apply ae;intro K Z;simp(disch:=omega);apply Z;apply aj;refine aJ (X:=Nat) (λi=>⟨[(1,.ptr H.length 0),(3,.int .i64 (i:Nat))],H++[.cells (dO ⟨id,zs,ns⟩)],T⟩)
  (λi=>i<=zs.length/\∀j,j<i->mB zs j=true) (λi=>zs.length-i) 0 ?_ ?_ ?_
 ·exact⟨agP _,λj hj=>absurd hj (ag9 _)⟩
 ·refine ag [] [] ?_ ?_ ?_ ?_ eV ?_
  all_goals simp
 ·rintro i ⟨g1,g2⟩;refine af λK2 bp=>?_;apply ae;intro K Z;simp(disch:=omega);apply Z;refine aU rfl (λhk=>?_) (λhk=>?_)
  ·simp  at hk;have bu:=sQ zs i hk;obtain⟨sa,Cd⟩:=hw _ (aT zs i z0 hk);have od:=DU zs i g2;have qR:=DK (zs:=zs) (i:=i);have U8:=λk=>NV (zs:=zs) (i:=i) (k:=k);have C7:=Ae (zs:=zs) (i:=i);replace Nl:=Nl i hk;have dw:0<i->iw zs i=(zs.getD (i-1) z0).f:=λh=>by unfold iw;rw[agL (by omega)]
   have Gu:i=0->iw zs i=0:=λh=>by unfold iw;rw[agN h]
   have jl:=λh=>(vZ zs (i-1) h).1;generalize iw zs i=la at *;generalize (zs.getD (i-1) z0).f=fp at *;generalize zs.getD i z0=z at *;obtain⟨f,ws⟩:=z;simp only at bu sa Cd qR U8 C7;have Yw:=agJ sa kC;apply aq;simp(disch:=omega) ;apply bp;clear bp;refine af λK3 bG=>?_;apply aj;refine ae λK hK=>?_;simp(disch:=omega)[bu,fN];apply hK;have fj:bN (H++[.cells (dO ⟨id,zs,ns⟩),.cells (oN ⟨f,ws⟩)]) T:=by
    have:=bN.snoc (vs:=oN ⟨f,ws⟩) eV (by simp);simpa using this
   refine af λK4 lG=>?_;refine aK [] [] [] aw (by kernel_rfl) (by kernel_rfl) λK hK=>?_;have key:∀e b,(b=true->la<f/\f<=4/\ws.length≠0)->(b=false->mB zs i=false)->bC (H.length+2) T.length e [(1,.ptr H.length 0),(3,.int .i64 (i:Nat)),(4,.ptr (H.length+1) 0),(50,.bool (!b))]->K ⟨e,H++[.cells (dO ⟨id,zs,ns⟩),.cells (oN ⟨f,ws⟩)],T⟩:=by
    intro e b hb yF he;refine hK _ (aI ⟨[(1,.ptr H.length 0),(3,.int .i64 (i:Nat)),(4,.ptr (H.length+1) 0),(50,.bool (!b))],H++[.cells (dO ⟨id,zs,ns⟩),.cells (oN ⟨f,ws⟩)],T⟩ (ag [] [] (by simp) (by simp) (by simp) (by simp) fj (by simpa using he)) ?_)
    cases b with
    |false=>
     apply aH rfl;apply ae;intro K Z;simp(disch:=omega);apply Z;apply az;simp(disch:=omega) ;exact Nl (yF rfl)
    |true=>
    obtain⟨b1,b2,b3⟩:=hb rfl;apply aF rfl;apply aq;simp(disch:=omega) ;apply lG;clear lG;refine aI ⟨[(1,.ptr H.length 0),(3,.int .i64 (i:Nat)),(4,.ptr (H.length+1) 0)],H++[.cells (dO ⟨id,zs,ns⟩),.cells (oN ⟨f,ws⟩)],T⟩ (ag [] [] (by simp) (by simp) (by simp) (by simp) fj (by simp)) ?_;refine GJ id zs ns f ws i sa Cd H T fj _ (λk yx U4 e rH rT he=>?_) λhg e he=>?_
    ·show sy prog Tryz.f83.results.toList (λr H' T'=>(∃rH,H'=H++rH)/\(∃rT,T'=T++rT)/\(r=.bool q\/cK r=.bool q)) .ret _;simp[he,Nl (U8 k yx U4)]
    ·refine bG _ (aI ⟨[(1,.ptr H.length 0),(3,.int .i64 (i:Nat))],H++[.cells (dO ⟨id,zs,ns⟩)],T⟩ (ag [.cells (oN ⟨f,ws⟩)] [] (by simp) (by simp) (by simp) (by simp) eV (by simpa using he)) ?_);refine aC λK hK=>?_;simp(disch:=omega) ;apply hK;refine⟨i+1,⟨by show i+1<=_;omega,λj hj=>?_⟩,by show zs.length-(i+1)<zs.length-i;omega,?_⟩
     ·rcases agM j i with h|h
      ·exact g2 j h
      ·have:j=i:=by omega
       subst this;exact C7 b1 b2 b3 hg
     ·refine ag [] [] ?_ ?_ ?_ ?_ eV ?_
      all_goals simp
   clear hK
   by_cases v1:f<1
   ·have w1:decide (f<1)=true:=agH v1;simp(disch:=omega)[w1,v1];refine key _ false (λh=>by cases h) (λ_=>qR (by omega)) (by simp)
   have w1:decide (f<1)=false:=agI v1
   by_cases v2:4<f
   ·have w2:decide (4<f)=true:=agH v2;simp(disch:=omega)[w1,v1,w2,v2];refine key _ false (λh=>by cases h) (λ_=>qR (by omega)) (by simp)
   have w2:decide (4<f)=false:=agI v2
   by_cases v3:ws.length=0
   ·have e3:ws=[]:=aho.1 v3;subst e3;rcases ahc i with h5|h5
    ·subst h5;simp(disch:=omega)[w1,v1,w2,v2];refine key _ false (λh=>by cases h) (λ_=>qR (by simp)) (by simp)
    ·have e6:((i:Int)-1)=((i-1:Nat):Int):=by omega
     have b5:decide ((0:Int)<(i:Int))=true:=agH (by omega);have CL:=jl (by omega)
     by_cases v4:f<=fp
     ·have w4:decide (f<=fp)=true:=agH v4;simp(disch:=omega)[w1,v1,w2,v2,b5,h5,e6,CL,fN,w4,v4];refine key _ false (λh=>by cases h) (λ_=>qR (by simp)) (by simp)
     ·have w4:decide (f<=fp)=false:=agI v4;simp(disch:=omega)[w1,v1,w2,v2,b5,h5,e6,CL,fN,w4,v4];refine key _ false (λh=>by cases h) (λ_=>qR (by simp)) (by simp)
   have w3:((ws.length:Int)==0)=false:=ahq.2 (by omega);have n3:ws≠[]:=λe=>v3 (by rw[e];rfl);rcases ahc i with h5|h5
   ·have AQ:=Gu h5;subst h5;simp(disch:=omega)[w1,v1,w2,v2,w3,n3];refine key _ true (λ_=>⟨by omega,by omega,v3⟩) (λh=>by cases h) (by simp)
   ·have e6:((i:Int)-1)=((i-1:Nat):Int):=by omega
    have b5:decide ((0:Int)<(i:Int))=true:=agH (by omega);have CL:=jl (by omega);have AQ:=dw h5
    by_cases v4:f<=fp
    ·have w4:decide (f<=fp)=true:=agH v4;simp(disch:=omega)[w1,v1,w2,v2,w3,n3,b5,h5,e6,CL,fN,w4,v4];refine key _ false (λh=>by cases h) (λ_=>qR (by omega)) (by simp)
    ·have w4:decide (f<=fp)=false:=agI v4;simp(disch:=omega)[w1,v1,w2,v2,w3,n3,b5,h5,e6,CL,fN,w4,v4];refine key _ true (λ_=>⟨by omega,by omega,v3⟩) (λh=>by cases h) (by simp)
  ·simp  at hk;apply aG;simp(disch:=omega) ;apply aP;clear aP;refine aI ⟨[(1,.ptr H.length 0)],H++[.cells (dO ⟨id,zs,ns⟩)],T⟩ (ag [] [] (by simp) (by simp) (by simp) (by simp) eV (by simp)) ?_;exact tail λj hj=>g2 j (by omega)
end Go.Proofs.YtoejlmpbebjemaaGreat
namespace eN
open ia Go.Am
abbrev k0:Ky:=(0,[])
abbrev vA (k:Ky):List AV:=[.int .i64 k.1,.str k.2,.sl 0 [] .full]
def gM (l:List Ky):List AV:=l.flatMap λk=>[.int .i64 k.1,.str k.2,.sl 0 [] .full]
def wg:ep vA 3:=λ_=>rfl
def mf (l:List Ky):(gM l).length=l.length*3:=bY wg l
def xy (l:List Ky)(rest:List AV)(i:Nat)(h:i<l.length):((gM l++rest).drop (i*3)).take 3=vA (l.getD i k0):=by
 rw[List.drop_append,List.take_append,show ((gM l).drop (i*3)).take 3=vA (l.getD i k0) from fO wg l i k0 h];rw[show 3-((gM l).drop (i*3)).length=0 by rw[ahp,mf];omega];simp
def SO (l:List Ky)(i:Nat):(gM l).take (i*3)=gM (l.take i):=nK wg l i
def Lv (l:List Ky)(i:Nat):(gM l).drop (i*3)=gM (l.drop i):=jT wg l i
theorem IY (x:Ky):∀(d:List Ky)(n:Nat),n<=d.length->(∀j,j<n->bT (d.getD j k0) x=true)->(n<d.length->bT (d.getD n k0) x=false)->
  (n<d.length->bT x (d.getD n k0)=false->kR x d=d)/\((n<d.length->bT x (d.getD n k0)=true)->kR x d=d.take n++x::d.drop n)
 |[],n,h,_,_=>by
  have:n=0:=by simpa using h
  subst this;exact⟨λh=>absurd h (ag9 _),λ_=>rfl⟩
 |y::r,0,_,_,h=>by
  have h1:bT y x=false:=h (by simp);refine⟨λ_ h2=>?_,λh2=>?_⟩
  ·have h2:bT x y=false:=h2;rw[kR,agL (by simp[h1]),agL (by simp[h2])]
  ·have h2:bT x y=true:=h2 (by simp);rw[kR,agL (by simp[h1]),agN h2];rfl
 |y::r,n+1,h0,h1,h2=>by
  have hy:bT y x=true:=h1 0 (by omega);obtain⟨a,b⟩:=IY x r n (by simpa using h0) (λj hj=>h1 (j+1) (by omega)) (λhn=>h2 (by simpa using hn));refine⟨λh3 h4=>?_,λh3=>?_⟩
  ·rw[kR,agN hy,a (by simpa using h3) h4]
  ·rw[kR,agN hy,b λh4=>h3 (by simpa using h4)];rfl
theorem D5 (x:Ky):∀d:List Ky,(kR x d).length<=d.length+1
 |[]=>by simp[kR]
 |y::r=>by
  have:=D5 x r;unfold kR
  split
  ·simp;omega
  ·split<;>simp
def dE (a:List Ky)(l:List Ky):List Ky:=l.foldl (λa k=>kR k a) a
theorem mo (l:List Ky):∀a:List Ky,(dE a l).length<=a.length+l.length:=by
 unfold dE
 induction l with
 |nil=>intro a;simp
 |cons x r ih=>intro a;rw[aia];have:=ih (kR x a);have:=D5 x a;simp;omega
def r4 (a l m:List Ky):dE a (l++m)=dE (dE a l) m:=by unfold dE;rw[ail]
def eZ (z:Zn):List Ky:=z.ws.map λw=>(z.f,w.1)
def dm (d:Dc):List Ky:=d.zs.flatMap eZ
def qx (zs:List Zn):(eP zs).map (·.1)=zs.flatMap eZ:=by
 unfold eP oZ eZ;rw[List.map_flatMap];simp[ahG,Function.comp_def]
def uD (L:List Dc):dJ L=dE [] (L.flatMap dm):=by
 unfold dJ dE dm
 congr 1
 congr 1
 funext d
 exact qx d.zs
def TR (h0:Nat)(J:List aA)(ks:List Ky)(tv:AV):Prop:=
 (ks=[]/\tv=.sl 0 [] .full)\/(∃i rest,tv=.cN i 0 ks.length/\h0<=i/\J[i]?=some (.cells (gM ks++rest))/\0<ks.length)
def TR.app {h0:Nat}{J:List aA}{ks:List Ky}{tv:AV}(h:TR h0 J ks tv)(G:List aA):TR h0 (J++G) ks tv:=by
 rcases h with h|⟨i,rest,h1,h2,h3,h4⟩
 ·exact .inl h
 ·exact .inr ⟨i,rest,h1,h2,by rw[agK (agC.1 h3).1];exact h3,h4⟩
end eN
namespace Go.Proofs.YtoejlmpbebjemaaGreat
open Go.Proofs.Tryz(prog)
open Go Go.Am ia eN
noncomputable def wO:List Oper:=match dX [1,1,0,1,0,0,1,0,0,1,0,0,1,0,0,1,1,0,0,1,0,0,1,1,1,1,0] (Tryz.f85.body.getD .skip) with
 |.region _ ops _=>ops.toList
 |_=>[]
def BK {K:St->Prop}{P:List aA->au->Prop}{nb tb:Nat}(f:Int)(w:Bs)(n m:Nat)(A B:List AV)(x1 x2:AV)(e:Env)(J:List aA)(U:au)(hn:n<=1000000)(hm:m<=1000000)(hA:A.length=n*3)(hB:B.length=m*3)
  (h76:bH e 76=.sl 0 [] .full) (h79:bH e 79=x1) (h82:bH e 82=.sl 1 (vA (f,w)) .full) (h86:bH e 86=x2) (Ce:gN J 3 x1=some (n,A)) (AO:∀J',gG J J'->gN J' 3 x2=some (m,B)) (hP:∀J',gG J J'->P J' U)
  (k:∀(e':Env)(J':List aA)(i' kV:Nat)(lQ:List AV),gG J J'->J.length<=i'->J'[i']?=some (.cells (A++vA (f,w)++B++lQ))->bH e' 3=.bJ i' (n+1+m) kV->(∀t,t<80->t≠3->bH e' t=bH e t)->K ⟨e',J',U⟩) :
  CO ⟨prog,89,10,nb,tb,[100080,100083]⟩ K P ([4,7,11,12].map λi=>wO.getD i default) e J U:=by
 show CO _ K P [wO.getD 4 default,wO.getD 7 default,wO.getD 11 default,wO.getD 12 default] e J U;have W5:gG J J:=⟨[],by simp⟩
 have tail:∀(e7:Env)(J7:List aA)(i7 Nk:Nat)(Ie:List AV),gG J J7->J.length<=i7->J7[i7]?=some (.cells ((A++vA (f,w))++Ie))->((A++vA (f,w))++Ie).length=Nk*3->bH e7 83=.bJ i7 (n+1) Nk->bH e7 86=x2->
   (∀t,t<80->bH e7 t=bH e t)->CO ⟨prog,89,10,nb,tb,[100080,100083]⟩ K P [wO.getD 11 default,wO.getD 12 default] e7 J7 U:=by
  intro e7 J7 i7 Nk Ie hp hi hg hl h83 aeP hold;rw[lD]
  conv=>arg 2;whnf
  refine AB 129 (A++vA (f,w)) Ie B m (by simp[bR,h83]) (by simp[bR,h83]) (by simp[bR,h83,aeP];exact⟨rfl,rfl,rfl,rfl,rfl⟩) (by simp) hg (by simp[hA];omega) (by simpa using hl) (by simpa using AO _ hp) (by simp[hB]) (by simp;omega) (by omega) (by simp) (by simp) ?_;intro i8 Y1 B8 J8 tJ hl8 hc8;have l7:=(agC.1 hg).1;have WN:gG J J8:=by
   rcases tJ with⟨rfl,_⟩|⟨rfl,_⟩
   ·exact hp.set hi _
   ·exact hp.app _
  have hi8:J.length<=i8:=by
   have:=hp.le;rcases tJ with⟨_,rfl⟩|⟨_,rfl⟩<;>omega
  have hg8:J8[i8]?=some (.cells (A++vA (f,w)++B++B8)):=by
   rcases tJ with⟨rfl,rfl⟩|⟨rfl,rfl⟩
   ·rw[ag4 l7]
   ·simp
  refine⟨hP J8 WN,lC (aiK rfl) ?_⟩;rw[lD]
  conv=>arg 2;whnf
  refine P4 (v:=.bJ i8 (n+1+m) Y1) (H':=J8) (T':=U) rfl rfl rfl rfl (by simp[bR,cM]) ⟨hP J8 WN,lC (aiK rfl) ?_⟩;rw[P2];exact k _ J8 i8 Y1 B8 WN hi8 hg8 (cM _ _ _) λt h1 h2=>by
   rw[bE _ _ _ _ (λe=>h2 e.symm),bE _ _ _ _ (by omega),hold t h1]
 rcases ahc n with h0|h0
 ·subst h0;have hA0:A=[]:=aho.1 (by simpa using hA);subst hA0;rw[lD]
  conv=>arg 2;whnf
  refine Th (by simp[-gN,bR,h76,h79,Ce]) ⟨hP J W5,lC (aiK rfl) ?_⟩;rw[lD]
  conv=>arg 2;whnf
  refine ya (m:=1) (z:=3) (ys:=vA (f,w)) (by simp[bR,h82,cM,bE,gN]) (by simp[bR,h82,cM,bE,gN]) λnc ll=>⟨hP _ (W5.app _),lC (aiK rfl) ?_⟩
  refine tail _ _ J.length nc (List.replicate ((nc-1)*3) .top) (W5.app _) (agE _) (by simp) (by simp;omega) (by simp[cM]) ?_ ?_
  ·rw[bE _ _ _ _ (by omega),bE _ _ _ _ (by omega),h86]
  ·intro t ht;rw[bE _ _ _ _ (by omega),bE _ _ _ _ (by omega)]
 ·have FE:n≠0:=by omega
  have q1:n*48<=140737488355328:=by omega
  have q2:n<=9223372036854775807:=by omega
  rw[lD]
  conv=>arg 2;whnf
  refine ya (m:=n) (z:=3) (ys:=A) (by simp[-gN,bR,h76,h79,Ce,FE]) (by simp[-gN,bR,h76,h79,Ce,h0,q1,q2]) λnc ll=>⟨hP _ (W5.app _),lC (aiK rfl) ?_⟩
  rw[lD]
  conv=>arg 2;whnf
  refine AB 129 A (List.replicate ((nc-n)*3) .top) (vA (f,w)) 1 (i:=J.length) (n:=n) (cap:=nc) (by simp[bR,cM]) (by simp[bR,cM]) (by simp[bR,cM,bE,h82];exact⟨rfl,rfl,rfl⟩) (by simp) (by simp) (by simpa using hA) (by simp[hA,Nat.sub_mul];omega) (by simp[gN]) (by simp) (by simp;omega) (by omega) (by simp) (by simp) ?_;intro i7 Nk B7 J7 tJ hl7 hc7;have hp7:gG J J7:=by
   rcases tJ with⟨rfl,_⟩|⟨rfl,_⟩
   ·exact(W5.app _).set (agE _) _
   ·exact(W5.app _).app _
  have hi7:J.length<=i7:=by
   rcases tJ with⟨_,rfl⟩|⟨_,rfl⟩<;>simp
  refine⟨hP J7 hp7,lC (aiK rfl) ?_⟩;refine tail _ J7 i7 Nk B7 hp7 hi7 ?_ (by simpa using hl7) (cM _ _ _) ?_ ?_
  ·rcases tJ with⟨rfl,rfl⟩|⟨rfl,rfl⟩
   ·rw[ag4 (by simp)]
   ·rw[agX (agE _)];simp
  ·rw[bE _ _ _ _ (by omega),bE _ _ _ _ (by omega),h86]
  ·intro t ht;rw[bE _ _ _ _ (by omega),bE _ _ _ _ (by omega)]
attribute [-simp] getD_eq_getElem?_getD in
theorem Pv (L:List Dc)(f:Int)(ws:List Wd)(i zi k p6:Nat)(ks:List Ky)(tv:AV)(h0 nb tb:Nat)(J:List aA)(U:au)(hk:k<ws.length)(Qw:ks.length<=1000000)(Q0:TR h0 J ks tv)(h6:J[p6]?=some (.cells (oN ⟨f,ws⟩)))
  (gw:nb<=J.length) (fQ:tb<=U.length) (HO:bN J U) (h0J:h0<=J.length) (Q:Exit->St->Prop)
  (go:∀(e:Env)(J':List aA)(yY:AV),(∃G,J'=J++G)->TR h0 J' (kR (f,(ws.getD k w0).1) ks) yY->
   bC J'.length U.length e [(0,.sl L.length (aN L) .none),(3,yY),(4,.int .i64 (i:Nat)),(5,.int .i64 (zi:Nat)),(6,.ptr p6 0),(7,.int .i64 (k:Nat))]->Q .normal ⟨e,J',U⟩) :
  AW ⟨prog,89,10,nb,tb,[100080,100083]⟩ (dX [1,1,0,1,0,0,1,0,0,1,0,0,1,0,0,1,1,0,0,1,0,0] (Tryz.f85.body.getD .skip)) Q
   ⟨[(0,.sl L.length (aN L) .none),(3,tv),(4,.int .i64 (i:Nat)),(5,.int .i64 (zi:Nat)),(6,.ptr p6 0),(7,.int .i64 (k:Nat))],J,U⟩:=by
 conv=>arg 2;whnf
 have jl:=(Bm ws k hk).1;have e6:=aX h6;have l6:=(agC.1 h6).1;generalize (ws.getD k w0).1=w at *;refine aK [9,10] [0,0,0,0,0,0,0,0,0,0,1] [[0,1,2,3,4,5,6,7,8],[]] aw (by kernel_rfl) (by kernel_rfl) λK hK=>?_;simp(disch:=omega)[e6,l6,gj,jl,hk,agK,ahS];apply hK;have eV:bN (J++[.cells (vA (f,w))]) U:=HO.snoc (by simp);have g8:(J++[aA.cells (vA (f,w))])[J.length]?=some (.cells (vA (f,w))):=by simp
 have Rr:=Q0.app [aA.cells (vA (f,w))];have uT:(J++[aA.cells (vA (f,w))]).length=J.length+1:=by simp
 have qP:∃G,J++[aA.cells (vA (f,w))]=J++G:=⟨_,rfl⟩
 obtain⟨p8,WN⟩:∃p,p=J.length:=⟨_,rfl⟩
 rw[<-WN] at g8;simp only[<-WN];rw[show aA.cells [.int .i64 f,.str w,.sl 0 [] .full]=.cells (vA (f,w)) from rfl];generalize J++[aA.cells (vA (f,w))]=J1 at *;have e8:=aX g8;have l8:=(agC.1 g8).1;have FX:∀(n:Nat),J1.length<=n->Below n U.length tv:=λn hn=>by
  rcases Rr with⟨_,rfl⟩|⟨i,rest,rfl,_,h3,_⟩
  ·simp
  ·have:=(agC.1 h3).1;simp;omega
 have YO:=FX J1.length (agE _);refine aI ⟨[(0,.sl L.length (aN L) .none),(3,tv),(4,.int .i64 (i:Nat)),(5,.int .i64 (zi:Nat)),(6,.ptr p6 0),(7,.int .i64 (k:Nat)),(8,.ptr p8 0)],J1,U⟩ (ag [] [] (by simp) (by simp) (by show nb<=J1.length;omega) fQ eV (by simp[YO];omega)) ?_;apply ae;intro K Z;simp(disch:=omega);apply Z;refine af λK5 lq=>?_;apply aj;have FV:∀(e:Env)(n:Nat),bC J1.length U.length e [(0,.sl L.length (aN L) .none),(3,tv),(4,.int .i64 (i:Nat)),(5,.int .i64 (zi:Nat)),(6,.ptr p6 0),(7,.int .i64 (k:Nat)),(8,.ptr p8 0),(9,.int .i64 (n:Nat))]->
   tX ⟨prog,89,10,nb,tb,[100080,100083]⟩ ⟨e,J1,U⟩ ⟨[(0,.sl L.length (aN L) .none),(3,tv),(4,.int .i64 (i:Nat)),(5,.int .i64 (zi:Nat)),(6,.ptr p6 0),(7,.int .i64 (k:Nat)),(8,.ptr p8 0),(9,.int .i64 (n:Nat))],J1,U⟩:=λe n he=>
  ag [] [] (by simp) (by simp) (by show nb<=J1.length;omega) fQ eV he
 have cont:∀n,n<=ks.length->(∀j,j<n->bT (ks.getD j k0) (f,w)=true)->(n<ks.length->bT (ks.getD n k0) (f,w)=false)->∀e,bC J1.length U.length e [(0,.sl L.length (aN L) .none),(3,tv),(4,.int .i64 (i:Nat)),(5,.int .i64 (zi:Nat)),(6,.ptr p6 0),(7,.int .i64 (k:Nat)),(8,.ptr p8 0),(9,.int .i64 (n:Nat))]->K5 ⟨e,J1,U⟩:=by
  intro n AP Cf zd e he;refine lq _ (aI _ (FV e n he) ?_);clear lq he;obtain⟨C0,CK⟩:=IY (f,w) ks n AP Cf zd;have fin:(n<ks.length->bT (f,w) (ks.getD n k0)=true)->∀(e:Env)(J':List aA)(i' kV:Nat)(lQ:List AV),gG J1 J'->J1.length<=i'->J'[i']?=some (.cells (gM (ks.take n++(f,w)::ks.drop n)++lQ))->
    bC J'.length U.length e [(0,.sl L.length (aN L) .none),(3,.cN i' 0 (n+1+(ks.length-n))),(4,.int .i64 (i:Nat)),(5,.int .i64 (zi:Nat)),(6,.ptr p6 0),(7,.int .i64 (k:Nat))]->Q .normal ⟨e,J',U⟩:=by
   intro h e J' i' kV lQ hp iP hg he;obtain⟨G,rfl⟩:=hp;obtain⟨G1,rfl⟩:=qP;have hl:(kR (f,w) ks).length=n+1+(ks.length-n):=by rw[CK h];simp;omega
   refine go e _ _ ⟨G1++G,by simp⟩ (.inr ⟨i',lQ,rfl,by simp at iP;omega,by rw[CK h];exact hg,by omega⟩) ?_;rw[hl];exact he
  have yM:(n<ks.length->bT (f,w) (ks.getD n k0)=true)->∀(e e0:Env)(J':List aA)(i' kV:Nat)(lQ:List AV),gG J1 J'->J1.length<=i'->J'[i']?=some (.cells (gM (ks.take n)++vA (f,w)++gM (ks.drop n)++lQ))->bH e 3=.bJ i' (n+1+(ks.length-n)) kV->(∀t,t<80->t≠3->bH e t=bH e0 t)->
    bH e0 0=.sl L.length (aN L) .none->bH e0 4=.int .i64 (i:Nat)->bH e0 5=.int .i64 (zi:Nat)->bH e0 6=.ptr p6 0->bH e0 7=.int .i64 (k:Nat)->Q .normal ⟨e,J',U⟩:=by
   intro h e e0 J' i' kV lQ hp iP hg h3 hold q0 q4 q5 q6 q7;have hle:=hp.le;have aZ:=(agC.1 hg).1;refine fin h e J' i' kV lQ hp iP ?_ ?_
   ·rw[hg];congr 2;rw[show gM (ks.take n++(f,w)::ks.drop n)=gM (ks.take n)++vA (f,w)++gM (ks.drop n) by simp[gM]]
   ·simp[h3,hold,q0,q4,q5,q6,q7,aZ];omega
  have c1:(gM (ks.take n)).length=n*3:=by rw[mf,ag5];omega
  have c2:(gM (ks.drop n)).length=(ks.length-n)*3:=by rw[mf,ahp]
  have NF:∀J',gG J1 J'->J'[p8]?=some (.cells (vA (f,w))):=by
   rintro J' ⟨G,rfl⟩;rw[agK l8];exact g8
  rcases Rr with⟨rfl,rfl⟩|⟨ib,rest,rfl,AS,gi,eO⟩
  ·have FE:n=0:=by simpa using AP
   subst FE;refine aK [] [] [] aw (by kernel_rfl) (by kernel_rfl) λK hK=>?_;simp(disch:=omega) ;apply hK;apply aH rfl;refine uP [4,7,11,12] aw (by kernel_rfl) λK hK=>?_;simp(disch:=omega)[dj,e8,l8];refine Bd (λJ' _=>J'[p8]?=some (.cells (vA (f,w)))) (λJ' U' QD=>?_) ?_
   ·have e9:=aX QD;have l9:=(agC.1 QD).1;simp(disch:=omega)[dj,e9,l9]
   ·exact BK f w 0 0 [] [] _ _ _ J1 U (by omega) (by omega) rfl rfl rfl rfl rfl rfl rfl (λ_ _=>rfl) NF λe' J' i' kV lQ hp iP hg h3 hold=>hK _ (yM (λh=>absurd h (ag9 _)) e' _ J' i' kV lQ hp iP (by simpa[gM] using hg) h3 hold rfl rfl rfl rfl rfl)
  ·have bu:=xy ks rest;have hlen:(gM ks++rest).length=ks.length*3+rest.length:=by rw[agF,mf]
   have hv1:(gM ks++rest).take (n*3)=gM (ks.take n):=by rw[ahL (by rw[mf];omega),SO]
   have H8:((gM ks++rest).drop (n*3)).take ((ks.length-n)*3)=gM (ks.drop n):=by
    rw[aiP (by rw[mf];omega),Lv,ahD c2]
   generalize Mv:gM ks++rest=vs at *;have ei:=aX gi;have li:=(agC.1 gi).1;have ZG:∀J',gG J1 J'->J'[ib]?=some (.cells vs):=by
    rintro J' ⟨G,rfl⟩;rw[agK li];exact gi
   rcases agM n ks.length with h4|h4
   ·have wR:=bu n h4;have b1:((n:Int)==(ks.length:Int))=false:=ahq.2 (by omega);have c:=vb (f,w) (ks.getD n k0) (.sl 0 [] .full) (.sl 0 [] .full) J1 U (by simp) (by simp);have d1:n*3+3<=vs.length:=by omega
    have d2:n*3<=vs.length:=by omega
    have d3:n*3+(ks.length-n)*3<=vs.length:=by omega
    cases aZ:bT (f,w) (ks.getD n k0) with
    |false=>
     rw[aZ] at c;rw[C0 h4 aZ] at go;generalize ks.getD n k0=y at *;refine aK [] [] [] aw (by kernel_rfl) (by kernel_rfl) λK hK=>?_;simp(disch:=omega)[b1,h4,e8,l8,ei,li,wR,d1,d2];refine aD (c) rfl ?_;simp(disch:=omega) ;apply hK;apply aF rfl;apply aq;obtain⟨G1,QE⟩:=qP;refine go _ J1 _ ⟨G1,QE⟩ (.inr ⟨ib,rest,rfl,AS,by rw[Mv];exact gi,eO⟩) ?_;simp[li];omega
    |true=>
     rw[aZ] at c;have VM:=yM λ_=>aZ;generalize ks.getD n k0=y at *;refine aK [] [] [] aw (by kernel_rfl) (by kernel_rfl) λK hK=>?_;simp(disch:=omega)[b1,h4,e8,l8,ei,li,wR,d1,d2];refine aD (c) rfl ?_;simp(disch:=omega) ;apply hK;apply aH rfl;refine uP [4,7,11,12] aw (by kernel_rfl) λK hK=>?_;simp(disch:=omega)[dj,e8,l8,h4];refine Bd (λJ' _=>J'[p8]?=some (.cells (vA (f,w)))) (λJ' U' QD=>?_) ?_
     ·have e9:=aX QD;have l9:=(agC.1 QD).1;simp(disch:=omega)[dj,e9,l9,h4]
     ·exact BK f w n (ks.length-n) (gM (ks.take n)) (gM (ks.drop n)) _ _ _ J1 U (by omega) (by omega) c1 c2 rfl rfl rfl rfl (by simp[gN,ei,li,d2,hv1]) (λJ' hp=>by
       have:=ZG J' hp;simp[gN,this,d3,H8]) NF λe' J' i' kV lQ hp iP hg h3 hold=>hK _ (VM e' _ J' i' kV lQ hp iP hg h3 hold rfl rfl rfl rfl rfl)
   ·have TK:n=ks.length:=by omega
    subst TK;have VM:=yM λh=>absurd h (Nat.lt_irrefl _);have d2:ks.length*3<=vs.length:=by omega
    have dN:ks≠[]:=λe=>by rw[e] at eO;exact absurd eO (Nat.lt_irrefl _)
    refine aK [] [] [] aw (by kernel_rfl) (by kernel_rfl) λK hK=>?_;simp(disch:=omega) ;apply hK;apply aH rfl;refine uP [4,7,11,12] aw (by kernel_rfl) λK hK=>?_;simp(disch:=omega)[dj,e8,l8,dN];refine Bd (λJ' _=>J'[p8]?=some (.cells (vA (f,w)))) (λJ' U' QD=>?_) ?_
    ·have e9:=aX QD;have l9:=(agC.1 QD).1;simp(disch:=omega)[dj,e9,l9,dN]
    ·exact BK f w ks.length (ks.length-ks.length) (gM (ks.take ks.length)) (gM (ks.drop ks.length)) _ _ _ J1 U (by omega) (by omega) c1 c2 rfl rfl rfl rfl (by simp[gN,ei,li,d2,hv1]) (λJ' hp=>by simp[gM]) NF λe' J' i' kV lQ hp iP hg h3 hold=>hK _ (VM e' _ J' i' kV lQ hp iP hg h3 hold rfl rfl rfl rfl rfl)
 refine aJ (X:=Nat) (λn=>⟨[(0,.sl L.length (aN L) .none),(3,tv),(4,.int .i64 (i:Nat)),(5,.int .i64 (zi:Nat)),(6,.ptr p6 0),(7,.int .i64 (k:Nat)),(8,.ptr p8 0),(9,.int .i64 (n:Nat))],J1,U⟩)
  (λn=>n<=ks.length/\∀j,j<n->bT (ks.getD j k0) (f,w)=true) (λn=>ks.length-n) 0 ?_ ?_ ?_
 ·exact⟨agP _,λj hj=>absurd hj (ag9 _)⟩
 ·refine FV _ 0 ?_;simp[YO,l8];omega
 ·rintro n ⟨AP,Cf⟩;replace cont:=cont n AP Cf;have aex:=FV;refine af λK6 oe=>?_;rcases agM n ks.length with h4|h4
  ·rcases Rr with⟨rfl,rfl⟩|⟨ib,rest,rfl,AS,gi,eO⟩
   ·exact absurd h4 (ag9 _)
   have wR:=xy ks rest n h4;have hlen:(gM ks++rest).length=ks.length*3+rest.length:=by rw[agF,mf]
   generalize gM ks++rest=vs at *;have ei:=aX gi;have li:=(agC.1 gi).1;have d1:n*3+3<=vs.length:=by omega
   have b1:decide ((n:Int)<(ks.length:Int))=true:=agH (by omega);have c:=vb (ks.getD n k0) (f,w) (.sl 0 [] .full) (.sl 0 [] .full) J1 U (by simp) (by simp);have gA:bT (ks.getD n k0) (f,w)=true->∀j,j<n+1->bT (ks.getD j k0) (f,w)=true:=λh j hj=>by
    rcases agM j n with h3|h3
    ·exact Cf j h3
    ·have:j=n:=by omega
     subst this;exact h
   cases aZ:bT (ks.getD n k0) (f,w) with
   |true=>
    rw[aZ] at c;replace gA:=gA aZ;generalize ks.getD n k0=y at wR c;refine aK [] [] [] aw (by kernel_rfl) (by kernel_rfl) λK hK=>?_;simp(disch:=omega)[b1,h4,e8,l8,ei,li,wR,d1];refine aD (c) rfl ?_;simp(disch:=omega) ;apply hK;apply aH rfl;apply aq;apply oe;clear oe;apply aj;refine aC λK hK=>?_;simp(disch:=omega) ;apply hK;refine⟨n+1,⟨by show n+1<=_;omega,gA⟩,by show ks.length-(n+1)<ks.length-n;omega,?_⟩;refine aex _ (n+1) ?_;simp[li,l8];omega
   |false=>
    rw[aZ] at c;replace cont:=cont λ_=>aZ;generalize ks.getD n k0=y at wR c;refine aK [] [] [] aw (by kernel_rfl) (by kernel_rfl) λK hK=>?_;simp(disch:=omega)[b1,h4,e8,l8,ei,li,wR,d1];refine aD (c) rfl ?_;simp(disch:=omega) ;apply hK;apply aF rfl;apply aG;simp(disch:=omega) ;refine cont _ ?_;simp[li,l8];omega
  ·have TK:n=ks.length:=by omega
   replace cont:=cont λh=>absurd h (by omega);subst TK;rcases Rr with⟨rfl,rfl⟩|⟨ib,rest,rfl,AS,gi,eO⟩
   ·refine aK [] [] [] aw (by kernel_rfl) (by kernel_rfl) λK hK=>?_;simp(disch:=omega) ;apply hK;apply aF rfl;apply aG;simp(disch:=omega) ;refine cont _ ?_;simp[l8];omega
   ·have li:=(agC.1 gi).1;refine aK [] [] [] aw (by kernel_rfl) (by kernel_rfl) λK hK=>?_;simp(disch:=omega) ;apply hK;apply aF rfl;apply aG;simp(disch:=omega) ;refine cont _ ?_;simp[li,l8];omega
attribute [-simp] getD_eq_getElem?_getD in
def ER (L:List Dc)(f:Int)(ws:List Wd)(i zi p6:Nat)(ks:List Ky)(tv:AV)(h0 nb tb:Nat)(J:List aA)(U:au)(Qw:ks.length+ws.length<=1000000)(Q0:TR h0 J ks tv)(h6:J[p6]?=some (.cells (oN ⟨f,ws⟩)))
  (gw:nb<=J.length) (fQ:tb<=U.length) (HO:bN J U) (h0J:h0<=J.length) (Q:Exit->St->Prop)
  (go:∀(e:Env)(J':List aA)(yY:AV),(∃G,J'=J++G)->TR h0 J' (dE ks (eZ ⟨f,ws⟩)) yY->
   bC J'.length U.length e [(0,.sl L.length (aN L) .none),(3,yY),(4,.int .i64 (i:Nat)),(5,.int .i64 (zi:Nat))]->Q .normal ⟨e,J',U⟩) :
  AW ⟨prog,89,10,nb,tb,[100080,100083]⟩ (dX [1,1,0,1,0,0,1,0,0,1,0,0,1,0,0,1] (Tryz.f85.body.getD .skip)) Q
   ⟨[(0,.sl L.length (aN L) .none),(3,tv),(4,.int .i64 (i:Nat)),(5,.int .i64 (zi:Nat)),(6,.ptr p6 0)],J,U⟩:=by
 conv=>arg 2;whnf
 have l6:=(agC.1 h6).1;have FX:∀(J1:List aA)(H6:List Ky)(uQ:AV),TR h0 J1 H6 uQ->Below J1.length U.length uQ:=λJ1 H6 uQ h=>by
  rcases h with⟨_,rfl⟩|⟨i,rest,rfl,_,h3,_⟩
  ·simp
  ·simpa using(agC.1 h3).1
 have FZ:=FX J ks tv Q0;apply ae;intro K Z;simp(disch:=omega);apply Z;apply aj;refine aJ (X:=Nat×List aA×AV) (λx=>⟨[(0,.sl L.length (aN L) .none),(3,x.2.2),(4,.int .i64 (i:Nat)),(5,.int .i64 (zi:Nat)),(6,.ptr p6 0),(7,.int .i64 (x.1:Nat))],x.2.1,U⟩)
  (λx=>x.1<=ws.length/\(∃G,x.2.1=J++G)/\TR h0 x.2.1 (dE ks ((ws.take x.1).map λw=>(f,w.1))) x.2.2/\bN x.2.1 U) (λx=>ws.length-x.1) (0,J,tv) ?_ ?_ ?_
 ·exact⟨agP _,⟨[],by simp⟩,by simpa[dE] using Q0,HO⟩
 ·refine ag [] [] (by simp) (by simp) gw fQ HO ?_;simp[FZ,l6]
 ·rintro⟨k,J1,uQ⟩ ⟨g1,⟨G,hG⟩,g3,g4⟩;simp only at g1 hG g3 g4;have uT:J.length<=J1.length:=by rw[hG];simp
  have h61:J1[p6]?=some (.cells (oN ⟨f,ws⟩)):=by rw[hG,agK l6];exact h6
  have e6:=aX h61;have l61:=(agC.1 h61).1;have wA:=FX J1 _ uQ g3;refine af λK5 lq=>?_;refine ae λK hK=>?_;simp(disch:=omega)[e6,l61];apply hK;refine aU rfl (λhk=>?_) (λhk=>?_)
  ·simp  at hk;have gO:(dE ks ((ws.take k).map λw=>(f,w.1))).length<=1000000:=by
    have:=mo ((ws.take k).map λw=>(f,w.1)) ks;rw[agU,ag5] at this;omega
   have lF:dE ks ((ws.take (k+1)).map λw=>(f,w.1))=kR (f,(ws.getD k w0).1) (dE ks ((ws.take k).map λw=>(f,w.1))):=by
    rw[aV ws k w0 hk,agS,r4];rfl
   generalize dE ks ((ws.take k).map λw=>(f,w.1))=H6 at *;apply aq;apply lq;clear lq;refine af λK6 oe=>?_;apply aj;refine aI ⟨[(0,.sl L.length (aN L) .none),(3,uQ),(4,.int .i64 (i:Nat)),(5,.int .i64 (zi:Nat)),(6,.ptr p6 0),(7,.int .i64 (k:Nat))],J1,U⟩ (ag [] [] (by simp) (by simp) (by show nb<=J1.length;omega) fQ g4 (by simp[wA,l61])) ?_;refine Pv L f ws i zi k p6 H6 uQ h0 nb tb J1 U hk gO g3 h61 (by omega) fQ g4 (by omega) _ λe J2 tv2 Q6 hT2 he=>?_;have kK:=FX J2 _ tv2 hT2;obtain⟨G2,Q6⟩:=Q6;have jy:J1.length<=J2.length:=by rw[Q6];simp
   refine oe _ (dy λfj=>?_);refine aI ⟨[(0,.sl L.length (aN L) .none),(3,tv2),(4,.int .i64 (i:Nat)),(5,.int .i64 (zi:Nat)),(6,.ptr p6 0),(7,.int .i64 (k:Nat))],J2,U⟩ (ag [] [] (by simp) (by simp) (by show nb<=J2.length;omega) fQ fj he) ?_;refine aC λK hK=>?_;simp(disch:=omega) ;apply hK;refine⟨(k+1,J2,tv2),⟨by show k+1<=_;omega,⟨G++G2,by rw[Q6,hG,agV]⟩,by simp only;rw[lF];exact hT2,fj⟩,by show ws.length-(k+1)<ws.length-k;omega,?_⟩;refine ag [] [] (by simp) (by simp) (by show nb<=J2.length;omega) fQ fj ?_;simp[kK];omega
  ·simp  at hk;have Jp:k=ws.length:=by omega
   subst Jp;rw[agZ] at g3;apply aG;simp(disch:=omega) ;refine go _ J1 uQ ⟨G,hG⟩ g3 ?_;simp[wA]
attribute [-simp] getD_eq_getElem?_getD in
def EK (L:List Dc)(i:Nat)(hi:i<L.length)(ks:List Ky)(tv:AV)(h0 nb tb:Nat)(J:List aA)(U:au)(Qw:ks.length+(dm (L.getD i d0)).length<=1000000)(y6:(L.getD i d0).zs.length<=9223372036854775807)(Q0:TR h0 J ks tv)
  (gw:nb<=J.length) (fQ:tb<=U.length) (HO:bN J U) (h0J:h0<=J.length) (Q:Exit->St->Prop)
  (go:∀(e:Env)(J':List aA)(yY:AV),(∃G,J'=J++G)->TR h0 J' (dE ks (dm (L.getD i d0))) yY->
   bC J'.length U.length e [(0,.sl L.length (aN L) .none),(3,yY),(4,.int .i64 (i:Nat))]->Q .normal ⟨e,J',U⟩) :
  AW ⟨prog,89,10,nb,tb,[100080,100083]⟩ (dX [1,1,0,1,0,0,1,0,0] (Tryz.f85.body.getD .skip)) Q
   ⟨[(0,.sl L.length (aN L) .none),(3,tv),(4,.int .i64 (i:Nat))],J,U⟩:=by
 conv=>arg 2;whnf
 obtain⟨_,jl,_⟩:=iO L i hi;have FX:∀(J1:List aA)(H6:List Ky)(uQ:AV),TR h0 J1 H6 uQ->Below J1.length U.length uQ:=λJ1 H6 uQ h=>by
  rcases h with⟨_,rfl⟩|⟨i,rest,rfl,_,h3,_⟩
  ·simp
  ·simpa using(agC.1 h3).1
 have FZ:=FX J ks tv Q0;unfold dm at Qw go;generalize (L.getD i d0).zs=zs at *;apply ae;intro K Z;simp(disch:=omega);apply Z;apply aj;refine aJ (X:=Nat×List aA×AV) (λx=>⟨[(0,.sl L.length (aN L) .none),(3,x.2.2),(4,.int .i64 (i:Nat)),(5,.int .i64 (x.1:Nat))],x.2.1,U⟩)
  (λx=>x.1<=zs.length/\(∃G,x.2.1=J++G)/\TR h0 x.2.1 (dE ks ((zs.take x.1).flatMap eZ)) x.2.2/\bN x.2.1 U) (λx=>zs.length-x.1) (0,J,tv) ?_ ?_ ?_
 ·exact⟨agP _,⟨[],by simp⟩,by simpa[dE] using Q0,HO⟩
 ·refine ag [] [] (by simp) (by simp) gw fQ HO ?_;simp[FZ]
 ·rintro⟨k,J1,uQ⟩ ⟨g1,⟨G,hG⟩,g3,g4⟩;simp only at g1 hG g3 g4;have uT:J.length<=J1.length:=by rw[hG];simp
  have wA:=FX J1 _ uQ g3;refine af λK5 lq=>?_;refine ae λK hK=>?_;simp(disch:=omega)[jl,bf,hi];apply hK;refine aU rfl (λhk=>?_) (λhk=>?_)
  ·simp  at hk;have bu:=sQ zs k hk;have lF:dE ks ((zs.take (k+1)).flatMap eZ)=dE (dE ks ((zs.take k).flatMap eZ)) (eZ (zs.getD k z0)):=by
    rw[aV zs k z0 hk,ahk,r4];simp
   have gO:(dE ks ((zs.take k).flatMap eZ)).length+(zs.getD k z0).ws.length<=1000000:=by
    have h1:=mo ((zs.take k).flatMap eZ) ks;have h2:((zs.take k).flatMap eZ).length+(eZ (zs.getD k z0)).length<=(zs.flatMap eZ).length:=by
     have h3:zs.flatMap eZ=(zs.take k).flatMap eZ++(eZ (zs.getD k z0)++(zs.drop (k+1)).flatMap eZ):=by
      conv=>lhs;rw[<-take_append_drop k zs,dM zs k z0 hk,ahk,agT]
     rw[h3];simp
    have h4:(eZ (zs.getD k z0)).length=(zs.getD k z0).ws.length:=by simp[eZ]
    omega
   generalize dE ks ((zs.take k).flatMap eZ)=H6 at *;generalize zs.getD k z0=z at *;obtain⟨f,ws⟩:=z;simp only at bu gO;apply aq;apply lq;clear lq;refine af λK6 oe=>?_;apply aj;refine ae λK hK=>?_;simp(disch:=omega)[jl,bf,hi,bu,fN,hk];apply hK;have eV:bN (J1++[.cells (oN ⟨f,ws⟩)]) U:=g4.snoc (by simp);have hg6:(J1++[aA.cells (oN ⟨f,ws⟩)])[J1.length]?=some (.cells (oN ⟨f,ws⟩)):=by simp
   have hT1:=g3.app [aA.cells (oN ⟨f,ws⟩)];have hlx:(J1++[aA.cells (oN ⟨f,ws⟩)]).length=J1.length+1:=by simp
   have hGx:∃G',J1++[aA.cells (oN ⟨f,ws⟩)]=J++G':=⟨G++[aA.cells (oN ⟨f,ws⟩)],by rw[hG,agV]⟩
   rw[show aA.cells [.int .i64 f,.sl ws.length (dQ ws) .none]=.cells (oN ⟨f,ws⟩) from rfl];obtain⟨p6,hp6⟩:∃p,p=J1.length:=⟨_,rfl⟩
   rw[<-hp6] at hg6;simp only[<-hp6];generalize J1++[aA.cells (oN ⟨f,ws⟩)]=J2 at *;obtain⟨G',Jv⟩:=hGx;have kK:=FX J2 _ uQ hT1;refine aI ⟨[(0,.sl L.length (aN L) .none),(3,uQ),(4,.int .i64 (i:Nat)),(5,.int .i64 (k:Nat)),(6,.ptr p6 0)],J2,U⟩ (ag [] [] (by simp) (by simp) (by show nb<=J2.length;omega) fQ eV (by simp[kK];omega)) ?_;refine ER L f ws i k p6 H6 uQ h0 nb tb J2 U gO hT1 hg6 (by omega) fQ eV (by omega) _ λe J3 UI wC XY he=>?_;have U4:=FX J3 _ UI XY;obtain⟨G3,wC⟩:=wC;have hl3:J2.length<=J3.length:=by rw[wC];simp
   refine oe _ (dy λfj=>?_);refine aI ⟨[(0,.sl L.length (aN L) .none),(3,UI),(4,.int .i64 (i:Nat)),(5,.int .i64 (k:Nat))],J3,U⟩ (ag [] [] (by simp) (by simp) (by show nb<=J3.length;omega) fQ fj he) ?_;refine aC λK hK=>?_;simp(disch:=omega) ;apply hK;refine⟨(k+1,J3,UI),⟨by show k+1<=_;omega,⟨G'++G3,by rw[wC,Jv,agV]⟩,by simp only;rw[lF];exact XY,fj⟩,by show zs.length-(k+1)<zs.length-k;omega,?_⟩;refine ag [] [] (by simp) (by simp) (by show nb<=J3.length;omega) fQ fj ?_;simp[U4]
  ·simp  at hk;have Jp:k=zs.length:=by omega
   subst Jp;rw[agZ] at g3;apply aG;simp(disch:=omega) ;refine go _ J1 uQ ⟨G,hG⟩ g3 ?_;simp[wA]
attribute [-simp] getD_eq_getElem?_getD in
def GO (L:List Dc)(hL:L.length<=1000000)(Qw:(L.flatMap dm).length<=1000000)(hz:∀d∈L,d.zs.length<=1000000)(H:List aA)(T:au)(tg:Tag) :
  ar prog 85 [.sl L.length (aN L) tg] H T (λr H' T'=>(∃G,H'=H++G)/\T'=T/\TR H.length H' (dJ L) r):=by
 refine ar.cF ?_;rw[uD];have FX:∀(J1:List aA)(H6:List Ky)(uQ:AV),TR H.length J1 H6 uQ->Below J1.length T.length uQ:=λJ1 H6 uQ h=>by
  rcases h with⟨_,rfl⟩|⟨i,rest,rfl,_,h3,_⟩
  ·simp
  ·simpa using(agC.1 h3).1
 refine ah 10 [100080,100083] Tryz.ntmps85 Tryz.func85 rfl (λ_ _=>Tryz.call85 _ _) (by simp) (λHO=>?_);apply ae;intro K Z;simp(disch:=omega);apply Z;apply ae;intro K Z;simp(disch:=omega);apply Z;refine af λK1 aP=>?_;apply ae;intro K Z;simp(disch:=omega);apply Z;apply aj;refine aJ (X:=Nat×List aA×AV) (λx=>⟨[(0,.sl L.length (aN L) .none),(3,x.2.2),(4,.int .i64 (x.1:Nat))],x.2.1,T⟩)
  (λx=>x.1<=L.length/\(∃G,x.2.1=H++G)/\TR H.length x.2.1 (dE [] ((L.take x.1).flatMap dm)) x.2.2/\bN x.2.1 T) (λx=>L.length-x.1) (0,H,.sl 0 [] .full) ?_ ?_ ?_
 ·exact⟨agP _,⟨[],by simp⟩,.inl ⟨by simp[dE],rfl⟩,HO⟩
 ·refine ag [] [] (by simp) (by simp) (agE _) (agE _) HO ?_;simp
 ·rintro⟨k,J1,uQ⟩ ⟨g1,⟨G,hG⟩,g3,g4⟩;simp only at g1 hG g3 g4;have uT:H.length<=J1.length:=by rw[hG];simp
  have wA:=FX J1 _ uQ g3;refine af λK5 lq=>?_;apply ae;intro K Z;simp(disch:=omega);apply Z;refine aU rfl (λhk=>?_) (λhk=>?_)
  ·simp  at hk;have lF:dE [] ((L.take (k+1)).flatMap dm)=dE (dE [] ((L.take k).flatMap dm)) (dm (L.getD k d0)):=by
    rw[aV L k d0 hk,ahk,r4];simp
   have gO:(dE [] ((L.take k).flatMap dm)).length+(dm (L.getD k d0)).length<=1000000:=by
    have h1:=mo ((L.take k).flatMap dm) [];have h2:((L.take k).flatMap dm).length+(dm (L.getD k d0)).length<=(L.flatMap dm).length:=by
     have h3:L.flatMap dm=(L.take k).flatMap dm++(dm (L.getD k d0)++(L.drop (k+1)).flatMap dm):=by
      conv=>lhs;rw[<-take_append_drop k L,dM L k d0 hk,ahk,agT]
     rw[h3];simp
    rw[ahV,ahO] at h1;omega
   have hzk:=hz _ (aT L k d0 hk);generalize dE [] ((L.take k).flatMap dm)=H6 at *;apply aq;apply lq;clear lq;refine af λK6 oe=>?_;apply aj;refine aI ⟨[(0,.sl L.length (aN L) .none),(3,uQ),(4,.int .i64 (k:Nat))],J1,T⟩ (ag [] [] (by simp) (by simp) uT (agE _) g4 (by simp[wA])) ?_;refine EK L k hk H6 uQ H.length H.length T.length J1 T gO (by omega) g3 uT (agE _) g4 uT _ λe J3 UI wC XY he=>?_;have U4:=FX J3 _ UI XY;obtain⟨G3,wC⟩:=wC;have hl3:J1.length<=J3.length:=by rw[wC];simp
   refine oe _ (dy λfj=>?_);refine aI ⟨[(0,.sl L.length (aN L) .none),(3,UI),(4,.int .i64 (k:Nat))],J3,T⟩ (ag [] [] (by simp) (by simp) (by show H.length<=J3.length;omega) (agE _) fj he) ?_;refine aC λK hK=>?_;simp(disch:=omega) ;apply hK;refine⟨(k+1,J3,UI),⟨by show k+1<=_;omega,⟨G++G3,by rw[wC,hG,agV]⟩,by simp only;rw[lF];exact XY,fj⟩,by show L.length-(k+1)<L.length-k;omega,?_⟩;refine ag [] [] (by simp) (by simp) (by show H.length<=J3.length;omega) (agE _) fj ?_;simp[U4]
  ·simp  at hk;have Jp:k=L.length:=by omega
   subst Jp;rw[agZ] at g3;apply aG;simp(disch:=omega) ;apply aP;clear aP;apply ae;intro K Z;simp(disch:=omega);apply Z;apply az;simp(disch:=omega) ;exact⟨⟨G,hG⟩,g3⟩
end Go.Proofs.YtoejlmpbebjemaaGreat
namespace eN
open ia Go.Am
def kN (ws:List Wd)(w:Bs):List Int:=(ws.filter λx=>x.1==w).map (·.2)
def KZ (ws:List Wd)(w:Bs)(i:Nat)(h:i<ws.length):kN (ws.take (i+1)) w=kN (ws.take i) w++(if (ws.getD i w0).1=w then [(ws.getD i w0).2] else []):=by
 unfold kN;rw[aV ws i w0 h,aht,agS]
 congr 1
 rw[List.filter_cons]
 by_cases h1:(ws.getD i w0).1=w
 ·rw[agN h1,agN (by simpa using h1)];rfl
 ·rw[agL h1,agL (by simpa using h1)];rfl
def rA (f:Int)(d:Dc):List Nm:=(Cb d.ns f).map λn=>(n,d.id)
def LB (L:List Dc)(f:Int):fE L f=L.flatMap (rA f):=by
 unfold fE rA Cb
 congr 1
 funext d
 rw[ahG];exact ahh λx _=>rfl
end eN
namespace Go.Proofs.YtoejlmpbebjemaaGreat
open Go Go.Am ia eN
attribute [-simp] getD_eq_getElem?_getD in
theorem yT (d:Dc)(hs:oY d)(Mt:∀z∈d.zs,z.ws.length<=1000000)(f:Int)(w:Bs)(H:List aA)(T:au):ar Tryz.prog 86 [.agg (dO d),.int .i64 f,.str w] H T (Is (.sl (kN (o7 d.zs f) w).length (ints (kN (o7 d.zs f) w)) .none) H T):=by
 refine ar.bZ ?_ (by simp);have c:=λH T=>GG d hs Mt f H T;have sa:(o7 d.zs f).length<=1000000:=by
  have key:∀zs:List Zn,(∀z∈zs,z.ws.length<=1000000)->(o7 zs f).length<=1000000:=by
   intro zs
   induction zs with
   |nil=>intro _;simp[o7]
   |cons z r ih=>
    intro h;unfold o7
    split
    ·exact h z (by simp)
    ·exact ih λy hy=>h y (by simp[hy])
  exact key _ Mt
 generalize o7 d.zs f=ws at *;refine ah 10 [] Tryz.ntmps86 Tryz.func86 rfl (λ_ _=>Tryz.call86 _ _) (by simp) (λHO=>?_);apply ae;intro K Z;simp(disch:=omega);apply Z;have eV:bN (H++[.cells (dO d)]) T:=HO.snoc (by simp);apply ae;intro K Z;simp(disch:=omega);apply Z;refine ae λK hK=>?_;simp(disch:=omega) ;refine ak (c _ _) ?_;simp(disch:=omega) ;apply hK;refine af λK1 aP=>?_;apply ae;intro K Z;simp(disch:=omega);apply Z;apply aj;refine mX 7 0 1 [] (by omega) (by simp) ?_;refine aJ (X:=Nat) (λi=>⟨[(2,.str w),(7,.sl (kN (ws.take i) w).length (ints (kN (ws.take i) w)) (.own T.length)),(8,.sl ws.length (dQ ws) .none),(9,.int .i64 (i:Nat))],H++[.cells (dO d)],T++[((kN (ws.take i) w).length,1)]⟩)
  (λi=>i<=ws.length) (λi=>ws.length-i) 0 ?_ ?_ ?_
 ·exact agP _
 ·refine ag [] [] ?_ ?_ ?_ ?_ (eV.ko (by simp)) ?_
  all_goals simp[kN]
 ·intro i g1;refine af λK2 bp=>?_;apply ae;intro K Z;simp(disch:=omega);apply Z;refine aU rfl (λhk=>?_) (λhk=>?_)
  ·simp  at hk;obtain⟨a1,a2⟩:=Bm ws i hk;have iz:=KZ ws w i hk;have Cv:(kN (ws.take i) w).length<=1000000:=by
    unfold kN;rw[agU];exact agJ (ahf _ _) (by rw[ag5];omega)
   generalize kN (ws.take i) w=out at *;generalize ws.getD i w0=x at *;obtain⟨xt,xp⟩:=x;simp only at a1 a2 iz;apply aq;simp(disch:=omega) ;apply bp;clear bp;refine af λK3 bG=>?_;apply aj
   by_cases h1:xt=w
   ·have b1:(xt==w)=true:=by simpa using h1
    rw[agN h1] at iz;refine ae λK hK=>?_;simp(disch:=omega)[a1,a2,gj,hk,b1,h1];apply hK;apply aH rfl;refine aC λK hK=>?_;simp(disch:=omega)[a1,a2,gj,hk,eE];apply hK;apply bG;clear bG;refine aC λK hK=>?_;simp(disch:=omega) ;apply hK;refine⟨i+1,by show i+1<=_;omega,by show ws.length-(i+1)<ws.length-i;omega,?_⟩;refine ag [] [] ?_ ?_ ?_ ?_ (eV.ko (by simp)) ?_
    all_goals simp[iz]
   ·have b1:(xt==w)=false:=by simpa using h1
    rw[agL h1,ag2] at iz;refine ae λK hK=>?_;simp(disch:=omega)[a1,a2,gj,hk,b1,h1];apply hK;apply aF rfl;apply aq;simp(disch:=omega) ;apply bG;clear bG;refine aC λK hK=>?_;simp(disch:=omega) ;apply hK;refine⟨i+1,by show i+1<=_;omega,by show ws.length-(i+1)<ws.length-i;omega,?_⟩;refine ag [] [] ?_ ?_ ?_ ?_ (eV.ko (by simp)) ?_
    all_goals simp[iz]
  ·simp  at hk;have Cg:i=ws.length:=by omega
   subst Cg;rw[agZ];apply aG;simp(disch:=omega) ;apply aP;clear aP;apply ae;intro K Z;simp(disch:=omega);apply Z;apply az;simp(disch:=omega) 
attribute [-simp] getD_eq_getElem?_getD in
theorem HG (L:List Dc)(f:Int)(hL:L.length<=1000000)(hs:∀d∈L,oY d)(hn:∀d∈L,d.ns.length<=1000000)(hi:(fE L f).length<=1000000)(H:List aA)(T:au)(tg:Tag):ar Tryz.prog 87 [.sl L.length (aN L) tg,.int .i64 f] H T (Is (.sl (dx (fE L f)).length (bA (dx (fE L f))) .none) H T):=by
 refine ar.cF ?_;refine ar.bZ ?_ (by simp);rw[LB] at *;refine ah 11 [] Tryz.ntmps87 Tryz.func87 rfl (λ_ _=>Tryz.call87 _ _) (by simp) (λHO=>?_);apply ae;intro K Z;simp(disch:=omega);apply Z;apply ae;intro K Z;simp(disch:=omega);apply Z;refine af λK1 aP=>?_;apply ae;intro K Z;simp(disch:=omega);apply Z;apply aj;refine aJ (X:=Nat) (λk=>⟨[(0,.sl L.length (aN L) .none),(1,.int .i64 f),(5,.sl (dx ((L.take k).flatMap (rA f))).length (bA (dx ((L.take k).flatMap (rA f)))) .none),(6,.int .i64 (k:Nat))],H,T⟩)
  (λk=>k<=L.length) (λk=>L.length-k) 0 ?_ ?_ ?_
 ·exact agP _
 ·refine ag [] [] ?_ ?_ ?_ ?_ HO ?_
  all_goals simp[dx,DN]
 ·intro k h1;refine af λK2 bp=>?_;apply ae;intro K Z;simp(disch:=omega);apply Z;refine aU rfl (λhk=>?_) (λhk=>?_)
  ·simp  at hk;have jl:=(iO L k hk).1;have bu:=fC L k hk;have np:(L.take (k+1)).flatMap (rA f)=(L.take k).flatMap (rA f)++(Cb (L.getD k d0).ns f).map λn=>(n,(L.getD k d0).id):=by rw[aV L k d0 hk,ahk];simp[rA]
   have mN:((L.take k).flatMap (rA f)).length+(Cb (L.getD k d0).ns f).length<=1000000:=by
    have h3:L.flatMap (rA f)=(L.take k).flatMap (rA f)++(rA f (L.getD k d0)++(L.drop (k+1)).flatMap (rA f)):=by
     conv=>lhs;rw[<-take_append_drop k L,dM L k d0 hk,ahk,agT]
    rw[h3,agF,agF] at hi;have h4:(rA f (L.getD k d0)).length=(Cb (L.getD k d0).ns f).length:=by simp[rA]
    omega
   have c0:=λH T=>Lg (L.getD k d0) (hs _ (aT L k d0 hk)) (agJ (hn _ (aT L k d0 hk)) (by omega)) f H T;generalize (L.take k).flatMap (rA f)=pre at *;generalize Cb (L.getD k d0).ns f=nl at *;generalize L.getD k d0=x at *;have eH:(nl.map λn=>(n,x.id)).length=nl.length:=by simp
   have hig:∀m,m<nl.length->(nl.map λn=>(n,x.id)).getD m n0=(nl.getD m 0,x.id):=λm hm=>by
    rw[agB,ahJ,agB,agD hm];rfl
   generalize nl.map (λn=>(n,x.id))=il at *;apply aq;simp(disch:=omega) ;apply bp;clear bp;refine af λK3 bG=>?_;apply aj;refine ae λK hK=>?_;simp(disch:=omega)[bu,bf,hk];refine ak (c0 _ _) ?_;simp(disch:=omega) ;apply hK;apply ae;intro K Z;simp(disch:=omega);apply Z;apply aj;refine aJ (X:=Nat) (λm=>⟨[(0,.sl L.length (aN L) .none),(1,.int .i64 f),(5,.sl (dx (pre++il.take m)).length (bA (dx (pre++il.take m))) .none),(6,.int .i64 (k:Nat)),(7,.sl nl.length (ints nl) .none),(8,.int .i64 (m:Nat))],H,T⟩)
    (λm=>m<=nl.length) (λm=>nl.length-m) 0 ?_ ?_ ?_
   ·exact agP _
   ·refine ag [] [] ?_ ?_ ?_ ?_ HO ?_
    all_goals simp
   ·intro m Qu;refine af λK4 lG=>?_;apply ae;intro K Z;simp(disch:=omega);apply Z;refine aU rfl (λhm=>?_) (λhm=>?_)
    ·simp  at hm;have aef:=bM hm;have VA:pre++il.take (m+1)=(pre++il.take m)++[(nl.getD m 0,x.id)]:=by rw[aV il m n0 (by omega),hig m hm,agV]
     have agt:(dx (pre++il.take m)).length<=1000000:=by rw[(eM _).length_eq,agF,ag5];omega
     generalize pre++il.take m=pm at *;have Vz:dx (pre++il.take (m+1))=nA (nl.getD m 0,x.id) (dx pm):=by rw[VA];exact Fg _ _
     generalize dx pm=d at *;generalize nl.getD m 0=nv at *;apply aq;simp(disch:=omega) ;apply lG;clear lG;refine af λK4 lG=>?_;apply aj;refine aK [10,11] [0,0,0,0,0,0,0,0,0,0,0,1] [[0,1,2,3,4,5,6,7,8,9],[]] aw (by kernel_rfl) (by kernel_rfl) λK hK=>?_;simp(disch:=omega)[aef,jl,fy,bf,hk,hm];apply hK;have Rh:bN (H++[.cells (y4 (nv,x.id))]) T:=HO.snoc (by simp);rw[show aA.cells [.int .i64 nv,.int .i64 x.id]=.cells (y4 (nv,x.id)) from rfl];apply ae;intro K Z;simp(disch:=omega);apply Z;refine af λK5 lq=>?_;apply aj;refine aJ (X:=Nat) (λn=>⟨[(0,.sl L.length (aN L) .none),(1,.int .i64 f),(5,.sl d.length (bA d) .none),(6,.int .i64 (k:Nat)),(7,.sl nl.length (ints nl) .none),(8,.int .i64 (m:Nat)),(9,.ptr H.length 0),(10,.int .i64 (n:Nat))],H++[.cells (y4 (nv,x.id))],T⟩)
      (λn=>n<=d.length/\∀j,j<n->dh (d.getD j n0) (nv,x.id)=true) (λn=>d.length-n) 0 ?_ ?_ ?_
     ·exact⟨agP _,λj hj=>absurd hj (ag9 _)⟩
     ·refine ag [] [] ?_ ?_ ?_ ?_ Rh ?_
      all_goals simp
     ·rintro n ⟨AP,Cf⟩;have go:(n<d.length->dh (d.getD n n0) (nv,x.id)=false)->∀e,bC (H.length+1) T.length e [(0,.sl L.length (aN L) .none),(1,.int .i64 f),(5,.sl d.length (bA d) .none),(6,.int .i64 (k:Nat)),(7,.sl nl.length (ints nl) .none),(8,.int .i64 (m:Nat)),(9,.ptr H.length 0),(10,.int .i64 (n:Nat))]->
        K5 ⟨e,H++[.cells (y4 (nv,x.id))],T⟩:=by
       intro zd e he;have CK:=IW (nv,x.id) d n AP Cf zd;refine lq _ (aI ⟨[(0,.sl L.length (aN L) .none),(1,.int .i64 f),(5,.sl d.length (bA d) .none),(6,.int .i64 (k:Nat)),(7,.sl nl.length (ints nl) .none),(8,.int .i64 (m:Nat)),(9,.ptr H.length 0),(10,.int .i64 (n:Nat))],H++[.cells (y4 (nv,x.id))],T⟩ (ag [] [] (by simp) (by simp) (by simp) (by simp) Rh (by simpa using he)) ?_);have ht:=Sz d n;have qc:=Lj d n;have aZ:(bA (d.take n)).length=n*2:=by rw[cL,ag5];omega
       have XN:(bA (d.drop n)).length=(d.length-n)*2:=by rw[cL,ahp]
       have iz:(bA (d.drop n)).take ((d.length-n)*2)=bA (d.drop n):=by rw[<-XN,agZ]
       have yI:bA (d.take n)++.int .i64 nv::.int .i64 x.id::bA (d.drop n)=bA (nA (nv,x.id) d):=by rw[CK];simp[bA]
       have hlen:n+1+(d.length-n)=(nA (nv,x.id) d).length:=by rw[CK];simp;omega
       refine cT [4,7,11] [0,0,0,0,0,0,0,1,0,0,0,2,3] [[],[],[]] aw (by kernel_rfl) (by kernel_rfl) λK hK=>?_;simp(disch:=omega)[dj,cL,ht,qc,aZ,XN,iz];rw[yI,hlen];apply hK;apply lG;clear lG;refine aC λK hK=>?_;simp(disch:=omega) ;apply hK;refine⟨m+1,by show m+1<=_;omega,by show nl.length-(m+1)<nl.length-m;omega,?_⟩;simp only[Vz];refine ag [.cells (y4 (nv,x.id))] [((nA (nv,x.id) d).length*2,2)] ?_ ?_ ?_ ?_ HO ?_
       all_goals simp
      clear lq;refine af λK6 oe=>?_
      by_cases zd:n<d.length
      ·have Uk:=gV d n zd;have gA:dh (d.getD n n0) (nv,x.id)=true->∀j,j<n+1->dh (d.getD j n0) (nv,x.id)=true:=λh j hj=>by
        rcases agM j n with h3|h3
        ·exact Cf j h3
        ·have:j=n:=by omega
         subst this;exact h
       have c:=Ff (d.getD n n0) (nv,x.id) (H++[.cells (y4 (nv,x.id))]) T;generalize d.getD n n0=y at *;have b4:decide ((n:Int)<d.length)=true:=agH (by omega)
       cases ha:dh y (nv,x.id) with
       |true=>
        rw[ha] at c;refine aK [] [] [] aw (by kernel_rfl) (by kernel_rfl) λK hK=>?_;simp(disch:=omega)[b4,zd,Uk,cL];refine aD (c) rfl ?_;simp(disch:=omega) ;apply hK;apply aH rfl;apply aq;simp(disch:=omega) ;apply oe;clear oe;apply aj;refine aC λK hK=>?_;simp(disch:=omega) ;apply hK;refine⟨n+1,⟨by show n+1<=_;omega,gA ha⟩,by show d.length-(n+1)<d.length-n;omega,?_⟩;refine ag [] [] ?_ ?_ ?_ ?_ Rh ?_
        all_goals simp
       |false=>
        rw[ha] at c;refine aK [] [] [] aw (by kernel_rfl) (by kernel_rfl) λK hK=>?_;simp(disch:=omega)[b4,zd,Uk,cL];refine aD (c) rfl ?_;simp(disch:=omega) ;apply hK;apply aF rfl;apply aG;simp(disch:=omega) ;refine go (λ_=>ha) _ ?_;simp
      ·have b4:decide ((n:Int)<d.length)=false:=agI (by omega);refine aK [] [] [] aw (by kernel_rfl) (by kernel_rfl) λK hK=>?_;simp(disch:=omega)[b4,zd];apply hK;apply aF rfl;apply aG;simp(disch:=omega) ;refine go (λh=>absurd h zd) _ ?_;simp
    ·simp  at hm;have e:m=nl.length:=by omega
     subst e;rw[show il.take nl.length=il by rw[<-eH,agZ],<-np];apply aG;simp(disch:=omega) ;apply bG;clear bG;refine aC λK hK=>?_;simp(disch:=omega) ;apply hK;refine⟨k+1,by show k+1<=_;omega,by show L.length-(k+1)<L.length-k;omega,?_⟩;refine ag [] [] ?_ ?_ ?_ ?_ HO ?_
     all_goals simp
  ·simp  at hk;have e:k=L.length:=by omega
   subst e;rw[agZ];apply aG;simp(disch:=omega) ;apply aP;clear aP;apply ae;intro K Z;simp(disch:=omega);apply Z;apply az;simp(disch:=omega) 
end Go.Proofs.YtoejlmpbebjemaaGreat
namespace eN
open ia Go.Am Go.Proofs.YtoejlmpbebjemaaGreat
structure Rw where
 k:Ky
 pl:List Ps
 tg:Tag
abbrev rwC (r:Rw):List AV:=[.int .i64 r.k.1,.str r.k.2,.sl r.pl.length (bD r.pl) r.tg]
def my (l:List Rw):List AV:=l.flatMap rwC
def ID:ep rwC 3:=λ_=>rfl
def pK (l:List Rw):(my l).length=l.length*3:=bY ID l
def xk (R1 R2:List Rw)(r:Rw)(rest:List AV):my (R1++r::R2)++rest=my R1++(.int .i64 r.k.1::.str r.k.2::.sl r.pl.length (bD r.pl) r.tg::(my R2++rest)):=by simp[my]
def Y8 (R1 R2:List Rw)(r:Rw)(rest:List AV):(my (R1++r::R2)++rest).getD (R1.length*3) .top=.int .i64 r.k.1/\(my (R1++r::R2)++rest).getD (R1.length*3+1) .top=.str r.k.2/\(my (R1++r::R2)++rest).getD (R1.length*3+2) .top=.sl r.pl.length (bD r.pl) r.tg:=by
 rw[xk];have h:=pK R1;have key:∀(j:Nat)(X:List AV),(my R1++X).getD (R1.length*3+j) .top=X.getD j .top:=λj X=>by
  rw[agB,agX (by omega),agB];congr 2;omega
 exact⟨key 0 _,key 1 _,key 2 _⟩
def V4 (R1 R2:List Rw)(r:Rw)(rest:List AV)(pl:List Ps)(tg:Tag):(my (R1++r::R2)++rest).set (R1.length*3+2) (.sl pl.length (bD pl) tg)=my (R1++⟨r.k,pl,tg⟩::R2)++rest:=by
 rw[xk,xk,aib _ _ (by rw[pK];omega),pK]
 congr 1
 rw[show R1.length*3+2-R1.length*3=2 by omega];rfl
def F7 (r:Rw):List (Nat×(Nat×Nat)):=match r.tg with
 |.own tk=>[(tk,(r.pl.length*2,2))]
 |_=>[]
def jh (R:List Rw):List (Nat×(Nat×Nat)):=R.flatMap F7
def VP (r:Rw):Prop:=(r.tg=.full/\r.pl=[])\/∃tk,r.tg=.own tk
def A1 (d:Dc)(k:Ky):List Int:=kN (o7 d.zs k.1) k.2
def ry (d:Dc)(k:Ky):List Ps:=if A1 d k=[] then [] else [(d.id,A1 d k)]
end eN
namespace Go.Proofs.YtoejlmpbebjemaaGreat
open Go Go.Am ia eN
attribute [-simp] getD_eq_getElem?_getD in
theorem O1 (L:List Dc)(i:Nat)(hi:i<L.length)(hs:oY (L.getD i d0))(Mt:∀z∈(L.getD i d0).zs,z.ws.length<=1000000)(R1 R2:List Rw)(r:Rw)(hr:VP r)(zb:r.pl.length<=1000000)(H:List aA)(T:au)(nb tb b2 b6 td tc it n:Nat)(hn:n=R1.length+1+R2.length)
  (dv cv:AV) (B0:aA) (rest:List AV) (J:List aA) (U:au) (RU:List (Nat×(Nat×Nat))) (gw:nb<=J.length) (fQ:tb<=U.length) (zg:H.length<=it)
  (hJ:Has J ((b2,B0)::(b6,.cells [dv,.cN it 0 n,cv])::[(it,.cells (my (R1++r::R2)++rest))])) (hU:Has U (RU++jh (R1++r::R2))) (MA:gG H J) (FI:gG T U) (htT:∀tk,r.tg=.own tk->T.length<=tk) (HO:bN J U) (Q:Exit->St->Prop)
  (go:∀(e:Env)(J':List aA)(U':au)(r':Rw),r'.k=r.k->r'.pl=r.pl++ry (L.getD i d0) r.k->VP r'->(∀tk,r'.tg=.own tk->T.length<=tk)->Has J' ((b2,B0)::(b6,.cells [dv,.cN it 0 n,cv])::[(it,.cells (my (R1++r'::R2)++rest))])->
   Has U' (RU++jh (R1++r'::R2))->gG H J'->gG T U'->J'.length=J.length->U.length<=U'.length->bC J'.length U'.length e [(0,.sl L.length (aN L) .none),(2,.ptr b2 0),(6,.ptr b6 0),(7,.int .i64 (i:Nat)),(8,.int .i64 (R1.length:Nat))]->Q .normal ⟨e,J',U'⟩) :
  AW ⟨Tryz.prog,135,12,nb,tb,[]⟩ (dX [1,1,1,1,1,1,0,1,0,0,1,0,0,1,1,0,0,1,0,0] (Tryz.f36.body.getD .skip)) Q
   ⟨[(0,.sl L.length (aN L) .none),(2,.ptr b2 0),(6,.ptr b6 0),(7,.int .i64 (i:Nat)),(8,.int .i64 (R1.length:Nat))],J,U⟩:=by
 conv=>arg 2;whnf
 have bu:=fC L i hi;have FG:=(iO L i hi).1;have c:=yT (L.getD i d0) hs Mt r.k.1 r.k.2 J U;have UP:ry (L.getD i d0) r.k=if A1 (L.getD i d0) r.k=[] then [] else [((L.getD i d0).id,A1 (L.getD i d0) r.k)]:=rfl
 rw[show kN (o7 (L.getD i d0).zs r.k.1) r.k.2=A1 (L.getD i d0) r.k from rfl] at c;have agk:(A1 (L.getD i d0) r.k).length<=1000000:=by
  unfold A1 kN;rw[agU];refine agJ (ahf _ _) ?_;have key:∀zs:List Zn,(∀z∈zs,z.ws.length<=1000000)->(o7 zs r.k.1).length<=1000000:=by
   intro zs
   induction zs with
   |nil=>intro _;simp[o7]
   |cons z q ih=>
    intro h;unfold o7
    split
    ·exact h z (by simp)
    ·exact ih λy hy=>h y (by simp[hy])
  exact key _ Mt
 generalize A1 (L.getD i d0) r.k=ps at *;generalize ry (L.getD i d0) r.k=pr at *;generalize L.getD i d0=d at *;have g6:=hJ.get (i:=b6) (b:=.cells [dv,.cN it 0 n,cv]) (by simp);have git:=hJ.get (i:=it) (b:=.cells (my (R1++r::R2)++rest)) (by simp);have l2:=hJ.lt (i:=b2) (b:=B0) (by simp);have e6:=aX g6;have eit:=aX git;have l6:=(agC.1 g6).1;have lit:=(agC.1 git).1;obtain⟨v0,v1,v2⟩:=Y8 R1 R2 r rest;have Yn:=V4 R1 R2 r rest;have agb:R1.length*3+3<=(my (R1++r::R2)++rest).length:=by rw[agF,pK];simp;omega
 have tL:R1.length<n:=by omega
 generalize Mv:my (R1++r::R2)++rest=vs at *;have d0':R1.length*3<vs.length:=by omega
 have d1':R1.length*3+1<vs.length:=by omega
 have d2':R1.length*3+2<vs.length:=by omega
 have e1:R1.length*3+1=1+R1.length*3:=by omega
 refine aK [] [] [] aw (by kernel_rfl) (by kernel_rfl) λK hK=>?_;simp(disch:=omega)[e6,l6,eit,lit,bu,bf,hi,tL,v0,v1,d0',d1'];refine aD (c) rfl ?_;simp(disch:=omega) ;apply hK;refine aI ⟨[(0,.sl L.length (aN L) .none),(2,.ptr b2 0),(6,.ptr b6 0),(7,.int .i64 (i:Nat)),(8,.int .i64 (R1.length:Nat)),(9,.sl ps.length (ints ps) .none)],J,U⟩ (ag [] [] (by simp) (by simp) gw fQ HO (by simp[l2,l6])) ?_
 by_cases tI:ps=[]
 ·subst tI;apply ae;intro K Z;simp(disch:=omega);apply Z;apply aF rfl;apply aq;refine go _ J U r rfl (by rw[UP,agN rfl,ag2]) hr htT (by rw[Mv];exact hJ) hU MA FI rfl (agE _) ?_;simp[l2,l6]
 have ad8:0<ps.length:=by
  rcases ahc ps.length with h|h
  ·exact absurd (aho.1 h) tI
  ·exact h
 have b1:decide ((0:Int)<(ps.length:Int))=true:=agH (by omega);rw[agL tI] at UP;refine ae λK hK=>?_;simp(disch:=omega)[b1,ad8];apply hK;apply aH rfl;rcases hr with⟨yv,oO⟩|⟨tk,yv⟩
 ·rw[yv,oO] at v2;have Xq:=Yn [(d.id,ps)] (.own U.length);rw[show bD [(d.id,ps)]=[.int .i64 d.id,.sl ps.length (ints ps) .none] from rfl,show [(d.id,ps)].length=1 from rfl] at Xq;refine cT [17,20] [0,0,0,0,0,0,0,0,0,0,0,0,0,0,0,0,0,0,1,1,1] [[0,1,2],[]] aw (by kernel_rfl) (by kernel_rfl) λK hK=>?_;simp(disch:=omega)[e6,l6,eit,lit,FG,bf,hi,tL,v2,d2',sX];rw[Xq];have iQ:=Has.set (A:=[(b2,B0),(b6,.cells [dv,.cN it 0 n,cv])]) (B:=[]) (b:=.cells vs) hJ (.cells (my (R1++⟨r.k,[(d.id,ps)],.own U.length⟩::R2)++rest));have Ck:Has (U++[(2,2)]) (RU++jh (R1++⟨r.k,[(d.id,ps)],.own U.length⟩::R2)):=by
   refine(hU.new (2,2)).perm ?_;have h1:jh (R1++⟨r.k,[(d.id,ps)],.own U.length⟩::R2)=jh R1++(U.length,(2,2))::jh R2:=by simp[jh,F7]
   have h2:jh (R1++r::R2)=jh R1++jh R2:=by simp[jh,F7,yv]
   rw[h1,h2];have h3:RU++(jh R1++(U.length,(2,2))::jh R2)=(RU++jh R1)++(U.length,(2,2))::jh R2:=by simp
   rw[h3];refine aiX.trans ?_;refine(ahr _ _).symm.trans ?_;simp
  have hpU:=FI.le;refine hK _ ?_;refine go _ _ _ ⟨r.k,[(d.id,ps)],.own U.length⟩ rfl (by rw[oO,UP];rfl) (.inr ⟨_,rfl⟩) (λtk h=>by injection h with h;omega) iQ Ck (MA.set zg _) (FI.app _) (by simp) (by simp) ?_;simp[l2,l6]
 ·have gU:=hU.get (i:=tk) (b:=(r.pl.length*2,2)) (by simp[jh,F7,yv]);have eU:=aX gU;have lU:=(agC.1 gU).1;rw[yv] at v2;have Xq:=Yn (r.pl++[(d.id,ps)]) (.own tk);rw[show bD (r.pl++[(d.id,ps)])=bD r.pl++[.int .i64 d.id,.sl ps.length (ints ps) .none] by simp[bD],show (r.pl++[(d.id,ps)]).length=r.pl.length+1 by simp] at Xq;refine cT [17,20] [0,0,0,0,0,0,0,0,0,0,0,0,0,0,0,0,0,0,1,1,1] [[0,1,2],[]] aw (by kernel_rfl) (by kernel_rfl) λK hK=>?_;simp(disch:=omega)[e6,l6,eit,lit,FG,bf,hi,tL,v2,d2',bB,eU,lU];rw[Xq];have iQ:=Has.set (A:=[(b2,B0),(b6,.cells [dv,.cN it 0 n,cv])]) (B:=[]) (b:=.cells vs) hJ (.cells (my (R1++⟨r.k,r.pl++[(d.id,ps)],.own tk⟩::R2)++rest));have Ck:Has (U.set tk ((r.pl.length+1)*2,2)) (RU++jh (R1++⟨r.k,r.pl++[(d.id,ps)],.own tk⟩::R2)):=by
   have h1:RU++jh (R1++⟨r.k,r.pl++[(d.id,ps)],.own tk⟩::R2)=(RU++jh R1)++(tk,((r.pl.length+1)*2,2))::jh R2:=by simp[jh,F7]
   have h2:RU++jh (R1++r::R2)=(RU++jh R1)++(tk,(r.pl.length*2,2))::jh R2:=by simp[jh,F7,yv]
   rw[h1];rw[h2] at hU;exact hU.set _
  have iz:=htT tk yv;refine hK _ ?_;refine go _ _ _ ⟨r.k,r.pl++[(d.id,ps)],.own tk⟩ rfl (by rw[UP]) (.inr ⟨_,rfl⟩) (λFB h=>by injection h with h;omega) iQ Ck (MA.set zg _) (FI.set iz _) (by simp) (by simp) ?_;simp[l2,l6]
end Go.Proofs.YtoejlmpbebjemaaGreat
namespace eN
open ia Go.Am Go.Proofs.YtoejlmpbebjemaaGreat
def Tb (h0:Nat)(R:List Rw)(tv:AV)(TB:List (Nat×aA)):Prop:=(R=[]/\tv=.sl 0 [] .none/\TB=[])\/∃it rest,tv=.cN it 0 R.length/\TB=[(it,.cells (my R++rest))]/\h0<=it
structure RI (H:List aA)(T:au)(b2 b6:Nat)(RU:List (Nat×(Nat×Nat)))(dv tv cv:AV)(B0:aA)(R:List Rw)(J:List aA)(U:au):Prop where
 hJ:∃TB,Tb H.length R tv TB/\Has J ((b2,B0)::(b6,.cells [dv,tv,cv])::TB)
 hU:Has U (RU++jh R)
 hr:∀r∈R,VP r/\∀tk,r.tg=.own tk->T.length<=tk
 pJ:gG H J
 pU:gG T U
abbrev rw0:Rw:=⟨k0,[],.full⟩
def kp (R:List Rw):List (Ky×List Ps):=R.map λr=>(r.k,r.pl)
def zu (d:Dc)(x:Ky×List Ps):Ky×List Ps:=(x.1,x.2++ry d x.1)
def ub (R:List Rw):(kp R).length=R.length:=by simp[kp]
def fW (L:List Dc)(c:Nat):List Cl:=(List.range c).flatMap fun(c:Nat)=>nC L (5+(c:Int))
def n9 (L:List Dc)(c:Nat):fW L (c+1)=fW L c++nC L (5+(c:Int)):=by unfold fW;rw[ajb,ahk];simp
theorem xI (L:List Dc):∀c,(fW L c).length<=c
 |0=>by simp[fW]
 |c+1=>by
  have:=xI L c;have h2:(nC L (5+(c:Int))).length<=1:=by unfold nC;split<;>simp
  rw[n9,agF];omega
end eN
namespace Go.Proofs.YtoejlmpbebjemaaGreat
open Go Go.Am ia eN
attribute [-simp] getD_eq_getElem?_getD in
def KU (L:List Dc)(i:Nat)(hi:i<L.length)(hs:oY (L.getD i d0))(Mt:∀z∈(L.getD i d0).zs,z.ws.length<=1000000)(H:List aA)(T:au)(nb tb b2 b6 td tc:Nat)(dv tv cv:AV)(B0:aA)(RU:List (Nat×(Nat×Nat)))(R:List Rw)(J:List aA)(U:au)(gw:nb<=J.length)(fQ:tb<=U.length)
  (Ju:RI H T b2 b6 RU dv tv cv B0 R J U) (zb:∀x∈kp R,x.2.length<=1000000) (hRl:R.length<=1000000) (HO:bN J U) (Q:Exit->St->Prop)
  (go:∀(e:Env)(J':List aA)(U':au)(R':List Rw),RI H T b2 b6 RU dv tv cv B0 R' J' U'->kp R'=(kp R).map (zu (L.getD i d0))->J'.length=J.length->U.length<=U'.length->
   bC J'.length U'.length e [(0,.sl L.length (aN L) .none),(2,.ptr b2 0),(6,.ptr b6 0),(7,.int .i64 (i:Nat))]->Q .normal ⟨e,J',U'⟩) :
  AW ⟨Tryz.prog,135,12,nb,tb,[]⟩ (dX [1,1,1,1,1,1,0,1,0,0,1,0,0,1] (Tryz.f36.body.getD .skip)) Q
   ⟨[(0,.sl L.length (aN L) .none),(2,.ptr b2 0),(6,.ptr b6 0),(7,.int .i64 (i:Nat))],J,U⟩:=by
 conv=>arg 2;whnf
 have hb:∀{R' J' U'},RI H T b2 b6 RU dv tv cv B0 R' J' U'->b2<J'.length/\b6<J'.length:=λh=>by
  obtain⟨TB,_,h2⟩:=h.hJ;exact⟨h2.lt (b:=B0) (by simp),h2.lt (b:=.cells [dv,tv,cv]) (by simp)⟩
 obtain⟨m2,m6⟩:=hb Ju;apply ae;intro K Z;simp(disch:=omega);apply Z;apply aj;refine aJ (X:=Nat×List aA×au×List Rw) (λx=>⟨[(0,.sl L.length (aN L) .none),(2,.ptr b2 0),(6,.ptr b6 0),(7,.int .i64 (i:Nat)),(8,.int .i64 (x.1:Nat))],x.2.1,x.2.2.1⟩)
  (λx=>x.1<=R.length/\RI H T b2 b6 RU dv tv cv B0 x.2.2.2 x.2.1 x.2.2.1/\kp x.2.2.2=((kp R).take x.1).map (zu (L.getD i d0))++(kp R).drop x.1/\x.2.1.length=J.length/\U.length<=x.2.2.1.length/\bN x.2.1 x.2.2.1) (λx=>R.length-x.1) (0,J,U,R) ?_ ?_ ?_
 ·exact⟨agP _,Ju,by simp,rfl,agE _,HO⟩
 ·refine ag [] [] (by simp) (by simp) gw fQ HO ?_;simp[m2,m6]
 ·rintro⟨kk,J1,U1,R3⟩ ⟨g1,g2,g3,g4,g5,g6⟩;simp only at g1 g2 g3 g4 g5 g6;obtain⟨n2,n6⟩:=hb g2;have hlen:R3.length=R.length:=by
   have:=congrArg List.length g3;rw[ub,agF,agU,ag5,ahp,ub] at this;omega
  obtain⟨TB,U5,QC⟩:=g2.hJ;have e6:=aX (QC.get (i:=b6) (b:=.cells [dv,tv,cv]) (by simp));refine af λK5 lq=>?_;rcases U5 with⟨h1,MN,_⟩|⟨it,rest,MN,aeK,zg⟩
  ·subst MN;have hR0:R.length=0:=by rw[<-hlen,h1];rfl
   have MS:kk=0:=by omega
   subst MS;refine ae λK hK=>?_;simp(disch:=omega)[e6,n6];apply hK;apply aF rfl;apply aG;simp(disch:=omega) ;refine go _ J1 U1 R3 g2 (by rw[h1,aho.1 hR0];rfl) g4 g5 ?_;simp[n2,n6]
  ·rw[hlen] at MN;subst MN;subst aeK;refine ae λK hK=>?_;simp(disch:=omega)[e6,n6];apply hK;refine aU rfl (λhk=>?_) (λhk=>?_)
   ·simp  at hk;obtain⟨R1,r,R2,hR3,hR1⟩:∃R1 r R2,R3=R1++r::R2/\R1.length=kk:=⟨R3.take kk,R3.getD kk rw0,R3.drop (kk+1),by rw[<-dM R3 kk rw0 (by omega),ag7],by rw[ag5];omega⟩
    subst hR1;subst hR3;have gO:R1.length<(kp R).length:=by rw[ub];exact hk
    have FQ:kp R1++(r.k,r.pl)::kp R2=((kp R).take R1.length).map (zu (L.getD i d0))++(kp R).drop R1.length:=by rw[<-g3];simp[kp]
    obtain⟨hA,hB⟩:=List.append_inj FQ (by rw[ub,agU,ag5];omega);rw[dM (kp R) R1.length (k0,[]) gO] at hB;obtain⟨hx,FJ⟩:=List.cons.inj hB;have fK:(r.k,r.pl)∈kp R:=by rw[hx];exact aT (kp R) R1.length (k0,[]) gO
    have hn:R.length=R1.length+1+R2.length:=by rw[<-hlen];simp;omega
    obtain⟨yv,oO⟩:=g2.hr r (by simp);apply aq;apply lq;clear lq;refine af λK6 oe=>?_;apply aj;refine aI ⟨[(0,.sl L.length (aN L) .none),(2,.ptr b2 0),(6,.ptr b6 0),(7,.int .i64 (i:Nat)),(8,.int .i64 (R1.length:Nat))],J1,U1⟩ (ag [] [] (by simp) (by simp) (by show nb<=J1.length;omega) (by show tb<=U1.length;omega) g6 (by simp[n2,n6])) ?_;refine O1 L i hi hs Mt R1 R2 r yv (zb _ fK) H T nb tb b2 b6 td tc it R.length hn dv cv B0 rest J1 U1 RU (by omega) (by omega) zg QC g2.hU g2.pJ g2.pU oO g6 _ λe J2 U2 r' q1 q2 q3 q4 q5 q6 q7 q8 q9 q10 he=>?_;have p2:b2<J2.length:=by omega
    have p6:b6<J2.length:=by omega
    refine oe _ (dy λfj=>?_);refine aI ⟨[(0,.sl L.length (aN L) .none),(2,.ptr b2 0),(6,.ptr b6 0),(7,.int .i64 (i:Nat)),(8,.int .i64 (R1.length:Nat))],J2,U2⟩ (ag [] [] (by simp) (by simp) (by show nb<=J2.length;omega) (by show tb<=U2.length;omega) fj he) ?_;refine aC λK hK=>?_;simp(disch:=omega) ;apply hK;have Zv:R.length=(R1++r'::R2).length:=by rw[hn];simp;omega
    refine⟨(R1.length+1,J2,U2,R1++r'::R2),⟨by show R1.length+1<=_;omega,⟨⟨_,.inr ⟨it,rest,by rw[<-Zv],rfl,zg⟩,q5⟩,q6,λx Cc=>?_,q7,q8⟩,?_,by show J2.length=_;omega,by show _<=U2.length;omega,fj⟩,by show R.length-(R1.length+1)<R.length-R1.length;omega,?_⟩
    ·rcases agR.1 Cc with Cc|Cc
     ·exact g2.hr x (by simp[Cc])
     ·rcases ag6.1 Cc with rfl|Cc
      ·exact⟨q3,q4⟩
      ·exact g2.hr x (by simp[Cc])
    ·show kp (R1++r'::R2)=((kp R).take (R1.length+1)).map (zu (L.getD i d0))++(kp R).drop (R1.length+1);rw[aV (kp R) R1.length (k0,[]) gO,agS,<-hA,<-FJ,<-hx];simp[kp,zu,q1,q2]
    ·refine ag [] [] (by simp) (by simp) (by show nb<=J2.length;omega) (by show tb<=U2.length;omega) fj ?_;simp[p2,p6]
   ·simp  at hk;have Jp:kk=R.length:=by omega
    subst Jp;apply aG;simp(disch:=omega) ;refine go _ J1 U1 R3 g2 ?_ g4 g5 ?_
    ·rw[g3,<-ub R,agZ,ahH,ag2]
    ·simp[n2,n6]
end Go.Proofs.YtoejlmpbebjemaaGreat
namespace eN
open ia Go.Am Go.Proofs.YtoejlmpbebjemaaGreat
theorem xl (k:Ky):∀l:List Dc,(l.flatMap λd=>ry d k).length<=l.length
 |[]=>by simp
 |d::l=>by
  have:=xl k l;have h2:(ry d k).length<=1:=by unfold ry;split<;>simp
  rw[agT,agF,ahd];omega
end eN
namespace Go.Proofs.YtoejlmpbebjemaaGreat
open Go Go.Am ia eN
attribute [-simp] getD_eq_getElem?_getD in
def HC (L:List Dc)(hL:L.length<=1000000)(hs:∀d∈L,oY d)(Mt:∀d∈L,∀z∈d.zs,z.ws.length<=1000000)(H:List aA)(T:au)(nb tb b2 b6 td tc:Nat)(tv cv:AV)(B0:aA)(ks:List Ky)(R:List Rw)(J:List aA)(U:au)(gw:nb<=J.length)(fQ:tb<=U.length)
  (Ju:RI H T b2 b6 [(td,(0,1)),(tc,(0,2))] (.sl 0 [] (.own td)) tv cv B0 R J U) (MS:kp R=ks.map λk=>(k,[])) (gO:ks.length<=1000000) (FH:H.length<=b6) (MO:T.length<=td) (HO:bN J U) (Q:Exit->St->Prop)
  (go:∀(e:Env)(J':List aA)(U':au)(R':List Rw),RI H T b2 b6 [(td,(L.length,1)),(tc,(0,2))] (.sl L.length (ints (L.map (·.id))) (.own td)) tv cv B0 R' J' U'->kp R'=ks.map (λk=>(k,L.flatMap λd=>ry d k))->J'.length=J.length->U.length<=U'.length->
   bC J'.length U'.length e [(0,.sl L.length (aN L) .none),(2,.ptr b2 0),(6,.ptr b6 0)]->Q .normal ⟨e,J',U'⟩) :
  AW ⟨Tryz.prog,135,12,nb,tb,[]⟩ (dX [1,1,1,1,1,1,0] (Tryz.f36.body.getD .skip)) Q
   ⟨[(0,.sl L.length (aN L) .none),(2,.ptr b2 0),(6,.ptr b6 0)],J,U⟩:=by
 conv=>arg 2;whnf
 have hb:∀{RU dv R' J' U'},RI H T b2 b6 RU dv tv cv B0 R' J' U'->b2<J'.length/\b6<J'.length:=λ{RU dv R' J' U'} h=>by
  obtain⟨TB,_,h2⟩:=h.hJ;exact⟨h2.lt (b:=B0) (by simp),h2.lt (b:=.cells [dv,tv,cv]) (by simp)⟩
 obtain⟨m2,m6⟩:=hb Ju;apply ae;intro K Z;simp(disch:=omega);apply Z;apply aj;refine aJ (X:=Nat×List aA×au×List Rw) (λx=>⟨[(0,.sl L.length (aN L) .none),(2,.ptr b2 0),(6,.ptr b6 0),(7,.int .i64 (x.1:Nat))],x.2.1,x.2.2.1⟩)
  (λx=>x.1<=L.length/\RI H T b2 b6 [(td,(x.1,1)),(tc,(0,2))] (.sl x.1 (ints ((L.take x.1).map (·.id))) (.own td)) tv cv B0 x.2.2.2 x.2.1 x.2.2.1/\kp x.2.2.2=ks.map (λk=>(k,(L.take x.1).flatMap λd=>ry d k))/\x.2.1.length=J.length/\U.length<=x.2.2.1.length/\bN x.2.1 x.2.2.1) (λx=>L.length-x.1) (0,J,U,R) ?_ ?_ ?_
 ·exact⟨agP _,by simpa using Ju,by simpa using MS,rfl,agE _,HO⟩
 ·refine ag [] [] (by simp) (by simp) gw fQ HO ?_;simp[m2,m6]
 ·rintro⟨i,J1,U1,R3⟩ ⟨g1,g2,g3,g4,g5,g6⟩;simp only at g1 g2 g3 g4 g5 g6;obtain⟨n2,n6⟩:=hb g2;refine af λK2 bp=>?_;apply ae;intro K Z;simp(disch:=omega);apply Z;refine aU rfl (λhk=>?_) (λhk=>?_)
  ·simp  at hk;have FG:=(iO L i hk).1;obtain⟨TB,U5,QC⟩:=g2.hJ;have e6:=aX (QC.get (i:=b6) (b:=.cells [.sl i (ints ((L.take i).map (·.id))) (.own td),tv,cv]) (by simp));have gU:=g2.hU.get (i:=td) (b:=(i,1)) (by simp);have eU:=aX gU;have lU:=(agC.1 gU).1;have iz:ints ((L.take i).map (·.id))++[.int .i64 (L.getD i d0).id]=ints ((L.take (i+1)).map (·.id)):=by rw[aV L i d0 hk,agS,eE];rfl
   have Vw:((L.take i).map (·.id)).length=i:=by rw[agU,ag5];omega
   generalize (L.take i).map (·.id)=ids at *;generalize Zy:(L.take (i+1)).map (·.id)=tN at *;generalize (L.getD i d0).id=xid at *;have eH:(L.take i).length=i:=by rw[ag5];omega
   have QX:∀k,(L.take (i+1)).flatMap (λd=>ry d k)=(L.take i).flatMap (λd=>ry d k)++ry (L.getD i d0) k:=λk=>by rw[aV L i d0 hk,ahk];simp
   apply aq;apply bp;clear bp;refine af λK6 oe=>?_;apply aj;refine aK [8,10] [0,0,0,0,0,0,0,0,0,1,1] [[],[]] aw (by kernel_rfl) (by kernel_rfl) λK hK=>?_;simp(disch:=omega)[e6,n6,FG,bf,hk,eU,lU,Vw];apply hK;refine dy λfj=>?_;simp only at fj;have iQ:=Has.set (A:=[(b2,B0)]) (B:=TB) (b:=.cells [.sl i (ints ids) (.own td),tv,cv]) QC (.cells [.sl (i+1) (ints tN) (.own td),tv,cv]);have Ck:=Has.set (A:=[]) (B:=(tc,(0,2))::jh R3) (b:=(i,1)) (by simpa using g2.hU) (i+1,1);rw[<-iz] at iQ;have VI:RI H T b2 b6 [(td,(i+1,1)),(tc,(0,2))] (.sl (i+1) (ints tN) (.own td)) tv cv B0 R3 (J1.set b6 (.cells [.sl (i+1) (ints ids++[.int .i64 xid]) (.own td),tv,cv])) (U1.set td (i+1,1)):=⟨⟨TB,U5,by rw[<-iz];exact iQ⟩,by simpa using Ck,g2.hr,g2.pJ.set FH _,g2.pU.set MO _⟩
   have jy:(J1.set b6 (.cells [.sl (i+1) (ints ids++[.int .i64 xid]) (.own td),tv,cv])).length=J1.length:=by simp
   have hlU:(U1.set td (i+1,1)).length=U1.length:=by simp
   generalize J1.set b6 (.cells [.sl (i+1) (ints ids++[.int .i64 xid]) (.own td),tv,cv])=J2 at *;generalize U1.set td (i+1,1)=U2 at *;have p2:b2<J2.length:=by omega
   have p6:b6<J2.length:=by omega
   refine aI ⟨[(0,.sl L.length (aN L) .none),(2,.ptr b2 0),(6,.ptr b6 0),(7,.int .i64 (i:Nat))],J2,U2⟩ (ag [] [] (by simp) (by simp) (by show nb<=J2.length;omega) (by show tb<=U2.length;omega) fj (by simp[p2,p6])) ?_;refine KU L i hk (hs _ (aT L i d0 hk)) (Mt _ (aT L i d0 hk)) H T nb tb b2 b6 td tc _ tv cv B0 _ R3 J2 U2 (by omega) (by omega) VI (λx hx=>?_) (by rw[<-ub,g3,agU];exact gO) fj _ λe J3 U3 R4 q1 q2 q3 q4 he=>?_
   ·rw[g3] at hx;obtain⟨k,_,rfl⟩:=agG.1 hx;have:=xl k (L.take i);simp only;omega
   obtain⟨r2,r6⟩:=hb q1;refine oe _ (dy λAX=>?_);refine aI ⟨[(0,.sl L.length (aN L) .none),(2,.ptr b2 0),(6,.ptr b6 0),(7,.int .i64 (i:Nat))],J3,U3⟩ (ag [] [] (by simp) (by simp) (by show nb<=J3.length;omega) (by show tb<=U3.length;omega) AX he) ?_;refine aC λK hK=>?_;simp(disch:=omega) ;apply hK;refine⟨(i+1,J3,U3,R4),⟨by show i+1<=_;omega,by simp only[Zy];exact q1,?_,by show J3.length=_;omega,by show _<=U3.length;omega,AX⟩,by show L.length-(i+1)<L.length-i;omega,?_⟩
   ·show kp R4=_;rw[q2,g3,ahG];exact ahh λk _=>by simp only[Function.comp,zu];rw[QX]
   ·refine ag [] [] (by simp) (by simp) (by show nb<=J3.length;omega) (by show tb<=U3.length;omega) AX ?_;simp[r2,r6]
  ·simp  at hk;have Cg:i=L.length:=by omega
   subst Cg;rw[agZ] at g2 g3;apply aG;simp(disch:=omega) ;refine go _ J1 U1 R3 g2 g3 g4 g5 ?_;simp[n2,n6]
attribute [-simp] getD_eq_getElem?_getD in
def HH (L:List Dc)(hL:L.length<=1000000)(hs:∀d∈L,oY d)(hn:∀d∈L,d.ns.length<=1000000)(hi:∀f,(fE L f).length<=1000000)(H:List aA)(T:au)(nb tb b2 b6 td tc:Nat)(dv tv:AV)(B0:aA)(R:List Rw)(J:List aA)(U:au)(gw:nb<=J.length)(fQ:tb<=U.length)
  (Ju:RI H T b2 b6 [(td,(L.length,1)),(tc,(0,2))] dv tv (.sl 0 [] (.own tc)) B0 R J U) (FH:H.length<=b6) (htc:T.length<=tc) (HO:bN J U) (Q:Exit->St->Prop)
  (go:∀(e:Env)(J':List aA)(U':au),RI H T b2 b6 [(td,(L.length,1)),(tc,((fW L 3).length*2,2))] dv tv (.sl (fW L 3).length (dH (fW L 3)) (.own tc)) B0 R J' U'->J'.length=J.length->U.length<=U'.length->
   bC J'.length U'.length e [(2,.ptr b2 0),(6,.ptr b6 0)]->Q .normal ⟨e,J',U'⟩) :
  AW ⟨Tryz.prog,135,12,nb,tb,[]⟩ (dX [1,1,1,1,1,1,1,0] (Tryz.f36.body.getD .skip)) Q
   ⟨[(0,.sl L.length (aN L) .none),(2,.ptr b2 0),(6,.ptr b6 0)],J,U⟩:=by
 conv=>arg 2;whnf
 have hb:∀{RU cv J' U'},RI H T b2 b6 RU dv tv cv B0 R J' U'->b2<J'.length/\b6<J'.length:=λ{RU cv J' U'} h=>by
  obtain⟨TB,_,h2⟩:=h.hJ;exact⟨h2.lt (b:=B0) (by simp),h2.lt (b:=.cells [dv,tv,cv]) (by simp)⟩
 obtain⟨m2,m6⟩:=hb Ju;apply ae;intro K Z;simp(disch:=omega);apply Z;apply aj;refine aJ (X:=Nat×List aA×au) (λx=>⟨[(0,.sl L.length (aN L) .none),(2,.ptr b2 0),(6,.ptr b6 0),(10,.int .i64 (5+(x.1:Nat)))],x.2.1,x.2.2⟩)
  (λx=>x.1<=3/\RI H T b2 b6 [(td,(L.length,1)),(tc,((fW L x.1).length*2,2))] dv tv (.sl (fW L x.1).length (dH (fW L x.1)) (.own tc)) B0 R x.2.1 x.2.2/\x.2.1.length=J.length/\U.length<=x.2.2.length/\bN x.2.1 x.2.2) (λx=>3-x.1) (0,J,U) ?_ ?_ ?_
 ·exact⟨agP _,by simpa[fW,Ew] using Ju,rfl,agE _,HO⟩
 ·refine ag [] [] (by simp) (by simp) gw fQ HO ?_;simp[m2,m6]
 ·rintro⟨c,J1,U1⟩ ⟨g1,g2,g4,g5,g6⟩;simp only at g1 g2 g4 g5 g6;obtain⟨n2,n6⟩:=hb g2;have cc:=λH T=>HG L (5+(c:Int)) hL hs hn (hi _) H T .none;have yB:=n9 L c;have gC:=xI L c;have hcf:nC L (5+(c:Int))=if fE L (5+(c:Int))=[] then [] else [⟨5+(c:Int),dx (fE L (5+(c:Int)))⟩]:=rfl
  have zb:(dx (fE L (5+(c:Int)))).length=(fE L (5+(c:Int))).length:=(eM _).length_eq;have hi5:=hi (5+(c:Int));have w7:-9223372036854775808<=5+(c:Int)+1/\5+(c:Int)+1<=9223372036854775807:=by omega
  refine af λK2 bp=>?_;rcases agM c 3 with h3|h3
  ·have b1:decide (5+(c:Int)<=7)=true:=agH (by omega);have n1:5+(c:Int)<=7:=by omega
   refine ae λK hK=>?_;simp(disch:=omega)[b1,n1];apply hK;apply aH rfl;apply aq;apply bp;clear bp;refine af λK6 oe=>?_;apply aj;refine ae λK hK=>?_;simp(disch:=omega) ;refine ak (cc _ _) ?_;simp(disch:=omega) ;apply hK
   by_cases he:fE L (5+(c:Int))=[]
   ·rw[agN he] at hcf;rw[hcf,ag2] at yB;have hz:(dx (fE L (5+(c:Int)))).length=0:=by rw[zb,he];rfl
    refine ae λK hK=>?_;simp(disch:=omega)[hz];apply hK;apply aF rfl;apply aq;apply oe;clear oe;refine aC λK hK=>?_;simp(disch:=omega) ;apply hK;refine⟨(c+1,J1,U1),⟨by show c+1<=3;omega,by simp only;rw[yB];exact g2,g4,g5,g6⟩,by show 3-(c+1)<3-c;omega,?_⟩;refine ag [] [] (by simp) (by simp) (by show nb<=J1.length;omega) (by show tb<=U1.length;omega) g6 ?_;simp[n2,n6];omega
   ·rw[agL he] at hcf;have hp0:0<(fE L (5+(c:Int))).length:=by
     rcases ahc (fE L (5+(c:Int))).length with h|h
     ·exact absurd (aho.1 h) he
     ·exact h
    generalize dx (fE L (5+(c:Int)))=il at *;have b2':decide ((0:Int)<(il.length:Int))=true:=agH (by omega);have n2':0<il.length:=by omega
    obtain⟨TB,U5,QC⟩:=g2.hJ;have e6:=aX (QC.get (i:=b6) (b:=.cells [dv,tv,.sl (fW L c).length (dH (fW L c)) (.own tc)]) (by simp));have gU:=g2.hU.get (i:=tc) (b:=((fW L c).length*2,2)) (by simp);have eU:=aX gU;have lU:=(agC.1 gU).1;have Cu:=L8 (fW L c) ⟨5+(c:Int),il⟩;rw[hcf] at yB;simp only at Cu;rw[<-yB] at Cu;have vP:(fW L (c+1)).length=(fW L c).length+1:=by rw[yB];simp
    refine ae λK hK=>?_;simp(disch:=omega)[b2',n2'];apply hK;apply aH rfl;refine aC λK hK=>?_;simp(disch:=omega)[e6,n6,eU,lU,nI];apply hK;have iQ:=Has.set (A:=[(b2,B0)]) (B:=TB) (b:=.cells [dv,tv,.sl (fW L c).length (dH (fW L c)) (.own tc)]) QC (.cells [dv,tv,.sl (fW L (c+1)).length (dH (fW L (c+1))) (.own tc)]);have Ck:=Has.set (A:=[(td,(L.length,1))]) (B:=jh R) (b:=((fW L c).length*2,2)) (by simpa using g2.hU) ((fW L (c+1)).length*2,2);rw[<-Cu,vP] at iQ;rw[vP] at Ck;have VI:RI H T b2 b6 [(td,(L.length,1)),(tc,((fW L (c+1)).length*2,2))] dv tv (.sl (fW L (c+1)).length (dH (fW L (c+1))) (.own tc)) B0 R (J1.set b6 (.cells [dv,tv,.sl ((fW L c).length+1) (dH (fW L c)++[.int .i64 (5+(c:Int)),.sl il.length (bA il) .none]) (.own tc)])) (U1.set tc (((fW L c).length+1)*2,2)):=⟨⟨TB,U5,by rw[vP,<-Cu];exact iQ⟩,by rw[vP];simpa using Ck,g2.hr,g2.pJ.set FH _,g2.pU.set htc _⟩
    have jy:(J1.set b6 (.cells [dv,tv,.sl ((fW L c).length+1) (dH (fW L c)++[.int .i64 (5+(c:Int)),.sl il.length (bA il) .none]) (.own tc)])).length=J1.length:=by simp
    have hlU:(U1.set tc (((fW L c).length+1)*2,2)).length=U1.length:=by simp
    refine oe _ (dy λfj=>?_);simp only at fj;generalize J1.set b6 (.cells [dv,tv,.sl ((fW L c).length+1) (dH (fW L c)++[.int .i64 (5+(c:Int)),.sl il.length (bA il) .none]) (.own tc)])=J2 at *;generalize U1.set tc (((fW L c).length+1)*2,2)=U2 at *;have p2:b2<J2.length:=by omega
    have p6:b6<J2.length:=by omega
    refine aC λK hK=>?_;simp(disch:=omega) ;apply hK;refine⟨(c+1,J2,U2),⟨by show c+1<=3;omega,VI,by show J2.length=_;omega,by show _<=U2.length;omega,fj⟩,by show 3-(c+1)<3-c;omega,?_⟩;refine ag [] [] (by simp) (by simp) (by show nb<=J2.length;omega) (by show tb<=U2.length;omega) fj ?_;simp[p2,p6];omega
  ·have hc3:c=3:=by omega
   subst hc3;apply ae;intro K Z;simp(disch:=omega);apply Z;apply aF rfl;apply aG;simp(disch:=omega) ;refine go _ J1 U1 g2 g4 g5 ?_;simp[n2,n6]
end Go.Proofs.YtoejlmpbebjemaaGreat
namespace eN
open ia Go.Am Go.Proofs.YtoejlmpbebjemaaGreat
theorem T5 {zs:List Zn}(h:∀k,k<zs.length->mB zs k=true):∀j i,i<j->j<zs.length->(zs.getD i z0).f<(zs.getD j z0).f
 |0,i,h1,_=>absurd h1 (ag9 _)
 |j+1,i,h1,h2=>by
  have h3:=(fH (h (j+1) h2)).1;unfold iw at h3;rw[agL (by omega),ah9] at h3;rcases agM i j with h4|h4
  ·have:=T5 h j i h4 (by omega);omega
  ·have:i=j:=by omega
   subst this;exact h3
theorem Ab (k:Ky):∀zs:List Zn,(∀z∈zs,z.f≠k.1)->(eP zs).filter (λw=>w.1==k)=[]
 |[],_=>rfl
 |z::r,h=>by
  have e:eP (z::r)=oZ z.f z.ws++eP r:=by simp[eP]
  rw[e,aht,Ab k r λy hy=>h y (by simp[hy]),ag2,aif];intro w hw;obtain⟨x,_,rfl⟩:=agG.1 hw;have:=h z (by simp);simp only[aiu];intro e;exact this (by rw[<-e])
def Om (f:Int)(ws:List Wd)(w:Bs):((oZ f ws).filter λx=>x.1==(f,w)).map (·.2)=kN ws w:=by
 unfold oZ kN;rw[List.filter_map,ahG]
 congr 1
 apply ajg;intro x _;rw[ajc];simp
theorem DF (k:Ky):∀zs:List Zn,(zs.Pairwise λx y=>x.f≠y.f)->((eP zs).filter λw=>w.1==k).map (·.2)=kN (o7 zs k.1) k.2
 |[],_=>rfl
 |z::r,h=>by
  have ⟨h1,h2⟩:=ahz.1 h;have e:eP (z::r)=oZ z.f z.ws++eP r:=by simp[eP]
  rw[e,aht,agS];unfold o7
  by_cases hz:z.f=k.1
  ·rw[agN hz,Ab k r λy hy e=>h1 y hy (by rw[hz,e]),aiB,ag2];have:=Om z.f z.ws k.2;rw[hz] at this ⊢;exact this
  ·rw[agL hz,<-DF k r h2];have:(oZ z.f z.ws).filter (λw=>w.1==k)=[]:=by
    rw[aif];intro w hw;obtain⟨x,_,rfl⟩:=agG.1 hw;simp only[aiu];intro e;exact hz (by rw[<-e])
   rw[this];rfl
def z6 {d:Dc}(h:aS d=true)(k:Ky):A1 d k=iR d k:=by
 have h1:=(cC h).2.1;refine(DF k d.zs ?_).symm;rw[ag8];intro i j hi hj jz;have:=T5 h1 j i jz hj;rw[agB,agB,agD hi,agD hj] at this;simp only[aie] at this;omega
def O4 {d:Dc}(h:aS d=true)(k:Ky):ry d k=Co d k:=by unfold ry Co;rw[z6 h]
theorem II {L:List Dc}(h:∀d∈L,aS d=true)(k:Ky):(L.flatMap λd=>ry d k)=dg L k:=by
 unfold dg
 induction L with
 |nil=>rfl
 |cons d r ih=>rw[agT,agT,O4 (h d (by simp)),ih λx hx=>h x (by simp[hx])]
def Of (L:List Dc):fW L 3=dK L:=by
 unfold dK;rw[n9,n9,n9];simp[fW]
def uE {α β:Type}(f:α->List β){l:List α}{x:α}(h:x∈l):(f x).length<=(l.flatMap f).length:=by
 obtain⟨A,B,rfl⟩:=aiZ h;rw[ahk,agT,agF,agF];omega
theorem I4 {α β γ:Type}(f:α->List β)(g:α->List γ)(h:∀x,(f x).length<=(g x).length):∀l:List α,(l.flatMap f).length<=(l.flatMap g).length
 |[]=>by simp
 |x::r=>by
  have h1:=I4 f g h r;have h2:=h x;rw[agT,agT,agF,agF];omega
def As {α β:Type}(f:α->List β){l m:List α}(h:l.Perm m):(l.flatMap f).length=(m.flatMap f).length:=(h.flatMap_right f).length_eq
theorem iI {α β:Type}(f:α->List β)(n:Nat):∀l:List α,(∀x∈l,(f x).length<=n)->(l.flatMap f).length<=l.length*n
 |[],_=>by simp
 |x::r,h=>by
  have h1:=iI f n r λy hy=>h y (by simp[hy]);have h2:=h x (by simp);rw[agT,agF,ahd,ahU];omega
end eN
namespace Go.Proofs.YtoejlmpbebjemaaGreat
open Go.Proofs.Tryz(prog)
open Go Go.Am ia eN
theorem LL {n0 t0:Nat}{J:List aA}{R:List Rw}{tv:AV}{TB:List (Nat×aA)}(h:Tb n0 R tv TB)(hJ:∀p∈TB,J[p.1]?=some p.2):fU n0 t0 J tv (.sl R.length (du (R.map λr=>(⟨r.k.1,r.k.2,r.pl⟩:Tm))) .none):=by
 rcases h with⟨rfl,rfl,_⟩|⟨it,rest,rfl,rfl,zg⟩
 ·exact .keep (.inr rfl) (by simp[sV])
 ·have hH:=hJ _ (ahl.2 rfl);have h2:du (R.map λr=>(⟨r.k.1,r.k.2,r.pl⟩:Tm))=R.flatMap λr=>o8 ⟨r.k.1,r.k.2,r.pl⟩:=by simp[du,ahR]
  rw[h2];refine .cN zg hH ?_ λj hj=>?_
  ·rw[agF,bY (f:=λr:Rw=>o8 ⟨r.k.1,r.k.2,r.pl⟩) (k:=3) (λ_=>rfl),pK];omega
  ·rw[ahO];refine kb (fa:=rwC) (fb:=λr=>o8 ⟨r.k.1,r.k.2,r.pl⟩) (k:=3) ID (λ_=>rfl) R (λr _ j hj=>?_) rest j hj
   match j,hj with
   |0,_=>exact .keep (.inl rfl) (.int _ _)
   |1,_=>exact .keep (.inl rfl) (.str _)
   |2,_=>exact .keep (.inr rfl) (by simp)
attribute [-simp] getD_eq_getElem?_getD in
theorem Fy (L:List Dc)(hL:L.length<=2000)(hs:∀d∈L,oY d)(hv:∀d∈L,aS d=true)(QA:(L.flatMap dm).length<=1000000)(TI:(L.flatMap λd=>d.ns).length<=1000000)(H:List aA)(T:au)
  (HO:bN (H++[.cells [.sl 0 [] .full,.sl 0 [] .full,.sl 0 [] .full]]) T) :
  AW ⟨prog,135,12,H.length,T.length,[]⟩ (dX [1,1,1,1,1] (Tryz.f36.body.getD .skip)) (sy prog Tryz.f36.results.toList (BQ H T (.df [jM ⟨L.map (·.id),cH L,dK L⟩,.int .i64 0])))
   ⟨[(0,.sl L.length (aN L) .none),(2,.ptr H.length 0)],H++[.cells [.sl 0 [] .full,.sl 0 [] .full,.sl 0 [] .full]],T⟩:=by
 conv=>arg 2;whnf
 have hn:∀d∈L,d.ns.length<=1000000:=λd hd=>agJ (uE (λd:Dc=>d.ns) hd) TI;have hw:∀d∈L,∀z∈d.zs,z.ws.length<=1000000:=λd hd z hz=>by
  have h1:=uE dm hd;have h2:=uE eZ hz;have h3:(eZ z).length=z.ws.length:=by simp[eZ]
  unfold dm at h1 QA;omega
 have zg:∀f,(fE L f).length<=1000000:=λf=>agJ (I4 _ _ (λd:Dc=>by
  rw[agU];exact ahf _ _) L) TI
 have gO:(dJ L).length<=1000000:=by
  rw[uD];have:=mo (L.flatMap dm) [];rw[ahV,ahO] at this;omega
 have key:∀(G:List aA)(tv:AV),((dJ L=[]/\tv=.sl 0 [] .none)\/∃it rest,tv=.cN it 0 (dJ L).length/\(H++[aA.cells [.sl 0 [] .full,.sl 0 [] .full,.sl 0 [] .full]]).length<=it/\(H++[aA.cells [.sl 0 [] .full,.sl 0 [] .full,.sl 0 [] .full]]++G)[it]?=some (.cells (gM (dJ L)++rest))/\0<(dJ L).length)->
   AW ⟨prog,135,12,H.length,T.length,[]⟩ (dX [1,1,1,1,1,1] (Tryz.f36.body.getD .skip)) (sy prog Tryz.f36.results.toList (BQ H T (.df [jM ⟨L.map (·.id),cH L,dK L⟩,.int .i64 0])))
    ⟨[(0,.sl L.length (aN L) .none),(2,.ptr H.length 0),(6,.ptr (H.length+(G.length+1)) 0)],(H++.cells [.sl 0 [] .full,.sl 0 [] .full,.sl 0 [] .full]::G)++[.cells [.sl 0 [] .full,tv,.sl 0 [] .full]],T⟩:=by
  intro G tv MN
  conv=>arg 2;whnf
  refine BN 1 0 (H++.cells [.sl 0 [] .full,.sl 0 [] .full,.sl 0 [] .full]::G) [.sl 0 [] .full,tv,.sl 0 [] .full] 0 [] (by omega) rfl (by simp) ?_;refine BN 2 2 (H++.cells [.sl 0 [] .full,.sl 0 [] .full,.sl 0 [] .full]::G) [.sl 0 [] (.own T.length),tv,.sl 0 [] .full] 0 [] (by omega) rfl (by simp) ?_;refine dy λMF=>?_;simp only[agF,ahd,ahV,List.set_cons_zero,List.set_cons_succ,ahO] at MF ⊢;have Ju:∃R,kp R=(dJ L).map (λk=>(k,[]))/\RI H T H.length (H.length+(G.length+1)) [(T.length,(0,1)),(T.length+1,(0,2))] (.sl 0 [] (.own T.length)) tv (.sl 0 [] (.own (T.length+1))) (.cells [.sl 0 [] .full,.sl 0 [] .full,.sl 0 [] .full]) R
    (H++.cells [.sl 0 [] .full,.sl 0 [] .full,.sl 0 [] .full]::G++[.cells [.sl 0 [] (.own T.length),tv,.sl 0 [] (.own (T.length+1))]]) (T++[(0,1)]++[(0,2)]):=by
   have kK:∀X:List aA,(H++aA.cells [.sl 0 [] .full,.sl 0 [] .full,.sl 0 [] .full]::G++X)[H.length]?=some (.cells [.sl 0 [] .full,.sl 0 [] .full,.sl 0 [] .full]):=λX=>by simp
   have FH:(H++aA.cells [.sl 0 [] .full,.sl 0 [] .full,.sl 0 [] .full]::G++[aA.cells [.sl 0 [] (.own T.length),tv,.sl 0 [] (.own (T.length+1))]])[H.length+(G.length+1)]?=some (.cells [.sl 0 [] (.own T.length),tv,.sl 0 [] (.own (T.length+1))]):=by
    rw[agX (by simp)];simp
   refine⟨(dJ L).map λk=>⟨k,[],.full⟩,by simp[kp,ahG,Function.comp_def],?_⟩;have tO:jh ((dJ L).map λk=>(⟨k,[],.full⟩:Rw))=[]:=by
    unfold jh;rw[ahR];simp[F7]
   have hkr:my ((dJ L).map λk=>(⟨k,[],.full⟩:Rw))=gM (dJ L):=by unfold my gM;rw[ahR];rfl
   refine⟨?_,?_,λx hx=>?_,⟨_,by rw[agV]⟩,⟨_,by rw[agV]⟩⟩
   ·rcases MN with⟨h1,h2⟩|⟨it,rest,h1,h2,h3,h4⟩
    ·refine⟨[],.inl ⟨by rw[h1];rfl,h2,rfl⟩,⟨by simp,λp hp=>?_⟩⟩;simp at hp;rcases hp with rfl|rfl
     ·exact kK _
     ·exact FH
    ·have aZ:=(agC.1 h3).1;have YB:it≠H.length:=λe=>by
      rw[e] at h3;rw[show (H++[aA.cells [.sl 0 [] .full,.sl 0 [] .full,.sl 0 [] .full]]++G)[H.length]?=some (.cells [.sl 0 [] .full,.sl 0 [] .full,.sl 0 [] .full]) by simp] at h3
      injection h3 with h3
      injection h3 with h3
      have hh:=congrArg (λl=>l.getD 0 .top) h3;have h5:(gM (dJ L)++rest).getD 0 .top=.int .i64 ((dJ L).getD 0 k0).1:=by
       have:=xy (dJ L) rest 0 h4;rw[Nat.zero_mul,List.drop_zero] at this;have h6:=congrArg (λl=>l.getD 0 .top) this;simpa[agB] using h6
      rw[h5] at hh;simp at hh
     refine⟨[(it,.cells (my ((dJ L).map λk=>(⟨k,[],.full⟩:Rw))++rest))],.inr ⟨it,rest,by rw[agU];exact h1,rfl,by simp at h2;omega⟩,⟨?_,λp hp=>?_⟩⟩
     ·simp at aZ ⊢;omega
     ·simp only[ag6,List.not_mem_nil,ajn] at hp;rcases hp with rfl|rfl|rfl
      ·exact kK _
      ·exact FH
      ·rw[hkr];rw[agK (by simp at aZ ⊢;omega)];rw[<-h3];congr 1;simp
   ·rw[tO];refine⟨by simp,λp hp=>?_⟩;simp at hp;rcases hp with rfl|rfl<;>simp
   ·obtain⟨k,_,rfl⟩:=agG.1 hx;exact⟨.inl ⟨rfl,rfl⟩,λtk h=>by cases h⟩
  obtain⟨R,UW,Ju⟩:=Ju;have AQ:(H++aA.cells [.sl 0 [] .full,.sl 0 [] .full,.sl 0 [] .full]::G++[aA.cells [.sl 0 [] (.own T.length),tv,.sl 0 [] (.own (T.length+1))]]).length=H.length+(G.length+1)+1:=by simp;omega
  have hu0:(T++[((0:Nat),(1:Nat))]++[(0,2)]).length=T.length+2:=by simp
  generalize hJ0:H++aA.cells [.sl 0 [] .full,.sl 0 [] .full,.sl 0 [] .full]::G++[aA.cells [.sl 0 [] (.own T.length),tv,.sl 0 [] (.own (T.length+1))]]=J0 at *;generalize hU0:T++[((0:Nat),(1:Nat))]++[(0,2)]=U0 at *;obtain⟨b6,FH⟩:∃b,b=H.length+(G.length+1):=⟨_,rfl⟩
  rw[<-FH] at Ju AQ;simp only[<-FH];clear hJ0 hU0;refine af λK2 bp=>?_;refine HC L (by omega) hs hw H T H.length T.length H.length b6 T.length (T.length+1) tv _ _ (dJ L) R J0 U0 (by omega) (by omega) Ju UW gO (by omega) (agE _) MF _ λe J1 U1 R1 q1 q2 q3 q4 he=>?_;refine bp _ (dy λXc=>?_);simp only at Xc;refine aI ⟨[(0,.sl L.length (aN L) .none),(2,.ptr H.length 0),(6,.ptr b6 0)],J1,U1⟩ (ag [] [] (by simp) (by simp) (by show H.length<=J1.length;omega) (by show T.length<=U1.length;omega) Xc he) ?_;clear bp he;refine af λK3 bG=>?_;refine HH L (by omega) hs hn zg H T H.length T.length H.length b6 T.length (T.length+1) _ tv _ R1 J1 U1 (by omega) (by omega) q1 (by omega) (by omega) Xc _ λe J2 U2 p1 p2 p3 he=>?_;refine bG _ (dy λHO6=>?_);simp only at HO6;refine aI ⟨[(2,.ptr H.length 0),(6,.ptr b6 0)],J2,U2⟩ (ag [] [] (by simp) (by simp) (by show H.length<=J2.length;omega) (by show T.length<=U2.length;omega) HO6 he) ?_;clear bG he;rw[<-Of];have UM:cH L=R1.map λr=>(⟨r.k.1,r.k.2,r.pl⟩:Tm):=by
   have h1:(R1.map λr=>(⟨r.k.1,r.k.2,r.pl⟩:Tm))=(kp R1).map λx=>⟨x.1.1,x.1.2,x.2⟩:=by simp[kp,ahG,Function.comp_def]
   rw[h1,q2,ahG];exact ahh λk _=>by simp only[Function.comp];rw[II hv]
  obtain⟨TB,U5,iQ⟩:=p1.hJ;generalize fW L 3=cs at *;have Vw:(L.map (·.id)).length=L.length:=by simp
  have g2:=iQ.get (i:=H.length) (b:=.cells [.sl 0 [] .full,.sl 0 [] .full,.sl 0 [] .full]) (by simp);have g6:=iQ.get (i:=b6) (b:=.cells [.sl L.length (ints (L.map (·.id))) (.own T.length),tv,.sl cs.length (dH cs) (.own (T.length+1))]) (by simp);have e6:=aX g6;have l6:=(agC.1 g6).1;have l2:=(agC.1 g2).1;have e2:=aX g2;have zk:=Has.set (A:=[]) (B:=(b6,.cells [.sl L.length (ints (L.map (·.id))) (.own T.length),tv,.sl cs.length (dH cs) (.own (T.length+1))])::TB) (b:=.cells [.sl 0 [] .full,.sl 0 [] .full,.sl 0 [] .full]) (by simpa using iQ) (.cells [.sl L.length (ints (L.map (·.id))) (.own T.length),tv,.sl cs.length (dH cs) (.own (T.length+1))]);have se:=p1.pJ.set (agE _) (.cells [.sl L.length (ints (L.map (·.id))) (.own T.length),tv,.sl cs.length (dH cs) (.own (T.length+1))]);generalize kU:L.map (·.id)=ids at *;refine ae λK hK=>?_;simp(disch:=omega)[e6,l6,e2,l2];apply hK;apply az;simp(disch:=omega) ;refine⟨se,p1.pU,?_⟩;have hsg:jM ⟨ids,cH L,cs⟩=.agg [.sl L.length (ints ids) .none,.sl R1.length (du (R1.map λr=>(⟨r.k.1,r.k.2,r.pl⟩:Tm))) .none,.sl cs.length (dH cs) .none]:=by
   rw[UM];show AV.agg [.sl ids.length (ints ids) .none,.sl (R1.map λr=>(⟨r.k.1,r.k.2,r.pl⟩:Tm)).length _ .none,_]=_;rw[Vw,agU]
  rw[hsg];have hrw:=LL (t0:=T.length) U5 λp hp=>zk.2 p (by simp[hp]);refine fU.pair (.agg rfl λj hj=>?_) (.keep (.inl rfl) (.int _ _))
  match j,hj with
  |0,_=>exact .keep (.inr rfl) (by simp)
  |1,_=>exact hrw
  |2,_=>exact .keep (.inr rfl) (by simp)
 refine ae λK hK=>?_;simp(disch:=omega) ;refine⟨_,GO L (by omega) QA (λd hd=>by have:=sT (cC (hv d hd)).2.1;omega) _ _ .none,?_⟩;rintro r H' T' ⟨⟨G,rfl⟩,hT2,Q0⟩;subst T';rcases Q0 with⟨h1,rfl⟩|⟨it,rest,rfl,h2,h3,h4⟩
 ·simp(disch:=omega) ;apply hK;refine dy λMF=>?_;refine aI ⟨[(0,.sl L.length (aN L) .none),(2,.ptr H.length 0),(6,.ptr (H.length+(G.length+1)) 0)],(H++aA.cells [.sl 0 [] .full,.sl 0 [] .full,.sl 0 [] .full]::G)++[aA.cells [.sl 0 [] .full,.sl 0 [] .none,.sl 0 [] .full]],T⟩ (ag [] [] (by simp) (by simp) (by simp) (agE _) (by simpa using MF) (by simp)) ?_;exact key G _ (.inl ⟨h1,rfl⟩)
 ·simp(disch:=omega) ;apply hK;refine dy λMF=>?_;refine aI ⟨[(0,.sl L.length (aN L) .none),(2,.ptr H.length 0),(6,.ptr (H.length+(G.length+1)) 0)],(H++aA.cells [.sl 0 [] .full,.sl 0 [] .full,.sl 0 [] .full]::G)++[aA.cells [.sl 0 [] .full,.cN it 0 (dJ L).length,.sl 0 [] .full]],T⟩ (ag [] [] (by simp) (by simp) (by simp) (agE _) (by simpa using MF) (by simp)) ?_;exact key G _ (.inr ⟨it,rest,rfl,h2,h3,h4⟩)
attribute [-simp] getD_eq_getElem?_getD in
theorem Mb (l:List Dc)(hl:l.length<=1000000)(hs:∀d∈l,oY d)(QA:(∀d∈l,aS d=true)->(l.flatMap dm).length<=1000000)(TI:(l.flatMap λd=>d.ns).length<=1000000)(H:List aA)(T:au)(tg:Tag) :
  ar prog 36 [.sl l.length (aN l) tg] H T (Is (.df [jM (cZ l).1,.int .i64 (cZ l).2]) H T):=by
 refine ar.cF ?_;refine ar.pf ?_;show ar prog _ _ H T (BQ H T _);have jJ:l.length<=9223372036854775807:=by omega
 refine ah 12 [] Tryz.ntmps36 Tryz.func36 rfl (λ_ _=>Tryz.call36 _ _) (by simp) (λHO=>?_);have eV:bN (H++[.cells [.sl 0 [] .full,.sl 0 [] .full,.sl 0 [] .full]]) T:=HO.snoc (by simp);apply ae;intro K Z;simp(disch:=omega);apply Z;refine af λK1 aP=>?_
 by_cases FZ:2000<l.length
 ·have b0:decide ((2000:Int)<l.length)=true:=agH (by omega);refine ae λK hK=>?_;simp(disch:=omega)[b0,FZ];apply hK;apply aH rfl;apply ae;intro K Z;simp(disch:=omega);apply Z;apply az;simp(disch:=omega) ;have hF:cZ l=(bV,3):=by unfold cZ;rw[agN FZ]
  rw[hF];exact⟨⟨_,rfl⟩,⟨[],by simp⟩,ke 3⟩
 have b0:decide ((2000:Int)<l.length)=false:=agI (by omega);have n0:¬(2000:Int)<l.length:=by omega
 refine ae λK hK=>?_;simp(disch:=omega)[b0,n0];apply hK;apply aF rfl;apply aq;apply aP;clear aP;refine af λK1 aP=>?_;apply ae;intro K Z;simp(disch:=omega);apply Z;apply aj;refine aJ (X:=Nat) (λi=>⟨[(0,.sl l.length (aN l) .none),(2,.ptr H.length 0),(4,.int .i64 (i:Nat))],H++[.cells [.sl 0 [] .full,.sl 0 [] .full,.sl 0 [] .full]],T⟩)
  (λi=>i<=l.length/\∀j,j<i->aS (l.getD j d0)=true) (λi=>l.length-i) 0 ?_ ?_ ?_
 ·exact⟨agP _,λj hj=>absurd hj (ag9 _)⟩
 ·refine ag [] [] (by simp) (by simp) (by simp) (by simp) eV ?_;simp
 ·rintro i ⟨g1,g2⟩;refine af λK2 bp=>?_;apply ae;intro K Z;simp(disch:=omega);apply Z;refine aU rfl (λhk=>?_) (λhk=>?_)
  ·simp  at hk;have bu:=fC l i hk;have c:=λH=>EV (l.getD i d0) (hs _ (aT l i d0 hk)) H T;have fK:=aT l i d0 hk;have sq:aS (l.getD i d0)=true->∀j,j<i+1->aS (l.getD j d0)=true:=λh j hj=>by
    rcases agM j i with h1|h1
    ·exact g2 j h1
    ·have:j=i:=by omega
     subst this;exact h
   have aeG:aS (l.getD i d0)=false->cZ l=(bV,1):=λh=>by
    unfold cZ;rw[agL FZ,agN];rw[aij];exact⟨_,fK,by rw[h];rfl⟩
   generalize l.getD i d0=d at *;apply aq;apply bp;clear bp;refine af λK3 bG=>?_;apply aj
   cases hv:aS d with
   |false=>
    rw[hv] at c;refine ae λK hK=>?_;simp(disch:=omega)[bu,bf,hk];refine ak (c _) ?_;simp(disch:=omega) ;apply hK;apply aH rfl;apply ae;intro K Z;simp(disch:=omega);apply Z;apply az;simp(disch:=omega) ;rw[aeG hv];exact⟨⟨_,rfl⟩,⟨[],by simp⟩,ke 1⟩
   |true=>
    rw[hv] at c;refine ae λK hK=>?_;simp(disch:=omega)[bu,bf,hk];refine ak (c _) ?_;simp(disch:=omega) ;apply hK;apply aF rfl;apply aq;apply bG;clear bG;refine aC λK hK=>?_;simp(disch:=omega) ;apply hK;refine⟨i+1,⟨by show i+1<=_;omega,sq hv⟩,by show l.length-(i+1)<l.length-i;omega,?_⟩;refine ag [] [] (by simp) (by simp) (by simp) (by simp) eV ?_;simp
  ·simp  at hk;have kS:∀d∈l,aS d=true:=λd hd=>by
    obtain⟨j,hj,e⟩:=bK d0 hd;rw[<-e];exact g2 j (by omega)
   have Cs:l.any (λd=>!aS d)=false:=by
    rw[aiv];intro d hd;rw[kS d hd];simp
   apply aG;simp(disch:=omega) ;apply aP;clear aP;have cs:=λH=>EX l (by omega) H T .none;have C4:=(fT l).perm;have yJ:=(fT l).ord;have W4:(eg l).length=l.length:=dV l;have XI:∀d∈eg l,d∈l:=λd hd=>C4.mem_iff.1 hd;have hFl:(((eg l).map (·.id)).Nodup->cZ l=(⟨(eg l).map (·.id),cH (eg l),dK (eg l)⟩,0))/\(¬((eg l).map (·.id)).Nodup->cZ l=(bV,10)):=by
    refine⟨λh=>?_,λh=>?_⟩
    ·unfold cZ;rw[agL FZ,agL (by rw[Cs];simp),agL (λhh=>hh ((C4.map _).nodup_iff.1 h))]
    ·unfold cZ;rw[agL FZ,agL (by rw[Cs];simp),agN (λhh=>h ((C4.map _).nodup_iff.2 hh))]
   refine ae λK hK=>?_;simp(disch:=omega) ;refine ak (cs _) ?_;simp(disch:=omega) ;apply hK;generalize eg l=L at *;refine af λK1 aP=>?_;apply ae;intro K Z;simp(disch:=omega);apply Z;apply aj;refine aJ (X:=Nat) (λi=>⟨[(0,.sl L.length (aN L) .none),(2,.ptr H.length 0),(5,.int .i64 (i:Nat))],H++[.cells [.sl 0 [] .full,.sl 0 [] .full,.sl 0 [] .full]],T⟩)
    (λi=>1<=i/\i<=L.length+1/\∀j,0<j->j<i->j<L.length->(L.getD (j-1) d0).id≠(L.getD j d0).id) (λi=>L.length+1-i) 1 ?_ ?_ ?_
   ·exact⟨agE _,by omega,λj h1 h2=>by omega⟩
   ·refine ag [] [] (by simp) (by simp) (by simp) (by simp) eV ?_;simp
   ·rintro m ⟨m1,m2,m3⟩;refine af λK2 bp=>?_;apply ae;intro K Z;simp(disch:=omega);apply Z;refine aU rfl (λhm=>?_) (λhm=>?_)
    ·simp  at hm;have jl:=(iO L m hm).1;have YR:=(iO L (m-1) (by omega)).1;have e6:((m:Int)-1)=((m-1:Nat):Int):=by omega
     have Qu:m-1<L.length:=by omega
     have aeA:=λh=>Jf (L:=L) (i:=m) (by omega) hm h;have sq:(L.getD (m-1) d0).id≠(L.getD m d0).id->∀j,0<j->j<m+1->j<L.length->(L.getD (j-1) d0).id≠(L.getD j d0).id:=λh j h0 hj qJ=>by
      rcases agM j m with h1|h1
      ·exact m3 j h0 h1 qJ
      ·have:j=m:=by omega
       subst this;exact h
     generalize (L.getD m d0).id=x at *;generalize (L.getD (m-1) d0).id=y at *;apply aq;apply bp;clear bp;refine af λK3 bG=>?_;apply aj
     by_cases FP:y=x
     ·have b1:(y==x)=true:=by simpa using FP
      refine aK [] [] [] aw (by kernel_rfl) (by kernel_rfl) λK hK=>?_;simp(disch:=omega)[e6,jl,YR,bf,hm,Qu,b1,FP];apply hK;apply aH rfl;apply ae;intro K Z;simp(disch:=omega);apply Z;apply az;simp(disch:=omega) ;rw[hFl.2 (aeA FP)];exact⟨⟨_,rfl⟩,⟨[],by simp⟩,ke 10⟩
     ·have b1:(y==x)=false:=by simpa using FP
      refine aK [] [] [] aw (by kernel_rfl) (by kernel_rfl) λK hK=>?_;simp(disch:=omega)[e6,jl,YR,bf,hm,Qu,b1,FP];apply hK;apply aF rfl;apply aq;apply bG;clear bG;refine aC λK hK=>?_;simp(disch:=omega) ;apply hK;refine⟨m+1,⟨by show 1<=m+1;omega,by show m+1<=_;omega,sq FP⟩,by show L.length+1-(m+1)<L.length+1-m;omega,?_⟩;refine ag [] [] (by simp) (by simp) (by simp) (by simp) eV ?_;simp
    ·simp  at hm;have aZ:=AJ yJ λj h0 hj=>m3 j h0 (by omega) hj;have mM:=me aZ;apply aG;simp(disch:=omega) ;apply aP;clear aP;refine aI ⟨[(0,.sl L.length (aN L) .none),(2,.ptr H.length 0)],H++[.cells [.sl 0 [] .full,.sl 0 [] .full,.sl 0 [] .full]],T⟩ (ag [] [] (by simp) (by simp) (by simp) (by simp) eV (by simp)) ?_;rw[hFl.1 mM];exact Fy L (by omega) (λd hd=>hs d (XI d hd)) (λd hd=>kS d (XI d hd)) (by rw[As dm C4];exact QA kS) (by rw[As (λd:Dc=>d.ns) C4];exact TI) H T eV
end Go.Proofs.YtoejlmpbebjemaaGreat
