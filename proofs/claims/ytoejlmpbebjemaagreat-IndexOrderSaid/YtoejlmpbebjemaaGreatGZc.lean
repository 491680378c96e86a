/- The reference of layers 37 and 39, the parts that Build calls: words and numbers of a field, documents in order. The reference's test of documents (layer 37). The reference's terms (layer 39): the words of the fields of documents, in order, each once; the list is a box that is written to later. The reference's positions and columns (layer 39). The reference's Build (layer 39): the lists of the terms grow in place. The reference's Build (layer 39): the loops. The reference's Build (layer 39): the whole.
  Conditions: as the theorems say. -/
import Derived.Test.YtoejlmpbebjemaaGreatGBC
import Derived.Test.YtoejlmpbebjemaaGreatGRA
import Derived.Test.YtoejlmpbebjemaaGreatAmC
set_option linter.all false
set_option maxRecDepth 100000
set_option maxHeartbeats 8000000

open List (getD_eq_getElem?_getD append_nil take_append_drop)
namespace eT
open im Go.Am
def pg:List Zn->Int->List Wd
 |[],_=>[]
 |z::r,f=>if z.f=f then z.ws else pg r f
def Cz (ns:List Nm)(f:Int):List Int:=(ns.filter λx=>x.1==f).map (·.2)
theorem OJ (f:Int):∀(zs:List Zn)(i:Nat),i<zs.length->(∀j,j<i->(zs.getD j z0).f≠f)->(zs.getD i z0).f=f->pg zs f=(zs.getD i z0).ws
 |[],i,h,_,_=>absurd h (ahO _)
 |z::r,0,_,_,h=>by
  have h:z.f=f:=h;unfold pg;rw[ahs h];rfl
 |z::r,i+1,hi,h,h2=>by
  have h0:z.f≠f:=h 0 (by omega);unfold pg;rw[ahq h0];exact OJ f r i (by simpa using hi) (λj hj=>h (j+1) (by omega)) h2
theorem DE (f:Int):∀(zs:List Zn),(∀j,j<zs.length->(zs.getD j z0).f≠f)->pg zs f=[]
 |[],_=>rfl
 |z::r,h=>by
  have h0:z.f≠f:=h 0 (by simp);unfold pg;rw[ahq h0];exact DE f r λj hj=>h (j+1) (by simpa using hj)
def Qj (ns:List Nm)(f:Int)(i:Nat)(h:i<ns.length):Cz (ns.take (i+1)) f=Cz (ns.take i) f++(if (ns.getD i n0).1=f then [(ns.getD i n0).2] else []):=by
 unfold Cz;rw[aU ns i n0 h,ah8,ahx]
 congr 1
 rw[List.filter_cons]
 by_cases h1:(ns.getD i n0).1=f
 ·rw[ahs h1,ahs (by simpa using h1)];rfl
 ·rw[ahq h1,ahq (by simpa using h1)];rfl
theorem JL (x:Dc):∀(d:List Dc)(n:Nat),n<=d.length->(∀j,j<n->(d.getD j d0).id<=x.id)->(n<d.length->¬(d.getD n d0).id<=x.id)->o8 x d=d.take n++x::d.drop n
 |[],n,h,_,_=>by
  have:n=0:=by simpa using h
  subst this;rfl
 |y::r,0,_,_,h=>by
  have:=h (by simp);have h1:¬y.id<=x.id:=this;rw[o8,ahq h1];rfl
 |y::r,n+1,h0,h1,h2=>by
  have hy:y.id<=x.id:=h1 0 (by omega);rw[o8,ahs hy,JL x r n (by simpa using h0) (λj hj=>h1 (j+1) (by omega)) (λhn=>h2 (by simpa using hn))];rfl
def Hv (l:List Dc)(x:Dc):ep (l++[x])=o8 x (ep l):=by simp[ep]
def dW (l:List Dc):(ep l).length=l.length:=(gh l).perm.length_eq
theorem JJ (x:Nm):∀(d:List Nm)(n:Nat),n<=d.length->(∀j,j<n->dh (d.getD j n0) x=true)->(n<d.length->dh (d.getD n n0) x=false)->nD x d=d.take n++x::d.drop n
 |[],n,h,_,_=>by
  have:n=0:=by simpa using h
  subst this;rfl
 |y::r,0,_,_,h=>by
  have h1:dh y x=false:=h (by simp);rw[nD,ahq (by simp[h1])];rfl
 |y::r,n+1,h0,h1,h2=>by
  have hy:dh y x=true:=h1 0 (by omega);rw[nD,ahs hy,JJ x r n (by simpa using h0) (λj hj=>h1 (j+1) (by omega)) (λhn=>h2 (by simpa using hn))];rfl
def FL (l:List Nm)(x:Nm):dz (l++[x])=nD x (dz l):=by simp[dz]
def eR (l:List Nm):(dz l).Perm l:=by
 rw[Ay];exact ajl _ _
end eT
namespace Go.Proofs.YtoejlmpbebjemaaGreat
open Go Go.Am im eT
attribute [-simp] getD_eq_getElem?_getD in
def Hg (d:Dc)(hs:o5 d)(Nk:∀z∈d.zs,z.ws.length<=1000000)(f:Int)(H:List az)(T:au):ar Tryz.prog 151 [.agg (dP d),.int .i64 f] H T (Is (.sl (pg d.zs f).length (dR (pg d.zs f)) .none) H T):=by
 refine ar.bV ?_ (by simp);have kH:maxLen<=9223372036854775807:=by decide
 obtain⟨id,zs,ns⟩:=d;obtain⟨hz,hw,hn⟩:=hs;simp only at hz hw hn Nk ⊢;have hz':=aho hz kH;refine ah 6 [] Tryz.ntmps151 Tryz.func151 rfl (λ_ _=>Tryz.call151 _ _) (by simp) (λHO=>?_);apply ae;intro K Z;simp(disch:=omega);apply Z;have ff:bJ (H++[.cells (dP ⟨id,zs,ns⟩)]) T:=HO.snoc (by simp);refine af λK1 aO=>?_;apply ae;intro K Z;simp(disch:=omega);apply Z;apply aj;refine aI (X:=Nat) (λi=>⟨[(1,.int .i64 f),(2,.ptr H.length 0),(5,.int .i64 (i:Nat))],H++[.cells (dP ⟨id,zs,ns⟩)],T⟩)
  (λi=>i<=zs.length/\∀j,j<i->(zs.getD j z0).f≠f) (λi=>zs.length-i) 0 ?_ ?_ ?_
 ·exact⟨ahu _,λj hj=>absurd hj (ahO _)⟩
 ·refine ag [] [] ?_ ?_ ?_ ?_ ff ?_
  all_goals simp
 ·rintro i ⟨g1,g2⟩;refine af λK2 bc=>?_;apply ae;intro K Z;simp(disch:=omega);apply Z;refine aT rfl (λhk=>?_) (λhk=>?_)
  ·simp  at hk;obtain⟨a1,a2⟩:=wk zs i hk;have sr:=Nk _ (aS zs i z0 hk);have eV:=OJ f zs i hk g2;have sE:(zs.getD i z0).f≠f->∀j,j<i+1->(zs.getD j z0).f≠f:=λh j hj=>by
    rcases ahr j i with h1|h1
    ·exact g2 j h1
    ·have:j=i:=by omega
     subst this;exact h
   generalize zs.getD i z0=z at *;obtain⟨zf,ws⟩:=z;simp only at a1 a2 sr eV sE;apply aq;simp(disch:=omega) ;apply bc;clear bc;refine af λK3 bD=>?_;apply aj
   by_cases h1:zf=f
   ·have b1:(zf==f)=true:=by simpa using h1
    have hp:=eV h1;refine ae λK hK=>?_;simp(disch:=omega)[a1,a2,fV,hk,b1,h1];apply hK;apply aG rfl;have Zf:(0+ws.length)*24<=140737488355328:=by omega
    have agX:0+ws.length<=9223372036854775807:=by omega
    refine ae λK hK=>?_;simp(disch:=omega)[a1,a2,fV,hk,gB,dm];apply hK;apply ay;simp(disch:=omega) ;rw[hp];exact⟨rfl,rfl⟩
   ·have b1:(zf==f)=false:=by simpa using h1
    refine ae λK hK=>?_;simp(disch:=omega)[a1,a2,fV,hk,b1,h1];apply hK;apply aD rfl;apply aq;simp(disch:=omega) ;apply bD;clear bD;refine aB λK hK=>?_;simp(disch:=omega) ;apply hK;refine⟨i+1,⟨by show i+1<=_;omega,sE h1⟩,by show zs.length-(i+1)<zs.length-i;omega,?_⟩;refine ag [] [] ?_ ?_ ?_ ?_ ff ?_
    all_goals simp
  ·simp  at hk;have hn:=DE f zs λj hj=>g2 j (by omega);apply aF;simp(disch:=omega) ;apply aO;clear aO;apply ae;intro K Z;simp(disch:=omega);apply Z;apply ay;simp(disch:=omega) ;rw[hn];exact⟨rfl,rfl⟩
attribute [-simp] getD_eq_getElem?_getD in
def L6 (d:Dc)(hs:o5 d)(hn6:d.ns.length<=1000000)(f:Int)(H:List az)(T:au):ar Tryz.prog 152 [.agg (dP d),.int .i64 f] H T (Is (.sl (Cz d.ns f).length (ints (Cz d.ns f)) .none) H T):=by
 refine ar.bV ?_ (by simp);obtain⟨id,zs,ns⟩:=d;simp only at hn6 ⊢;refine ah 7 [] Tryz.ntmps152 Tryz.func152 rfl (λ_ _=>Tryz.call152 _ _) (by simp) (λHO=>?_);apply ae;intro K Z;simp(disch:=omega);apply Z;have ff:bJ (H++[.cells (dP ⟨id,zs,ns⟩)]) T:=HO.snoc (by simp);apply ae;intro K Z;simp(disch:=omega);apply Z;refine af λK1 aO=>?_;apply ae;intro K Z;simp(disch:=omega);apply Z;apply aj;refine m9 5 0 1 [] (by omega) (by simp) ?_;refine aI (X:=Nat) (λi=>⟨[(1,.int .i64 f),(2,.ptr H.length 0),(5,.sl (Cz (ns.take i) f).length (ints (Cz (ns.take i) f)) (.own T.length)),(6,.int .i64 (i:Nat))],H++[.cells (dP ⟨id,zs,ns⟩)],T++[((Cz (ns.take i) f).length,1)]⟩)
  (λi=>i<=ns.length) (λi=>ns.length-i) 0 ?_ ?_ ?_
 ·exact ahu _
 ·refine ag [] [] ?_ ?_ ?_ ?_ (ff.kC (by simp)) ?_
  all_goals simp[Cz]
 ·intro i g1;refine af λK2 bc=>?_;apply ae;intro K Z;simp(disch:=omega);apply Z;refine aT rfl (λhk=>?_) (λhk=>?_)
  ·simp  at hk;obtain⟨a1,a2⟩:=TF ns i hk;have iH:=Qj ns f i hk;have CT:(Cz (ns.take i) f).length<=1000000:=by
    unfold Cz;rw[ahz];exact aho (ahU _ _) (by rw[ahJ];omega)
   generalize Cz (ns.take i) f=out at *;generalize ns.getD i n0=x at *;obtain⟨xf,xn⟩:=x;simp only at a1 a2 iH;apply aq;simp(disch:=omega) ;apply bc;clear bc;refine af λK3 bD=>?_;apply aj
   by_cases h1:xf=f
   ·have b1:(xf==f)=true:=by simpa using h1
    rw[ahs h1] at iH;refine ae λK hK=>?_;simp(disch:=omega)[a1,a2,cH,hk,b1,h1];apply hK;apply aG rfl;refine aB λK hK=>?_;simp(disch:=omega)[a1,a2,cH,hk,eG];apply hK;apply bD;clear bD;refine aB λK hK=>?_;simp(disch:=omega) ;apply hK;refine⟨i+1,by show i+1<=_;omega,by show ns.length-(i+1)<ns.length-i;omega,?_⟩;refine ag [] [] ?_ ?_ ?_ ?_ (ff.kC (by simp)) ?_
    all_goals simp[iH]
   ·have b1:(xf==f)=false:=by simpa using h1
    rw[ahq h1,ahH] at iH;refine ae λK hK=>?_;simp(disch:=omega)[a1,a2,cH,hk,b1,h1];apply hK;apply aD rfl;apply aq;simp(disch:=omega) ;apply bD;clear bD;refine aB λK hK=>?_;simp(disch:=omega) ;apply hK;refine⟨i+1,by show i+1<=_;omega,by show ns.length-(i+1)<ns.length-i;omega,?_⟩;refine ag [] [] ?_ ?_ ?_ ?_ (ff.kC (by simp)) ?_
    all_goals simp[iH]
  ·simp  at hk;have CE:i=ns.length:=by omega
   subst CE;rw[ahE];apply aF;simp(disch:=omega) ;apply aO;clear aO;apply ae;intro K Z;simp(disch:=omega);apply Z;apply ay;simp(disch:=omega) 
attribute [-simp] getD_eq_getElem?_getD in
def Fu (l:List Dc)(hl:l.length<=1000000)(H:List az)(T:au)(tg:Tag):ar Tryz.prog 84 [.sl l.length (aM l) tg] H T (Is (.sl (ep l).length (aM (ep l)) .none) H T):=by
 refine ar.cg ?_;refine ar.bV ?_ (by simp);refine ah 6 [] Tryz.ntmps84 Tryz.func84 rfl (λ_ _=>Tryz.call84 _ _) (by simp) (λHO=>?_);apply ae;intro K Z;simp(disch:=omega);apply Z;apply ae;intro K Z;simp(disch:=omega);apply Z;refine af λK1 aO=>?_;apply ae;intro K Z;simp(disch:=omega);apply Z;apply aj;refine aI (X:=Nat) (λk=>⟨[(0,.sl l.length (aM l) .none),(3,.sl (ep (l.take k)).length (aM (ep (l.take k))) .none),(4,.int .i64 (k:Nat))],H,T⟩)
  (λk=>k<=l.length) (λk=>l.length-k) 0 ?_ ?_ ?_
 ·exact ahu _
 ·refine ag [] [] ?_ ?_ ?_ ?_ HO ?_
  all_goals simp[ep,tH]
 ·intro k g1;refine af λK2 bc=>?_;apply ae;intro K Z;simp(disch:=omega);apply Z;refine aT rfl (λhk=>?_) (λhk=>?_)
  ·simp  at hk;have jv:=(iU l k hk).1;have hcut:=fJ l k hk;have nu:ep (l.take (k+1))=o8 (l.getD k d0) (ep (l.take k)):=by rw[aU l k d0 hk];exact Hv _ _
   have hdl:(ep (l.take k)).length<=1000000:=by rw[dW,ahJ];omega
   generalize ep (l.take k)=d at *;generalize l.getD k d0=x at *;apply aq;simp(disch:=omega) ;apply bc;clear bc;refine af λK3 bD=>?_;apply aj;apply ae;intro K Z;simp(disch:=omega);apply Z;refine af λK5 lD=>?_;apply aj;refine aI (X:=Nat) (λn=>⟨[(0,.sl l.length (aM l) .none),(3,.sl d.length (aM d) .none),(4,.int .i64 (k:Nat)),(5,.int .i64 (n:Nat))],H,T⟩)
    (λn=>n<=d.length/\∀j,j<n->(d.getD j d0).id<=x.id) (λn=>d.length-n) 0 ?_ ?_ ?_
   ·exact⟨ahu _,λj hj=>absurd hj (ahO _)⟩
   ·refine ag [] [] ?_ ?_ ?_ ?_ HO ?_
    all_goals simp
   ·rintro n ⟨Ba,CD⟩;have go:(n<d.length->¬(d.getD n d0).id<=x.id)->∀e,bu H.length T.length e [(0,.sl l.length (aM l) .none),(3,.sl d.length (aM d) .none),(4,.int .i64 (k:Nat)),(5,.int .i64 (n:Nat))]->K5 ⟨e,H,T⟩:=by
     intro zu e he;have Dd:=JL x d n Ba CD zu;refine lD _ (aH ⟨[(0,.sl l.length (aM l) .none),(3,.sl d.length (aM d) .none),(4,.int .i64 (k:Nat)),(5,.int .i64 (n:Nat))],H,T⟩ (ag [] [] (by simp) (by simp) (by simp) (by simp) HO (by simpa using he)) ?_);have ht:=Uh d n;have hdr:=MR d n;have hlt:(aM (d.take n)).length=n*3:=by rw[ba,ahJ];omega
     have Yx:(aM (d.drop n)).length=(d.length-n)*3:=by rw[ba,ah4]
     have iH:(aM (d.drop n)).take ((d.length-n)*3)=aM (d.drop n):=by rw[<-Yx,ahE]
     have yT:aM (d.take n)++.int .i64 x.id::.sl x.zs.length (fu x.zs) .none::.sl x.ns.length (br x.ns) .none::aM (d.drop n)=aM (o8 x d):=by rw[Dd];simp[aM]
     have hlen:n+1+(d.length-n)=(o8 x d).length:=by rw[Dd];simp;omega
     refine cT [4,10,14] [0,0,0,0,0,0,0,0,0,0,1,0,0,0,2,3] [[],[],[]] aw (by kernel_rfl) (by kernel_rfl) λK hK=>?_;simp(disch:=omega)[dm,ba,ht,hdr,hlt,Yx,iH,jv,hcut,hk];rw[yT,hlen];apply hK;apply bD;clear bD;refine aB λK hK=>?_;simp(disch:=omega) ;apply hK;refine⟨k+1,by show k+1<=_;omega,by show l.length-(k+1)<l.length-k;omega,?_⟩;simp only[nu];refine ag [] [((o8 x d).length*3,3)] ?_ ?_ ?_ ?_ HO ?_
     all_goals simp
    refine af λK6 om=>?_
    by_cases zu:n<d.length
    ·have Zv:=(iU d n zu).1;have hst:(d.getD n d0).id<=x.id->∀j,j<n+1->(d.getD j d0).id<=x.id:=λh j hj=>by
      rcases ahr j n with h3|h3
      ·exact CD j h3
      ·have:j=n:=by omega
       subst this;exact h
     generalize d.getD n d0=y at *;have b4:decide ((n:Int)<d.length)=true:=ahm (by omega)
     by_cases ha:y.id<=x.id
     ·have b5:decide (y.id<=x.id)=true:=ahm ha;refine aJ [] [] [] aw (by kernel_rfl) (by kernel_rfl) λK hK=>?_;simp(disch:=omega)[b4,zu,Zv,ba,jv,hk,b5,ha];apply hK;apply aG rfl;apply aq;simp(disch:=omega) ;apply om;clear om;apply aj;refine aB λK hK=>?_;simp(disch:=omega) ;apply hK;refine⟨n+1,⟨by show n+1<=_;omega,hst ha⟩,by show d.length-(n+1)<d.length-n;omega,?_⟩;refine ag [] [] ?_ ?_ ?_ ?_ HO ?_
      all_goals simp
     ·have b5:decide (y.id<=x.id)=false:=ahn ha;refine aJ [] [] [] aw (by kernel_rfl) (by kernel_rfl) λK hK=>?_;simp(disch:=omega)[b4,zu,Zv,ba,jv,hk,b5,ha];apply hK;apply aD rfl;apply aF;simp(disch:=omega) ;refine go (λ_=>ha) _ ?_;simp
    ·have b4:decide ((n:Int)<d.length)=false:=ahn (by omega);refine aJ [] [] [] aw (by kernel_rfl) (by kernel_rfl) λK hK=>?_;simp(disch:=omega)[b4,zu];apply hK;apply aD rfl;apply aF;simp(disch:=omega) ;refine go (λh=>absurd h zu) _ ?_;simp
  ·simp  at hk;have e:k=l.length:=by omega
   subst e;rw[ahE];apply aF;simp(disch:=omega) ;apply aO;clear aO;apply ae;intro K Z;simp(disch:=omega);apply Z;apply ay;simp(disch:=omega) 
attribute [-simp] getD_eq_getElem?_getD in
def H6 (x y:Nm)(H:List az)(T:au):ar Tryz.prog 150 [.agg [.int .i64 x.1,.int .i64 x.2],.agg [.int .i64 y.1,.int .i64 y.2]] H T (Is (.bool (dh x y)) H T):=by
 refine ar.bV ?_ (by simp);generalize hq:dh x y=q;unfold dh at hq;obtain⟨x1,x2⟩:=x;obtain⟨y1,y2⟩:=y;simp only at hq;refine ah 5 [] Tryz.ntmps150 Tryz.func150 rfl (λ_ _=>Tryz.call150 _ _) (by simp) (λHO=>?_);apply ae;intro K Z;simp(disch:=omega);apply Z
 by_cases h1:x1<y1
 ·have b1:decide (x1<y1)=true:=ahm h1;rw[b1] at hq;refine ae λK hK=>?_;simp(disch:=omega)[b1,h1];apply hK;apply ay;simp(disch:=omega) ;rw[<-hq];rfl
 ·have b1:decide (x1<y1)=false:=ahn h1
  by_cases h2:x1=y1
  ·have b2:(x1==y1)=true:=by simpa using h2
   rw[b1,ahm h2,ais,ai2] at hq;refine ae λK hK=>?_;simp(disch:=omega)[b1,h1,b2,h2];apply hK;apply ay;simp(disch:=omega) ;exact hq
  ·have b2:(x1==y1)=false:=by simpa using h2
   rw[b1,ahn h2,Bool.false_and,ai2] at hq;refine ae λK hK=>?_;simp(disch:=omega)[b1,h1,b2,h2];apply hK;apply ay;simp(disch:=omega) ;exact hq.symm
end Go.Proofs.YtoejlmpbebjemaaGreat
namespace eT
theorem Er (ws:List Wd):∀k,(∀j,j<k->o7 ws j=true)->-1<=iN ws k
 |0,_=>by simp[iN]
 |k+1,h=>by
  have h1:=Er ws k λj hj=>h j (by omega);have h2:=h k (by omega);unfold o7 at h2;simp only[aht,ahv] at h2;have h3:=h2.2.1;have h4:iN ws (k+1)=(ws.getD k w0).2:=by simp[iN]
  rw[h4];omega
theorem Ep (zs:List Zn):∀k,(∀j,j<k->mJ zs j=true)->0<=iF zs k
 |0,_=>by simp[iF]
 |k+1,h=>by
  have h1:=Ep zs k λj hj=>h j (by omega);have h2:=h k (by omega);unfold mJ at h2;simp only[aht,ahv] at h2;have h3:=h2.1.1;have h4:iF zs (k+1)=(zs.getD k z0).f:=by simp[iF]
  rw[h4];omega
end eT
namespace Go.Proofs.YtoejlmpbebjemaaGreat
open Go.Proofs.Tryz(prog)
open Go Go.Am im eT
attribute [-simp] getD_eq_getElem?_getD in
theorem Hk (id:Int)(zs:List Zn)(ns:List Nm)(f:Int)(ws:List Wd)(i:Nat)(sr:ws.length<=maxLen)(CB:∀w∈ws,w.1.length<=maxLen)(H:List az)(T:au)(fx:bJ (H++[.cells (dP ⟨id,zs,ns⟩),.cells (oR ⟨f,ws⟩)]) T)
  (Q:Exit->St->Prop) (bad:∀k,k<ws.length->o7 ws k=false->∀(e:Env)(rH:List az)(rT:au),bE e 2=.bool false->Q .ret ⟨e,H++rH,T++rT⟩)
  (go:(∀k,k<ws.length->o7 ws k=true)->∀e:Env,bu (H.length+2) T.length e [(1,.ptr H.length 0),(3,.int .i64 (i:Nat))]->Q .normal ⟨e,H++[.cells (dP ⟨id,zs,ns⟩),.cells (oR ⟨f,ws⟩)],T⟩) :
  AW ⟨prog,146,9,H.length,T.length,[]⟩ (dY [1,0,1,0,0,1,0,0,1,1] (Tryz.f83.body.getD .skip)) Q ⟨[(1,.ptr H.length 0),(3,.int .i64 (i:Nat)),(4,.ptr (H.length+1) 0)],H++[.cells (dP ⟨id,zs,ns⟩),.cells (oR ⟨f,ws⟩)],T⟩:=by
 conv=>arg 2;whnf
 have kH:maxLen<=9223372036854775807:=by decide
 have Zf:=aho sr kH;apply ae;intro K Z;simp(disch:=omega);apply Z;apply aj;refine aI (X:=Nat) (λk=>⟨[(1,.ptr H.length 0),(3,.int .i64 (i:Nat)),(4,.ptr (H.length+1) 0),(5,.int .i64 (k:Nat))],H++[.cells (dP ⟨id,zs,ns⟩),.cells (oR ⟨f,ws⟩)],T⟩)
  (λk=>k<=ws.length/\∀j,j<k->o7 ws j=true) (λk=>ws.length-k) 0 ?_ ?_ ?_
 ·exact⟨ahu _,λj hj=>absurd hj (ahO _)⟩
 ·refine ag [] [] ?_ ?_ ?_ ?_ fx ?_
  all_goals simp
 ·rintro m ⟨m1,m2⟩;refine af λK5 lD=>?_;apply ae;intro K Z;simp(disch:=omega);apply Z;refine aT rfl (λgq=>?_) (λgq=>?_)
  ·simp  at gq;have yO:=tm ws m gq;have hge:=Er ws m m2;have gJ:o7 ws m=(okW (ws.getD m w0).1&&(decide (iN ws m<(ws.getD m w0).2)&&decide ((ws.getD m w0).2<=1000000))):=rfl;have dy:0<m->iN ws m=(ws.getD (m-1) w0).2:=λh=>by unfold iN;rw[ahq (by omega)]
   have GZ:m=0->iN ws m=-1:=λh=>by unfold iN;rw[ahs h]
   have Gq:=λh=>(BG ws (m-1) h).2;have Ga:=CB _ (aS ws m w0 gq);generalize iN ws m=la at *;generalize (ws.getD (m-1) w0).2=py at *;generalize VR:ws.getD m w0=z at *;obtain⟨x1,x2⟩:=z;simp only at yO Gq gJ Ga;apply aq;simp(disch:=omega) ;apply lD;clear lD;refine af λK6 om=>?_;apply aj;refine ae λK hK=>?_;simp(disch:=omega)[yO,gB];apply hK;have Bd:bJ (H++[.cells (dP ⟨id,zs,ns⟩),.cells (oR ⟨f,ws⟩),.cells [.str x1,.int .i64 x2]]) T:=by
    have:=bJ.snoc (vs:=[.str x1,.int .i64 x2]) fx (by simp);simpa using this
   have cw:=Ph x1 Ga (H++[.cells (dP ⟨id,zs,ns⟩),.cells (oR ⟨f,ws⟩),.cells [.str x1,.int .i64 x2]]) T;refine aJ [] [] [] aw (by kernel_rfl) (by kernel_rfl) λK hK=>?_;have kV:∀e b,b=o7 ws m->bu (H.length+3) T.length e [(1,.ptr H.length 0),(3,.int .i64 (i:Nat)),(4,.ptr (H.length+1) 0),(5,.int .i64 (m:Nat)),(92,.bool (!b))]->K ⟨e,H++[.cells (dP ⟨id,zs,ns⟩),.cells (oR ⟨f,ws⟩),.cells [.str x1,.int .i64 x2]],T⟩:=by
    intro e b2 kP yM;refine hK _ (aH ⟨[(1,.ptr H.length 0),(3,.int .i64 (i:Nat)),(4,.ptr (H.length+1) 0),(5,.int .i64 (m:Nat)),(92,.bool (!b2))],H++[.cells (dP ⟨id,zs,ns⟩),.cells (oR ⟨f,ws⟩)],T⟩ (ag [.cells [.str x1,.int .i64 x2]] [] (by simp) (by simp) (by simp) (by simp) fx (by simpa using yM)) ?_)
    cases b2 with
    |false=>
     apply aG rfl;apply ae;intro K Z;simp(disch:=omega);apply Z;apply ay;rw[<-append_nil T];exact bad m gq kP.symm _ _ _ rfl
    |true=>
     apply aD rfl;apply aq;simp(disch:=omega) ;apply om;clear om;refine aB λK hK=>?_;simp(disch:=omega) ;apply hK;refine⟨m+1,⟨by show m+1<=_;omega,λj hj=>?_⟩,by show ws.length-(m+1)<ws.length-m;omega,?_⟩
     ·rcases ahr j m with h|h
      ·exact m2 j h
      ·have:j=m:=by omega
       subst this;exact kP.symm
     ·refine ag [] [] ?_ ?_ ?_ ?_ fx ?_
      all_goals simp
   clear hK
   cases hw:okW x1 with
   |false=>
    rw[hw] at cw gJ;simp(disch:=omega) ;refine aC (cw) rfl ?_;simp(disch:=omega) ;refine kV _ false (by rw[gJ];rfl) (by simp)
   |true=>
   rw[hw] at cw gJ;rw[ais] at gJ
   by_cases v3:x2<0
   ·have w3:decide (x2<0)=true:=ahm v3;simp(disch:=omega) ;refine aC (cw) rfl ?_;simp(disch:=omega)[w3,v3];refine kV _ false (by rw[gJ,ahn (by omega:¬la<x2)];rfl) (by simp)
   have w3:decide (x2<0)=false:=ahn v3
   by_cases v4:1000000<x2
   ·have w4:decide (1000000<x2)=true:=ahm v4;simp(disch:=omega) ;refine aC (cw) rfl ?_;simp(disch:=omega)[w3,v3,w4,v4];refine kV _ false (by rw[gJ,ahn (by omega:¬x2<=1000000)];simp) (by simp)
   have w4:decide (1000000<x2)=false:=ahn v4;rw[ahm (by omega:x2<=1000000),Bool.and_true] at gJ;rcases ahR m with h5|h5
   ·have hl0:=GZ h5;subst h5;simp(disch:=omega) ;refine aC (cw) rfl ?_;simp(disch:=omega)[w3,v3,w4,v4];refine kV _ true (by rw[gJ,ahm (by omega:la<x2)]) (by simp)
   ·have e6:((m:Int)-1)=((m-1:Nat):Int):=by omega
    have b5:decide ((0:Int)<(m:Int))=true:=ahm (by omega);have ud:=Gq (by omega);have hl0:=dy h5
    by_cases v5:x2<=py
    ·have w5:decide (x2<=py)=true:=ahm v5;simp(disch:=omega) ;refine aC (cw) rfl ?_;simp(disch:=omega)[w3,v3,w4,v4,b5,h5,e6,ud,gB,w5,v5];refine kV _ false (by rw[gJ,ahn (by omega:¬la<x2)]) (by simp)
    ·have w5:decide (x2<=py)=false:=ahn v5;simp(disch:=omega) ;refine aC (cw) rfl ?_;simp(disch:=omega)[w3,v3,w4,v4,b5,h5,e6,ud,gB,w5,v5];refine kV _ true (by rw[gJ,ahm (by omega:la<x2)]) (by simp)
  ·simp  at gq;apply aF;simp(disch:=omega) ;exact go (λk h=>m2 k (by omega)) _ (by simp)
attribute [-simp] getD_eq_getElem?_getD in
theorem H8 (d:Dc)(hs:o5 d)(hz:∀i,i<d.zs.length->mJ d.zs i=true)(H:List az)(T:au)(HO:bJ (H++[.cells (dP d)]) T) :
  AW ⟨prog,146,9,H.length,T.length,[]⟩ (dY [1,1] (Tryz.f83.body.getD .skip)) (sJ prog Tryz.f83.results.toList λr H' T'=>(∃rH,H'=H++rH)/\(∃rT,T'=T++rT)/\(r=.bool (aR d)\/cG r=.bool (aR d))) ⟨[(1,.ptr H.length 0)],H++[.cells (dP d)],T⟩:=by
 conv=>arg 2;whnf
 have kH:maxLen<=9223372036854775807:=by decide
 have Sz:=λi h=>DN (d:=d) (i:=i) h;have Bo:=qn (d:=d);have wT:=λh1 h3=>vq (d:=d) h1 hz h3;obtain⟨id,zs,ns⟩:=d;obtain⟨_,_,hn⟩:=hs;simp only at hn Sz Bo wT;have Yv:=aho hn kH;generalize hq:aR ⟨id,zs,ns⟩=q at *;refine af λK1 aO=>?_;apply ae;intro K Z;simp(disch:=omega);apply Z;apply aj;refine aI (X:=Nat) (λi=>⟨[(1,.ptr H.length 0),(7,.int .i64 (i:Nat))],H++[.cells (dP ⟨id,zs,ns⟩)],T⟩)
  (λi=>i<=ns.length/\∀j,j<i->qR ns j=true) (λi=>ns.length-i) 0 ?_ ?_ ?_
 ·exact⟨ahu _,λj hj=>absurd hj (ahO _)⟩
 ·refine ag [] [] ?_ ?_ ?_ ?_ HO ?_
  all_goals simp
 ·rintro m ⟨m1,m2⟩;refine af λK5 lD=>?_;apply ae;intro K Z;simp(disch:=omega);apply Z;refine aT rfl (λgq=>?_) (λgq=>?_)
  ·simp  at gq;have yO:=ia ns m gq;have gJ:qR ns m=(vQ (ns.getD m n0)&&(decide (m=0)||dh (ns.getD (m-1) n0) (ns.getD m n0))):=rfl;have cn:=λH T=>H6 (ns.getD (m-1) n0) (ns.getD m n0) H T;replace Sz:=Sz m gq;generalize dh (ns.getD (m-1) n0) (ns.getD m n0)=cq at *;have Gq:=λh=>ia ns (m-1) h;generalize ns.getD (m-1) n0=y at *;generalize VR:ns.getD m n0=z at *;obtain⟨x1,x2⟩:=z;obtain⟨y1,y2⟩:=y;simp only at yO Gq gJ;unfold vQ at gJ;simp only at gJ;apply aq;simp(disch:=omega) ;apply lD;clear lD;refine af λK6 om=>?_;apply aj;refine ae λK hK=>?_;simp(disch:=omega)[yO,cH];apply hK;have c:=cn (H++[.cells (dP ⟨id,zs,ns⟩),.cells [.int .i64 x1,.int .i64 x2]]) T;refine aJ [] [] [] aw (by kernel_rfl) (by kernel_rfl) λK hK=>?_;have kV:∀e b,b=qR ns m->bu (H.length+2) T.length e [(1,.ptr H.length 0),(7,.int .i64 (m:Nat)),(137,.bool (!b))]->K ⟨e,H++[.cells (dP ⟨id,zs,ns⟩),.cells [.int .i64 x1,.int .i64 x2]],T⟩:=by
    intro e b2 kP yM;refine hK _ (aH ⟨[(1,.ptr H.length 0),(7,.int .i64 (m:Nat)),(137,.bool (!b2))],H++[.cells (dP ⟨id,zs,ns⟩)],T⟩ (ag [.cells [.int .i64 x1,.int .i64 x2]] [] (by simp) (by simp) (by simp) (by simp) HO (by simpa using yM)) ?_)
    cases b2 with
    |false=>
     apply aG rfl;apply ae;intro K Z;simp(disch:=omega);apply Z;apply ay;simp(disch:=omega) ;exact Sz kP.symm
    |true=>
     apply aD rfl;apply aq;simp(disch:=omega) ;apply om;clear om;refine aB λK hK=>?_;simp(disch:=omega) ;apply hK;refine⟨m+1,⟨by show m+1<=_;omega,λj hj=>?_⟩,by show ns.length-(m+1)<ns.length-m;omega,?_⟩
     ·rcases ahr j m with h|h
      ·exact m2 j h
      ·have:j=m:=by omega
       subst this;exact kP.symm
     ·refine ag [] [] ?_ ?_ ?_ ?_ HO ?_
      all_goals simp
   clear hK
   by_cases v1:x1<5
   ·have w1:decide (x1<5)=true:=ahm v1;simp(disch:=omega)[w1,v1];refine kV _ false (by rw[gJ,ahn (by omega:¬(5<=x1/\x1<=7))];rfl) (by simp)
   have w1:decide (x1<5)=false:=ahn v1
   by_cases v2:7<x1
   ·have w2:decide (7<x1)=true:=ahm v2;simp(disch:=omega)[w1,v1,w2,v2];refine kV _ false (by rw[gJ,ahn (by omega:¬(5<=x1/\x1<=7))];rfl) (by simp)
   have w2:decide (7<x1)=false:=ahn v2;rw[ahm (by omega:5<=x1/\x1<=7),ais] at gJ
   by_cases v3:x2<0
   ·have w3:decide (x2<0)=true:=ahm v3;simp(disch:=omega)[w1,v1,w2,v2,w3,v3];refine kV _ false (by rw[gJ,ahn (by omega:¬(0<=x2/\x2<=1000000000000))];rfl) (by simp)
   have w3:decide (x2<0)=false:=ahn v3
   by_cases v4:1000000000000<x2
   ·have w4:decide (1000000000000<x2)=true:=ahm v4;simp(disch:=omega)[w1,v1,w2,v2,w3,v3,w4,v4];refine kV _ false (by rw[gJ,ahn (by omega:¬(0<=x2/\x2<=1000000000000))];rfl) (by simp)
   have w4:decide (1000000000000<x2)=false:=ahn v4;rw[ahm (by omega:0<=x2/\x2<=1000000000000),ais] at gJ;rcases ahR m with h5|h5
   ·subst h5;simp(disch:=omega)[w1,v1,w2,v2,w3,v3,w4,v4];refine kV _ true (by rw[gJ];rfl) (by simp)
   ·have e6:((m:Int)-1)=((m-1:Nat):Int):=by omega
    have b5:decide ((0:Int)<(m:Int))=true:=ahm (by omega);have ud:=Gq (by omega);rw[ahn (by omega:¬m=0),ai2] at gJ;simp(disch:=omega)[w1,v1,w2,v2,w3,v3,w4,v4,b5,h5,e6,ud,cH];refine aC (c) rfl ?_;simp(disch:=omega) ;refine kV _ cq gJ.symm (by simp)
  ·simp  at gq;apply aF;simp(disch:=omega) ;apply aO;clear aO
   by_cases h1:1<=id
   ·have b1:decide (1<=id)=true:=ahm h1
    by_cases h2:id<=1000000000
    ·have b2:decide (id<=1000000000)=true:=ahm h2;refine ae λK hK=>?_;simp(disch:=omega)[b1,h1,b2,h2];apply hK;apply ay;simp(disch:=omega) ;exact wT ⟨h1,h2⟩ (λj hj=>m2 j (by omega))
    ·have b2:decide (id<=1000000000)=false:=ahn h2;refine ae λK hK=>?_;simp(disch:=omega)[b1,h1,b2,h2];apply hK;apply ay;simp(disch:=omega) ;exact Bo (by omega)
   ·have b1:decide (1<=id)=false:=ahn h1;refine ae λK hK=>?_;simp(disch:=omega)[b1,h1];apply hK;apply ay;simp(disch:=omega) ;exact Bo (by omega)
attribute [-simp] getD_eq_getElem?_getD in
theorem Fs (d:Dc)(hs:o5 d)(H:List az)(T:au):ar prog 83 [.agg (dP d)] H T (Is (.bool (aR d)) H T):=by
 refine ar.bV ?_ (by simp);have kH:maxLen<=9223372036854775807:=by decide
 have Ob:=λi h=>mg (d:=d) (i:=i) h;have tail:=λhz=>H8 d hs hz H T;obtain⟨id,zs,ns⟩:=d;obtain⟨hz,hw,hn⟩:=hs;simp only at hz hw hn Ob tail;have hz':=aho hz kH;generalize hq:aR ⟨id,zs,ns⟩=q at *;refine ah 9 [] Tryz.ntmps83 Tryz.func83 rfl (λ_ _=>Tryz.call83 _ _) (by simp) (λHO=>?_);apply ae;intro K Z;simp(disch:=omega);apply Z;have ff:bJ (H++[.cells (dP ⟨id,zs,ns⟩)]) T:=HO.snoc (by simp);replace tail:=λhz=>tail hz ff;refine af λK1 aO=>?_;apply ae;intro K Z;simp(disch:=omega);apply Z;apply aj;refine aI (X:=Nat) (λi=>⟨[(1,.ptr H.length 0),(3,.int .i64 (i:Nat))],H++[.cells (dP ⟨id,zs,ns⟩)],T⟩)
  (λi=>i<=zs.length/\∀j,j<i->mJ zs j=true) (λi=>zs.length-i) 0 ?_ ?_ ?_
 ·exact⟨ahu _,λj hj=>absurd hj (ahO _)⟩
 ·refine ag [] [] ?_ ?_ ?_ ?_ ff ?_
  all_goals simp
 ·rintro i ⟨g1,g2⟩;refine af λK2 bc=>?_;apply ae;intro K Z;simp(disch:=omega);apply Z;refine aT rfl (λhk=>?_) (λhk=>?_)
  ·simp  at hk;have hcut:=th zs i hk;obtain⟨sr,CB⟩:=hw _ (aS zs i z0 hk);have hge:=Ep zs i g2;have qV:=Eg (zs:=zs) (i:=i);have VY:=λk=>OQ (zs:=zs) (i:=i) (k:=k);have DA:=Ap (zs:=zs) (i:=i);replace Ob:=Ob i hk;have dy:0<i->iF zs i=(zs.getD (i-1) z0).f:=λh=>by unfold iF;rw[ahq (by omega)]
   have GZ:i=0->iF zs i=0:=λh=>by unfold iF;rw[ahs h]
   have jv:=λh=>(wk zs (i-1) h).1;generalize iF zs i=la at *;generalize (zs.getD (i-1) z0).f=fp at *;generalize zs.getD i z0=z at *;obtain⟨f,ws⟩:=z;simp only at hcut sr CB qV VY DA;have Zf:=aho sr kH;apply aq;simp(disch:=omega) ;apply bc;clear bc;refine af λK3 bD=>?_;apply aj;refine ae λK hK=>?_;simp(disch:=omega)[hcut,fV];apply hK;have fx:bJ (H++[.cells (dP ⟨id,zs,ns⟩),.cells (oR ⟨f,ws⟩)]) T:=by
    have:=bJ.snoc (vs:=oR ⟨f,ws⟩) ff (by simp);simpa using this
   refine af λK4 lN=>?_;refine aJ [] [] [] aw (by kernel_rfl) (by kernel_rfl) λK hK=>?_;have key:∀e b,(b=true->la<f/\f<=4/\ws.length≠0)->(b=false->mJ zs i=false)->bu (H.length+2) T.length e [(1,.ptr H.length 0),(3,.int .i64 (i:Nat)),(4,.ptr (H.length+1) 0),(50,.bool (!b))]->K ⟨e,H++[.cells (dP ⟨id,zs,ns⟩),.cells (oR ⟨f,ws⟩)],T⟩:=by
    intro e b hb hb' he;refine hK _ (aH ⟨[(1,.ptr H.length 0),(3,.int .i64 (i:Nat)),(4,.ptr (H.length+1) 0),(50,.bool (!b))],H++[.cells (dP ⟨id,zs,ns⟩),.cells (oR ⟨f,ws⟩)],T⟩ (ag [] [] (by simp) (by simp) (by simp) (by simp) fx (by simpa using he)) ?_)
    cases b with
    |false=>
     apply aG rfl;apply ae;intro K Z;simp(disch:=omega);apply Z;apply ay;simp(disch:=omega) ;exact Ob (hb' rfl)
    |true=>
    obtain⟨b1,b2,b3⟩:=hb rfl;apply aD rfl;apply aq;simp(disch:=omega) ;apply lN;clear lN;refine aH ⟨[(1,.ptr H.length 0),(3,.int .i64 (i:Nat)),(4,.ptr (H.length+1) 0)],H++[.cells (dP ⟨id,zs,ns⟩),.cells (oR ⟨f,ws⟩)],T⟩ (ag [] [] (by simp) (by simp) (by simp) (by simp) fx (by simp)) ?_;refine Hk id zs ns f ws i sr CB H T fx _ (λk yK VW e rH rT he=>?_) λhg e he=>?_
    ·show sJ prog Tryz.f83.results.toList (λr H' T'=>(∃rH,H'=H++rH)/\(∃rT,T'=T++rT)/\(r=.bool q\/cG r=.bool q)) .ret _;simp[he,Ob (VY k yK VW)]
    ·refine bD _ (aH ⟨[(1,.ptr H.length 0),(3,.int .i64 (i:Nat))],H++[.cells (dP ⟨id,zs,ns⟩)],T⟩ (ag [.cells (oR ⟨f,ws⟩)] [] (by simp) (by simp) (by simp) (by simp) ff (by simpa using he)) ?_);refine aB λK hK=>?_;simp(disch:=omega) ;apply hK;refine⟨i+1,⟨by show i+1<=_;omega,λj hj=>?_⟩,by show zs.length-(i+1)<zs.length-i;omega,?_⟩
     ·rcases ahr j i with h|h
      ·exact g2 j h
      ·have:j=i:=by omega
       subst this;exact DA b1 b2 b3 hg
     ·refine ag [] [] ?_ ?_ ?_ ?_ ff ?_
      all_goals simp
   clear hK
   by_cases v1:f<1
   ·have w1:decide (f<1)=true:=ahm v1;simp(disch:=omega)[w1,v1];refine key _ false (λh=>by cases h) (λ_=>qV (by omega)) (by simp)
   have w1:decide (f<1)=false:=ahn v1
   by_cases v2:4<f
   ·have w2:decide (4<f)=true:=ahm v2;simp(disch:=omega)[w1,v1,w2,v2];refine key _ false (λh=>by cases h) (λ_=>qV (by omega)) (by simp)
   have w2:decide (4<f)=false:=ahn v2
   by_cases v3:ws.length=0
   ·have e3:ws=[]:=ah3.1 v3;subst e3;rcases ahR i with h5|h5
    ·subst h5;simp(disch:=omega)[w1,v1,w2,v2];refine key _ false (λh=>by cases h) (λ_=>qV (by simp)) (by simp)
    ·have e6:((i:Int)-1)=((i-1:Nat):Int):=by omega
     have b5:decide ((0:Int)<(i:Int))=true:=ahm (by omega);have De:=jv (by omega)
     by_cases v4:f<=fp
     ·have w4:decide (f<=fp)=true:=ahm v4;simp(disch:=omega)[w1,v1,w2,v2,b5,h5,e6,De,fV,w4,v4];refine key _ false (λh=>by cases h) (λ_=>qV (by simp)) (by simp)
     ·have w4:decide (f<=fp)=false:=ahn v4;simp(disch:=omega)[w1,v1,w2,v2,b5,h5,e6,De,fV,w4,v4];refine key _ false (λh=>by cases h) (λ_=>qV (by simp)) (by simp)
   have w3:((ws.length:Int)==0)=false:=ah5.2 (by omega);have n3:ws≠[]:=λe=>v3 (by rw[e];rfl);rcases ahR i with h5|h5
   ·have hl0:=GZ h5;subst h5;simp(disch:=omega)[w1,v1,w2,v2,w3,n3];refine key _ true (λ_=>⟨by omega,by omega,v3⟩) (λh=>by cases h) (by simp)
   ·have e6:((i:Int)-1)=((i-1:Nat):Int):=by omega
    have b5:decide ((0:Int)<(i:Int))=true:=ahm (by omega);have De:=jv (by omega);have hl0:=dy h5
    by_cases v4:f<=fp
    ·have w4:decide (f<=fp)=true:=ahm v4;simp(disch:=omega)[w1,v1,w2,v2,w3,n3,b5,h5,e6,De,fV,w4,v4];refine key _ false (λh=>by cases h) (λ_=>qV (by omega)) (by simp)
    ·have w4:decide (f<=fp)=false:=ahn v4;simp(disch:=omega)[w1,v1,w2,v2,w3,n3,b5,h5,e6,De,fV,w4,v4];refine key _ true (λ_=>⟨by omega,by omega,v3⟩) (λh=>by cases h) (by simp)
  ·simp  at hk;apply aF;simp(disch:=omega) ;apply aO;clear aO;refine aH ⟨[(1,.ptr H.length 0)],H++[.cells (dP ⟨id,zs,ns⟩)],T⟩ (ag [] [] (by simp) (by simp) (by simp) (by simp) ff (by simp)) ?_;exact tail λj hj=>g2 j (by omega)
end Go.Proofs.YtoejlmpbebjemaaGreat
namespace eT
open im Go.Am
abbrev k0:Ky:=(0,[])
abbrev vJ (k:Ky):List AV:=[.int .i64 k.1,.str k.2,.sl 0 [] .full]
def gS (l:List Ky):List AV:=l.flatMap λk=>[.int .i64 k.1,.str k.2,.sl 0 [] .full]
def wB:eu vJ 3:=λ_=>rfl
def mo (l:List Ky):(gS l).length=l.length*3:=bU wB l
def xN (l:List Ky)(rest:List AV)(i:Nat)(h:i<l.length):((gS l++rest).drop (i*3)).take 3=vJ (l.getD i k0):=by
 rw[List.drop_append,List.take_append,show ((gS l).drop (i*3)).take 3=vJ (l.getD i k0) from fW wB l i k0 h];rw[show 3-((gS l).drop (i*3)).length=0 by rw[ah4,mo];omega];simp
def TW (l:List Ky)(i:Nat):(gS l).take (i*3)=gS (l.take i):=nN wB l i
def Ml (l:List Ky)(i:Nat):(gS l).drop (i*3)=gS (l.drop i):=jZ wB l i
theorem JK (x:Ky):∀(d:List Ky)(n:Nat),n<=d.length->(∀j,j<n->bP (d.getD j k0) x=true)->(n<d.length->bP (d.getD n k0) x=false)->
  (n<d.length->bP x (d.getD n k0)=false->kW x d=d)/\((n<d.length->bP x (d.getD n k0)=true)->kW x d=d.take n++x::d.drop n)
 |[],n,h,_,_=>by
  have:n=0:=by simpa using h
  subst this;exact⟨λh=>absurd h (ahO _),λ_=>rfl⟩
 |y::r,0,_,_,h=>by
  have h1:bP y x=false:=h (by simp);refine⟨λ_ h2=>?_,λh2=>?_⟩
  ·have h2:bP x y=false:=h2;rw[kW,ahq (by simp[h1]),ahq (by simp[h2])]
  ·have h2:bP x y=true:=h2 (by simp);rw[kW,ahq (by simp[h1]),ahs h2];rfl
 |y::r,n+1,h0,h1,h2=>by
  have hy:bP y x=true:=h1 0 (by omega);obtain⟨a,b⟩:=JK x r n (by simpa using h0) (λj hj=>h1 (j+1) (by omega)) (λhn=>h2 (by simpa using hn));refine⟨λh3 h4=>?_,λh3=>?_⟩
  ·rw[kW,ahs hy,a (by simpa using h3) h4]
  ·rw[kW,ahs hy,b λh4=>h3 (by simpa using h4)];rfl
theorem EA (x:Ky):∀d:List Ky,(kW x d).length<=d.length+1
 |[]=>by simp[kW]
 |y::r=>by
  have:=EA x r;unfold kW
  split
  ·simp;omega
  ·split<;>simp
def dG (a:List Ky)(l:List Ky):List Ky:=l.foldl (λa k=>kW k a) a
theorem mB (l:List Ky):∀a:List Ky,(dG a l).length<=a.length+l.length:=by
 unfold dG
 induction l with
 |nil=>intro a;simp
 |cons x r ih=>intro a;rw[aiR];have:=ih (kW x a);have:=EA x a;simp;omega
def se (a l m:List Ky):dG a (l++m)=dG (dG a l) m:=by unfold dG;rw[ai0]
def fh (z:Zn):List Ky:=z.ws.map λw=>(z.f,w.1)
def dn (d:Dc):List Ky:=d.zs.flatMap fh
def qB (zs:List Zn):(eW zs).map (·.1)=zs.flatMap fh:=by
 unfold eW o6 fh;rw[List.map_flatMap];simp[ain,Function.comp_def]
def uO (L:List Dc):dL L=dG [] (L.flatMap dn):=by
 unfold dL dG dn
 congr 1
 congr 1
 funext d
 exact qB d.zs
def TR (h0:Nat)(J:List az)(ks:List Ky)(tv:AV):Prop:=
 (ks=[]/\tv=.sl 0 [] .full)\/(∃i rest,tv=.cK i 0 ks.length/\h0<=i/\J[i]?=some (.cells (gS ks++rest))/\0<ks.length)
def TR.app {h0:Nat}{J:List az}{ks:List Ky}{tv:AV}(h:TR h0 J ks tv)(G:List az):TR h0 (J++G) ks tv:=by
 rcases h with h|⟨i,rest,h1,h2,h3,h4⟩
 ·exact .inl h
 ·exact .inr ⟨i,rest,h1,h2,by rw[ahp (ahh.1 h3).1];exact h3,h4⟩
end eT
namespace Go.Proofs.YtoejlmpbebjemaaGreat
open Go.Proofs.Tryz(prog)
open Go Go.Am im eT
noncomputable def wZ:List Oper:=match dY [1,1,0,1,0,0,1,0,0,1,0,0,1,0,0,1,1,0,0,1,0,0,1,1,1,1,0] (Tryz.f85.body.getD .skip) with
 |.region _ ops _=>ops.toList
 |_=>[]
def Cb {K:St->Prop}{P:List az->au->Prop}{nb tb:Nat}(f:Int)(w:Bs)(n m:Nat)(A B:List AV)(x1 x2:AV)(e:Env)(J:List az)(U:au)(hn:n<=1000000)(hm:m<=1000000)(hA:A.length=n*3)(hB:B.length=m*3)
  (h76:bE e 76=.sl 0 [] .full) (h79:bE e 79=x1) (h82:bE e 82=.sl 1 (vJ (f,w)) .full) (h86:bE e 86=x2) (hs1:gT J 3 x1=some (n,A)) (hs2:∀J',gM J J'->gT J' 3 x2=some (m,B)) (hP:∀J',gM J J'->P J' U)
  (k:∀(e':Env)(J':List az)(i' cap':Nat)(lZ:List AV),gM J J'->J.length<=i'->J'[i']?=some (.cells (A++vJ (f,w)++B++lZ))->bE e' 3=.bG i' (n+1+m) cap'->(∀t,t<80->t≠3->bE e' t=bE e t)->K ⟨e',J',U⟩) :
  Dh ⟨prog,89,10,nb,tb,[100080,100083]⟩ K P ([4,7,11,12].map λi=>wZ.getD i default) e J U:=by
 show Dh _ K P [wZ.getD 4 default,wZ.getD 7 default,wZ.getD 11 default,wZ.getD 12 default] e J U;have XR:gM J J:=⟨[],by simp⟩
 have tail:∀(e7:Env)(J7:List az)(i7 Oa:Nat)(I6:List AV),gM J J7->J.length<=i7->J7[i7]?=some (.cells ((A++vJ (f,w))++I6))->((A++vJ (f,w))++I6).length=Oa*3->bE e7 83=.bG i7 (n+1) Oa->bE e7 86=x2->
   (∀t,t<80->bE e7 t=bE e t)->Dh ⟨prog,89,10,nb,tb,[100080,100083]⟩ K P [wZ.getD 11 default,wZ.getD 12 default] e7 J7 U:=by
  intro e7 J7 i7 Oa I6 hp hi hg hl h83 afx hold;rw[lK]
  conv=>arg 2;whnf
  refine AU 129 (A++vJ (f,w)) I6 B m (by simp[bN,h83]) (by simp[bN,h83]) (by simp[bN,h83,afx];exact⟨rfl,rfl,rfl,rfl,rfl⟩) (by simp) hg (by simp[hA];omega) (by simpa using hl) (by simpa using hs2 _ hp) (by simp[hB]) (by simp;omega) (by omega) (by simp) (by simp) ?_;intro i8 ZL B8 J8 tW hl8 hc8;have l7:=(ahh.1 hg).1;have XD:gM J J8:=by
   rcases tW with⟨rfl,_⟩|⟨rfl,_⟩
   ·exact hp.set hi _
   ·exact hp.app _
  have hi8:J.length<=i8:=by
   have:=hp.le;rcases tW with⟨_,rfl⟩|⟨_,rfl⟩<;>omega
  have hg8:J8[i8]?=some (.cells (A++vJ (f,w)++B++B8)):=by
   rcases tW with⟨rfl,rfl⟩|⟨rfl,rfl⟩
   ·rw[ahK l7]
   ·simp
  refine⟨hP J8 XD,lI (ajt rfl) ?_⟩;rw[lK]
  conv=>arg 2;whnf
  refine QU (v:=.bG i8 (n+1+m) ZL) (H':=J8) (T':=U) rfl rfl rfl rfl (by simp[bN,cI]) ⟨hP J8 XD,lI (ajt rfl) ?_⟩;rw[QS];exact k _ J8 i8 ZL B8 XD hi8 hg8 (cI _ _ _) λt h1 h2=>by
   rw[bB _ _ _ _ (λe=>h2 e.symm),bB _ _ _ _ (by omega),hold t h1]
 rcases ahR n with h0|h0
 ·subst h0;have hA0:A=[]:=ah3.1 (by simpa using hA);subst hA0;rw[lK]
  conv=>arg 2;whnf
  refine Um (by simp[-gT,bN,h76,h79,hs1]) ⟨hP J XR,lI (ajt rfl) ?_⟩;rw[lK]
  conv=>arg 2;whnf
  refine yu (m:=1) (z:=3) (ys:=vJ (f,w)) (by simp[bN,h82,cI,bB,gT]) (by simp[bN,h82,cI,bB,gT]) λnc lC=>⟨hP _ (XR.app _),lI (ajt rfl) ?_⟩
  refine tail _ _ J.length nc (List.replicate ((nc-1)*3) .top) (XR.app _) (ahj _) (by simp) (by simp;omega) (by simp[cI]) ?_ ?_
  ·rw[bB _ _ _ _ (by omega),bB _ _ _ _ (by omega),h86]
  ·intro t ht;rw[bB _ _ _ _ (by omega),bB _ _ _ _ (by omega)]
 ·have hn0:n≠0:=by omega
  have q1:n*48<=140737488355328:=by omega
  have q2:n<=9223372036854775807:=by omega
  rw[lK]
  conv=>arg 2;whnf
  refine yu (m:=n) (z:=3) (ys:=A) (by simp[-gT,bN,h76,h79,hs1,hn0]) (by simp[-gT,bN,h76,h79,hs1,h0,q1,q2]) λnc lC=>⟨hP _ (XR.app _),lI (ajt rfl) ?_⟩
  rw[lK]
  conv=>arg 2;whnf
  refine AU 129 A (List.replicate ((nc-n)*3) .top) (vJ (f,w)) 1 (i:=J.length) (n:=n) (cap:=nc) (by simp[bN,cI]) (by simp[bN,cI]) (by simp[bN,cI,bB,h82];exact⟨rfl,rfl,rfl⟩) (by simp) (by simp) (by simpa using hA) (by simp[hA,Nat.sub_mul];omega) (by simp[gT]) (by simp) (by simp;omega) (by omega) (by simp) (by simp) ?_;intro i7 Oa B7 J7 tW hl7 hc7;have hp7:gM J J7:=by
   rcases tW with⟨rfl,_⟩|⟨rfl,_⟩
   ·exact(XR.app _).set (ahj _) _
   ·exact(XR.app _).app _
  have hi7:J.length<=i7:=by
   rcases tW with⟨_,rfl⟩|⟨_,rfl⟩<;>simp
  refine⟨hP J7 hp7,lI (ajt rfl) ?_⟩;refine tail _ J7 i7 Oa B7 hp7 hi7 ?_ (by simpa using hl7) (cI _ _ _) ?_ ?_
  ·rcases tW with⟨rfl,rfl⟩|⟨rfl,rfl⟩
   ·rw[ahK (by simp)]
   ·rw[ahC (ahj _)];simp
  ·rw[bB _ _ _ _ (by omega),bB _ _ _ _ (by omega),h86]
  ·intro t ht;rw[bB _ _ _ _ (by omega),bB _ _ _ _ (by omega)]
attribute [-simp] getD_eq_getElem?_getD in
theorem Qo (L:List Dc)(f:Int)(ws:List Wd)(i zi k p6:Nat)(ks:List Ky)(tv:AV)(h0 nb tb:Nat)(J:List az)(U:au)(hk:k<ws.length)(Rp:ks.length<=1000000)(RV:TR h0 J ks tv)(h6:J[p6]?=some (.cells (oR ⟨f,ws⟩)))
  (gG:nb<=J.length) (fY:tb<=U.length) (HO:bJ J U) (h0J:h0<=J.length) (Q:Exit->St->Prop)
  (go:∀(e:Env)(J':List az)(zh:AV),(∃G,J'=J++G)->TR h0 J' (kW (f,(ws.getD k w0).1) ks) zh->
   bu J'.length U.length e [(0,.sl L.length (aM L) .none),(3,zh),(4,.int .i64 (i:Nat)),(5,.int .i64 (zi:Nat)),(6,.ptr p6 0),(7,.int .i64 (k:Nat))]->Q .normal ⟨e,J',U⟩) :
  AW ⟨prog,89,10,nb,tb,[100080,100083]⟩ (dY [1,1,0,1,0,0,1,0,0,1,0,0,1,0,0,1,1,0,0,1,0,0] (Tryz.f85.body.getD .skip)) Q
   ⟨[(0,.sl L.length (aM L) .none),(3,tv),(4,.int .i64 (i:Nat)),(5,.int .i64 (zi:Nat)),(6,.ptr p6 0),(7,.int .i64 (k:Nat))],J,U⟩:=by
 conv=>arg 2;whnf
 have jv:=(BG ws k hk).1;have e6:=aW h6;have l6:=(ahh.1 h6).1;generalize (ws.getD k w0).1=w at *;refine aJ [9,10] [0,0,0,0,0,0,0,0,0,0,1] [[0,1,2,3,4,5,6,7,8],[]] aw (by kernel_rfl) (by kernel_rfl) λK hK=>?_;simp(disch:=omega)[e6,l6,gB,jv,hk,ahp,aiz];apply hK;have ff:bJ (J++[.cells (vJ (f,w))]) U:=HO.snoc (by simp);have g8:(J++[az.cells (vJ (f,w))])[J.length]?=some (.cells (vJ (f,w))):=by simp
 have Sn:=RV.app [az.cells (vJ (f,w))];have u7:(J++[az.cells (vJ (f,w))]).length=J.length+1:=by simp
 have qT:∃G,J++[az.cells (vJ (f,w))]=J++G:=⟨_,rfl⟩
 obtain⟨p8,XD⟩:∃p,p=J.length:=⟨_,rfl⟩
 rw[<-XD] at g8;simp only[<-XD];rw[show az.cells [.int .i64 f,.str w,.sl 0 [] .full]=.cells (vJ (f,w)) from rfl];generalize J++[az.cells (vJ (f,w))]=J1 at *;have e8:=aW g8;have l8:=(ahh.1 g8).1;have Gr:∀(n:Nat),J1.length<=n->Below n U.length tv:=λn hn=>by
  rcases Sn with⟨_,rfl⟩|⟨i,rest,rfl,_,h3,_⟩
  ·simp
  ·have:=(ahh.1 h3).1;simp;omega
 have Zy:=Gr J1.length (ahj _);refine aH ⟨[(0,.sl L.length (aM L) .none),(3,tv),(4,.int .i64 (i:Nat)),(5,.int .i64 (zi:Nat)),(6,.ptr p6 0),(7,.int .i64 (k:Nat)),(8,.ptr p8 0)],J1,U⟩ (ag [] [] (by simp) (by simp) (by show nb<=J1.length;omega) fY ff (by simp[Zy];omega)) ?_;apply ae;intro K Z;simp(disch:=omega);apply Z;refine af λK5 lD=>?_;apply aj;have Gp:∀(e:Env)(n:Nat),bu J1.length U.length e [(0,.sl L.length (aM L) .none),(3,tv),(4,.int .i64 (i:Nat)),(5,.int .i64 (zi:Nat)),(6,.ptr p6 0),(7,.int .i64 (k:Nat)),(8,.ptr p8 0),(9,.int .i64 (n:Nat))]->
   ui ⟨prog,89,10,nb,tb,[100080,100083]⟩ ⟨e,J1,U⟩ ⟨[(0,.sl L.length (aM L) .none),(3,tv),(4,.int .i64 (i:Nat)),(5,.int .i64 (zi:Nat)),(6,.ptr p6 0),(7,.int .i64 (k:Nat)),(8,.ptr p8 0),(9,.int .i64 (n:Nat))],J1,U⟩:=λe n he=>
  ag [] [] (by simp) (by simp) (by show nb<=J1.length;omega) fY ff he
 have cont:∀n,n<=ks.length->(∀j,j<n->bP (ks.getD j k0) (f,w)=true)->(n<ks.length->bP (ks.getD n k0) (f,w)=false)->∀e,bu J1.length U.length e [(0,.sl L.length (aM L) .none),(3,tv),(4,.int .i64 (i:Nat)),(5,.int .i64 (zi:Nat)),(6,.ptr p6 0),(7,.int .i64 (k:Nat)),(8,.ptr p8 0),(9,.int .i64 (n:Nat))]->K5 ⟨e,J1,U⟩:=by
  intro n Ba CD zu e he;refine lD _ (aH _ (Gp e n he) ?_);clear lD he;obtain⟨Dt,Dd⟩:=JK (f,w) ks n Ba CD zu;have fin:(n<ks.length->bP (f,w) (ks.getD n k0)=true)->∀(e:Env)(J':List az)(i' cap':Nat)(lZ:List AV),gM J1 J'->J1.length<=i'->J'[i']?=some (.cells (gS (ks.take n++(f,w)::ks.drop n)++lZ))->
    bu J'.length U.length e [(0,.sl L.length (aM L) .none),(3,.cK i' 0 (n+1+(ks.length-n))),(4,.int .i64 (i:Nat)),(5,.int .i64 (zi:Nat)),(6,.ptr p6 0),(7,.int .i64 (k:Nat))]->Q .normal ⟨e,J',U⟩:=by
   intro h e J' i' cap' lZ hp iV hg he;obtain⟨G,rfl⟩:=hp;obtain⟨G1,rfl⟩:=qT;have hl:(kW (f,w) ks).length=n+1+(ks.length-n):=by rw[Dd h];simp;omega
   refine go e _ _ ⟨G1++G,by simp⟩ (.inr ⟨i',lZ,rfl,by simp at iV;omega,by rw[Dd h];exact hg,by omega⟩) ?_;rw[hl];exact he
  have yX:(n<ks.length->bP (f,w) (ks.getD n k0)=true)->∀(e e0:Env)(J':List az)(i' cap':Nat)(lZ:List AV),gM J1 J'->J1.length<=i'->J'[i']?=some (.cells (gS (ks.take n)++vJ (f,w)++gS (ks.drop n)++lZ))->bE e 3=.bG i' (n+1+(ks.length-n)) cap'->(∀t,t<80->t≠3->bE e t=bE e0 t)->
    bE e0 0=.sl L.length (aM L) .none->bE e0 4=.int .i64 (i:Nat)->bE e0 5=.int .i64 (zi:Nat)->bE e0 6=.ptr p6 0->bE e0 7=.int .i64 (k:Nat)->Q .normal ⟨e,J',U⟩:=by
   intro h e e0 J' i' cap' lZ hp iV hg h3 hold q0 q4 q5 q6 q7;have hle:=hp.le;have hlt:=(ahh.1 hg).1;refine fin h e J' i' cap' lZ hp iV ?_ ?_
   ·rw[hg];congr 2;rw[show gS (ks.take n++(f,w)::ks.drop n)=gS (ks.take n)++vJ (f,w)++gS (ks.drop n) by simp[gS]]
   ·simp[h3,hold,q0,q4,q5,q6,q7,hlt];omega
  have c1:(gS (ks.take n)).length=n*3:=by rw[mo,ahJ];omega
  have c2:(gS (ks.drop n)).length=(ks.length-n)*3:=by rw[mo,ah4]
  have Oy:∀J',gM J1 J'->J'[p8]?=some (.cells (vJ (f,w))):=by
   rintro J' ⟨G,rfl⟩;rw[ahp l8];exact g8
  rcases Sn with⟨rfl,rfl⟩|⟨ib,rest,rfl,hib,gi,eV⟩
  ·have hn0:n=0:=by simpa using Ba
   subst hn0;refine aJ [] [] [] aw (by kernel_rfl) (by kernel_rfl) λK hK=>?_;simp(disch:=omega) ;apply hK;apply aG rfl;refine u4 [4,7,11,12] aw (by kernel_rfl) λK hK=>?_;simp(disch:=omega)[dm,e8,l8];refine Bu (λJ' _=>J'[p8]?=some (.cells (vJ (f,w)))) (λJ' U' Rv=>?_) ?_
   ·have e9:=aW Rv;have l9:=(ahh.1 Rv).1;simp(disch:=omega)[dm,e9,l9]
   ·exact Cb f w 0 0 [] [] _ _ _ J1 U (by omega) (by omega) rfl rfl rfl rfl rfl rfl rfl (λ_ _=>rfl) Oy λe' J' i' cap' lZ hp iV hg h3 hold=>hK _ (yX (λh=>absurd h (ahO _)) e' _ J' i' cap' lZ hp iV (by simpa[gS] using hg) h3 hold rfl rfl rfl rfl rfl)
  ·have hcut:=xN ks rest;have hlen:(gS ks++rest).length=ks.length*3+rest.length:=by rw[ahk,mo]
   have hv1:(gS ks++rest).take (n*3)=gS (ks.take n):=by rw[air (by rw[mo];omega),TW]
   have I1:((gS ks++rest).drop (n*3)).take ((ks.length-n)*3)=gS (ks.drop n):=by
    rw[aju (by rw[mo];omega),Ml,aij c2]
   generalize Nl:gS ks++rest=vs at *;have ei:=aW gi;have li:=(ahh.1 gi).1;have aar:∀J',gM J1 J'->J'[ib]?=some (.cells vs):=by
    rintro J' ⟨G,rfl⟩;rw[ahp li];exact gi
   rcases ahr n ks.length with h4|h4
   ·have xb:=hcut n h4;have b1:((n:Int)==(ks.length:Int))=false:=ah5.2 (by omega);have c:=vu (f,w) (ks.getD n k0) (.sl 0 [] .full) (.sl 0 [] .full) J1 U (by simp) (by simp);have d1:n*3+3<=vs.length:=by omega
    have d2:n*3<=vs.length:=by omega
    have d3:n*3+(ks.length-n)*3<=vs.length:=by omega
    cases hlt:bP (f,w) (ks.getD n k0) with
    |false=>
     rw[hlt] at c;rw[Dt h4 hlt] at go;generalize ks.getD n k0=y at *;refine aJ [] [] [] aw (by kernel_rfl) (by kernel_rfl) λK hK=>?_;simp(disch:=omega)[b1,h4,e8,l8,ei,li,xb,d1,d2];refine aC (c) rfl ?_;simp(disch:=omega) ;apply hK;apply aD rfl;apply aq;obtain⟨G1,Rx⟩:=qT;refine go _ J1 _ ⟨G1,Rx⟩ (.inr ⟨ib,rest,rfl,hib,by rw[Nl];exact gi,eV⟩) ?_;simp[li];omega
    |true=>
     rw[hlt] at c;have WD:=yX λ_=>hlt;generalize ks.getD n k0=y at *;refine aJ [] [] [] aw (by kernel_rfl) (by kernel_rfl) λK hK=>?_;simp(disch:=omega)[b1,h4,e8,l8,ei,li,xb,d1,d2];refine aC (c) rfl ?_;simp(disch:=omega) ;apply hK;apply aG rfl;refine u4 [4,7,11,12] aw (by kernel_rfl) λK hK=>?_;simp(disch:=omega)[dm,e8,l8,h4];refine Bu (λJ' _=>J'[p8]?=some (.cells (vJ (f,w)))) (λJ' U' Rv=>?_) ?_
     ·have e9:=aW Rv;have l9:=(ahh.1 Rv).1;simp(disch:=omega)[dm,e9,l9,h4]
     ·exact Cb f w n (ks.length-n) (gS (ks.take n)) (gS (ks.drop n)) _ _ _ J1 U (by omega) (by omega) c1 c2 rfl rfl rfl rfl (by simp[gT,ei,li,d2,hv1]) (λJ' hp=>by
       have:=aar J' hp;simp[gT,this,d3,I1]) Oy λe' J' i' cap' lZ hp iV hg h3 hold=>hK _ (WD e' _ J' i' cap' lZ hp iV hg h3 hold rfl rfl rfl rfl rfl)
   ·have UK:n=ks.length:=by omega
    subst UK;have WD:=yX λh=>absurd h (Nat.lt_irrefl _);have d2:ks.length*3<=vs.length:=by omega
    have hne:ks≠[]:=λe=>by rw[e] at eV;exact absurd eV (Nat.lt_irrefl _)
    refine aJ [] [] [] aw (by kernel_rfl) (by kernel_rfl) λK hK=>?_;simp(disch:=omega) ;apply hK;apply aG rfl;refine u4 [4,7,11,12] aw (by kernel_rfl) λK hK=>?_;simp(disch:=omega)[dm,e8,l8,hne];refine Bu (λJ' _=>J'[p8]?=some (.cells (vJ (f,w)))) (λJ' U' Rv=>?_) ?_
    ·have e9:=aW Rv;have l9:=(ahh.1 Rv).1;simp(disch:=omega)[dm,e9,l9,hne]
    ·exact Cb f w ks.length (ks.length-ks.length) (gS (ks.take ks.length)) (gS (ks.drop ks.length)) _ _ _ J1 U (by omega) (by omega) c1 c2 rfl rfl rfl rfl (by simp[gT,ei,li,d2,hv1]) (λJ' hp=>by simp[gS]) Oy λe' J' i' cap' lZ hp iV hg h3 hold=>hK _ (WD e' _ J' i' cap' lZ hp iV hg h3 hold rfl rfl rfl rfl rfl)
 refine aI (X:=Nat) (λn=>⟨[(0,.sl L.length (aM L) .none),(3,tv),(4,.int .i64 (i:Nat)),(5,.int .i64 (zi:Nat)),(6,.ptr p6 0),(7,.int .i64 (k:Nat)),(8,.ptr p8 0),(9,.int .i64 (n:Nat))],J1,U⟩)
  (λn=>n<=ks.length/\∀j,j<n->bP (ks.getD j k0) (f,w)=true) (λn=>ks.length-n) 0 ?_ ?_ ?_
 ·exact⟨ahu _,λj hj=>absurd hj (ahO _)⟩
 ·refine Gp _ 0 ?_;simp[Zy,l8];omega
 ·rintro n ⟨Ba,CD⟩;replace cont:=cont n Ba CD;have afg:=Gp;refine af λK6 om=>?_;rcases ahr n ks.length with h4|h4
  ·rcases Sn with⟨rfl,rfl⟩|⟨ib,rest,rfl,hib,gi,eV⟩
   ·exact absurd h4 (ahO _)
   have xb:=xN ks rest n h4;have hlen:(gS ks++rest).length=ks.length*3+rest.length:=by rw[ahk,mo]
   generalize gS ks++rest=vs at *;have ei:=aW gi;have li:=(ahh.1 gi).1;have d1:n*3+3<=vs.length:=by omega
   have b1:decide ((n:Int)<(ks.length:Int))=true:=ahm (by omega);have c:=vu (ks.getD n k0) (f,w) (.sl 0 [] .full) (.sl 0 [] .full) J1 U (by simp) (by simp);have hst:bP (ks.getD n k0) (f,w)=true->∀j,j<n+1->bP (ks.getD j k0) (f,w)=true:=λh j hj=>by
    rcases ahr j n with h3|h3
    ·exact CD j h3
    ·have:j=n:=by omega
     subst this;exact h
   cases hlt:bP (ks.getD n k0) (f,w) with
   |true=>
    rw[hlt] at c;replace hst:=hst hlt;generalize ks.getD n k0=y at xb c;refine aJ [] [] [] aw (by kernel_rfl) (by kernel_rfl) λK hK=>?_;simp(disch:=omega)[b1,h4,e8,l8,ei,li,xb,d1];refine aC (c) rfl ?_;simp(disch:=omega) ;apply hK;apply aG rfl;apply aq;apply om;clear om;apply aj;refine aB λK hK=>?_;simp(disch:=omega) ;apply hK;refine⟨n+1,⟨by show n+1<=_;omega,hst⟩,by show ks.length-(n+1)<ks.length-n;omega,?_⟩;refine afg _ (n+1) ?_;simp[li,l8];omega
   |false=>
    rw[hlt] at c;replace cont:=cont λ_=>hlt;generalize ks.getD n k0=y at xb c;refine aJ [] [] [] aw (by kernel_rfl) (by kernel_rfl) λK hK=>?_;simp(disch:=omega)[b1,h4,e8,l8,ei,li,xb,d1];refine aC (c) rfl ?_;simp(disch:=omega) ;apply hK;apply aD rfl;apply aF;simp(disch:=omega) ;refine cont _ ?_;simp[li,l8];omega
  ·have UK:n=ks.length:=by omega
   replace cont:=cont λh=>absurd h (by omega);subst UK;rcases Sn with⟨rfl,rfl⟩|⟨ib,rest,rfl,hib,gi,eV⟩
   ·refine aJ [] [] [] aw (by kernel_rfl) (by kernel_rfl) λK hK=>?_;simp(disch:=omega) ;apply hK;apply aD rfl;apply aF;simp(disch:=omega) ;refine cont _ ?_;simp[l8];omega
   ·have li:=(ahh.1 gi).1;refine aJ [] [] [] aw (by kernel_rfl) (by kernel_rfl) λK hK=>?_;simp(disch:=omega) ;apply hK;apply aD rfl;apply aF;simp(disch:=omega) ;refine cont _ ?_;simp[li,l8];omega
attribute [-simp] getD_eq_getElem?_getD in
def Fm (L:List Dc)(f:Int)(ws:List Wd)(i zi p6:Nat)(ks:List Ky)(tv:AV)(h0 nb tb:Nat)(J:List az)(U:au)(Rp:ks.length+ws.length<=1000000)(RV:TR h0 J ks tv)(h6:J[p6]?=some (.cells (oR ⟨f,ws⟩)))
  (gG:nb<=J.length) (fY:tb<=U.length) (HO:bJ J U) (h0J:h0<=J.length) (Q:Exit->St->Prop)
  (go:∀(e:Env)(J':List az)(zh:AV),(∃G,J'=J++G)->TR h0 J' (dG ks (fh ⟨f,ws⟩)) zh->
   bu J'.length U.length e [(0,.sl L.length (aM L) .none),(3,zh),(4,.int .i64 (i:Nat)),(5,.int .i64 (zi:Nat))]->Q .normal ⟨e,J',U⟩) :
  AW ⟨prog,89,10,nb,tb,[100080,100083]⟩ (dY [1,1,0,1,0,0,1,0,0,1,0,0,1,0,0,1] (Tryz.f85.body.getD .skip)) Q
   ⟨[(0,.sl L.length (aM L) .none),(3,tv),(4,.int .i64 (i:Nat)),(5,.int .i64 (zi:Nat)),(6,.ptr p6 0)],J,U⟩:=by
 conv=>arg 2;whnf
 have l6:=(ahh.1 h6).1;have Gr:∀(J1:List az)(IY:List Ky)(u5:AV),TR h0 J1 IY u5->Below J1.length U.length u5:=λJ1 IY u5 h=>by
  rcases h with⟨_,rfl⟩|⟨i,rest,rfl,_,h3,_⟩
  ·simp
  ·simpa using(ahh.1 h3).1
 have Gt:=Gr J ks tv RV;apply ae;intro K Z;simp(disch:=omega);apply Z;apply aj;refine aI (X:=Nat×List az×AV) (λx=>⟨[(0,.sl L.length (aM L) .none),(3,x.2.2),(4,.int .i64 (i:Nat)),(5,.int .i64 (zi:Nat)),(6,.ptr p6 0),(7,.int .i64 (x.1:Nat))],x.2.1,U⟩)
  (λx=>x.1<=ws.length/\(∃G,x.2.1=J++G)/\TR h0 x.2.1 (dG ks ((ws.take x.1).map λw=>(f,w.1))) x.2.2/\bJ x.2.1 U) (λx=>ws.length-x.1) (0,J,tv) ?_ ?_ ?_
 ·exact⟨ahu _,⟨[],by simp⟩,by simpa[dG] using RV,HO⟩
 ·refine ag [] [] (by simp) (by simp) gG fY HO ?_;simp[Gt,l6]
 ·rintro⟨k,J1,u5⟩ ⟨g1,⟨G,hG⟩,g3,g4⟩;simp only at g1 hG g3 g4;have u7:J.length<=J1.length:=by rw[hG];simp
  have h61:J1[p6]?=some (.cells (oR ⟨f,ws⟩)):=by rw[hG,ahp l6];exact h6
  have e6:=aW h61;have l61:=(ahh.1 h61).1;have wL:=Gr J1 _ u5 g3;refine af λK5 lD=>?_;refine ae λK hK=>?_;simp(disch:=omega)[e6,l61];apply hK;refine aT rfl (λhk=>?_) (λhk=>?_)
  ·simp  at hk;have gV:(dG ks ((ws.take k).map λw=>(f,w.1))).length<=1000000:=by
    have:=mB ((ws.take k).map λw=>(f,w.1)) ks;rw[ahz,ahJ] at this;omega
   have lM:dG ks ((ws.take (k+1)).map λw=>(f,w.1))=kW (f,(ws.getD k w0).1) (dG ks ((ws.take k).map λw=>(f,w.1))):=by
    rw[aU ws k w0 hk,ahx,se];rfl
   generalize dG ks ((ws.take k).map λw=>(f,w.1))=IY at *;apply aq;apply lD;clear lD;refine af λK6 om=>?_;apply aj;refine aH ⟨[(0,.sl L.length (aM L) .none),(3,u5),(4,.int .i64 (i:Nat)),(5,.int .i64 (zi:Nat)),(6,.ptr p6 0),(7,.int .i64 (k:Nat))],J1,U⟩ (ag [] [] (by simp) (by simp) (by show nb<=J1.length;omega) fY g4 (by simp[wL,l61])) ?_;refine Qo L f ws i zi k p6 IY u5 h0 nb tb J1 U hk gV g3 h61 (by omega) fY g4 (by omega) _ λe J2 tv2 RZ hT2 he=>?_;have kP:=Gr J2 _ tv2 hT2;obtain⟨G2,RZ⟩:=RZ;have jH:J1.length<=J2.length:=by rw[RZ];simp
   refine om _ (dA λfx=>?_);refine aH ⟨[(0,.sl L.length (aM L) .none),(3,tv2),(4,.int .i64 (i:Nat)),(5,.int .i64 (zi:Nat)),(6,.ptr p6 0),(7,.int .i64 (k:Nat))],J2,U⟩ (ag [] [] (by simp) (by simp) (by show nb<=J2.length;omega) fY fx he) ?_;refine aB λK hK=>?_;simp(disch:=omega) ;apply hK;refine⟨(k+1,J2,tv2),⟨by show k+1<=_;omega,⟨G++G2,by rw[RZ,hG,ahA]⟩,by simp only;rw[lM];exact hT2,fx⟩,by show ws.length-(k+1)<ws.length-k;omega,?_⟩;refine ag [] [] (by simp) (by simp) (by show nb<=J2.length;omega) fY fx ?_;simp[kP];omega
  ·simp  at hk;have Kg:k=ws.length:=by omega
   subst Kg;rw[ahE] at g3;apply aF;simp(disch:=omega) ;refine go _ J1 u5 ⟨G,hG⟩ g3 ?_;simp[wL]
attribute [-simp] getD_eq_getElem?_getD in
def Fg (L:List Dc)(i:Nat)(hi:i<L.length)(ks:List Ky)(tv:AV)(h0 nb tb:Nat)(J:List az)(U:au)(Rp:ks.length+(dn (L.getD i d0)).length<=1000000)(zm:(L.getD i d0).zs.length<=9223372036854775807)(RV:TR h0 J ks tv)
  (gG:nb<=J.length) (fY:tb<=U.length) (HO:bJ J U) (h0J:h0<=J.length) (Q:Exit->St->Prop)
  (go:∀(e:Env)(J':List az)(zh:AV),(∃G,J'=J++G)->TR h0 J' (dG ks (dn (L.getD i d0))) zh->
   bu J'.length U.length e [(0,.sl L.length (aM L) .none),(3,zh),(4,.int .i64 (i:Nat))]->Q .normal ⟨e,J',U⟩) :
  AW ⟨prog,89,10,nb,tb,[100080,100083]⟩ (dY [1,1,0,1,0,0,1,0,0] (Tryz.f85.body.getD .skip)) Q
   ⟨[(0,.sl L.length (aM L) .none),(3,tv),(4,.int .i64 (i:Nat))],J,U⟩:=by
 conv=>arg 2;whnf
 obtain⟨_,jv,_⟩:=iU L i hi;have Gr:∀(J1:List az)(IY:List Ky)(u5:AV),TR h0 J1 IY u5->Below J1.length U.length u5:=λJ1 IY u5 h=>by
  rcases h with⟨_,rfl⟩|⟨i,rest,rfl,_,h3,_⟩
  ·simp
  ·simpa using(ahh.1 h3).1
 have Gt:=Gr J ks tv RV;unfold dn at Rp go;generalize (L.getD i d0).zs=zs at *;apply ae;intro K Z;simp(disch:=omega);apply Z;apply aj;refine aI (X:=Nat×List az×AV) (λx=>⟨[(0,.sl L.length (aM L) .none),(3,x.2.2),(4,.int .i64 (i:Nat)),(5,.int .i64 (x.1:Nat))],x.2.1,U⟩)
  (λx=>x.1<=zs.length/\(∃G,x.2.1=J++G)/\TR h0 x.2.1 (dG ks ((zs.take x.1).flatMap fh)) x.2.2/\bJ x.2.1 U) (λx=>zs.length-x.1) (0,J,tv) ?_ ?_ ?_
 ·exact⟨ahu _,⟨[],by simp⟩,by simpa[dG] using RV,HO⟩
 ·refine ag [] [] (by simp) (by simp) gG fY HO ?_;simp[Gt]
 ·rintro⟨k,J1,u5⟩ ⟨g1,⟨G,hG⟩,g3,g4⟩;simp only at g1 hG g3 g4;have u7:J.length<=J1.length:=by rw[hG];simp
  have wL:=Gr J1 _ u5 g3;refine af λK5 lD=>?_;refine ae λK hK=>?_;simp(disch:=omega)[jv,ba,hi];apply hK;refine aT rfl (λhk=>?_) (λhk=>?_)
  ·simp  at hk;have hcut:=th zs k hk;have lM:dG ks ((zs.take (k+1)).flatMap fh)=dG (dG ks ((zs.take k).flatMap fh)) (fh (zs.getD k z0)):=by
    rw[aU zs k z0 hk,ahZ,se];simp
   have gV:(dG ks ((zs.take k).flatMap fh)).length+(zs.getD k z0).ws.length<=1000000:=by
    have h1:=mB ((zs.take k).flatMap fh) ks;have h2:((zs.take k).flatMap fh).length+(fh (zs.getD k z0)).length<=(zs.flatMap fh).length:=by
     have h3:zs.flatMap fh=(zs.take k).flatMap fh++(fh (zs.getD k z0)++(zs.drop (k+1)).flatMap fh):=by
      conv=>lhs;rw[<-take_append_drop k zs,dO zs k z0 hk,ahZ,ahy]
     rw[h3];simp
    have h4:(fh (zs.getD k z0)).length=(zs.getD k z0).ws.length:=by simp[fh]
    omega
   generalize dG ks ((zs.take k).flatMap fh)=IY at *;generalize zs.getD k z0=z at *;obtain⟨f,ws⟩:=z;simp only at hcut gV;apply aq;apply lD;clear lD;refine af λK6 om=>?_;apply aj;refine ae λK hK=>?_;simp(disch:=omega)[jv,ba,hi,hcut,fV,hk];apply hK;have ff:bJ (J1++[.cells (oR ⟨f,ws⟩)]) U:=g4.snoc (by simp);have hg6:(J1++[az.cells (oR ⟨f,ws⟩)])[J1.length]?=some (.cells (oR ⟨f,ws⟩)):=by simp
   have hT1:=g3.app [az.cells (oR ⟨f,ws⟩)];have hlx:(J1++[az.cells (oR ⟨f,ws⟩)]).length=J1.length+1:=by simp
   have hGx:∃G',J1++[az.cells (oR ⟨f,ws⟩)]=J++G':=⟨G++[az.cells (oR ⟨f,ws⟩)],by rw[hG,ahA]⟩
   rw[show az.cells [.int .i64 f,.sl ws.length (dR ws) .none]=.cells (oR ⟨f,ws⟩) from rfl];obtain⟨p6,hp6⟩:∃p,p=J1.length:=⟨_,rfl⟩
   rw[<-hp6] at hg6;simp only[<-hp6];generalize J1++[az.cells (oR ⟨f,ws⟩)]=J2 at *;obtain⟨G',Kl⟩:=hGx;have kP:=Gr J2 _ u5 hT1;refine aH ⟨[(0,.sl L.length (aM L) .none),(3,u5),(4,.int .i64 (i:Nat)),(5,.int .i64 (k:Nat)),(6,.ptr p6 0)],J2,U⟩ (ag [] [] (by simp) (by simp) (by show nb<=J2.length;omega) fY ff (by simp[kP];omega)) ?_;refine Fm L f ws i k p6 IY u5 h0 nb tb J2 U gV hT1 hg6 (by omega) fY ff (by omega) _ λe J3 VI wN YF he=>?_;have VW:=Gr J3 _ VI YF;obtain⟨G3,wN⟩:=wN;have hl3:J2.length<=J3.length:=by rw[wN];simp
   refine om _ (dA λfx=>?_);refine aH ⟨[(0,.sl L.length (aM L) .none),(3,VI),(4,.int .i64 (i:Nat)),(5,.int .i64 (k:Nat))],J3,U⟩ (ag [] [] (by simp) (by simp) (by show nb<=J3.length;omega) fY fx he) ?_;refine aB λK hK=>?_;simp(disch:=omega) ;apply hK;refine⟨(k+1,J3,VI),⟨by show k+1<=_;omega,⟨G'++G3,by rw[wN,Kl,ahA]⟩,by simp only;rw[lM];exact YF,fx⟩,by show zs.length-(k+1)<zs.length-k;omega,?_⟩;refine ag [] [] (by simp) (by simp) (by show nb<=J3.length;omega) fY fx ?_;simp[VW]
  ·simp  at hk;have Kg:k=zs.length:=by omega
   subst Kg;rw[ahE] at g3;apply aF;simp(disch:=omega) ;refine go _ J1 u5 ⟨G,hG⟩ g3 ?_;simp[wL]
attribute [-simp] getD_eq_getElem?_getD in
def Hq (L:List Dc)(hL:L.length<=1000000)(Rp:(L.flatMap dn).length<=1000000)(hz:∀d∈L,d.zs.length<=1000000)(H:List az)(T:au)(tg:Tag) :
  ar prog 85 [.sl L.length (aM L) tg] H T (λr H' T'=>(∃G,H'=H++G)/\T'=T/\TR H.length H' (dL L) r):=by
 refine ar.cg ?_;rw[uO];have Gr:∀(J1:List az)(IY:List Ky)(u5:AV),TR H.length J1 IY u5->Below J1.length T.length u5:=λJ1 IY u5 h=>by
  rcases h with⟨_,rfl⟩|⟨i,rest,rfl,_,h3,_⟩
  ·simp
  ·simpa using(ahh.1 h3).1
 refine ah 10 [100080,100083] Tryz.ntmps85 Tryz.func85 rfl (λ_ _=>Tryz.call85 _ _) (by simp) (λHO=>?_);apply ae;intro K Z;simp(disch:=omega);apply Z;apply ae;intro K Z;simp(disch:=omega);apply Z;refine af λK1 aO=>?_;apply ae;intro K Z;simp(disch:=omega);apply Z;apply aj;refine aI (X:=Nat×List az×AV) (λx=>⟨[(0,.sl L.length (aM L) .none),(3,x.2.2),(4,.int .i64 (x.1:Nat))],x.2.1,T⟩)
  (λx=>x.1<=L.length/\(∃G,x.2.1=H++G)/\TR H.length x.2.1 (dG [] ((L.take x.1).flatMap dn)) x.2.2/\bJ x.2.1 T) (λx=>L.length-x.1) (0,H,.sl 0 [] .full) ?_ ?_ ?_
 ·exact⟨ahu _,⟨[],by simp⟩,.inl ⟨by simp[dG],rfl⟩,HO⟩
 ·refine ag [] [] (by simp) (by simp) (ahj _) (ahj _) HO ?_;simp
 ·rintro⟨k,J1,u5⟩ ⟨g1,⟨G,hG⟩,g3,g4⟩;simp only at g1 hG g3 g4;have u7:H.length<=J1.length:=by rw[hG];simp
  have wL:=Gr J1 _ u5 g3;refine af λK5 lD=>?_;apply ae;intro K Z;simp(disch:=omega);apply Z;refine aT rfl (λhk=>?_) (λhk=>?_)
  ·simp  at hk;have lM:dG [] ((L.take (k+1)).flatMap dn)=dG (dG [] ((L.take k).flatMap dn)) (dn (L.getD k d0)):=by
    rw[aU L k d0 hk,ahZ,se];simp
   have gV:(dG [] ((L.take k).flatMap dn)).length+(dn (L.getD k d0)).length<=1000000:=by
    have h1:=mB ((L.take k).flatMap dn) [];have h2:((L.take k).flatMap dn).length+(dn (L.getD k d0)).length<=(L.flatMap dn).length:=by
     have h3:L.flatMap dn=(L.take k).flatMap dn++(dn (L.getD k d0)++(L.drop (k+1)).flatMap dn):=by
      conv=>lhs;rw[<-take_append_drop k L,dO L k d0 hk,ahZ,ahy]
     rw[h3];simp
    rw[aiB,aiv] at h1;omega
   have hzk:=hz _ (aS L k d0 hk);generalize dG [] ((L.take k).flatMap dn)=IY at *;apply aq;apply lD;clear lD;refine af λK6 om=>?_;apply aj;refine aH ⟨[(0,.sl L.length (aM L) .none),(3,u5),(4,.int .i64 (k:Nat))],J1,T⟩ (ag [] [] (by simp) (by simp) u7 (ahj _) g4 (by simp[wL])) ?_;refine Fg L k hk IY u5 H.length H.length T.length J1 T gV (by omega) g3 u7 (ahj _) g4 u7 _ λe J3 VI wN YF he=>?_;have VW:=Gr J3 _ VI YF;obtain⟨G3,wN⟩:=wN;have hl3:J1.length<=J3.length:=by rw[wN];simp
   refine om _ (dA λfx=>?_);refine aH ⟨[(0,.sl L.length (aM L) .none),(3,VI),(4,.int .i64 (k:Nat))],J3,T⟩ (ag [] [] (by simp) (by simp) (by show H.length<=J3.length;omega) (ahj _) fx he) ?_;refine aB λK hK=>?_;simp(disch:=omega) ;apply hK;refine⟨(k+1,J3,VI),⟨by show k+1<=_;omega,⟨G++G3,by rw[wN,hG,ahA]⟩,by simp only;rw[lM];exact YF,fx⟩,by show L.length-(k+1)<L.length-k;omega,?_⟩;refine ag [] [] (by simp) (by simp) (by show H.length<=J3.length;omega) (ahj _) fx ?_;simp[VW]
  ·simp  at hk;have Kg:k=L.length:=by omega
   subst Kg;rw[ahE] at g3;apply aF;simp(disch:=omega) ;apply aO;clear aO;apply ae;intro K Z;simp(disch:=omega);apply Z;apply ay;simp(disch:=omega) ;exact⟨⟨G,hG⟩,g3⟩
end Go.Proofs.YtoejlmpbebjemaaGreat
namespace eT
open im Go.Am
def kS (ws:List Wd)(w:Bs):List Int:=(ws.filter λx=>x.1==w).map (·.2)
def LS (ws:List Wd)(w:Bs)(i:Nat)(h:i<ws.length):kS (ws.take (i+1)) w=kS (ws.take i) w++(if (ws.getD i w0).1=w then [(ws.getD i w0).2] else []):=by
 unfold kS;rw[aU ws i w0 h,ah8,ahx]
 congr 1
 rw[List.filter_cons]
 by_cases h1:(ws.getD i w0).1=w
 ·rw[ahs h1,ahs (by simpa using h1)];rfl
 ·rw[ahq h1,ahq (by simpa using h1)];rfl
def rC (f:Int)(d:Dc):List Nm:=(Cz d.ns f).map λn=>(n,d.id)
def Mq (L:List Dc)(f:Int):fL L f=L.flatMap (rC f):=by
 unfold fL rC Cz
 congr 1
 funext d
 rw[ain];exact ahW λx _=>rfl
end eT
namespace Go.Proofs.YtoejlmpbebjemaaGreat
open Go Go.Am im eT
attribute [-simp] getD_eq_getElem?_getD in
theorem y9 (d:Dc)(hs:o5 d)(Nk:∀z∈d.zs,z.ws.length<=1000000)(f:Int)(w:Bs)(H:List az)(T:au):ar Tryz.prog 86 [.agg (dP d),.int .i64 f,.str w] H T (Is (.sl (kS (pg d.zs f) w).length (ints (kS (pg d.zs f) w)) .none) H T):=by
 refine ar.bV ?_ (by simp);have c:=λH T=>Hg d hs Nk f H T;have sr:(pg d.zs f).length<=1000000:=by
  have key:∀zs:List Zn,(∀z∈zs,z.ws.length<=1000000)->(pg zs f).length<=1000000:=by
   intro zs
   induction zs with
   |nil=>intro _;simp[pg]
   |cons z r ih=>
    intro h;unfold pg
    split
    ·exact h z (by simp)
    ·exact ih λy hy=>h y (by simp[hy])
  exact key _ Nk
 generalize pg d.zs f=ws at *;refine ah 10 [] Tryz.ntmps86 Tryz.func86 rfl (λ_ _=>Tryz.call86 _ _) (by simp) (λHO=>?_);apply ae;intro K Z;simp(disch:=omega);apply Z;have ff:bJ (H++[.cells (dP d)]) T:=HO.snoc (by simp);apply ae;intro K Z;simp(disch:=omega);apply Z;refine ae λK hK=>?_;simp(disch:=omega) ;refine ak (c _ _) ?_;simp(disch:=omega) ;apply hK;refine af λK1 aO=>?_;apply ae;intro K Z;simp(disch:=omega);apply Z;apply aj;refine m9 7 0 1 [] (by omega) (by simp) ?_;refine aI (X:=Nat) (λi=>⟨[(2,.str w),(7,.sl (kS (ws.take i) w).length (ints (kS (ws.take i) w)) (.own T.length)),(8,.sl ws.length (dR ws) .none),(9,.int .i64 (i:Nat))],H++[.cells (dP d)],T++[((kS (ws.take i) w).length,1)]⟩)
  (λi=>i<=ws.length) (λi=>ws.length-i) 0 ?_ ?_ ?_
 ·exact ahu _
 ·refine ag [] [] ?_ ?_ ?_ ?_ (ff.kC (by simp)) ?_
  all_goals simp[kS]
 ·intro i g1;refine af λK2 bc=>?_;apply ae;intro K Z;simp(disch:=omega);apply Z;refine aT rfl (λhk=>?_) (λhk=>?_)
  ·simp  at hk;obtain⟨a1,a2⟩:=BG ws i hk;have iH:=LS ws w i hk;have CT:(kS (ws.take i) w).length<=1000000:=by
    unfold kS;rw[ahz];exact aho (ahU _ _) (by rw[ahJ];omega)
   generalize kS (ws.take i) w=out at *;generalize ws.getD i w0=x at *;obtain⟨xt,xp⟩:=x;simp only at a1 a2 iH;apply aq;simp(disch:=omega) ;apply bc;clear bc;refine af λK3 bD=>?_;apply aj
   by_cases h1:xt=w
   ·have b1:(xt==w)=true:=by simpa using h1
    rw[ahs h1] at iH;refine ae λK hK=>?_;simp(disch:=omega)[a1,a2,gB,hk,b1,h1];apply hK;apply aG rfl;refine aB λK hK=>?_;simp(disch:=omega)[a1,a2,gB,hk,eG];apply hK;apply bD;clear bD;refine aB λK hK=>?_;simp(disch:=omega) ;apply hK;refine⟨i+1,by show i+1<=_;omega,by show ws.length-(i+1)<ws.length-i;omega,?_⟩;refine ag [] [] ?_ ?_ ?_ ?_ (ff.kC (by simp)) ?_
    all_goals simp[iH]
   ·have b1:(xt==w)=false:=by simpa using h1
    rw[ahq h1,ahH] at iH;refine ae λK hK=>?_;simp(disch:=omega)[a1,a2,gB,hk,b1,h1];apply hK;apply aD rfl;apply aq;simp(disch:=omega) ;apply bD;clear bD;refine aB λK hK=>?_;simp(disch:=omega) ;apply hK;refine⟨i+1,by show i+1<=_;omega,by show ws.length-(i+1)<ws.length-i;omega,?_⟩;refine ag [] [] ?_ ?_ ?_ ?_ (ff.kC (by simp)) ?_
    all_goals simp[iH]
  ·simp  at hk;have CE:i=ws.length:=by omega
   subst CE;rw[ahE];apply aF;simp(disch:=omega) ;apply aO;clear aO;apply ae;intro K Z;simp(disch:=omega);apply Z;apply ay;simp(disch:=omega) 
attribute [-simp] getD_eq_getElem?_getD in
theorem Ix (L:List Dc)(f:Int)(hL:L.length<=1000000)(hs:∀d∈L,o5 d)(hn:∀d∈L,d.ns.length<=1000000)(hi:(fL L f).length<=1000000)(H:List az)(T:au)(tg:Tag):ar Tryz.prog 87 [.sl L.length (aM L) tg,.int .i64 f] H T (Is (.sl (dz (fL L f)).length (br (dz (fL L f))) .none) H T):=by
 refine ar.cg ?_;refine ar.bV ?_ (by simp);rw[Mq] at *;refine ah 11 [] Tryz.ntmps87 Tryz.func87 rfl (λ_ _=>Tryz.call87 _ _) (by simp) (λHO=>?_);apply ae;intro K Z;simp(disch:=omega);apply Z;apply ae;intro K Z;simp(disch:=omega);apply Z;refine af λK1 aO=>?_;apply ae;intro K Z;simp(disch:=omega);apply Z;apply aj;refine aI (X:=Nat) (λk=>⟨[(0,.sl L.length (aM L) .none),(1,.int .i64 f),(5,.sl (dz ((L.take k).flatMap (rC f))).length (br (dz ((L.take k).flatMap (rC f)))) .none),(6,.int .i64 (k:Nat))],H,T⟩)
  (λk=>k<=L.length) (λk=>L.length-k) 0 ?_ ?_ ?_
 ·exact ahu _
 ·refine ag [] [] ?_ ?_ ?_ ?_ HO ?_
  all_goals simp[dz,Ej]
 ·intro k h1;refine af λK2 bc=>?_;apply ae;intro K Z;simp(disch:=omega);apply Z;refine aT rfl (λhk=>?_) (λhk=>?_)
  ·simp  at hk;have jv:=(iU L k hk).1;have hcut:=fJ L k hk;have nu:(L.take (k+1)).flatMap (rC f)=(L.take k).flatMap (rC f)++(Cz (L.getD k d0).ns f).map λn=>(n,(L.getD k d0).id):=by rw[aU L k d0 hk,ahZ];simp[rC]
   have hdl:((L.take k).flatMap (rC f)).length+(Cz (L.getD k d0).ns f).length<=1000000:=by
    have h3:L.flatMap (rC f)=(L.take k).flatMap (rC f)++(rC f (L.getD k d0)++(L.drop (k+1)).flatMap (rC f)):=by
     conv=>lhs;rw[<-take_append_drop k L,dO L k d0 hk,ahZ,ahy]
    rw[h3,ahk,ahk] at hi;have h4:(rC f (L.getD k d0)).length=(Cz (L.getD k d0).ns f).length:=by simp[rC]
    omega
   have c0:=λH T=>L6 (L.getD k d0) (hs _ (aS L k d0 hk)) (aho (hn _ (aS L k d0 hk)) (by omega)) f H T;generalize (L.take k).flatMap (rC f)=pre at *;generalize Cz (L.getD k d0).ns f=nl at *;generalize L.getD k d0=x at *;have eN:(nl.map λn=>(n,x.id)).length=nl.length:=by simp
   have hig:∀m,m<nl.length->(nl.map λn=>(n,x.id)).getD m n0=(nl.getD m 0,x.id):=λm hm=>by
    rw[ahg,aip,ahg,ahi hm];rfl
   generalize nl.map (λn=>(n,x.id))=il at *;apply aq;simp(disch:=omega) ;apply bc;clear bc;refine af λK3 bD=>?_;apply aj;refine ae λK hK=>?_;simp(disch:=omega)[hcut,ba,hk];refine ak (c0 _ _) ?_;simp(disch:=omega) ;apply hK;apply ae;intro K Z;simp(disch:=omega);apply Z;apply aj;refine aI (X:=Nat) (λm=>⟨[(0,.sl L.length (aM L) .none),(1,.int .i64 f),(5,.sl (dz (pre++il.take m)).length (br (dz (pre++il.take m))) .none),(6,.int .i64 (k:Nat)),(7,.sl nl.length (ints nl) .none),(8,.int .i64 (m:Nat))],H,T⟩)
    (λm=>m<=nl.length) (λm=>nl.length-m) 0 ?_ ?_ ?_
   ·exact ahu _
   ·refine ag [] [] ?_ ?_ ?_ ?_ HO ?_
    all_goals simp
   ·intro m Ro;refine af λK4 lN=>?_;apply ae;intro K Z;simp(disch:=omega);apply Z;refine aT rfl (λhm=>?_) (λhm=>?_)
    ·simp  at hm;have aeZ:=bI hm;have Wt:pre++il.take (m+1)=(pre++il.take m)++[(nl.getD m 0,x.id)]:=by rw[aU il m n0 (by omega),hig m hm,ahA]
     have ag8:(dz (pre++il.take m)).length<=1000000:=by rw[(eR _).length_eq,ahk,ahJ];omega
     generalize pre++il.take m=pm at *;have Ws:dz (pre++il.take (m+1))=nD (nl.getD m 0,x.id) (dz pm):=by rw[Wt];exact FL _ _
     generalize dz pm=d at *;generalize nl.getD m 0=nv at *;apply aq;simp(disch:=omega) ;apply lN;clear lN;refine af λK4 lN=>?_;apply aj;refine aJ [10,11] [0,0,0,0,0,0,0,0,0,0,0,1] [[0,1,2,3,4,5,6,7,8,9],[]] aw (by kernel_rfl) (by kernel_rfl) λK hK=>?_;simp(disch:=omega)[aeZ,jv,fI,ba,hk,hm];apply hK;have Sb:bJ (H++[.cells (zk (nv,x.id))]) T:=HO.snoc (by simp);rw[show az.cells [.int .i64 nv,.int .i64 x.id]=.cells (zk (nv,x.id)) from rfl];apply ae;intro K Z;simp(disch:=omega);apply Z;refine af λK5 lD=>?_;apply aj;refine aI (X:=Nat) (λn=>⟨[(0,.sl L.length (aM L) .none),(1,.int .i64 f),(5,.sl d.length (br d) .none),(6,.int .i64 (k:Nat)),(7,.sl nl.length (ints nl) .none),(8,.int .i64 (m:Nat)),(9,.ptr H.length 0),(10,.int .i64 (n:Nat))],H++[.cells (zk (nv,x.id))],T⟩)
      (λn=>n<=d.length/\∀j,j<n->dh (d.getD j n0) (nv,x.id)=true) (λn=>d.length-n) 0 ?_ ?_ ?_
     ·exact⟨ahu _,λj hj=>absurd hj (ahO _)⟩
     ·refine ag [] [] ?_ ?_ ?_ ?_ Sb ?_
      all_goals simp
     ·rintro n ⟨Ba,CD⟩;have go:(n<d.length->dh (d.getD n n0) (nv,x.id)=false)->∀e,bu (H.length+1) T.length e [(0,.sl L.length (aM L) .none),(1,.int .i64 f),(5,.sl d.length (br d) .none),(6,.int .i64 (k:Nat)),(7,.sl nl.length (ints nl) .none),(8,.int .i64 (m:Nat)),(9,.ptr H.length 0),(10,.int .i64 (n:Nat))]->
        K5 ⟨e,H++[.cells (zk (nv,x.id))],T⟩:=by
       intro zu e he;have Dd:=JJ (nv,x.id) d n Ba CD zu;refine lD _ (aH ⟨[(0,.sl L.length (aM L) .none),(1,.int .i64 f),(5,.sl d.length (br d) .none),(6,.int .i64 (k:Nat)),(7,.sl nl.length (ints nl) .none),(8,.int .i64 (m:Nat)),(9,.ptr H.length 0),(10,.int .i64 (n:Nat))],H++[.cells (zk (nv,x.id))],T⟩ (ag [] [] (by simp) (by simp) (by simp) (by simp) Sb (by simpa using he)) ?_);have ht:=TE d n;have hdr:=L9 d n;have hlt:(br (d.take n)).length=n*2:=by rw[cH,ahJ];omega
       have Yx:(br (d.drop n)).length=(d.length-n)*2:=by rw[cH,ah4]
       have iH:(br (d.drop n)).take ((d.length-n)*2)=br (d.drop n):=by rw[<-Yx,ahE]
       have yT:br (d.take n)++.int .i64 nv::.int .i64 x.id::br (d.drop n)=br (nD (nv,x.id) d):=by rw[Dd];simp[br]
       have hlen:n+1+(d.length-n)=(nD (nv,x.id) d).length:=by rw[Dd];simp;omega
       refine cT [4,7,11] [0,0,0,0,0,0,0,1,0,0,0,2,3] [[],[],[]] aw (by kernel_rfl) (by kernel_rfl) λK hK=>?_;simp(disch:=omega)[dm,cH,ht,hdr,hlt,Yx,iH];rw[yT,hlen];apply hK;apply lN;clear lN;refine aB λK hK=>?_;simp(disch:=omega) ;apply hK;refine⟨m+1,by show m+1<=_;omega,by show nl.length-(m+1)<nl.length-m;omega,?_⟩;simp only[Ws];refine ag [.cells (zk (nv,x.id))] [((nD (nv,x.id) d).length*2,2)] ?_ ?_ ?_ ?_ HO ?_
       all_goals simp
      clear lD;refine af λK6 om=>?_
      by_cases zu:n<d.length
      ·have Vi:=ia d n zu;have hst:dh (d.getD n n0) (nv,x.id)=true->∀j,j<n+1->dh (d.getD j n0) (nv,x.id)=true:=λh j hj=>by
        rcases ahr j n with h3|h3
        ·exact CD j h3
        ·have:j=n:=by omega
         subst this;exact h
       have c:=FK (d.getD n n0) (nv,x.id) (H++[.cells (zk (nv,x.id))]) T;generalize d.getD n n0=y at *;have b4:decide ((n:Int)<d.length)=true:=ahm (by omega)
       cases ha:dh y (nv,x.id) with
       |true=>
        rw[ha] at c;refine aJ [] [] [] aw (by kernel_rfl) (by kernel_rfl) λK hK=>?_;simp(disch:=omega)[b4,zu,Vi,cH];refine aC (c) rfl ?_;simp(disch:=omega) ;apply hK;apply aG rfl;apply aq;simp(disch:=omega) ;apply om;clear om;apply aj;refine aB λK hK=>?_;simp(disch:=omega) ;apply hK;refine⟨n+1,⟨by show n+1<=_;omega,hst ha⟩,by show d.length-(n+1)<d.length-n;omega,?_⟩;refine ag [] [] ?_ ?_ ?_ ?_ Sb ?_
        all_goals simp
       |false=>
        rw[ha] at c;refine aJ [] [] [] aw (by kernel_rfl) (by kernel_rfl) λK hK=>?_;simp(disch:=omega)[b4,zu,Vi,cH];refine aC (c) rfl ?_;simp(disch:=omega) ;apply hK;apply aD rfl;apply aF;simp(disch:=omega) ;refine go (λ_=>ha) _ ?_;simp
      ·have b4:decide ((n:Int)<d.length)=false:=ahn (by omega);refine aJ [] [] [] aw (by kernel_rfl) (by kernel_rfl) λK hK=>?_;simp(disch:=omega)[b4,zu];apply hK;apply aD rfl;apply aF;simp(disch:=omega) ;refine go (λh=>absurd h zu) _ ?_;simp
    ·simp  at hm;have e:m=nl.length:=by omega
     subst e;rw[show il.take nl.length=il by rw[<-eN,ahE],<-nu];apply aF;simp(disch:=omega) ;apply bD;clear bD;refine aB λK hK=>?_;simp(disch:=omega) ;apply hK;refine⟨k+1,by show k+1<=_;omega,by show L.length-(k+1)<L.length-k;omega,?_⟩;refine ag [] [] ?_ ?_ ?_ ?_ HO ?_
     all_goals simp
  ·simp  at hk;have e:k=L.length:=by omega
   subst e;rw[ahE];apply aF;simp(disch:=omega) ;apply aO;clear aO;apply ae;intro K Z;simp(disch:=omega);apply Z;apply ay;simp(disch:=omega) 
end Go.Proofs.YtoejlmpbebjemaaGreat
namespace eT
open im Go.Am Go.Proofs.YtoejlmpbebjemaaGreat
structure Rw where
 k:Ky
 pl:List Ps
 tg:Tag
abbrev rwC (r:Rw):List AV:=[.int .i64 r.k.1,.str r.k.2,.sl r.pl.length (bA r.pl) r.tg]
def mH (l:List Rw):List AV:=l.flatMap rwC
def Js:eu rwC 3:=λ_=>rfl
def pQ (l:List Rw):(mH l).length=l.length*3:=bU Js l
def xE (R1 R2:List Rw)(r:Rw)(rest:List AV):mH (R1++r::R2)++rest=mH R1++(.int .i64 r.k.1::.str r.k.2::.sl r.pl.length (bA r.pl) r.tg::(mH R2++rest)):=by simp[mH]
def ZS (R1 R2:List Rw)(r:Rw)(rest:List AV):(mH (R1++r::R2)++rest).getD (R1.length*3) .top=.int .i64 r.k.1/\(mH (R1++r::R2)++rest).getD (R1.length*3+1) .top=.str r.k.2/\(mH (R1++r::R2)++rest).getD (R1.length*3+2) .top=.sl r.pl.length (bA r.pl) r.tg:=by
 rw[xE];have h:=pQ R1;have key:∀(j:Nat)(X:List AV),(mH R1++X).getD (R1.length*3+j) .top=X.getD j .top:=λj X=>by
  rw[ahg,ahC (by omega),ahg];congr 2;omega
 exact⟨key 0 _,key 1 _,key 2 _⟩
def WW (R1 R2:List Rw)(r:Rw)(rest:List AV)(pl:List Ps)(tg:Tag):(mH (R1++r::R2)++rest).set (R1.length*3+2) (.sl pl.length (bA pl) tg)=mH (R1++⟨r.k,pl,tg⟩::R2)++rest:=by
 rw[xE,xE,aiS _ _ (by rw[pQ];omega),pQ]
 congr 1
 rw[show R1.length*3+2-R1.length*3=2 by omega];rfl
def Gx (r:Rw):List (Nat×(Nat×Nat)):=match r.tg with
 |.own tk=>[(tk,(r.pl.length*2,2))]
 |_=>[]
def jq (R:List Rw):List (Nat×(Nat×Nat)):=R.flatMap Gx
def WH (r:Rw):Prop:=(r.tg=.full/\r.pl=[])\/∃tk,r.tg=.own tk
def Bh (d:Dc)(k:Ky):List Int:=kS (pg d.zs k.1) k.2
def rA (d:Dc)(k:Ky):List Ps:=if Bh d k=[] then [] else [(d.id,Bh d k)]
end eT
namespace Go.Proofs.YtoejlmpbebjemaaGreat
open Go Go.Am im eT
attribute [-simp] getD_eq_getElem?_getD in
theorem PW (L:List Dc)(i:Nat)(hi:i<L.length)(hs:o5 (L.getD i d0))(Nk:∀z∈(L.getD i d0).zs,z.ws.length<=1000000)(R1 R2:List Rw)(r:Rw)(hr:WH r)(zt:r.pl.length<=1000000)(H:List az)(T:au)(nb tb b2 b6 td tc it n:Nat)(hn:n=R1.length+1+R2.length)
  (dv cv:AV) (B0:az) (rest:List AV) (J:List az) (U:au) (RU:List (Nat×(Nat×Nat))) (gG:nb<=J.length) (fY:tb<=U.length) (hit:H.length<=it)
  (hJ:Has J ((b2,B0)::(b6,.cells [dv,.cK it 0 n,cv])::[(it,.cells (mH (R1++r::R2)++rest))])) (hU:Has U (RU++jq (R1++r::R2))) (Ns:gM H J) (Gd:gM T U) (htT:∀tk,r.tg=.own tk->T.length<=tk) (HO:bJ J U) (Q:Exit->St->Prop)
  (go:∀(e:Env)(J':List az)(U':au)(r':Rw),r'.k=r.k->r'.pl=r.pl++rA (L.getD i d0) r.k->WH r'->(∀tk,r'.tg=.own tk->T.length<=tk)->Has J' ((b2,B0)::(b6,.cells [dv,.cK it 0 n,cv])::[(it,.cells (mH (R1++r'::R2)++rest))])->
   Has U' (RU++jq (R1++r'::R2))->gM H J'->gM T U'->J'.length=J.length->U.length<=U'.length->bu J'.length U'.length e [(0,.sl L.length (aM L) .none),(2,.ptr b2 0),(6,.ptr b6 0),(7,.int .i64 (i:Nat)),(8,.int .i64 (R1.length:Nat))]->Q .normal ⟨e,J',U'⟩) :
  AW ⟨Tryz.prog,135,12,nb,tb,[]⟩ (dY [1,1,1,1,1,1,0,1,0,0,1,0,0,1,1,0,0,1,0,0] (Tryz.f36.body.getD .skip)) Q
   ⟨[(0,.sl L.length (aM L) .none),(2,.ptr b2 0),(6,.ptr b6 0),(7,.int .i64 (i:Nat)),(8,.int .i64 (R1.length:Nat))],J,U⟩:=by
 conv=>arg 2;whnf
 have hcut:=fJ L i hi;have Gb:=(iU L i hi).1;have c:=y9 (L.getD i d0) hs Nk r.k.1 r.k.2 J U;have VO:rA (L.getD i d0) r.k=if Bh (L.getD i d0) r.k=[] then [] else [((L.getD i d0).id,Bh (L.getD i d0) r.k)]:=rfl
 rw[show kS (pg (L.getD i d0).zs r.k.1) r.k.2=Bh (L.getD i d0) r.k from rfl] at c;have ag1:(Bh (L.getD i d0) r.k).length<=1000000:=by
  unfold Bh kS;rw[ahz];refine aho (ahU _ _) ?_;have key:∀zs:List Zn,(∀z∈zs,z.ws.length<=1000000)->(pg zs r.k.1).length<=1000000:=by
   intro zs
   induction zs with
   |nil=>intro _;simp[pg]
   |cons z q ih=>
    intro h;unfold pg
    split
    ·exact h z (by simp)
    ·exact ih λy hy=>h y (by simp[hy])
  exact key _ Nk
 generalize Bh (L.getD i d0) r.k=ps at *;generalize rA (L.getD i d0) r.k=pr at *;generalize L.getD i d0=d at *;have g6:=hJ.get (i:=b6) (b:=.cells [dv,.cK it 0 n,cv]) (by simp);have git:=hJ.get (i:=it) (b:=.cells (mH (R1++r::R2)++rest)) (by simp);have l2:=hJ.lt (i:=b2) (b:=B0) (by simp);have e6:=aW g6;have eit:=aW git;have l6:=(ahh.1 g6).1;have lit:=(ahh.1 git).1;obtain⟨v0,v1,v2⟩:=ZS R1 R2 r rest;have Y6:=WW R1 R2 r rest;have agU:R1.length*3+3<=(mH (R1++r::R2)++rest).length:=by rw[ahk,pQ];simp;omega
 have tY:R1.length<n:=by omega
 generalize Nl:mH (R1++r::R2)++rest=vs at *;have d0':R1.length*3<vs.length:=by omega
 have d1':R1.length*3+1<vs.length:=by omega
 have d2':R1.length*3+2<vs.length:=by omega
 have e1:R1.length*3+1=1+R1.length*3:=by omega
 refine aJ [] [] [] aw (by kernel_rfl) (by kernel_rfl) λK hK=>?_;simp(disch:=omega)[e6,l6,eit,lit,hcut,ba,hi,tY,v0,v1,d0',d1'];refine aC (c) rfl ?_;simp(disch:=omega) ;apply hK;refine aH ⟨[(0,.sl L.length (aM L) .none),(2,.ptr b2 0),(6,.ptr b6 0),(7,.int .i64 (i:Nat)),(8,.int .i64 (R1.length:Nat)),(9,.sl ps.length (ints ps) .none)],J,U⟩ (ag [] [] (by simp) (by simp) gG fY HO (by simp[l2,l6])) ?_
 by_cases tV:ps=[]
 ·subst tV;apply ae;intro K Z;simp(disch:=omega);apply Z;apply aD rfl;apply aq;refine go _ J U r rfl (by rw[VO,ahs rfl,ahH]) hr htT (by rw[Nl];exact hJ) hU Ns Gd rfl (ahj _) ?_;simp[l2,l6]
 have aeS:0<ps.length:=by
  rcases ahR ps.length with h|h
  ·exact absurd (ah3.1 h) tV
  ·exact h
 have b1:decide ((0:Int)<(ps.length:Int))=true:=ahm (by omega);rw[ahq tV] at VO;refine ae λK hK=>?_;simp(disch:=omega)[b1,aeS];apply hK;apply aG rfl;rcases hr with⟨yJ,oS⟩|⟨tk,yJ⟩
 ·rw[yJ,oS] at v2;have Yc:=Y6 [(d.id,ps)] (.own U.length);rw[show bA [(d.id,ps)]=[.int .i64 d.id,.sl ps.length (ints ps) .none] from rfl,show [(d.id,ps)].length=1 from rfl] at Yc;refine cT [17,20] [0,0,0,0,0,0,0,0,0,0,0,0,0,0,0,0,0,0,1,1,1] [[0,1,2],[]] aw (by kernel_rfl) (by kernel_rfl) λK hK=>?_;simp(disch:=omega)[e6,l6,eit,lit,Gb,ba,hi,tY,v2,d2',tu];rw[Yc];have iW:=Has.set (A:=[(b2,B0),(b6,.cells [dv,.cK it 0 n,cv])]) (B:=[]) (b:=.cells vs) hJ (.cells (mH (R1++⟨r.k,[(d.id,ps)],.own U.length⟩::R2)++rest));have CJ:Has (U++[(2,2)]) (RU++jq (R1++⟨r.k,[(d.id,ps)],.own U.length⟩::R2)):=by
   refine(hU.new (2,2)).perm ?_;have h1:jq (R1++⟨r.k,[(d.id,ps)],.own U.length⟩::R2)=jq R1++(U.length,(2,2))::jq R2:=by simp[jq,Gx]
   have h2:jq (R1++r::R2)=jq R1++jq R2:=by simp[jq,Gx,yJ]
   rw[h1,h2];have h3:RU++(jq R1++(U.length,(2,2))::jq R2)=(RU++jq R1)++(U.length,(2,2))::jq R2:=by simp
   rw[h3];refine ajC.trans ?_;refine(ah6 _ _).symm.trans ?_;simp
  have hpU:=Gd.le;refine hK _ ?_;refine go _ _ _ ⟨r.k,[(d.id,ps)],.own U.length⟩ rfl (by rw[oS,VO];rfl) (.inr ⟨_,rfl⟩) (λtk h=>by injection h with h;omega) iW CJ (Ns.set hit _) (Gd.app _) (by simp) (by simp) ?_;simp[l2,l6]
 ·have gU:=hU.get (i:=tk) (b:=(r.pl.length*2,2)) (by simp[jq,Gx,yJ]);have eU:=aW gU;have lU:=(ahh.1 gU).1;rw[yJ] at v2;have Yc:=Y6 (r.pl++[(d.id,ps)]) (.own tk);rw[show bA (r.pl++[(d.id,ps)])=bA r.pl++[.int .i64 d.id,.sl ps.length (ints ps) .none] by simp[bA],show (r.pl++[(d.id,ps)]).length=r.pl.length+1 by simp] at Yc;refine cT [17,20] [0,0,0,0,0,0,0,0,0,0,0,0,0,0,0,0,0,0,1,1,1] [[0,1,2],[]] aw (by kernel_rfl) (by kernel_rfl) λK hK=>?_;simp(disch:=omega)[e6,l6,eit,lit,Gb,ba,hi,tY,v2,d2',bt,eU,lU];rw[Yc];have iW:=Has.set (A:=[(b2,B0),(b6,.cells [dv,.cK it 0 n,cv])]) (B:=[]) (b:=.cells vs) hJ (.cells (mH (R1++⟨r.k,r.pl++[(d.id,ps)],.own tk⟩::R2)++rest));have CJ:Has (U.set tk ((r.pl.length+1)*2,2)) (RU++jq (R1++⟨r.k,r.pl++[(d.id,ps)],.own tk⟩::R2)):=by
   have h1:RU++jq (R1++⟨r.k,r.pl++[(d.id,ps)],.own tk⟩::R2)=(RU++jq R1)++(tk,((r.pl.length+1)*2,2))::jq R2:=by simp[jq,Gx]
   have h2:RU++jq (R1++r::R2)=(RU++jq R1)++(tk,(r.pl.length*2,2))::jq R2:=by simp[jq,Gx,yJ]
   rw[h1];rw[h2] at hU;exact hU.set _
  have iH:=htT tk yJ;refine hK _ ?_;refine go _ _ _ ⟨r.k,r.pl++[(d.id,ps)],.own tk⟩ rfl (by rw[VO]) (.inr ⟨_,rfl⟩) (λF8 h=>by injection h with h;omega) iW CJ (Ns.set hit _) (Gd.set iH _) (by simp) (by simp) ?_;simp[l2,l6]
end Go.Proofs.YtoejlmpbebjemaaGreat
namespace eT
open im Go.Am Go.Proofs.YtoejlmpbebjemaaGreat
def Tb (h0:Nat)(R:List Rw)(tv:AV)(TB:List (Nat×az)):Prop:=(R=[]/\tv=.sl 0 [] .none/\TB=[])\/∃it rest,tv=.cK it 0 R.length/\TB=[(it,.cells (mH R++rest))]/\h0<=it
structure RI (H:List az)(T:au)(b2 b6:Nat)(RU:List (Nat×(Nat×Nat)))(dv tv cv:AV)(B0:az)(R:List Rw)(J:List az)(U:au):Prop where
 hJ:∃TB,Tb H.length R tv TB/\Has J ((b2,B0)::(b6,.cells [dv,tv,cv])::TB)
 hU:Has U (RU++jq R)
 hr:∀r∈R,WH r/\∀tk,r.tg=.own tk->T.length<=tk
 pJ:gM H J
 pU:gM T U
abbrev rw0:Rw:=⟨k0,[],.full⟩
def kp (R:List Rw):List (Ky×List Ps):=R.map λr=>(r.k,r.pl)
def zG (d:Dc)(x:Ky×List Ps):Ky×List Ps:=(x.1,x.2++rA d x.1)
def uo (R:List Rw):(kp R).length=R.length:=by simp[kp]
def gp (L:List Dc)(c:Nat):List Cl:=(List.range c).flatMap fun(c:Nat)=>nF L (5+(c:Int))
def oe (L:List Dc)(c:Nat):gp L (c+1)=gp L c++nF L (5+(c:Int)):=by unfold gp;rw[ajS,ahZ];simp
theorem xW (L:List Dc):∀c,(gp L c).length<=c
 |0=>by simp[gp]
 |c+1=>by
  have:=xW L c;have h2:(nF L (5+(c:Int))).length<=1:=by unfold nF;split<;>simp
  rw[oe,ahk];omega
end eT
namespace Go.Proofs.YtoejlmpbebjemaaGreat
open Go Go.Am im eT
attribute [-simp] getD_eq_getElem?_getD in
def LM (L:List Dc)(i:Nat)(hi:i<L.length)(hs:o5 (L.getD i d0))(Nk:∀z∈(L.getD i d0).zs,z.ws.length<=1000000)(H:List az)(T:au)(nb tb b2 b6 td tc:Nat)(dv tv cv:AV)(B0:az)(RU:List (Nat×(Nat×Nat)))(R:List Rw)(J:List az)(U:au)(gG:nb<=J.length)(fY:tb<=U.length)
  (Kk:RI H T b2 b6 RU dv tv cv B0 R J U) (zt:∀x∈kp R,x.2.length<=1000000) (hRl:R.length<=1000000) (HO:bJ J U) (Q:Exit->St->Prop)
  (go:∀(e:Env)(J':List az)(U':au)(R':List Rw),RI H T b2 b6 RU dv tv cv B0 R' J' U'->kp R'=(kp R).map (zG (L.getD i d0))->J'.length=J.length->U.length<=U'.length->
   bu J'.length U'.length e [(0,.sl L.length (aM L) .none),(2,.ptr b2 0),(6,.ptr b6 0),(7,.int .i64 (i:Nat))]->Q .normal ⟨e,J',U'⟩) :
  AW ⟨Tryz.prog,135,12,nb,tb,[]⟩ (dY [1,1,1,1,1,1,0,1,0,0,1,0,0,1] (Tryz.f36.body.getD .skip)) Q
   ⟨[(0,.sl L.length (aM L) .none),(2,.ptr b2 0),(6,.ptr b6 0),(7,.int .i64 (i:Nat))],J,U⟩:=by
 conv=>arg 2;whnf
 have hb:∀{R' J' U'},RI H T b2 b6 RU dv tv cv B0 R' J' U'->b2<J'.length/\b6<J'.length:=λh=>by
  obtain⟨TB,_,h2⟩:=h.hJ;exact⟨h2.lt (b:=B0) (by simp),h2.lt (b:=.cells [dv,tv,cv]) (by simp)⟩
 obtain⟨m2,m6⟩:=hb Kk;apply ae;intro K Z;simp(disch:=omega);apply Z;apply aj;refine aI (X:=Nat×List az×au×List Rw) (λx=>⟨[(0,.sl L.length (aM L) .none),(2,.ptr b2 0),(6,.ptr b6 0),(7,.int .i64 (i:Nat)),(8,.int .i64 (x.1:Nat))],x.2.1,x.2.2.1⟩)
  (λx=>x.1<=R.length/\RI H T b2 b6 RU dv tv cv B0 x.2.2.2 x.2.1 x.2.2.1/\kp x.2.2.2=((kp R).take x.1).map (zG (L.getD i d0))++(kp R).drop x.1/\x.2.1.length=J.length/\U.length<=x.2.2.1.length/\bJ x.2.1 x.2.2.1) (λx=>R.length-x.1) (0,J,U,R) ?_ ?_ ?_
 ·exact⟨ahu _,Kk,by simp,rfl,ahj _,HO⟩
 ·refine ag [] [] (by simp) (by simp) gG fY HO ?_;simp[m2,m6]
 ·rintro⟨kk,J1,U1,R3⟩ ⟨g1,g2,g3,g4,g5,g6⟩;simp only at g1 g2 g3 g4 g5 g6;obtain⟨n2,n6⟩:=hb g2;have hlen:R3.length=R.length:=by
   have:=congrArg List.length g3;rw[uo,ahk,ahz,ahJ,ah4,uo] at this;omega
  obtain⟨TB,VX,Ru⟩:=g2.hJ;have e6:=aW (Ru.get (i:=b6) (b:=.cells [dv,tv,cv]) (by simp));refine af λK5 lD=>?_;rcases VX with⟨h1,ND,_⟩|⟨it,rest,ND,afs,hit⟩
  ·subst ND;have hR0:R.length=0:=by rw[<-hlen,h1];rfl
   have hk0:kk=0:=by omega
   subst hk0;refine ae λK hK=>?_;simp(disch:=omega)[e6,n6];apply hK;apply aD rfl;apply aF;simp(disch:=omega) ;refine go _ J1 U1 R3 g2 (by rw[h1,ah3.1 hR0];rfl) g4 g5 ?_;simp[n2,n6]
  ·rw[hlen] at ND;subst ND;subst afs;refine ae λK hK=>?_;simp(disch:=omega)[e6,n6];apply hK;refine aT rfl (λhk=>?_) (λhk=>?_)
   ·simp  at hk;obtain⟨R1,r,R2,hR3,hR1⟩:∃R1 r R2,R3=R1++r::R2/\R1.length=kk:=⟨R3.take kk,R3.getD kk rw0,R3.drop (kk+1),by rw[<-dO R3 kk rw0 (by omega),ahM],by rw[ahJ];omega⟩
    subst hR1;subst hR3;have gV:R1.length<(kp R).length:=by rw[uo];exact hk
    have Gm:kp R1++(r.k,r.pl)::kp R2=((kp R).take R1.length).map (zG (L.getD i d0))++(kp R).drop R1.length:=by rw[<-g3];simp[kp]
    obtain⟨hA,hB⟩:=List.append_inj Gm (by rw[uo,ahz,ahJ];omega);rw[dO (kp R) R1.length (k0,[]) gV] at hB;obtain⟨hx,Ge⟩:=List.cons.inj hB;have fS:(r.k,r.pl)∈kp R:=by rw[hx];exact aS (kp R) R1.length (k0,[]) gV
    have hn:R.length=R1.length+1+R2.length:=by rw[<-hlen];simp;omega
    obtain⟨yJ,oS⟩:=g2.hr r (by simp);apply aq;apply lD;clear lD;refine af λK6 om=>?_;apply aj;refine aH ⟨[(0,.sl L.length (aM L) .none),(2,.ptr b2 0),(6,.ptr b6 0),(7,.int .i64 (i:Nat)),(8,.int .i64 (R1.length:Nat))],J1,U1⟩ (ag [] [] (by simp) (by simp) (by show nb<=J1.length;omega) (by show tb<=U1.length;omega) g6 (by simp[n2,n6])) ?_;refine PW L i hi hs Nk R1 R2 r yJ (zt _ fS) H T nb tb b2 b6 td tc it R.length hn dv cv B0 rest J1 U1 RU (by omega) (by omega) hit Ru g2.hU g2.pJ g2.pU oS g6 _ λe J2 U2 r' q1 q2 q3 q4 q5 q6 q7 q8 q9 q10 he=>?_;have p2:b2<J2.length:=by omega
    have p6:b6<J2.length:=by omega
    refine om _ (dA λfx=>?_);refine aH ⟨[(0,.sl L.length (aM L) .none),(2,.ptr b2 0),(6,.ptr b6 0),(7,.int .i64 (i:Nat)),(8,.int .i64 (R1.length:Nat))],J2,U2⟩ (ag [] [] (by simp) (by simp) (by show nb<=J2.length;omega) (by show tb<=U2.length;omega) fx he) ?_;refine aB λK hK=>?_;simp(disch:=omega) ;apply hK;have aag:R.length=(R1++r'::R2).length:=by rw[hn];simp;omega
    refine⟨(R1.length+1,J2,U2,R1++r'::R2),⟨by show R1.length+1<=_;omega,⟨⟨_,.inr ⟨it,rest,by rw[<-aag],rfl,hit⟩,q5⟩,q6,λx CA=>?_,q7,q8⟩,?_,by show J2.length=_;omega,by show _<=U2.length;omega,fx⟩,by show R.length-(R1.length+1)<R.length-R1.length;omega,?_⟩
    ·rcases ahw.1 CA with CA|CA
     ·exact g2.hr x (by simp[CA])
     ·rcases ahL.1 CA with rfl|CA
      ·exact⟨q3,q4⟩
      ·exact g2.hr x (by simp[CA])
    ·show kp (R1++r'::R2)=((kp R).take (R1.length+1)).map (zG (L.getD i d0))++(kp R).drop (R1.length+1);rw[aU (kp R) R1.length (k0,[]) gV,ahx,<-hA,<-Ge,<-hx];simp[kp,zG,q1,q2]
    ·refine ag [] [] (by simp) (by simp) (by show nb<=J2.length;omega) (by show tb<=U2.length;omega) fx ?_;simp[p2,p6]
   ·simp  at hk;have Kg:kk=R.length:=by omega
    subst Kg;apply aF;simp(disch:=omega) ;refine go _ J1 U1 R3 g2 ?_ g4 g5 ?_
    ·rw[g3,<-uo R,ahE,aim,ahH]
    ·simp[n2,n6]
end Go.Proofs.YtoejlmpbebjemaaGreat
namespace eT
open im Go.Am Go.Proofs.YtoejlmpbebjemaaGreat
theorem xF (k:Ky):∀l:List Dc,(l.flatMap λd=>rA d k).length<=l.length
 |[]=>by simp
 |d::l=>by
  have:=xF k l;have h2:(rA d k).length<=1:=by unfold rA;split<;>simp
  rw[ahy,ahk,ahS];omega
end eT
namespace Go.Proofs.YtoejlmpbebjemaaGreat
open Go Go.Am im eT
attribute [-simp] getD_eq_getElem?_getD in
def Ir (L:List Dc)(hL:L.length<=1000000)(hs:∀d∈L,o5 d)(Nk:∀d∈L,∀z∈d.zs,z.ws.length<=1000000)(H:List az)(T:au)(nb tb b2 b6 td tc:Nat)(tv cv:AV)(B0:az)(ks:List Ky)(R:List Rw)(J:List az)(U:au)(gG:nb<=J.length)(fY:tb<=U.length)
  (Kk:RI H T b2 b6 [(td,(0,1)),(tc,(0,2))] (.sl 0 [] (.own td)) tv cv B0 R J U) (hk0:kp R=ks.map λk=>(k,[])) (gV:ks.length<=1000000) (Gc:H.length<=b6) (NF:T.length<=td) (HO:bJ J U) (Q:Exit->St->Prop)
  (go:∀(e:Env)(J':List az)(U':au)(R':List Rw),RI H T b2 b6 [(td,(L.length,1)),(tc,(0,2))] (.sl L.length (ints (L.map (·.id))) (.own td)) tv cv B0 R' J' U'->kp R'=ks.map (λk=>(k,L.flatMap λd=>rA d k))->J'.length=J.length->U.length<=U'.length->
   bu J'.length U'.length e [(0,.sl L.length (aM L) .none),(2,.ptr b2 0),(6,.ptr b6 0)]->Q .normal ⟨e,J',U'⟩) :
  AW ⟨Tryz.prog,135,12,nb,tb,[]⟩ (dY [1,1,1,1,1,1,0] (Tryz.f36.body.getD .skip)) Q
   ⟨[(0,.sl L.length (aM L) .none),(2,.ptr b2 0),(6,.ptr b6 0)],J,U⟩:=by
 conv=>arg 2;whnf
 have hb:∀{RU dv R' J' U'},RI H T b2 b6 RU dv tv cv B0 R' J' U'->b2<J'.length/\b6<J'.length:=λ{RU dv R' J' U'} h=>by
  obtain⟨TB,_,h2⟩:=h.hJ;exact⟨h2.lt (b:=B0) (by simp),h2.lt (b:=.cells [dv,tv,cv]) (by simp)⟩
 obtain⟨m2,m6⟩:=hb Kk;apply ae;intro K Z;simp(disch:=omega);apply Z;apply aj;refine aI (X:=Nat×List az×au×List Rw) (λx=>⟨[(0,.sl L.length (aM L) .none),(2,.ptr b2 0),(6,.ptr b6 0),(7,.int .i64 (x.1:Nat))],x.2.1,x.2.2.1⟩)
  (λx=>x.1<=L.length/\RI H T b2 b6 [(td,(x.1,1)),(tc,(0,2))] (.sl x.1 (ints ((L.take x.1).map (·.id))) (.own td)) tv cv B0 x.2.2.2 x.2.1 x.2.2.1/\kp x.2.2.2=ks.map (λk=>(k,(L.take x.1).flatMap λd=>rA d k))/\x.2.1.length=J.length/\U.length<=x.2.2.1.length/\bJ x.2.1 x.2.2.1) (λx=>L.length-x.1) (0,J,U,R) ?_ ?_ ?_
 ·exact⟨ahu _,by simpa using Kk,by simpa using hk0,rfl,ahj _,HO⟩
 ·refine ag [] [] (by simp) (by simp) gG fY HO ?_;simp[m2,m6]
 ·rintro⟨i,J1,U1,R3⟩ ⟨g1,g2,g3,g4,g5,g6⟩;simp only at g1 g2 g3 g4 g5 g6;obtain⟨n2,n6⟩:=hb g2;refine af λK2 bc=>?_;apply ae;intro K Z;simp(disch:=omega);apply Z;refine aT rfl (λhk=>?_) (λhk=>?_)
  ·simp  at hk;have Gb:=(iU L i hk).1;obtain⟨TB,VX,Ru⟩:=g2.hJ;have e6:=aW (Ru.get (i:=b6) (b:=.cells [.sl i (ints ((L.take i).map (·.id))) (.own td),tv,cv]) (by simp));have gU:=g2.hU.get (i:=td) (b:=(i,1)) (by simp);have eU:=aW gU;have lU:=(ahh.1 gU).1;have iH:ints ((L.take i).map (·.id))++[.int .i64 (L.getD i d0).id]=ints ((L.take (i+1)).map (·.id)):=by rw[aU L i d0 hk,ahx,eG];rfl
   have Wo:((L.take i).map (·.id)).length=i:=by rw[ahz,ahJ];omega
   generalize (L.take i).map (·.id)=ids at *;generalize aaj:(L.take (i+1)).map (·.id)=tZ at *;generalize (L.getD i d0).id=xid at *;have eN:(L.take i).length=i:=by rw[ahJ];omega
   have RR:∀k,(L.take (i+1)).flatMap (λd=>rA d k)=(L.take i).flatMap (λd=>rA d k)++rA (L.getD i d0) k:=λk=>by rw[aU L i d0 hk,ahZ];simp
   apply aq;apply bc;clear bc;refine af λK6 om=>?_;apply aj;refine aJ [8,10] [0,0,0,0,0,0,0,0,0,1,1] [[],[]] aw (by kernel_rfl) (by kernel_rfl) λK hK=>?_;simp(disch:=omega)[e6,n6,Gb,ba,hk,eU,lU,Wo];apply hK;refine dA λfx=>?_;simp only at fx;have iW:=Has.set (A:=[(b2,B0)]) (B:=TB) (b:=.cells [.sl i (ints ids) (.own td),tv,cv]) Ru (.cells [.sl (i+1) (ints tZ) (.own td),tv,cv]);have CJ:=Has.set (A:=[]) (B:=(tc,(0,2))::jq R3) (b:=(i,1)) (by simpa using g2.hU) (i+1,1);rw[<-iH] at iW;have WA:RI H T b2 b6 [(td,(i+1,1)),(tc,(0,2))] (.sl (i+1) (ints tZ) (.own td)) tv cv B0 R3 (J1.set b6 (.cells [.sl (i+1) (ints ids++[.int .i64 xid]) (.own td),tv,cv])) (U1.set td (i+1,1)):=⟨⟨TB,VX,by rw[<-iH];exact iW⟩,by simpa using CJ,g2.hr,g2.pJ.set Gc _,g2.pU.set NF _⟩
   have jH:(J1.set b6 (.cells [.sl (i+1) (ints ids++[.int .i64 xid]) (.own td),tv,cv])).length=J1.length:=by simp
   have hlU:(U1.set td (i+1,1)).length=U1.length:=by simp
   generalize J1.set b6 (.cells [.sl (i+1) (ints ids++[.int .i64 xid]) (.own td),tv,cv])=J2 at *;generalize U1.set td (i+1,1)=U2 at *;have p2:b2<J2.length:=by omega
   have p6:b6<J2.length:=by omega
   refine aH ⟨[(0,.sl L.length (aM L) .none),(2,.ptr b2 0),(6,.ptr b6 0),(7,.int .i64 (i:Nat))],J2,U2⟩ (ag [] [] (by simp) (by simp) (by show nb<=J2.length;omega) (by show tb<=U2.length;omega) fx (by simp[p2,p6])) ?_;refine LM L i hk (hs _ (aS L i d0 hk)) (Nk _ (aS L i d0 hk)) H T nb tb b2 b6 td tc _ tv cv B0 _ R3 J2 U2 (by omega) (by omega) WA (λx hx=>?_) (by rw[<-uo,g3,ahz];exact gV) fx _ λe J3 U3 R4 q1 q2 q3 q4 he=>?_
   ·rw[g3] at hx;obtain⟨k,_,rfl⟩:=ahl.1 hx;have:=xF k (L.take i);simp only;omega
   obtain⟨r2,r6⟩:=hb q1;refine om _ (dA λBd=>?_);refine aH ⟨[(0,.sl L.length (aM L) .none),(2,.ptr b2 0),(6,.ptr b6 0),(7,.int .i64 (i:Nat))],J3,U3⟩ (ag [] [] (by simp) (by simp) (by show nb<=J3.length;omega) (by show tb<=U3.length;omega) Bd he) ?_;refine aB λK hK=>?_;simp(disch:=omega) ;apply hK;refine⟨(i+1,J3,U3,R4),⟨by show i+1<=_;omega,by simp only[aaj];exact q1,?_,by show J3.length=_;omega,by show _<=U3.length;omega,Bd⟩,by show L.length-(i+1)<L.length-i;omega,?_⟩
   ·show kp R4=_;rw[q2,g3,ain];exact ahW λk _=>by simp only[Function.comp,zG];rw[RR]
   ·refine ag [] [] (by simp) (by simp) (by show nb<=J3.length;omega) (by show tb<=U3.length;omega) Bd ?_;simp[r2,r6]
  ·simp  at hk;have CE:i=L.length:=by omega
   subst CE;rw[ahE] at g2 g3;apply aF;simp(disch:=omega) ;refine go _ J1 U1 R3 g2 g3 g4 g5 ?_;simp[n2,n6]
attribute [-simp] getD_eq_getElem?_getD in
def Iy (L:List Dc)(hL:L.length<=1000000)(hs:∀d∈L,o5 d)(hn:∀d∈L,d.ns.length<=1000000)(hi:∀f,(fL L f).length<=1000000)(H:List az)(T:au)(nb tb b2 b6 td tc:Nat)(dv tv:AV)(B0:az)(R:List Rw)(J:List az)(U:au)(gG:nb<=J.length)(fY:tb<=U.length)
  (Kk:RI H T b2 b6 [(td,(L.length,1)),(tc,(0,2))] dv tv (.sl 0 [] (.own tc)) B0 R J U) (Gc:H.length<=b6) (htc:T.length<=tc) (HO:bJ J U) (Q:Exit->St->Prop)
  (go:∀(e:Env)(J':List az)(U':au),RI H T b2 b6 [(td,(L.length,1)),(tc,((gp L 3).length*2,2))] dv tv (.sl (gp L 3).length (dJ (gp L 3)) (.own tc)) B0 R J' U'->J'.length=J.length->U.length<=U'.length->
   bu J'.length U'.length e [(2,.ptr b2 0),(6,.ptr b6 0)]->Q .normal ⟨e,J',U'⟩) :
  AW ⟨Tryz.prog,135,12,nb,tb,[]⟩ (dY [1,1,1,1,1,1,1,0] (Tryz.f36.body.getD .skip)) Q
   ⟨[(0,.sl L.length (aM L) .none),(2,.ptr b2 0),(6,.ptr b6 0)],J,U⟩:=by
 conv=>arg 2;whnf
 have hb:∀{RU cv J' U'},RI H T b2 b6 RU dv tv cv B0 R J' U'->b2<J'.length/\b6<J'.length:=λ{RU cv J' U'} h=>by
  obtain⟨TB,_,h2⟩:=h.hJ;exact⟨h2.lt (b:=B0) (by simp),h2.lt (b:=.cells [dv,tv,cv]) (by simp)⟩
 obtain⟨m2,m6⟩:=hb Kk;apply ae;intro K Z;simp(disch:=omega);apply Z;apply aj;refine aI (X:=Nat×List az×au) (λx=>⟨[(0,.sl L.length (aM L) .none),(2,.ptr b2 0),(6,.ptr b6 0),(10,.int .i64 (5+(x.1:Nat)))],x.2.1,x.2.2⟩)
  (λx=>x.1<=3/\RI H T b2 b6 [(td,(L.length,1)),(tc,((gp L x.1).length*2,2))] dv tv (.sl (gp L x.1).length (dJ (gp L x.1)) (.own tc)) B0 R x.2.1 x.2.2/\x.2.1.length=J.length/\U.length<=x.2.2.length/\bJ x.2.1 x.2.2) (λx=>3-x.1) (0,J,U) ?_ ?_ ?_
 ·exact⟨ahu _,by simpa[gp,EY] using Kk,rfl,ahj _,HO⟩
 ·refine ag [] [] (by simp) (by simp) gG fY HO ?_;simp[m2,m6]
 ·rintro⟨c,J1,U1⟩ ⟨g1,g2,g4,g5,g6⟩;simp only at g1 g2 g4 g5 g6;obtain⟨n2,n6⟩:=hb g2;have cc:=λH T=>Ix L (5+(c:Int)) hL hs hn (hi _) H T .none;have yN:=oe L c;have hcl:=xW L c;have hcf:nF L (5+(c:Int))=if fL L (5+(c:Int))=[] then [] else [⟨5+(c:Int),dz (fL L (5+(c:Int)))⟩]:=rfl
  have zt:(dz (fL L (5+(c:Int)))).length=(fL L (5+(c:Int))).length:=(eR _).length_eq;have hi5:=hi (5+(c:Int));have w7:-9223372036854775808<=5+(c:Int)+1/\5+(c:Int)+1<=9223372036854775807:=by omega
  refine af λK2 bc=>?_;rcases ahr c 3 with h3|h3
  ·have b1:decide (5+(c:Int)<=7)=true:=ahm (by omega);have n1:5+(c:Int)<=7:=by omega
   refine ae λK hK=>?_;simp(disch:=omega)[b1,n1];apply hK;apply aG rfl;apply aq;apply bc;clear bc;refine af λK6 om=>?_;apply aj;refine ae λK hK=>?_;simp(disch:=omega) ;refine ak (cc _ _) ?_;simp(disch:=omega) ;apply hK
   by_cases he:fL L (5+(c:Int))=[]
   ·rw[ahs he] at hcf;rw[hcf,ahH] at yN;have hz:(dz (fL L (5+(c:Int)))).length=0:=by rw[zt,he];rfl
    refine ae λK hK=>?_;simp(disch:=omega)[hz];apply hK;apply aD rfl;apply aq;apply om;clear om;refine aB λK hK=>?_;simp(disch:=omega) ;apply hK;refine⟨(c+1,J1,U1),⟨by show c+1<=3;omega,by simp only;rw[yN];exact g2,g4,g5,g6⟩,by show 3-(c+1)<3-c;omega,?_⟩;refine ag [] [] (by simp) (by simp) (by show nb<=J1.length;omega) (by show tb<=U1.length;omega) g6 ?_;simp[n2,n6];omega
   ·rw[ahq he] at hcf;have hp0:0<(fL L (5+(c:Int))).length:=by
     rcases ahR (fL L (5+(c:Int))).length with h|h
     ·exact absurd (ah3.1 h) he
     ·exact h
    generalize dz (fL L (5+(c:Int)))=il at *;have b2':decide ((0:Int)<(il.length:Int))=true:=ahm (by omega);have n2':0<il.length:=by omega
    obtain⟨TB,VX,Ru⟩:=g2.hJ;have e6:=aW (Ru.get (i:=b6) (b:=.cells [dv,tv,.sl (gp L c).length (dJ (gp L c)) (.own tc)]) (by simp));have gU:=g2.hU.get (i:=tc) (b:=((gp L c).length*2,2)) (by simp);have eU:=aW gU;have lU:=(ahh.1 gU).1;have CS:=MX (gp L c) ⟨5+(c:Int),il⟩;rw[hcf] at yN;simp only at CS;rw[<-yN] at CS;have vY:(gp L (c+1)).length=(gp L c).length+1:=by rw[yN];simp
    refine ae λK hK=>?_;simp(disch:=omega)[b2',n2'];apply hK;apply aG rfl;refine aB λK hK=>?_;simp(disch:=omega)[e6,n6,eU,lU,nL];apply hK;have iW:=Has.set (A:=[(b2,B0)]) (B:=TB) (b:=.cells [dv,tv,.sl (gp L c).length (dJ (gp L c)) (.own tc)]) Ru (.cells [dv,tv,.sl (gp L (c+1)).length (dJ (gp L (c+1))) (.own tc)]);have CJ:=Has.set (A:=[(td,(L.length,1))]) (B:=jq R) (b:=((gp L c).length*2,2)) (by simpa using g2.hU) ((gp L (c+1)).length*2,2);rw[<-CS,vY] at iW;rw[vY] at CJ;have WA:RI H T b2 b6 [(td,(L.length,1)),(tc,((gp L (c+1)).length*2,2))] dv tv (.sl (gp L (c+1)).length (dJ (gp L (c+1))) (.own tc)) B0 R (J1.set b6 (.cells [dv,tv,.sl ((gp L c).length+1) (dJ (gp L c)++[.int .i64 (5+(c:Int)),.sl il.length (br il) .none]) (.own tc)])) (U1.set tc (((gp L c).length+1)*2,2)):=⟨⟨TB,VX,by rw[vY,<-CS];exact iW⟩,by rw[vY];simpa using CJ,g2.hr,g2.pJ.set Gc _,g2.pU.set htc _⟩
    have jH:(J1.set b6 (.cells [dv,tv,.sl ((gp L c).length+1) (dJ (gp L c)++[.int .i64 (5+(c:Int)),.sl il.length (br il) .none]) (.own tc)])).length=J1.length:=by simp
    have hlU:(U1.set tc (((gp L c).length+1)*2,2)).length=U1.length:=by simp
    refine om _ (dA λfx=>?_);simp only at fx;generalize J1.set b6 (.cells [dv,tv,.sl ((gp L c).length+1) (dJ (gp L c)++[.int .i64 (5+(c:Int)),.sl il.length (br il) .none]) (.own tc)])=J2 at *;generalize U1.set tc (((gp L c).length+1)*2,2)=U2 at *;have p2:b2<J2.length:=by omega
    have p6:b6<J2.length:=by omega
    refine aB λK hK=>?_;simp(disch:=omega) ;apply hK;refine⟨(c+1,J2,U2),⟨by show c+1<=3;omega,WA,by show J2.length=_;omega,by show _<=U2.length;omega,fx⟩,by show 3-(c+1)<3-c;omega,?_⟩;refine ag [] [] (by simp) (by simp) (by show nb<=J2.length;omega) (by show tb<=U2.length;omega) fx ?_;simp[p2,p6];omega
  ·have hc3:c=3:=by omega
   subst hc3;apply ae;intro K Z;simp(disch:=omega);apply Z;apply aD rfl;apply aF;simp(disch:=omega) ;refine go _ J1 U1 g2 g4 g5 ?_;simp[n2,n6]
end Go.Proofs.YtoejlmpbebjemaaGreat
namespace eT
open im Go.Am Go.Proofs.YtoejlmpbebjemaaGreat
theorem UZ {zs:List Zn}(h:∀k,k<zs.length->mJ zs k=true):∀j i,i<j->j<zs.length->(zs.getD i z0).f<(zs.getD j z0).f
 |0,i,h1,_=>absurd h1 (ahO _)
 |j+1,i,h1,h2=>by
  have h3:=(fO (h (j+1) h2)).1;unfold iF at h3;rw[ahq (by omega),aiP] at h3;rcases ahr i j with h4|h4
  ·have:=UZ h j i h4 (by omega);omega
  ·have:i=j:=by omega
   subst this;exact h3
theorem Ak (k:Ky):∀zs:List Zn,(∀z∈zs,z.f≠k.1)->(eW zs).filter (λw=>w.1==k)=[]
 |[],_=>rfl
 |z::r,h=>by
  have e:eW (z::r)=o6 z.f z.ws++eW r:=by simp[eW]
  rw[e,ah8,Ak k r λy hy=>h y (by simp[hy]),ahH,aiW];intro w hw;obtain⟨x,_,rfl⟩:=ahl.1 hw;have:=h z (by simp);simp only[ajb];intro e;exact this (by rw[<-e])
def Pe (f:Int)(ws:List Wd)(w:Bs):((o6 f ws).filter λx=>x.1==(f,w)).map (·.2)=kS ws w:=by
 unfold o6 kS;rw[List.filter_map,ain]
 congr 1
 apply ajV;intro x _;rw[ajT];simp
theorem Eb (k:Ky):∀zs:List Zn,(zs.Pairwise λx y=>x.f≠y.f)->((eW zs).filter λw=>w.1==k).map (·.2)=kS (pg zs k.1) k.2
 |[],_=>rfl
 |z::r,h=>by
  have ⟨h1,h2⟩:=aie.1 h;have e:eW (z::r)=o6 z.f z.ws++eW r:=by simp[eW]
  rw[e,ah8,ahx];unfold pg
  by_cases hz:z.f=k.1
  ·rw[ahs hz,Ak k r λy hy e=>h1 y hy (by rw[hz,e]),ajg,ahH];have:=Pe z.f z.ws k.2;rw[hz] at this ⊢;exact this
  ·rw[ahq hz,<-Eb k r h2];have:(o6 z.f z.ws).filter (λw=>w.1==k)=[]:=by
    rw[aiW];intro w hw;obtain⟨x,_,rfl⟩:=ahl.1 hw;simp only[ajb];intro e;exact hz (by rw[<-e])
   rw[this];rfl
def Ag {d:Dc}(h:aR d=true)(k:Ky):Bh d k=iX d k:=by
 have h1:=(bZ h).2.1;refine(Eb k d.zs ?_).symm;rw[ahN];intro i j hi hj hij;have:=UZ h1 j i hij hj;rw[ahg,ahg,ahi hi,ahi hj] at this;simp only[aiU] at this;omega
def P0 {d:Dc}(h:aR d=true)(k:Ky):rA d k=CM d k:=by unfold rA CM;rw[Ag h]
theorem Jx {L:List Dc}(h:∀d∈L,aR d=true)(k:Ky):(L.flatMap λd=>rA d k)=dg L k:=by
 unfold dg
 induction L with
 |nil=>rfl
 |cons d r ih=>rw[ahy,ahy,P0 (h d (by simp)),ih λx hx=>h x (by simp[hx])]
def O8 (L:List Dc):gp L 3=dM L:=by
 unfold dM;rw[oe,oe,oe];simp[gp]
def uP {α β:Type}(f:α->List β){l:List α}{x:α}(h:x∈l):(f x).length<=(l.flatMap f).length:=by
 obtain⟨A,B,rfl⟩:=ajF h;rw[ahZ,ahy,ahk,ahk];omega
theorem JQ {α β γ:Type}(f:α->List β)(g:α->List γ)(h:∀x,(f x).length<=(g x).length):∀l:List α,(l.flatMap f).length<=(l.flatMap g).length
 |[]=>by simp
 |x::r=>by
  have h1:=JQ f g h r;have h2:=h x;rw[ahy,ahy,ahk,ahk];omega
def AJ {α β:Type}(f:α->List β){l m:List α}(h:l.Perm m):(l.flatMap f).length=(m.flatMap f).length:=(h.flatMap_right f).length_eq
theorem iP {α β:Type}(f:α->List β)(n:Nat):∀l:List α,(∀x∈l,(f x).length<=n)->(l.flatMap f).length<=l.length*n
 |[],_=>by simp
 |x::r,h=>by
  have h1:=iP f n r λy hy=>h y (by simp[hy]);have h2:=h x (by simp);rw[ahy,ahk,ahS,aiA];omega
end eT
namespace Go.Proofs.YtoejlmpbebjemaaGreat
open Go.Proofs.Tryz(prog)
open Go Go.Am im eT
theorem Mz {n0 t0:Nat}{J:List az}{R:List Rw}{tv:AV}{TB:List (Nat×az)}(h:Tb n0 R tv TB)(hJ:∀p∈TB,J[p.1]?=some p.2):gj n0 t0 J tv (.sl R.length (dx (R.map λr=>(⟨r.k.1,r.k.2,r.pl⟩:Tm))) .none):=by
 rcases h with⟨rfl,rfl,_⟩|⟨it,rest,rfl,rfl,hit⟩
 ·exact .keep (.inr rfl) (by simp[tr])
 ·have hH:=hJ _ (ah0.2 rfl);have h2:dx (R.map λr=>(⟨r.k.1,r.k.2,r.pl⟩:Tm))=R.flatMap λr=>ph ⟨r.k.1,r.k.2,r.pl⟩:=by simp[dx,aix]
  rw[h2];refine .cK hit hH ?_ λj hj=>?_
  ·rw[ahk,bU (f:=λr:Rw=>ph ⟨r.k.1,r.k.2,r.pl⟩) (k:=3) (λ_=>rfl),pQ];omega
  ·rw[aiv];refine kj (fa:=rwC) (fb:=λr=>ph ⟨r.k.1,r.k.2,r.pl⟩) (k:=3) Js (λ_=>rfl) R (λr _ j hj=>?_) rest j hj
   match j,hj with
   |0,_=>exact .keep (.inl rfl) (.int _ _)
   |1,_=>exact .keep (.inl rfl) (.str _)
   |2,_=>exact .keep (.inr rfl) (by simp)
attribute [-simp] getD_eq_getElem?_getD in
theorem F5 (L:List Dc)(hL:L.length<=2000)(hs:∀d∈L,o5 d)(hv:∀d∈L,aR d=true)(hdk:(L.flatMap dn).length<=1000000)(UJ:(L.flatMap λd=>d.ns).length<=1000000)(H:List az)(T:au)
  (HO:bJ (H++[.cells [.sl 0 [] .full,.sl 0 [] .full,.sl 0 [] .full]]) T) :
  AW ⟨prog,135,12,H.length,T.length,[]⟩ (dY [1,1,1,1,1] (Tryz.f36.body.getD .skip)) (sJ prog Tryz.f36.results.toList (BQ H T (.df [jS ⟨L.map (·.id),cC L,dM L⟩,.int .i64 0])))
   ⟨[(0,.sl L.length (aM L) .none),(2,.ptr H.length 0)],H++[.cells [.sl 0 [] .full,.sl 0 [] .full,.sl 0 [] .full]],T⟩:=by
 conv=>arg 2;whnf
 have hn:∀d∈L,d.ns.length<=1000000:=λd hd=>aho (uP (λd:Dc=>d.ns) hd) UJ;have hw:∀d∈L,∀z∈d.zs,z.ws.length<=1000000:=λd hd z hz=>by
  have h1:=uP dn hd;have h2:=uP fh hz;have h3:(fh z).length=z.ws.length:=by simp[fh]
  unfold dn at h1 hdk;omega
 have hit:∀f,(fL L f).length<=1000000:=λf=>aho (JQ _ _ (λd:Dc=>by
  rw[ahz];exact ahU _ _) L) UJ
 have gV:(dL L).length<=1000000:=by
  rw[uO];have:=mB (L.flatMap dn) [];rw[aiB,aiv] at this;omega
 have key:∀(G:List az)(tv:AV),((dL L=[]/\tv=.sl 0 [] .none)\/∃it rest,tv=.cK it 0 (dL L).length/\(H++[az.cells [.sl 0 [] .full,.sl 0 [] .full,.sl 0 [] .full]]).length<=it/\(H++[az.cells [.sl 0 [] .full,.sl 0 [] .full,.sl 0 [] .full]]++G)[it]?=some (.cells (gS (dL L)++rest))/\0<(dL L).length)->
   AW ⟨prog,135,12,H.length,T.length,[]⟩ (dY [1,1,1,1,1,1] (Tryz.f36.body.getD .skip)) (sJ prog Tryz.f36.results.toList (BQ H T (.df [jS ⟨L.map (·.id),cC L,dM L⟩,.int .i64 0])))
    ⟨[(0,.sl L.length (aM L) .none),(2,.ptr H.length 0),(6,.ptr (H.length+(G.length+1)) 0)],(H++.cells [.sl 0 [] .full,.sl 0 [] .full,.sl 0 [] .full]::G)++[.cells [.sl 0 [] .full,tv,.sl 0 [] .full]],T⟩:=by
  intro G tv ND
  conv=>arg 2;whnf
  refine Ce 1 0 (H++.cells [.sl 0 [] .full,.sl 0 [] .full,.sl 0 [] .full]::G) [.sl 0 [] .full,tv,.sl 0 [] .full] 0 [] (by omega) rfl (by simp) ?_;refine Ce 2 2 (H++.cells [.sl 0 [] .full,.sl 0 [] .full,.sl 0 [] .full]::G) [.sl 0 [] (.own T.length),tv,.sl 0 [] .full] 0 [] (by omega) rfl (by simp) ?_;refine dA λNx=>?_;simp only[ahk,ahS,aiB,List.set_cons_zero,List.set_cons_succ,aiv] at Nx ⊢;have Kk:∃R,kp R=(dL L).map (λk=>(k,[]))/\RI H T H.length (H.length+(G.length+1)) [(T.length,(0,1)),(T.length+1,(0,2))] (.sl 0 [] (.own T.length)) tv (.sl 0 [] (.own (T.length+1))) (.cells [.sl 0 [] .full,.sl 0 [] .full,.sl 0 [] .full]) R
    (H++.cells [.sl 0 [] .full,.sl 0 [] .full,.sl 0 [] .full]::G++[.cells [.sl 0 [] (.own T.length),tv,.sl 0 [] (.own (T.length+1))]]) (T++[(0,1)]++[(0,2)]):=by
   have kP:∀X:List az,(H++az.cells [.sl 0 [] .full,.sl 0 [] .full,.sl 0 [] .full]::G++X)[H.length]?=some (.cells [.sl 0 [] .full,.sl 0 [] .full,.sl 0 [] .full]):=λX=>by simp
   have Gc:(H++az.cells [.sl 0 [] .full,.sl 0 [] .full,.sl 0 [] .full]::G++[az.cells [.sl 0 [] (.own T.length),tv,.sl 0 [] (.own (T.length+1))]])[H.length+(G.length+1)]?=some (.cells [.sl 0 [] (.own T.length),tv,.sl 0 [] (.own (T.length+1))]):=by
    rw[ahC (by simp)];simp
   refine⟨(dL L).map λk=>⟨k,[],.full⟩,by simp[kp,ain,Function.comp_def],?_⟩;have ua:jq ((dL L).map λk=>(⟨k,[],.full⟩:Rw))=[]:=by
    unfold jq;rw[aix];simp[Gx]
   have hkr:mH ((dL L).map λk=>(⟨k,[],.full⟩:Rw))=gS (dL L):=by unfold mH gS;rw[aix];rfl
   refine⟨?_,?_,λx hx=>?_,⟨_,by rw[ahA]⟩,⟨_,by rw[ahA]⟩⟩
   ·rcases ND with⟨h1,h2⟩|⟨it,rest,h1,h2,h3,h4⟩
    ·refine⟨[],.inl ⟨by rw[h1];rfl,h2,rfl⟩,⟨by simp,λp hp=>?_⟩⟩;simp at hp;rcases hp with rfl|rfl
     ·exact kP _
     ·exact Gc
    ·have hlt:=(ahh.1 h3).1;have Zk:it≠H.length:=λe=>by
      rw[e] at h3;rw[show (H++[az.cells [.sl 0 [] .full,.sl 0 [] .full,.sl 0 [] .full]]++G)[H.length]?=some (.cells [.sl 0 [] .full,.sl 0 [] .full,.sl 0 [] .full]) by simp] at h3
      injection h3 with h3
      injection h3 with h3
      have hh:=congrArg (λl=>l.getD 0 .top) h3;have h5:(gS (dL L)++rest).getD 0 .top=.int .i64 ((dL L).getD 0 k0).1:=by
       have:=xN (dL L) rest 0 h4;rw[Nat.zero_mul,List.drop_zero] at this;have h6:=congrArg (λl=>l.getD 0 .top) this;simpa[ahg] using h6
      rw[h5] at hh;simp at hh
     refine⟨[(it,.cells (mH ((dL L).map λk=>(⟨k,[],.full⟩:Rw))++rest))],.inr ⟨it,rest,by rw[ahz];exact h1,rfl,by simp at h2;omega⟩,⟨?_,λp hp=>?_⟩⟩
     ·simp at hlt ⊢;omega
     ·simp only[ahL,List.not_mem_nil,aj2] at hp;rcases hp with rfl|rfl|rfl
      ·exact kP _
      ·exact Gc
      ·rw[hkr];rw[ahp (by simp at hlt ⊢;omega)];rw[<-h3];congr 1;simp
   ·rw[ua];refine⟨by simp,λp hp=>?_⟩;simp at hp;rcases hp with rfl|rfl<;>simp
   ·obtain⟨k,_,rfl⟩:=ahl.1 hx;exact⟨.inl ⟨rfl,rfl⟩,λtk h=>by cases h⟩
  obtain⟨R,hkp,Kk⟩:=Kk;have hl0:(H++az.cells [.sl 0 [] .full,.sl 0 [] .full,.sl 0 [] .full]::G++[az.cells [.sl 0 [] (.own T.length),tv,.sl 0 [] (.own (T.length+1))]]).length=H.length+(G.length+1)+1:=by simp;omega
  have hu0:(T++[((0:Nat),(1:Nat))]++[(0,2)]).length=T.length+2:=by simp
  generalize hJ0:H++az.cells [.sl 0 [] .full,.sl 0 [] .full,.sl 0 [] .full]::G++[az.cells [.sl 0 [] (.own T.length),tv,.sl 0 [] (.own (T.length+1))]]=J0 at *;generalize hU0:T++[((0:Nat),(1:Nat))]++[(0,2)]=U0 at *;obtain⟨b6,Gc⟩:∃b,b=H.length+(G.length+1):=⟨_,rfl⟩
  rw[<-Gc] at Kk hl0;simp only[<-Gc];clear hJ0 hU0;refine af λK2 bc=>?_;refine Ir L (by omega) hs hw H T H.length T.length H.length b6 T.length (T.length+1) tv _ _ (dL L) R J0 U0 (by omega) (by omega) Kk hkp gV (by omega) (ahj _) Nx _ λe J1 U1 R1 q1 q2 q3 q4 he=>?_;refine bc _ (dA λXY=>?_);simp only at XY;refine aH ⟨[(0,.sl L.length (aM L) .none),(2,.ptr H.length 0),(6,.ptr b6 0)],J1,U1⟩ (ag [] [] (by simp) (by simp) (by show H.length<=J1.length;omega) (by show T.length<=U1.length;omega) XY he) ?_;clear bc he;refine af λK3 bD=>?_;refine Iy L (by omega) hs hn hit H T H.length T.length H.length b6 T.length (T.length+1) _ tv _ R1 J1 U1 (by omega) (by omega) q1 (by omega) (by omega) XY _ λe J2 U2 p1 p2 p3 he=>?_;refine bD _ (dA λHO6=>?_);simp only at HO6;refine aH ⟨[(2,.ptr H.length 0),(6,.ptr b6 0)],J2,U2⟩ (ag [] [] (by simp) (by simp) (by show H.length<=J2.length;omega) (by show T.length<=U2.length;omega) HO6 he) ?_;clear bD he;rw[<-O8];have VK:cC L=R1.map λr=>(⟨r.k.1,r.k.2,r.pl⟩:Tm):=by
   have h1:(R1.map λr=>(⟨r.k.1,r.k.2,r.pl⟩:Tm))=(kp R1).map λx=>⟨x.1.1,x.1.2,x.2⟩:=by simp[kp,ain,Function.comp_def]
   rw[h1,q2,ain];exact ahW λk _=>by simp only[Function.comp];rw[Jx hv]
  obtain⟨TB,VX,iW⟩:=p1.hJ;generalize gp L 3=cs at *;have Wo:(L.map (·.id)).length=L.length:=by simp
  have g2:=iW.get (i:=H.length) (b:=.cells [.sl 0 [] .full,.sl 0 [] .full,.sl 0 [] .full]) (by simp);have g6:=iW.get (i:=b6) (b:=.cells [.sl L.length (ints (L.map (·.id))) (.own T.length),tv,.sl cs.length (dJ cs) (.own (T.length+1))]) (by simp);have e6:=aW g6;have l6:=(ahh.1 g6).1;have l2:=(ahh.1 g2).1;have e2:=aW g2;have zy:=Has.set (A:=[]) (B:=(b6,.cells [.sl L.length (ints (L.map (·.id))) (.own T.length),tv,.sl cs.length (dJ cs) (.own (T.length+1))])::TB) (b:=.cells [.sl 0 [] .full,.sl 0 [] .full,.sl 0 [] .full]) (by simpa using iW) (.cells [.sl L.length (ints (L.map (·.id))) (.own T.length),tv,.sl cs.length (dJ cs) (.own (T.length+1))]);have sv:=p1.pJ.set (ahj _) (.cells [.sl L.length (ints (L.map (·.id))) (.own T.length),tv,.sl cs.length (dJ cs) (.own (T.length+1))]);generalize kZ:L.map (·.id)=ids at *;refine ae λK hK=>?_;simp(disch:=omega)[e6,l6,e2,l2];apply hK;apply ay;simp(disch:=omega) ;refine⟨sv,p1.pU,?_⟩;have hsg:jS ⟨ids,cC L,cs⟩=.agg [.sl L.length (ints ids) .none,.sl R1.length (dx (R1.map λr=>(⟨r.k.1,r.k.2,r.pl⟩:Tm))) .none,.sl cs.length (dJ cs) .none]:=by
   rw[VK];show AV.agg [.sl ids.length (ints ids) .none,.sl (R1.map λr=>(⟨r.k.1,r.k.2,r.pl⟩:Tm)).length _ .none,_]=_;rw[Wo,ahz]
  rw[hsg];have hrw:=Mz (t0:=T.length) VX λp hp=>zy.2 p (by simp[hp]);refine gj.pair (.agg rfl λj hj=>?_) (.keep (.inl rfl) (.int _ _))
  match j,hj with
  |0,_=>exact .keep (.inr rfl) (by simp)
  |1,_=>exact hrw
  |2,_=>exact .keep (.inr rfl) (by simp)
 refine ae λK hK=>?_;simp(disch:=omega) ;refine⟨_,Hq L (by omega) hdk (λd hd=>by have:=tn (bZ (hv d hd)).2.1;omega) _ _ .none,?_⟩;rintro r H' T' ⟨⟨G,rfl⟩,hT2,RV⟩;subst T';rcases RV with⟨h1,rfl⟩|⟨it,rest,rfl,h2,h3,h4⟩
 ·simp(disch:=omega) ;apply hK;refine dA λNx=>?_;refine aH ⟨[(0,.sl L.length (aM L) .none),(2,.ptr H.length 0),(6,.ptr (H.length+(G.length+1)) 0)],(H++az.cells [.sl 0 [] .full,.sl 0 [] .full,.sl 0 [] .full]::G)++[az.cells [.sl 0 [] .full,.sl 0 [] .none,.sl 0 [] .full]],T⟩ (ag [] [] (by simp) (by simp) (by simp) (ahj _) (by simpa using Nx) (by simp)) ?_;exact key G _ (.inl ⟨h1,rfl⟩)
 ·simp(disch:=omega) ;apply hK;refine dA λNx=>?_;refine aH ⟨[(0,.sl L.length (aM L) .none),(2,.ptr H.length 0),(6,.ptr (H.length+(G.length+1)) 0)],(H++az.cells [.sl 0 [] .full,.sl 0 [] .full,.sl 0 [] .full]::G)++[az.cells [.sl 0 [] .full,.cK it 0 (dL L).length,.sl 0 [] .full]],T⟩ (ag [] [] (by simp) (by simp) (by simp) (ahj _) (by simpa using Nx) (by simp)) ?_;exact key G _ (.inr ⟨it,rest,rfl,h2,h3,h4⟩)
attribute [-simp] getD_eq_getElem?_getD in
theorem M0 (l:List Dc)(hl:l.length<=1000000)(hs:∀d∈l,o5 d)(hdk:(∀d∈l,aR d=true)->(l.flatMap dn).length<=1000000)(UJ:(l.flatMap λd=>d.ns).length<=1000000)(H:List az)(T:au)(tg:Tag) :
  ar prog 36 [.sl l.length (aM l) tg] H T (Is (.df [jS (cZ l).1,.int .i64 (cZ l).2]) H T):=by
 refine ar.cg ?_;refine ar.pn ?_;show ar prog _ _ H T (BQ H T _);have jR:l.length<=9223372036854775807:=by omega
 refine ah 12 [] Tryz.ntmps36 Tryz.func36 rfl (λ_ _=>Tryz.call36 _ _) (by simp) (λHO=>?_);have ff:bJ (H++[.cells [.sl 0 [] .full,.sl 0 [] .full,.sl 0 [] .full]]) T:=HO.snoc (by simp);apply ae;intro K Z;simp(disch:=omega);apply Z;refine af λK1 aO=>?_
 by_cases Gt:2000<l.length
 ·have b0:decide ((2000:Int)<l.length)=true:=ahm (by omega);refine ae λK hK=>?_;simp(disch:=omega)[b0,Gt];apply hK;apply aG rfl;apply ae;intro K Z;simp(disch:=omega);apply Z;apply ay;simp(disch:=omega) ;have hF:cZ l=(bR,3):=by unfold cZ;rw[ahs Gt]
  rw[hF];exact⟨⟨_,rfl⟩,⟨[],by simp⟩,kn 3⟩
 have b0:decide ((2000:Int)<l.length)=false:=ahn (by omega);have n0:¬(2000:Int)<l.length:=by omega
 refine ae λK hK=>?_;simp(disch:=omega)[b0,n0];apply hK;apply aD rfl;apply aq;apply aO;clear aO;refine af λK1 aO=>?_;apply ae;intro K Z;simp(disch:=omega);apply Z;apply aj;refine aI (X:=Nat) (λi=>⟨[(0,.sl l.length (aM l) .none),(2,.ptr H.length 0),(4,.int .i64 (i:Nat))],H++[.cells [.sl 0 [] .full,.sl 0 [] .full,.sl 0 [] .full]],T⟩)
  (λi=>i<=l.length/\∀j,j<i->aR (l.getD j d0)=true) (λi=>l.length-i) 0 ?_ ?_ ?_
 ·exact⟨ahu _,λj hj=>absurd hj (ahO _)⟩
 ·refine ag [] [] (by simp) (by simp) (by simp) (by simp) ff ?_;simp
 ·rintro i ⟨g1,g2⟩;refine af λK2 bc=>?_;apply ae;intro K Z;simp(disch:=omega);apply Z;refine aT rfl (λhk=>?_) (λhk=>?_)
  ·simp  at hk;have hcut:=fJ l i hk;have c:=λH=>Fs (l.getD i d0) (hs _ (aS l i d0 hk)) H T;have fS:=aS l i d0 hk;have sE:aR (l.getD i d0)=true->∀j,j<i+1->aR (l.getD j d0)=true:=λh j hj=>by
    rcases ahr j i with h1|h1
    ·exact g2 j h1
    ·have:j=i:=by omega
     subst this;exact h
   have afo:aR (l.getD i d0)=false->cZ l=(bR,1):=λh=>by
    unfold cZ;rw[ahq Gt,ahs];rw[aiY];exact⟨_,fS,by rw[h];rfl⟩
   generalize l.getD i d0=d at *;apply aq;apply bc;clear bc;refine af λK3 bD=>?_;apply aj
   cases hv:aR d with
   |false=>
    rw[hv] at c;refine ae λK hK=>?_;simp(disch:=omega)[hcut,ba,hk];refine ak (c _) ?_;simp(disch:=omega) ;apply hK;apply aG rfl;apply ae;intro K Z;simp(disch:=omega);apply Z;apply ay;simp(disch:=omega) ;rw[afo hv];exact⟨⟨_,rfl⟩,⟨[],by simp⟩,kn 1⟩
   |true=>
    rw[hv] at c;refine ae λK hK=>?_;simp(disch:=omega)[hcut,ba,hk];refine ak (c _) ?_;simp(disch:=omega) ;apply hK;apply aD rfl;apply aq;apply bD;clear bD;refine aB λK hK=>?_;simp(disch:=omega) ;apply hK;refine⟨i+1,⟨by show i+1<=_;omega,sE hv⟩,by show l.length-(i+1)<l.length-i;omega,?_⟩;refine ag [] [] (by simp) (by simp) (by simp) (by simp) ff ?_;simp
  ·simp  at hk;have kX:∀d∈l,aR d=true:=λd hd=>by
    obtain⟨j,hj,e⟩:=bH d0 hd;rw[<-e];exact g2 j (by omega)
   have CQ:l.any (λd=>!aR d)=false:=by
    rw[ai9];intro d hd;rw[kX d hd];simp
   apply aF;simp(disch:=omega) ;apply aO;clear aO;have cs:=λH=>Fu l (by omega) H T .none;have Dx:=(gh l).perm;have yU:=(gh l).ord;have XQ:(ep l).length=l.length:=dW l;have Yt:∀d∈ep l,d∈l:=λd hd=>Dx.mem_iff.1 hd;have hFl:(((ep l).map (·.id)).Nodup->cZ l=(⟨(ep l).map (·.id),cC (ep l),dM (ep l)⟩,0))/\(¬((ep l).map (·.id)).Nodup->cZ l=(bR,10)):=by
    refine⟨λh=>?_,λh=>?_⟩
    ·unfold cZ;rw[ahq Gt,ahq (by rw[CQ];simp),ahq (λhh=>hh ((Dx.map _).nodup_iff.1 h))]
    ·unfold cZ;rw[ahq Gt,ahq (by rw[CQ];simp),ahs (λhh=>h ((Dx.map _).nodup_iff.2 hh))]
   refine ae λK hK=>?_;simp(disch:=omega) ;refine ak (cs _) ?_;simp(disch:=omega) ;apply hK;generalize ep l=L at *;refine af λK1 aO=>?_;apply ae;intro K Z;simp(disch:=omega);apply Z;apply aj;refine aI (X:=Nat) (λi=>⟨[(0,.sl L.length (aM L) .none),(2,.ptr H.length 0),(5,.int .i64 (i:Nat))],H++[.cells [.sl 0 [] .full,.sl 0 [] .full,.sl 0 [] .full]],T⟩)
    (λi=>1<=i/\i<=L.length+1/\∀j,0<j->j<i->j<L.length->(L.getD (j-1) d0).id≠(L.getD j d0).id) (λi=>L.length+1-i) 1 ?_ ?_ ?_
   ·exact⟨ahj _,by omega,λj h1 h2=>by omega⟩
   ·refine ag [] [] (by simp) (by simp) (by simp) (by simp) ff ?_;simp
   ·rintro m ⟨m1,m2,m3⟩;refine af λK2 bc=>?_;apply ae;intro K Z;simp(disch:=omega);apply Z;refine aT rfl (λhm=>?_) (λhm=>?_)
    ·simp  at hm;have jv:=(iU L m hm).1;have ZB:=(iU L (m-1) (by omega)).1;have e6:((m:Int)-1)=((m-1:Nat):Int):=by omega
     have Ro:m-1<L.length:=by omega
     have hdup:=λh=>J9 (L:=L) (i:=m) (by omega) hm h;have sE:(L.getD (m-1) d0).id≠(L.getD m d0).id->∀j,0<j->j<m+1->j<L.length->(L.getD (j-1) d0).id≠(L.getD j d0).id:=λh j h0 hj qN=>by
      rcases ahr j m with h1|h1
      ·exact m3 j h0 h1 qN
      ·have:j=m:=by omega
       subst this;exact h
     generalize (L.getD m d0).id=x at *;generalize (L.getD (m-1) d0).id=y at *;apply aq;apply bc;clear bc;refine af λK3 bD=>?_;apply aj
     by_cases Gl:y=x
     ·have b1:(y==x)=true:=by simpa using Gl
      refine aJ [] [] [] aw (by kernel_rfl) (by kernel_rfl) λK hK=>?_;simp(disch:=omega)[e6,jv,ZB,ba,hm,Ro,b1,Gl];apply hK;apply aG rfl;apply ae;intro K Z;simp(disch:=omega);apply Z;apply ay;simp(disch:=omega) ;rw[hFl.2 (hdup Gl)];exact⟨⟨_,rfl⟩,⟨[],by simp⟩,kn 10⟩
     ·have b1:(y==x)=false:=by simpa using Gl
      refine aJ [] [] [] aw (by kernel_rfl) (by kernel_rfl) λK hK=>?_;simp(disch:=omega)[e6,jv,ZB,ba,hm,Ro,b1,Gl];apply hK;apply aD rfl;apply aq;apply bD;clear bD;refine aB λK hK=>?_;simp(disch:=omega) ;apply hK;refine⟨m+1,⟨by show 1<=m+1;omega,by show m+1<=_;omega,sE Gl⟩,by show L.length+1-(m+1)<L.length+1-m;omega,?_⟩;refine ag [] [] (by simp) (by simp) (by simp) (by simp) ff ?_;simp
    ·simp  at hm;have hlt:=A5 yU λj h0 hj=>m3 j h0 (by omega) hj;have mU:=mn hlt;apply aF;simp(disch:=omega) ;apply aO;clear aO;refine aH ⟨[(0,.sl L.length (aM L) .none),(2,.ptr H.length 0)],H++[.cells [.sl 0 [] .full,.sl 0 [] .full,.sl 0 [] .full]],T⟩ (ag [] [] (by simp) (by simp) (by simp) (by simp) ff (by simp)) ?_;rw[hFl.1 mU];exact F5 L (by omega) (λd hd=>hs d (Yt d hd)) (λd hd=>kX d (Yt d hd)) (by rw[AJ dn Dx];exact hdk kX) (by rw[AJ (λd:Dc=>d.ns) Dx];exact UJ) H T ff
end Go.Proofs.YtoejlmpbebjemaaGreat
