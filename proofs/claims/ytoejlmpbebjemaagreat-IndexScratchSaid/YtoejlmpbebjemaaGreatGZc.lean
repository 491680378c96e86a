/- The reference of layers 37 and 39, the parts that Build calls: words and numbers of a field, documents in order. The reference's test of documents (layer 37). The reference's terms (layer 39): the words of the fields of documents, in order, each once; the list is a box that is written to later. The reference's positions and columns (layer 39). The reference's Build (layer 39): the lists of the terms grow in place. The reference's Build (layer 39): the loops. The reference's Build (layer 39): the whole.
  Conditions: as the theorems say. -/
import Derived.Test.YtoejlmpbebjemaaGreatGBC
import Derived.Test.YtoejlmpbebjemaaGreatGRA
import Derived.Test.YtoejlmpbebjemaaGreatAmC
set_option linter.all false
set_option maxRecDepth 100000
set_option maxHeartbeats 8000000

open List (getD_eq_getElem?_getD append_nil take_append_drop)
namespace eN
open ie Go.Am
def pB:List Zn->Int->List Wd
 |[],_=>[]
 |z::r,f=>if z.f=f then z.ws else pB r f
def CM (ns:List Nm)(f:Int):List Int:=(ns.filter λx=>x.1==f).map (·.2)
theorem OA (f:Int):∀(zs:List Zn)(i:Nat),i<zs.length->(∀j,j<i->(zs.getD j z0).f≠f)->(zs.getD i z0).f=f->pB zs f=(zs.getD i z0).ws
 |[],i,h,_,_=>absurd h (ahT _)
 |z::r,0,_,_,h=>by
  have h:z.f=f:=h;unfold pB;rw[ahF h];rfl
 |z::r,i+1,hi,h,h2=>by
  have h0:z.f≠f:=h 0 zO;unfold pB;rw[ahC h0];exact OA f r i (zU hi) (λj hj=>h (j+1) zO) h2
theorem DU (f:Int):∀(zs:List Zn),(∀j,j<zs.length->(zs.getD j z0).f≠f)->pB zs f=[]
 |[],_=>rfl
 |z::r,h=>by
  have h0:z.f≠f:=h 0 zS;unfold pB;rw[ahC h0];exact DU f r λj hj=>h (j+1) (zU hj)
def P5 (ns:List Nm)(f:Int)(i:Nat)(h:i<ns.length):CM (ns.take (i+1)) f=CM (ns.take i) f++(if (ns.getD i n0).1=f then [(ns.getD i n0).2] else []):=by
 unfold CM;rw[aX ns i n0 h,aij,ahJ]
 congr 1
 rw[List.filter_cons]
 by_cases h1:(ns.getD i n0).1=f
 ·rw[ahF h1,ahF (zU h1)];rfl
 ·rw[ahC h1,ahC (zU h1)];rfl
theorem Jw (x:Dc):∀(d:List Dc)(n:Nat),n<=d.length->(∀j,j<n->(d.getD j d0).id<=x.id)->(n<d.length->¬(d.getD n d0).id<=x.id)->pz x d=d.take n++x::d.drop n
 |[],n,h,_,_=>by
  have:n=0:=by simpa using h
  subst this;rfl
 |y::r,0,_,_,h=>by
  have:=h zS;have h1:¬y.id<=x.id:=this;rw[pz,ahC h1];rfl
 |y::r,n+1,h0,h1,h2=>by
  have hy:y.id<=x.id:=h1 0 zO;rw[pz,ahF hy,Jw x r n (zU h0) (λj hj=>h1 (j+1) zO) (λhn=>h2 (zU hn))];rfl
def HD (l:List Dc)(x:Dc):dQ (l++[x])=pz x (dQ l):=by simp[dQ]
def dU (l:List Dc):(dQ l).length=l.length:=(eR l).perm.length_eq
theorem Ju (x:Nm):∀(d:List Nm)(n:Nat),n<=d.length->(∀j,j<n->di (d.getD j n0) x=true)->(n<d.length->di (d.getD n n0) x=false)->nW x d=d.take n++x::d.drop n
 |[],n,h,_,_=>by
  have:n=0:=by simpa using h
  subst this;rfl
 |y::r,0,_,_,h=>by
  have h1:di y x=false:=h zS;rw[nW,ahC (by simp[h1])];rfl
 |y::r,n+1,h0,h1,h2=>by
  have hy:di y x=true:=h1 0 zO;rw[nW,ahF hy,Ju x r n (zU h0) (λj hj=>h1 (j+1) zO) (λhn=>h2 (zU hn))];rfl
def FV (l:List Nm)(x:Nm):dD (l++[x])=nW x (dD l):=by simp[dD]
def eT (l:List Nm):(dD l).Perm l:=by
 rw[AZ];exact ajz _ _
end eN
namespace Go.Proofs.YtoejlmpbebjemaaGreat
open Go Go.Am ie eN
attribute [-simp] getD_eq_getElem?_getD in
def Ho (d:Dc)(hs:pt d)(Nb:∀z∈d.zs,z.ws.length<=1000000)(f:Int)(H:List aA)(T:au):aq Tryz.prog 151 [.agg (dY d),.int .i64 f] H T (Is (.sl (pB d.zs f).length (dX (pB d.zs f)) .none) H T):=by
 refine aq.bK ?_ zS;have jU:maxLen<=9223372036854775807:=zD;obtain⟨id,zs,ns⟩:=d;obtain⟨hz,hw,hn⟩:=hs;simp only at hz hw hn Nb ⊢;have JU:=ahA hz jU;refine ah 6 [] Tryz.ntmps151 Tryz.func151 rfl (λ_ _=>Tryz.call151 _ _) zS (λHO=>?_);refine af ?_;have eu:bM (H++[.cells (dY ⟨id,zs,ns⟩)]) T:=HO.snoc zS;refine ae λK1 aN=>?_;refine af ?_;apply ag;refine aG (X:=Nat) (λi=>⟨[(1,.int .i64 f),(2,.ptr H.length 0),(5,.int .i64 (i:Nat))],H++[.cells (dY ⟨id,zs,ns⟩)],T⟩)
  (λi=>i<=zs.length/\∀j,j<i->(zs.getD j z0).f≠f) (λi=>zs.length-i) 0 ?_ ?_ ?_
 ·exact⟨ahE _,λj hj=>absurd hj (ahT _)⟩
 ·exact wk eu
 ·rintro i ⟨g1,g2⟩;refine ae λK2 ba=>?_;refine af ?_;refine aV rfl (λhk=>?_) (λhk=>?_)
  ·simp  at hk;obtain⟨a1,a2⟩:=wF zs i hk;have qC:=Nb _ (aQ zs i z0 hk);have gu:=OA f zs i hk g2;have kJ:(zs.getD i z0).f≠f->∀j,j<i+1->(zs.getD j z0).f≠f:=λh j hj=>by
    rcases ahD j i with h1|h1
    ·exact g2 j h1
    ·have:j=i:=zO;subst this;exact h
   generalize zs.getD i z0=z at *;obtain⟨zf,ws⟩:=z;simp only at a1 a2 qC gu kJ;apply aj;refine zQ ?_;apply ba;clear ba;refine ae λK3 bH=>?_;apply ag
   by_cases h1:zf=f
   ·have b1:(zf==f)=true:=by simpa using h1
    have hp:=gu h1;apply ar;simp(disch:=omega)[a1,a2,fW,hk,b1,h1];apply aC rfl;have Zj:(0+ws.length)*24<=140737488355328:=zO;have ag9:0+ws.length<=9223372036854775807:=zO;apply ar;simp(disch:=omega)[a1,a2,fW,hk,gG,dx];refine aI ?_;rw[hp];exact⟨rfl,rfl⟩
   ·have b1:(zf==f)=false:=by simpa using h1
    apply ar;simp(disch:=omega)[a1,a2,fW,hk,b1,h1];apply aB rfl;apply aj;refine zQ ?_;apply bH;clear bH;refine aJ ?_;refine⟨i+1,⟨by show i+1<=_;omega,kJ h1⟩,by show zs.length-(i+1)<zs.length-i;omega,?_⟩;exact wk eu
  ·simp  at hk;have hn:=DU f zs λj hj=>g2 j zO;apply aD;refine zQ ?_;apply aN;clear aN;refine af ?_;refine aI ?_;rw[hn];exact⟨rfl,rfl⟩
attribute [-simp] getD_eq_getElem?_getD in
def LS (d:Dc)(hs:pt d)(hn6:d.ns.length<=1000000)(f:Int)(H:List aA)(T:au):aq Tryz.prog 152 [.agg (dY d),.int .i64 f] H T (Is (.sl (CM d.ns f).length (ints (CM d.ns f)) .none) H T):=by
 refine aq.bK ?_ zS;obtain⟨id,zs,ns⟩:=d;simp only at hn6 ⊢;refine ah 7 [] Tryz.ntmps152 Tryz.func152 rfl (λ_ _=>Tryz.call152 _ _) zS (λHO=>?_);refine af ?_;have eu:bM (H++[.cells (dY ⟨id,zs,ns⟩)]) T:=HO.snoc zS;refine af ?_;refine ae λK1 aN=>?_;refine af ?_;apply ag;refine ki 5 0 1 [] zO zS ?_;refine aG (X:=Nat) (λi=>⟨[(1,.int .i64 f),(2,.ptr H.length 0),(5,.sl (CM (ns.take i) f).length (ints (CM (ns.take i) f)) (.own T.length)),(6,.int .i64 (i:Nat))],H++[.cells (dY ⟨id,zs,ns⟩)],T++[((CM (ns.take i) f).length,1)]⟩)
  (λi=>i<=ns.length) (λi=>ns.length-i) 0 ?_ ?_ ?_
 ·exact ahE _
 ·refine ak [] [] ?_ ?_ ?_ ?_ (eu.fS zS) ?_
  all_goals simp[CM]
 ·intro i g1;refine ae λK2 ba=>?_;refine af ?_;refine aV rfl (λhk=>?_) (λhk=>?_)
  ·simp  at hk;obtain⟨a1,a2⟩:=Tu ns i hk;have gV:=P5 ns f i hk;have CT:(CM (ns.take i) f).length<=1000000:=by
    unfold CM;rw[ahL];exact ahA (ahX _ _) (by rw[ahW];omega)
   generalize CM (ns.take i) f=out at *;generalize ns.getD i n0=x at *;obtain⟨xf,xn⟩:=x;simp only at a1 a2 gV;apply aj;refine zQ ?_;apply ba;clear ba;refine ae λK3 bH=>?_;apply ag
   by_cases h1:xf=f
   ·have b1:(xf==f)=true:=by simpa using h1
    rw[ahF h1] at gV;apply ar;simp(disch:=omega)[a1,a2,cE,hk,b1,h1];apply aC rfl;refine br λK hK=>?_;simp(disch:=omega)[a1,a2,cE,hk,cJ];apply hK;apply bH;clear bH;refine aJ ?_;refine⟨i+1,by show i+1<=_;omega,by show ns.length-(i+1)<ns.length-i;omega,?_⟩;refine ak [] [] ?_ ?_ ?_ ?_ (eu.fS zS) ?_
    all_goals simp[gV]
   ·have b1:(xf==f)=false:=by simpa using h1
    rw[ahC h1,ahS] at gV;apply ar;simp(disch:=omega)[a1,a2,cE,hk,b1,h1];apply aB rfl;apply aj;refine zQ ?_;apply bH;clear bH;refine aJ ?_;refine⟨i+1,by show i+1<=_;omega,by show ns.length-(i+1)<ns.length-i;omega,?_⟩;refine ak [] [] ?_ ?_ ?_ ?_ (eu.fS zS) ?_
    all_goals simp[gV]
  ·simp  at hk;have yV:i=ns.length:=zO;subst yV;rw[ahO];apply aD;refine zQ ?_;apply aN;clear aN;refine af ?_;exact bu zC
attribute [-simp] getD_eq_getElem?_getD in
def vI (l:List Dc)(hl:l.length<=1000000)(H:List aA)(T:au)(tg:Tag):aq Tryz.prog 84 [.sl l.length (aM l) tg] H T (Is (.sl (dQ l).length (aM (dQ l)) .none) H T):=by
 refine aq.bR ?_;refine aq.bK ?_ zS;refine ah 6 [] Tryz.ntmps84 Tryz.func84 rfl (λ_ _=>Tryz.call84 _ _) zS (λHO=>?_);refine af ?_;refine af ?_;refine ae λK1 aN=>?_;refine af ?_;apply ag;refine aG (X:=Nat) (λk=>⟨[(0,.sl l.length (aM l) .none),(3,.sl (dQ (l.take k)).length (aM (dQ (l.take k))) .none),(4,.int .i64 (k:Nat))],H,T⟩)
  (λk=>k<=l.length) (λk=>l.length-k) 0 ?_ ?_ ?_
 ·exact ahE _
 ·refine ak [] [] ?_ ?_ ?_ ?_ HO ?_
  all_goals simp[dQ,oc]
 ·intro k g1;refine ae λK2 ba=>?_;refine af ?_;refine aV rfl (λhk=>?_) (λhk=>?_)
  ·simp  at hk;have gA:=(kF l k hk).1;have bB:=iw l k hk;have mY:dQ (l.take (k+1))=pz (l.getD k d0) (dQ (l.take k)):=by rw[aX l k d0 hk];exact HD _ _
   have kW:(dQ (l.take k)).length<=1000000:=by rw[dU,ahW];omega
   generalize dQ (l.take k)=d at *;generalize l.getD k d0=x at *;apply aj;refine zQ ?_;apply ba;clear ba;refine ae λK3 bH=>?_;apply ag;refine af ?_;refine ae λK5 iT=>?_;apply ag;refine aG (X:=Nat) (λn=>⟨[(0,.sl l.length (aM l) .none),(3,.sl d.length (aM d) .none),(4,.int .i64 (k:Nat)),(5,.int .i64 (n:Nat))],H,T⟩)
    (λn=>n<=d.length/\∀j,j<n->(d.getD j d0).id<=x.id) (λn=>d.length-n) 0 ?_ ?_ ?_
   ·exact⟨ahE _,λj hj=>absurd hj (ahT _)⟩
   ·exact wk HO
   ·rintro n ⟨Bq,CR⟩;have go:(n<d.length->¬(d.getD n d0).id<=x.id)->∀e,bA H.length T.length e [(0,.sl l.length (aM l) .none),(3,.sl d.length (aM d) .none),(4,.int .i64 (k:Nat)),(5,.int .i64 (n:Nat))]->K5 ⟨e,H,T⟩:=by
     intro zN e he;have Dm:=Jw x d n Bq CR zN;refine iT _ (aF ⟨[(0,.sl l.length (aM l) .none),(3,.sl d.length (aM d) .none),(4,.int .i64 (k:Nat)),(5,.int .i64 (n:Nat))],H,T⟩ (wk HO (zU he)) ?_);have ht:=T5 d n;have qE:=MJ d n;have bp:(aM (d.take n)).length=n*3:=by rw[bI,ahW];omega
     have YA:(aM (d.drop n)).length=(d.length-n)*3:=by rw[bI,aii]
     have gV:(aM (d.drop n)).take ((d.length-n)*3)=aM (d.drop n):=by rw[<-YA,ahO]
     have zb:aM (d.take n)++.int .i64 x.id::.sl x.zs.length (fy x.zs) .none::.sl x.ns.length (bG x.ns) .none::aM (d.drop n)=aM (pz x d):=by rw[Dm];simp[aM]
     have hlen:n+1+(d.length-n)=(pz x d).length:=by rw[Dm];simp;omega
     refine du [4,10,14] [0,0,0,0,0,0,0,0,0,0,1,0,0,0,2,3] [[],[],[]] aO zK zK λK hK=>?_;simp(disch:=omega)[dx,bI,ht,qE,bp,YA,gV,gA,bB,hk];rw[zb,hlen];apply hK;apply bH;clear bH;refine aJ ?_;refine⟨k+1,by show k+1<=_;omega,by show l.length-(k+1)<l.length-k;omega,?_⟩;simp only[mY];refine ak [] [((pz x d).length*3,3)] ?_ ?_ ?_ ?_ HO ?_
     all_goals simp
    refine ae λK6 jZ=>?_
    by_cases zN:n<d.length
    ·have ZA:=(kF d n zN).1;have fe:(d.getD n d0).id<=x.id->∀j,j<n+1->(d.getD j d0).id<=x.id:=λh j hj=>by
      rcases ahD j n with h3|h3
      ·exact CR j h3
      ·have:j=n:=zO;subst this;exact h
     generalize d.getD n d0=y at *;have b4:decide ((n:Int)<d.length)=true:=ahx zO
     by_cases ha:y.id<=x.id
     ·have b5:decide (y.id<=x.id)=true:=ahx ha;refine bC [] [] [] ?_;simp(disch:=omega)[b4,zN,ZA,bI,gA,hk,b5,ha];apply aC rfl;apply aj;refine zQ ?_;apply jZ;clear jZ;apply ag;refine aJ ?_;refine⟨n+1,⟨by show n+1<=_;omega,fe ha⟩,by show d.length-(n+1)<d.length-n;omega,?_⟩;exact wk HO
     ·have b5:decide (y.id<=x.id)=false:=ahy ha;refine bC [] [] [] ?_;simp(disch:=omega)[b4,zN,ZA,bI,gA,hk,b5,ha];apply aB rfl;apply aD;refine zQ ?_;refine go (λ_=>ha) _ ?_;simp
    ·have b4:decide ((n:Int)<d.length)=false:=ahy zO;refine bC [] [] [] ?_;simp(disch:=omega)[b4,zN];apply aB rfl;apply aD;refine zQ ?_;refine go (λh=>absurd h zN) _ ?_;simp
  ·simp  at hk;have e:k=l.length:=zO;subst e;rw[ahO];apply aD;refine zQ ?_;apply aN;clear aN;refine af ?_;exact bu zC
attribute [-simp] getD_eq_getElem?_getD in
def HV (x y:Nm)(H:List aA)(T:au):aq Tryz.prog 150 [.agg [.int .i64 x.1,.int .i64 x.2],.agg [.int .i64 y.1,.int .i64 y.2]] H T (Is (.bool (di x y)) H T):=by
 refine aq.bK ?_ zS;generalize hq:di x y=q;unfold di at hq;obtain⟨x1,x2⟩:=x;obtain⟨y1,y2⟩:=y;simp only at hq;refine ah 5 [] Tryz.ntmps150 Tryz.func150 rfl (λ_ _=>Tryz.call150 _ _) zS (λHO=>?_);refine af ?_
 by_cases h1:x1<y1
 ·have b1:decide (x1<y1)=true:=ahx h1;rw[b1] at hq;apply ar;simp(disch:=omega)[b1,h1];refine aI ?_;rw[<-hq];rfl
 ·have b1:decide (x1<y1)=false:=ahy h1
  by_cases h2:x1=y1
  ·have b2:(x1==y1)=true:=by simpa using h2
   rw[b1,ahx h2,aio,aiY] at hq;apply ar;simp(disch:=omega)[b1,h1,b2,h2];refine aI ?_;exact hq
  ·have b2:(x1==y1)=false:=by simpa using h2
   rw[b1,ahy h2,ajQ,aiY] at hq;apply ar;simp(disch:=omega)[b1,h1,b2,h2];refine aI ?_;exact hq.symm
end Go.Proofs.YtoejlmpbebjemaaGreat
namespace eN
theorem EF (ws:List Wd):∀k,(∀j,j<k->px ws j=true)->-1<=iW ws k
 |0,_=>by simp[iW]
 |k+1,h=>by
  have h1:=EF ws k λj hj=>h j zO;have h2:=h k zO;unfold px at h2;simp only[ahG,ahH] at h2;have h3:=h2.2.1;have h4:iW ws (k+1)=(ws.getD k w0).2:=by simp[iW]
  rw[h4];omega
theorem EE (zs:List Zn):∀k,(∀j,j<k->nm zs j=true)->0<=iO zs k
 |0,_=>by simp[iO]
 |k+1,h=>by
  have h1:=EE zs k λj hj=>h j zO;have h2:=h k zO;unfold nm at h2;simp only[ahG,ahH] at h2;have h3:=h2.1.1;have h4:iO zs (k+1)=(zs.getD k z0).f:=by simp[iO]
  rw[h4];omega
end eN
namespace Go.Proofs.YtoejlmpbebjemaaGreat
open Go.Proofs.Tryz(prog)
open Go Go.Am ie eN
attribute [-simp] getD_eq_getElem?_getD in
theorem Hr (id:Int)(zs:List Zn)(ns:List Nm)(f:Int)(ws:List Wd)(i:Nat)(qC:ws.length<=maxLen)(CO:∀w∈ws,w.1.length<=maxLen)(H:List aA)(T:au)(eG:bM (H++[.cells (dY ⟨id,zs,ns⟩),.cells (o8 ⟨f,ws⟩)]) T)
  (Q:Exit->St->Prop) (bad:∀k,k<ws.length->px ws k=false->∀(e:Env)(rH:List aA)(rT:au),bO e 2=.bool false->Q .ret ⟨e,H++rH,T++rT⟩)
  (go:(∀k,k<ws.length->px ws k=true)->∀e:Env,bA (H.length+2) T.length e [(1,.ptr H.length 0),(3,.int .i64 (i:Nat))]->Q .normal ⟨e,H++[.cells (dY ⟨id,zs,ns⟩),.cells (o8 ⟨f,ws⟩)],T⟩) :
  AW ⟨prog,146,9,H.length,T.length,[]⟩ (dZ [1,0,1,0,0,1,0,0,1,1] (Tryz.f83.body.getD .skip)) Q ⟨[(1,.ptr H.length 0),(3,.int .i64 (i:Nat)),(4,.ptr (H.length+1) 0)],H++[.cells (dY ⟨id,zs,ns⟩),.cells (o8 ⟨f,ws⟩)],T⟩:=by
 conv=>arg 2;whnf
 have jU:maxLen<=9223372036854775807:=zD;have Zj:=ahA qC jU;refine af ?_;apply ag;refine aG (X:=Nat) (λk=>⟨[(1,.ptr H.length 0),(3,.int .i64 (i:Nat)),(4,.ptr (H.length+1) 0),(5,.int .i64 (k:Nat))],H++[.cells (dY ⟨id,zs,ns⟩),.cells (o8 ⟨f,ws⟩)],T⟩)
  (λk=>k<=ws.length/\∀j,j<k->px ws j=true) (λk=>ws.length-k) 0 ?_ ?_ ?_
 ·exact⟨ahE _,λj hj=>absurd hj (ahT _)⟩
 ·exact wk eG
 ·rintro m ⟨m1,m2⟩;refine ae λK5 iT=>?_;refine af ?_;refine aV rfl (λeL=>?_) (λeL=>?_)
  ·simp  at eL;have uo:=tE ws m eL;have oG:=EF ws m m2;have fg:px ws m=(okW (ws.getD m w0).1&&(decide (iW ws m<(ws.getD m w0).2)&&decide ((ws.getD m w0).2<=1000000))):=rfl;have dC:0<m->iW ws m=(ws.getD (m-1) w0).2:=λh=>by unfold iW;rw[ahC zO]
   have Hc:m=0->iW ws m=-1:=λh=>by unfold iW;rw[ahF h]
   have zW:=λh=>(BZ ws (m-1) h).2;have yT:=CO _ (aQ ws m w0 eL);generalize iW ws m=la at *;generalize (ws.getD (m-1) w0).2=py at *;generalize Uv:ws.getD m w0=z at *;obtain⟨x1,x2⟩:=z;simp only at uo zW fg yT;apply aj;refine zQ ?_;apply iT;clear iT;refine ae λK6 jZ=>?_;apply ag;apply ar;simp(disch:=omega)[uo,gG];have z8:bM (H++[.cells (dY ⟨id,zs,ns⟩),.cells (o8 ⟨f,ws⟩),.cells [.str x1,.int .i64 x2]]) T:=by
    have:=bM.snoc (vs:=[.str x1,.int .i64 x2]) eG zS;simpa using this
   have cw:=DX x1 yT (H++[.cells (dY ⟨id,zs,ns⟩),.cells (o8 ⟨f,ws⟩),.cells [.str x1,.int .i64 x2]]) T;refine cQ [] [] [] aO zK zK λK hK=>?_;have jE:∀e b,b=px ws m->bA (H.length+3) T.length e [(1,.ptr H.length 0),(3,.int .i64 (i:Nat)),(4,.ptr (H.length+1) 0),(5,.int .i64 (m:Nat)),(92,.bool (!b))]->K ⟨e,H++[.cells (dY ⟨id,zs,ns⟩),.cells (o8 ⟨f,ws⟩),.cells [.str x1,.int .i64 x2]],T⟩:=by
    intro e b2 j8 wY;refine hK _ (aF ⟨[(1,.ptr H.length 0),(3,.int .i64 (i:Nat)),(4,.ptr (H.length+1) 0),(5,.int .i64 (m:Nat)),(92,.bool (!b2))],H++[.cells (dY ⟨id,zs,ns⟩),.cells (o8 ⟨f,ws⟩)],T⟩ (ak [.cells [.str x1,.int .i64 x2]] [] zS zS zS zS eG (zU wY)) ?_)
    cases b2 with
    |false=>
     apply aC rfl;refine af ?_;apply bu;rw[<-append_nil T];exact bad m eL j8.symm _ _ _ rfl
    |true=>
     apply aB rfl;apply aj;refine zQ ?_;apply jZ;clear jZ;refine aJ ?_;refine⟨m+1,⟨by show m+1<=_;omega,λj hj=>?_⟩,by show ws.length-(m+1)<ws.length-m;omega,?_⟩
     ·rcases ahD j m with h|h
      ·exact m2 j h
      ·have:j=m:=zO;subst this;exact j8.symm
     ·exact wk eG
   clear hK
   cases hw:okW x1 with
   |false=>
    rw[hw] at cw fg;refine zQ ?_;refine az (cw) rfl ?_;refine zQ ?_;refine jE _ false (by rw[fg];rfl) zS
   |true=>
   rw[hw] at cw fg;rw[aio] at fg
   by_cases v3:x2<0
   ·have w3:decide (x2<0)=true:=ahx v3;refine zQ ?_;refine az (cw) rfl ?_;simp(disch:=omega)[w3,v3];refine jE _ false (by rw[fg,ahy (by omega:¬la<x2)];rfl) zS
   have w3:decide (x2<0)=false:=ahy v3
   by_cases v4:1000000<x2
   ·have w4:decide (1000000<x2)=true:=ahx v4;refine zQ ?_;refine az (cw) rfl ?_;simp(disch:=omega)[w3,v3,w4,v4];refine jE _ false (by rw[fg,ahy (by omega:¬x2<=1000000)];simp) zS
   have w4:decide (1000000<x2)=false:=ahy v4;rw[ahx (by omega:x2<=1000000),Bool.and_true] at fg;rcases ah0 m with h5|h5
   ·have Br:=Hc h5;subst h5;refine zQ ?_;refine az (cw) rfl ?_;simp(disch:=omega)[w3,v3,w4,v4];refine jE _ true (by rw[fg,ahx (by omega:la<x2)]) zS
   ·have e6:((m:Int)-1)=((m-1:Nat):Int):=zO;have b5:decide ((0:Int)<(m:Int))=true:=ahx zO;have pO:=zW zO;have Br:=dC h5
    by_cases v5:x2<=py
    ·have w5:decide (x2<=py)=true:=ahx v5;refine zQ ?_;refine az (cw) rfl ?_;simp(disch:=omega)[w3,v3,w4,v4,b5,h5,e6,pO,gG,w5,v5];refine jE _ false (by rw[fg,ahy (by omega:¬la<x2)]) zS
    ·have w5:decide (x2<=py)=false:=ahy v5;refine zQ ?_;refine az (cw) rfl ?_;simp(disch:=omega)[w3,v3,w4,v4,b5,h5,e6,pO,gG,w5,v5];refine jE _ true (by rw[fg,ahx (by omega:la<x2)]) zS
  ·simp  at eL;apply aD;refine zQ ?_;exact go (λk h=>m2 k zO) _ zS
attribute [-simp] getD_eq_getElem?_getD in
theorem HX (d:Dc)(hs:pt d)(hz:∀i,i<d.zs.length->nm d.zs i=true)(H:List aA)(T:au)(HO:bM (H++[.cells (dY d)]) T) :
  AW ⟨prog,146,9,H.length,T.length,[]⟩ (dZ [1,1] (Tryz.f83.body.getD .skip)) (pR prog Tryz.f83.results.toList λr H' T'=>(∃rH,H'=H++rH)/\(∃rT,T'=T++rT)/\(r=.bool (aU d)\/cL r=.bool (aU d))) ⟨[(1,.ptr H.length 0)],H++[.cells (dY d)],T⟩:=by
 conv=>arg 2;whnf
 have jU:maxLen<=9223372036854775807:=zD;have Sw:=λi h=>D7 (d:=d) (i:=i) h;have sa:=qL (d:=d);have sT:=λh1 h3=>vE (d:=d) h1 hz h3;obtain⟨id,zs,ns⟩:=d;obtain⟨_,_,hn⟩:=hs;simp only at hn Sw sa sT;have Yx:=ahA hn jU;generalize hq:aU ⟨id,zs,ns⟩=q at *;refine ae λK1 aN=>?_;refine af ?_;apply ag;refine aG (X:=Nat) (λi=>⟨[(1,.ptr H.length 0),(7,.int .i64 (i:Nat))],H++[.cells (dY ⟨id,zs,ns⟩)],T⟩)
  (λi=>i<=ns.length/\∀j,j<i->rA ns j=true) (λi=>ns.length-i) 0 ?_ ?_ ?_
 ·exact⟨ahE _,λj hj=>absurd hj (ahT _)⟩
 ·exact wk HO
 ·rintro m ⟨m1,m2⟩;refine ae λK5 iT=>?_;refine af ?_;refine aV rfl (λeL=>?_) (λeL=>?_)
  ·simp  at eL;have uo:=fH ns m eL;have fg:rA ns m=(v7 (ns.getD m n0)&&(decide (m=0)||di (ns.getD (m-1) n0) (ns.getD m n0))):=rfl;have cn:=λH T=>HV (ns.getD (m-1) n0) (ns.getD m n0) H T;replace Sw:=Sw m eL;generalize di (ns.getD (m-1) n0) (ns.getD m n0)=cq at *;have zW:=λh=>fH ns (m-1) h;generalize ns.getD (m-1) n0=y at *;generalize Uv:ns.getD m n0=z at *;obtain⟨x1,x2⟩:=z;obtain⟨y1,y2⟩:=y;simp only at uo zW fg;unfold v7 at fg;simp only at fg;apply aj;refine zQ ?_;apply iT;clear iT;refine ae λK6 jZ=>?_;apply ag;apply ar;simp(disch:=omega)[uo,cE];have c:=cn (H++[.cells (dY ⟨id,zs,ns⟩),.cells [.int .i64 x1,.int .i64 x2]]) T;refine cQ [] [] [] aO zK zK λK hK=>?_;have jE:∀e b,b=rA ns m->bA (H.length+2) T.length e [(1,.ptr H.length 0),(7,.int .i64 (m:Nat)),(137,.bool (!b))]->K ⟨e,H++[.cells (dY ⟨id,zs,ns⟩),.cells [.int .i64 x1,.int .i64 x2]],T⟩:=by
    intro e b2 j8 wY;refine hK _ (aF ⟨[(1,.ptr H.length 0),(7,.int .i64 (m:Nat)),(137,.bool (!b2))],H++[.cells (dY ⟨id,zs,ns⟩)],T⟩ (ak [.cells [.int .i64 x1,.int .i64 x2]] [] zS zS zS zS HO (zU wY)) ?_)
    cases b2 with
    |false=>
     apply aC rfl;refine af ?_;refine aI ?_;exact Sw j8.symm
    |true=>
     apply aB rfl;apply aj;refine zQ ?_;apply jZ;clear jZ;refine aJ ?_;refine⟨m+1,⟨by show m+1<=_;omega,λj hj=>?_⟩,by show ns.length-(m+1)<ns.length-m;omega,?_⟩
     ·rcases ahD j m with h|h
      ·exact m2 j h
      ·have:j=m:=zO;subst this;exact j8.symm
     ·exact wk HO
   clear hK
   by_cases v1:x1<5
   ·have w1:decide (x1<5)=true:=ahx v1;simp(disch:=omega)[w1,v1];refine jE _ false (by rw[fg,ahy (by omega:¬(5<=x1/\x1<=7))];rfl) zS
   have w1:decide (x1<5)=false:=ahy v1
   by_cases v2:7<x1
   ·have w2:decide (7<x1)=true:=ahx v2;simp(disch:=omega)[w1,v1,w2,v2];refine jE _ false (by rw[fg,ahy (by omega:¬(5<=x1/\x1<=7))];rfl) zS
   have w2:decide (7<x1)=false:=ahy v2;rw[ahx (by omega:5<=x1/\x1<=7),aio] at fg
   by_cases v3:x2<0
   ·have w3:decide (x2<0)=true:=ahx v3;simp(disch:=omega)[w1,v1,w2,v2,w3,v3];refine jE _ false (by rw[fg,ahy (by omega:¬(0<=x2/\x2<=1000000000000))];rfl) zS
   have w3:decide (x2<0)=false:=ahy v3
   by_cases v4:1000000000000<x2
   ·have w4:decide (1000000000000<x2)=true:=ahx v4;simp(disch:=omega)[w1,v1,w2,v2,w3,v3,w4,v4];refine jE _ false (by rw[fg,ahy (by omega:¬(0<=x2/\x2<=1000000000000))];rfl) zS
   have w4:decide (1000000000000<x2)=false:=ahy v4;rw[ahx (by omega:0<=x2/\x2<=1000000000000),aio] at fg;rcases ah0 m with h5|h5
   ·subst h5;simp(disch:=omega)[w1,v1,w2,v2,w3,v3,w4,v4];refine jE _ true (by rw[fg];rfl) zS
   ·have e6:((m:Int)-1)=((m-1:Nat):Int):=zO;have b5:decide ((0:Int)<(m:Int))=true:=ahx zO;have pO:=zW zO;rw[ahy (by omega:¬m=0),aiY] at fg;simp(disch:=omega)[w1,v1,w2,v2,w3,v3,w4,v4,b5,h5,e6,pO,cE];refine az (c) rfl ?_;refine zQ ?_;refine jE _ cq fg.symm zS
  ·simp  at eL;apply aD;refine zQ ?_;apply aN;clear aN
   by_cases h1:1<=id
   ·have b1:decide (1<=id)=true:=ahx h1
    by_cases h2:id<=1000000000
    ·have b2:decide (id<=1000000000)=true:=ahx h2;apply ar;simp(disch:=omega)[b1,h1,b2,h2];refine aI ?_;exact sT ⟨h1,h2⟩ (λj hj=>m2 j zO)
    ·have b2:decide (id<=1000000000)=false:=ahy h2;apply ar;simp(disch:=omega)[b1,h1,b2,h2];refine aI ?_;exact sa zO
   ·have b1:decide (1<=id)=false:=ahy h1;apply ar;simp(disch:=omega)[b1,h1];refine aI ?_;exact sa zO
attribute [-simp] getD_eq_getElem?_getD in
theorem vF (d:Dc)(hs:pt d)(H:List aA)(T:au):aq prog 83 [.agg (dY d)] H T (Is (.bool (aU d)) H T):=by
 refine aq.bK ?_ zS;have jU:maxLen<=9223372036854775807:=zD;have N5:=λi h=>mF (d:=d) (i:=i) h;have tail:=λhz=>HX d hs hz H T;obtain⟨id,zs,ns⟩:=d;obtain⟨hz,hw,hn⟩:=hs;simp only at hz hw hn N5 tail;have JU:=ahA hz jU;generalize hq:aU ⟨id,zs,ns⟩=q at *;refine ah 9 [] Tryz.ntmps83 Tryz.func83 rfl (λ_ _=>Tryz.call83 _ _) zS (λHO=>?_);refine af ?_;have eu:bM (H++[.cells (dY ⟨id,zs,ns⟩)]) T:=HO.snoc zS;replace tail:=λhz=>tail hz eu;refine ae λK1 aN=>?_;refine af ?_;apply ag;refine aG (X:=Nat) (λi=>⟨[(1,.ptr H.length 0),(3,.int .i64 (i:Nat))],H++[.cells (dY ⟨id,zs,ns⟩)],T⟩)
  (λi=>i<=zs.length/\∀j,j<i->nm zs j=true) (λi=>zs.length-i) 0 ?_ ?_ ?_
 ·exact⟨ahE _,λj hj=>absurd hj (ahT _)⟩
 ·exact wk eu
 ·rintro i ⟨g1,g2⟩;refine ae λK2 ba=>?_;refine af ?_;refine aV rfl (λhk=>?_) (λhk=>?_)
  ·simp  at hk;have bB:=tC zs i hk;obtain⟨qC,CO⟩:=hw _ (aQ zs i z0 hk);have oG:=EE zs i g2;have rF:=Ex (zs:=zs) (i:=i);have VV:=λk=>OG (zs:=zs) (i:=i) (k:=k);have DO:=AQ (zs:=zs) (i:=i);replace N5:=N5 i hk;have dC:0<i->iO zs i=(zs.getD (i-1) z0).f:=λh=>by unfold iO;rw[ahC zO]
   have Hc:i=0->iO zs i=0:=λh=>by unfold iO;rw[ahF h]
   have gA:=λh=>(wF zs (i-1) h).1;generalize iO zs i=la at *;generalize (zs.getD (i-1) z0).f=fp at *;generalize zs.getD i z0=z at *;obtain⟨f,ws⟩:=z;simp only at bB qC CO rF VV DO;have Zj:=ahA qC jU;apply aj;refine zQ ?_;apply ba;clear ba;refine ae λK3 bH=>?_;apply ag;apply ar;simp(disch:=omega)[bB,fW];have eG:bM (H++[.cells (dY ⟨id,zs,ns⟩),.cells (o8 ⟨f,ws⟩)]) T:=by
    have:=bM.snoc (vs:=o8 ⟨f,ws⟩) eu zS;simpa using this
   refine ae λK4 iQ=>?_;refine cQ [] [] [] aO zK zK λK hK=>?_;have key:∀e b,(b=true->la<f/\f<=4/\ws.length≠0)->(b=false->nm zs i=false)->bA (H.length+2) T.length e [(1,.ptr H.length 0),(3,.int .i64 (i:Nat)),(4,.ptr (H.length+1) 0),(50,.bool (!b))]->K ⟨e,H++[.cells (dY ⟨id,zs,ns⟩),.cells (o8 ⟨f,ws⟩)],T⟩:=by
    intro e b hb wZ he;refine hK _ (aF ⟨[(1,.ptr H.length 0),(3,.int .i64 (i:Nat)),(4,.ptr (H.length+1) 0),(50,.bool (!b))],H++[.cells (dY ⟨id,zs,ns⟩),.cells (o8 ⟨f,ws⟩)],T⟩ (wk eG (zU he)) ?_)
    cases b with
    |false=>
     apply aC rfl;refine af ?_;refine aI ?_;exact N5 (wZ rfl)
    |true=>
    obtain⟨b1,b2,b3⟩:=hb rfl;apply aB rfl;apply aj;refine zQ ?_;apply iQ;clear iQ;refine aF ⟨[(1,.ptr H.length 0),(3,.int .i64 (i:Nat)),(4,.ptr (H.length+1) 0)],H++[.cells (dY ⟨id,zs,ns⟩),.cells (o8 ⟨f,ws⟩)],T⟩ (wk eG) ?_;refine Hr id zs ns f ws i qC CO H T eG _ (λk wX RR e rH rT he=>?_) λhg e he=>?_
    ·show pR prog Tryz.f83.results.toList (λr H' T'=>(∃rH,H'=H++rH)/\(∃rT,T'=T++rT)/\(r=.bool q\/cL r=.bool q)) .ret _;simp[he,N5 (VV k wX RR)]
    ·refine bH _ (aF ⟨[(1,.ptr H.length 0),(3,.int .i64 (i:Nat))],H++[.cells (dY ⟨id,zs,ns⟩)],T⟩ (ak [.cells (o8 ⟨f,ws⟩)] [] zS zS zS zS eu (zU he)) ?_);refine aJ ?_;refine⟨i+1,⟨by show i+1<=_;omega,λj hj=>?_⟩,by show zs.length-(i+1)<zs.length-i;omega,?_⟩
     ·rcases ahD j i with h|h
      ·exact g2 j h
      ·have:j=i:=zO;subst this;exact DO b1 b2 b3 hg
     ·exact wk eu
   clear hK
   by_cases v1:f<1
   ·have w1:decide (f<1)=true:=ahx v1;simp(disch:=omega)[w1,v1];refine key _ false (λh=>by cases h) (λ_=>rF zO) zS
   have w1:decide (f<1)=false:=ahy v1
   by_cases v2:4<f
   ·have w2:decide (4<f)=true:=ahx v2;simp(disch:=omega)[w1,v1,w2,v2];refine key _ false (λh=>by cases h) (λ_=>rF zO) zS
   have w2:decide (4<f)=false:=ahy v2
   by_cases v3:ws.length=0
   ·have e3:ws=[]:=ah9.1 v3;subst e3;rcases ah0 i with h5|h5
    ·subst h5;simp(disch:=omega)[w1,v1,w2,v2];refine key _ false (λh=>by cases h) (λ_=>rF zS) zS
    ·have e6:((i:Int)-1)=((i-1:Nat):Int):=zO;have b5:decide ((0:Int)<(i:Int))=true:=ahx zO;have sS:=gA zO
     by_cases v4:f<=fp
     ·have w4:decide (f<=fp)=true:=ahx v4;simp(disch:=omega)[w1,v1,w2,v2,b5,h5,e6,sS,fW,w4,v4];refine key _ false (λh=>by cases h) (λ_=>rF zS) zS
     ·have w4:decide (f<=fp)=false:=ahy v4;simp(disch:=omega)[w1,v1,w2,v2,b5,h5,e6,sS,fW,w4,v4];refine key _ false (λh=>by cases h) (λ_=>rF zS) zS
   have w3:((ws.length:Int)==0)=false:=ah8.2 zO;have n3:ws≠[]:=λe=>v3 (by rw[e];rfl);rcases ah0 i with h5|h5
   ·have Br:=Hc h5;subst h5;simp(disch:=omega)[w1,v1,w2,v2,w3,n3];refine key _ true (λ_=>⟨zO,zO,v3⟩) (λh=>by cases h) zS
   ·have e6:((i:Int)-1)=((i-1:Nat):Int):=zO;have b5:decide ((0:Int)<(i:Int))=true:=ahx zO;have sS:=gA zO;have Br:=dC h5
    by_cases v4:f<=fp
    ·have w4:decide (f<=fp)=true:=ahx v4;simp(disch:=omega)[w1,v1,w2,v2,w3,n3,b5,h5,e6,sS,fW,w4,v4];refine key _ false (λh=>by cases h) (λ_=>rF zO) zS
    ·have w4:decide (f<=fp)=false:=ahy v4;simp(disch:=omega)[w1,v1,w2,v2,w3,n3,b5,h5,e6,sS,fW,w4,v4];refine key _ true (λ_=>⟨zO,zO,v3⟩) (λh=>by cases h) zS
  ·simp  at hk;apply aD;refine zQ ?_;apply aN;clear aN;refine aF ⟨[(1,.ptr H.length 0)],H++[.cells (dY ⟨id,zs,ns⟩)],T⟩ (wk eu) ?_;exact tail λj hj=>g2 j zO
end Go.Proofs.YtoejlmpbebjemaaGreat
namespace eN
open ie Go.Am
abbrev k0:Ky:=(0,[])
abbrev vW (k:Ky):List AV:=[.int .i64 k.1,.str k.2,.sl 0 [] .full]
def ia (l:List Ky):List AV:=l.flatMap λk=>[.int .i64 k.1,.str k.2,.sl 0 [] .full]
def wN:eE vW 3:=λ_=>rfl
def mK (l:List Ky):(ia l).length=l.length*3:=cj wN l
def xX (l:List Ky)(rest:List AV)(i:Nat)(h:i<l.length):((ia l++rest).drop (i*3)).take 3=vW (l.getD i k0):=by
 rw[List.drop_append,List.take_append,show ((ia l).drop (i*3)).take 3=vW (l.getD i k0) from fX wN l i k0 h];rw[show 3-((ia l).drop (i*3)).length=0 by rw[aii,mK];omega];simp
def TH (l:List Ky)(i:Nat):(ia l).take (i*3)=ia (l.take i):=oe wN l i
def Mc (l:List Ky)(i:Nat):(ia l).drop (i*3)=ia (l.drop i):=kq wN l i
theorem Jv (x:Ky):∀(d:List Ky)(n:Nat),n<=d.length->(∀j,j<n->bS (d.getD j k0) x=true)->(n<d.length->bS (d.getD n k0) x=false)->
  (n<d.length->bS x (d.getD n k0)=false->lM x d=d)/\((n<d.length->bS x (d.getD n k0)=true)->lM x d=d.take n++x::d.drop n)
 |[],n,h,_,_=>by
  have:n=0:=by simpa using h
  subst this;exact⟨λh=>absurd h (ahT _),λ_=>rfl⟩
 |y::r,0,_,_,h=>by
  have h1:bS y x=false:=h zS;refine⟨λ_ h2=>?_,λh2=>?_⟩
  ·have h2:bS x y=false:=h2;rw[lM,ahC (by simp[h1]),ahC (by simp[h2])]
  ·have h2:bS x y=true:=h2 zS;rw[lM,ahC (by simp[h1]),ahF h2];rfl
 |y::r,n+1,h0,h1,h2=>by
  have hy:bS y x=true:=h1 0 zO;obtain⟨a,b⟩:=Jv x r n (zU h0) (λj hj=>h1 (j+1) zO) (λhn=>h2 (zU hn));refine⟨λh3 h4=>?_,λh3=>?_⟩
  ·rw[lM,ahF hy,a (zU h3) h4]
  ·rw[lM,ahF hy,b λh4=>h3 (zU h4)];rfl
theorem EN (x:Ky):∀d:List Ky,(lM x d).length<=d.length+1
 |[]=>by simp[lM]
 |y::r=>by
  have:=EN x r;unfold lM
  split
  ·simp;omega
  ·split<;>simp
def dN (a:List Ky)(l:List Ky):List Ky:=l.foldl (λa k=>lM k a) a
theorem mS (l:List Ky):∀a:List Ky,(dN a l).length<=a.length+l.length:=by
 unfold dN
 induction l with
 |nil=>intro a;simp
 |cons x r ih=>intro a;rw[ajb];have:=ih (lM x a);have:=EN x a;simp;omega
def sF (a l m:List Ky):dN a (l++m)=dN (dN a l) m:=by unfold dN;rw[ai8]
def fh (z:Zn):List Ky:=z.ws.map λw=>(z.f,w.1)
def dy (d:Dc):List Ky:=d.zs.flatMap fh
def qY (zs:List Zn):(eW zs).map (·.1)=zs.flatMap fh:=by
 unfold eW pw fh;rw[List.map_flatMap];simp[aiA,Function.comp_def]
def uX (L:List Dc):dR L=dN [] (L.flatMap dy):=by
 unfold dR dN dy
 congr 1
 congr 1
 funext d
 exact qY d.zs
def TR (h0:Nat)(J:List aA)(ks:List Ky)(tv:AV):Prop:=
 (ks=[]/\tv=.sl 0 [] .full)\/(∃i rest,tv=.cV i 0 ks.length/\h0<=i/\J[i]?=some (.cells (ia ks++rest))/\0<ks.length)
def TR.app {h0:Nat}{J:List aA}{ks:List Ky}{tv:AV}(h:TR h0 J ks tv)(G:List aA):TR h0 (J++G) ks tv:=by
 rcases h with h|⟨i,rest,h1,h2,h3,h4⟩
 ·exact .inl h
 ·exact .inr ⟨i,rest,h1,h2,by rw[ahB (aht.1 h3).1];exact h3,h4⟩
end eN
namespace Go.Proofs.YtoejlmpbebjemaaGreat
open Go.Proofs.Tryz(prog)
open Go Go.Am ie eN
noncomputable def xl:List Oper:=match dZ [1,1,0,1,0,0,1,0,0,1,0,0,1,0,0,1,1,0,0,1,0,0,1,1,1,1,0] (Tryz.f85.body.getD .skip) with
 |.region _ ops _=>ops.toList
 |_=>[]
def Cp {K:St->Prop}{P:List aA->au->Prop}{nb tb:Nat}(f:Int)(w:Bs)(n m:Nat)(A B:List AV)(x1 x2:AV)(e:Env)(J:List aA)(U:au)(hn:n<=1000000)(hm:m<=1000000)(hA:A.length=n*3)(hB:B.length=m*3)
  (h76:bO e 76=.sl 0 [] .full) (h79:bO e 79=x1) (h82:bO e 82=.sl 1 (vW (f,w)) .full) (h86:bO e 86=x2) (CQ:ic J 3 x1=some (n,A)) (Bp:∀J',gW J J'->ic J' 3 x2=some (m,B)) (hP:∀J',gW J J'->P J' U)
  (k:∀(e':Env)(J':List aA)(i' lQ:Nat)(mw:List AV),gW J J'->J.length<=i'->J'[i']?=some (.cells (A++vW (f,w)++B++mw))->bO e' 3=.bQ i' (n+1+m) lQ->(∀t,t<80->t≠3->bO e' t=bO e t)->K ⟨e',J',U⟩) :
  Dr ⟨prog,89,10,nb,tb,[100080,100083]⟩ K P ([4,7,11,12].map λi=>xl.getD i default) e J U:=by
 show Dr _ K P [xl.getD 4 default,xl.getD 7 default,xl.getD 11 default,xl.getD 12 default] e J U;have XU:gW J J:=⟨[],zS⟩
 have tail:∀(e7:Env)(J7:List aA)(i7 N4:Nat)(IN:List AV),gW J J7->J.length<=i7->J7[i7]?=some (.cells ((A++vW (f,w))++IN))->((A++vW (f,w))++IN).length=N4*3->bO e7 83=.bQ i7 (n+1) N4->bO e7 86=x2->
   (∀t,t<80->bO e7 t=bO e t)->Dr ⟨prog,89,10,nb,tb,[100080,100083]⟩ K P [xl.getD 11 default,xl.getD 12 default] e7 J7 U:=by
  intro e7 J7 i7 N4 IN hp hi hg hl h83 afD hold;rw[mf]
  conv=>arg 2;whnf
  refine Bd 129 (A++vW (f,w)) IN B m (by simp[bV,h83]) (by simp[bV,h83]) (by simp[bV,h83,afD];exact⟨rfl,rfl,rfl,rfl,rfl⟩) zS hg (by simp[hA];omega) (zU hl) (zU (Bp _ hp)) (by simp[hB]) (by simp;omega) zO zS zS ?_;intro i8 ZP B8 J8 uj hl8 hc8;have l7:=(aht.1 hg).1;have XE:gW J J8:=by
   rcases uj with⟨rfl,_⟩|⟨rfl,_⟩
   ·exact hp.set hi _
   ·exact hp.app _
  have hi8:J.length<=i8:=by
   have:=hp.le;rcases uj with⟨_,rfl⟩|⟨_,rfl⟩<;>omega
  have hg8:J8[i8]?=some (.cells (A++vW (f,w)++B++B8)):=by
   rcases uj with⟨rfl,rfl⟩|⟨rfl,rfl⟩
   ·rw[ahZ l7]
   ·simp
  refine⟨hP J8 XE,mc (ajD rfl) ?_⟩;rw[mf]
  conv=>arg 2;whnf
  refine QI (v:=.bQ i8 (n+1+m) ZP) (H':=J8) (T':=U) rfl rfl rfl rfl (by simp[bV,cU]) ⟨hP J8 XE,mc (ajD rfl) ?_⟩;rw[QG];exact k _ J8 i8 ZP B8 XE hi8 hg8 (cU _ _ _) λt h1 h2=>by
   rw[bJ _ _ _ _ (λe=>h2 e.symm),bJ _ _ _ _ zO,hold t h1]
 rcases ah0 n with h0|h0
 ·subst h0;have hA0:A=[]:=ah9.1 (zU hA);subst hA0;rw[mf]
  conv=>arg 2;whnf
  refine T9 (by simp[-ic,bV,h76,h79,CQ]) ⟨hP J XU,mc (ajD rfl) ?_⟩;rw[mf]
  conv=>arg 2;whnf
  refine yF (m:=1) (z:=3) (ys:=vW (f,w)) (by simp[bV,h82,cU,bJ,ic]) (by simp[bV,h82,cU,bJ,ic]) λnc lY=>⟨hP _ (XU.app _),mc (ajD rfl) ?_⟩
  refine tail _ _ J.length nc (List.replicate ((nc-1)*3) .top) (XU.app _) (ahv _) zS (by simp;omega) (by simp[cU]) ?_ ?_
  ·rw[bJ _ _ _ _ zO,bJ _ _ _ _ zO,h86]
  ·intro t ht;rw[bJ _ _ _ _ zO,bJ _ _ _ _ zO]
 ·have CS:n≠0:=zO;have q1:n*48<=140737488355328:=zO;have q2:n<=9223372036854775807:=zO;rw[mf]
  conv=>arg 2;whnf
  refine yF (m:=n) (z:=3) (ys:=A) (by simp[-ic,bV,h76,h79,CQ,CS]) (by simp[-ic,bV,h76,h79,CQ,h0,q1,q2]) λnc lY=>⟨hP _ (XU.app _),mc (ajD rfl) ?_⟩
  rw[mf]
  conv=>arg 2;whnf
  refine Bd 129 A (List.replicate ((nc-n)*3) .top) (vW (f,w)) 1 (i:=J.length) (n:=n) (cap:=nc) (by simp[bV,cU]) (by simp[bV,cU]) (by simp[bV,cU,bJ,h82];exact⟨rfl,rfl,rfl⟩) zS zS (zU hA) (by simp[hA,Nat.sub_mul];omega) (by simp[ic]) zS (by simp;omega) zO zS zS ?_;intro i7 N4 B7 J7 uj hl7 hc7;have hp7:gW J J7:=by
   rcases uj with⟨rfl,_⟩|⟨rfl,_⟩
   ·exact(XU.app _).set (ahv _) _
   ·exact(XU.app _).app _
  have hi7:J.length<=i7:=by
   rcases uj with⟨_,rfl⟩|⟨_,rfl⟩<;>simp
  refine⟨hP J7 hp7,mc (ajD rfl) ?_⟩;refine tail _ J7 i7 N4 B7 hp7 hi7 ?_ (zU hl7) (cU _ _ _) ?_ ?_
  ·rcases uj with⟨rfl,rfl⟩|⟨rfl,rfl⟩
   ·rw[ahZ zS]
   ·rw[ahP (ahv _)];simp
  ·rw[bJ _ _ _ _ zO,bJ _ _ _ _ zO,h86]
  ·intro t ht;rw[bJ _ _ _ _ zO,bJ _ _ _ _ zO]
attribute [-simp] getD_eq_getElem?_getD in
theorem Qa (L:List Dc)(f:Int)(ws:List Wd)(i zi k p6:Nat)(ks:List Ky)(tv:AV)(h0 nb tb:Nat)(J:List aA)(U:au)(hk:k<ws.length)(Re:ks.length<=1000000)(RS:TR h0 J ks tv)(h6:J[p6]?=some (.cells (o8 ⟨f,ws⟩)))
  (gL:nb<=J.length) (fZ:tb<=U.length) (HO:bM J U) (h0J:h0<=J.length) (Q:Exit->St->Prop)
  (go:∀(e:Env)(J':List aA)(zB:AV),(∃G,J'=J++G)->TR h0 J' (lM (f,(ws.getD k w0).1) ks) zB->
   bA J'.length U.length e [(0,.sl L.length (aM L) .none),(3,zB),(4,.int .i64 (i:Nat)),(5,.int .i64 (zi:Nat)),(6,.ptr p6 0),(7,.int .i64 (k:Nat))]->Q .normal ⟨e,J',U⟩) :
  AW ⟨prog,89,10,nb,tb,[100080,100083]⟩ (dZ [1,1,0,1,0,0,1,0,0,1,0,0,1,0,0,1,1,0,0,1,0,0] (Tryz.f85.body.getD .skip)) Q
   ⟨[(0,.sl L.length (aM L) .none),(3,tv),(4,.int .i64 (i:Nat)),(5,.int .i64 (zi:Nat)),(6,.ptr p6 0),(7,.int .i64 (k:Nat))],J,U⟩:=by
 conv=>arg 2;whnf
 have gA:=(BZ ws k hk).1;have e6:=aZ h6;have l6:=(aht.1 h6).1;generalize (ws.getD k w0).1=w at *;refine bC [9,10] [0,0,0,0,0,0,0,0,0,0,1] [[0,1,2,3,4,5,6,7,8],[]] ?_;simp(disch:=omega)[e6,l6,gG,gA,hk,ahB,aiL];have eu:bM (J++[.cells (vW (f,w))]) U:=HO.snoc zS;have g8:(J++[aA.cells (vW (f,w))])[J.length]?=some (.cells (vW (f,w))):=zS;have Sk:=RS.app [aA.cells (vW (f,w))];have vq:(J++[aA.cells (vW (f,w))]).length=J.length+1:=zS;have rC:∃G,J++[aA.cells (vW (f,w))]=J++G:=⟨_,rfl⟩
 obtain⟨p8,XE⟩:∃p,p=J.length:=⟨_,rfl⟩
 rw[<-XE] at g8;simp only[<-XE];rw[show aA.cells [.int .i64 f,.str w,.sl 0 [] .full]=.cells (vW (f,w)) from rfl];generalize J++[aA.cells (vW (f,w))]=J1 at *;have e8:=aZ g8;have l8:=(aht.1 g8).1;have GA:∀(n:Nat),J1.length<=n->Below n U.length tv:=λn hn=>by
  rcases Sk with⟨_,rfl⟩|⟨i,rest,rfl,_,h3,_⟩
  ·simp
  ·have:=(aht.1 h3).1;simp;omega
 have ZD:=GA J1.length (ahv _);refine aF ⟨[(0,.sl L.length (aM L) .none),(3,tv),(4,.int .i64 (i:Nat)),(5,.int .i64 (zi:Nat)),(6,.ptr p6 0),(7,.int .i64 (k:Nat)),(8,.ptr p8 0)],J1,U⟩ (ak [] [] zS zS (by show nb<=J1.length;omega) fZ eu (by simp[ZD];omega)) ?_;refine af ?_;refine ae λK5 iT=>?_;apply ag;have Gz:∀(e:Env)(n:Nat),bA J1.length U.length e [(0,.sl L.length (aM L) .none),(3,tv),(4,.int .i64 (i:Nat)),(5,.int .i64 (zi:Nat)),(6,.ptr p6 0),(7,.int .i64 (k:Nat)),(8,.ptr p8 0),(9,.int .i64 (n:Nat))]->
   sW ⟨prog,89,10,nb,tb,[100080,100083]⟩ ⟨e,J1,U⟩ ⟨[(0,.sl L.length (aM L) .none),(3,tv),(4,.int .i64 (i:Nat)),(5,.int .i64 (zi:Nat)),(6,.ptr p6 0),(7,.int .i64 (k:Nat)),(8,.ptr p8 0),(9,.int .i64 (n:Nat))],J1,U⟩:=λe n he=>
  ak [] [] zS zS (by show nb<=J1.length;omega) fZ eu he
 have cont:∀n,n<=ks.length->(∀j,j<n->bS (ks.getD j k0) (f,w)=true)->(n<ks.length->bS (ks.getD n k0) (f,w)=false)->∀e,bA J1.length U.length e [(0,.sl L.length (aM L) .none),(3,tv),(4,.int .i64 (i:Nat)),(5,.int .i64 (zi:Nat)),(6,.ptr p6 0),(7,.int .i64 (k:Nat)),(8,.ptr p8 0),(9,.int .i64 (n:Nat))]->K5 ⟨e,J1,U⟩:=by
  intro n Bq CR zN e he;refine iT _ (aF _ (Gz e n he) ?_);clear iT he;obtain⟨DF,Dm⟩:=Jv (f,w) ks n Bq CR zN;have fin:(n<ks.length->bS (f,w) (ks.getD n k0)=true)->∀(e:Env)(J':List aA)(i' lQ:Nat)(mw:List AV),gW J1 J'->J1.length<=i'->J'[i']?=some (.cells (ia (ks.take n++(f,w)::ks.drop n)++mw))->
    bA J'.length U.length e [(0,.sl L.length (aM L) .none),(3,.cV i' 0 (n+1+(ks.length-n))),(4,.int .i64 (i:Nat)),(5,.int .i64 (zi:Nat)),(6,.ptr p6 0),(7,.int .i64 (k:Nat))]->Q .normal ⟨e,J',U⟩:=by
   intro h e J' i' lQ mw hp jf hg he;obtain⟨G,rfl⟩:=hp;obtain⟨G1,rfl⟩:=rC;have hl:(lM (f,w) ks).length=n+1+(ks.length-n):=by rw[Dm h];simp;omega
   refine go e _ _ ⟨G1++G,zS⟩ (.inr ⟨i',mw,rfl,by simp at jf;omega,by rw[Dm h];exact hg,zO⟩) ?_;rw[hl];exact he
  have zl:(n<ks.length->bS (f,w) (ks.getD n k0)=true)->∀(e e0:Env)(J':List aA)(i' lQ:Nat)(mw:List AV),gW J1 J'->J1.length<=i'->J'[i']?=some (.cells (ia (ks.take n)++vW (f,w)++ia (ks.drop n)++mw))->bO e 3=.bQ i' (n+1+(ks.length-n)) lQ->(∀t,t<80->t≠3->bO e t=bO e0 t)->
    bO e0 0=.sl L.length (aM L) .none->bO e0 4=.int .i64 (i:Nat)->bO e0 5=.int .i64 (zi:Nat)->bO e0 6=.ptr p6 0->bO e0 7=.int .i64 (k:Nat)->Q .normal ⟨e,J',U⟩:=by
   intro h e e0 J' i' lQ mw hp jf hg h3 hold q0 q4 q5 q6 q7;have hle:=hp.le;have bp:=(aht.1 hg).1;refine fin h e J' i' lQ mw hp jf ?_ ?_
   ·rw[hg];congr 2;rw[show ia (ks.take n++(f,w)::ks.drop n)=ia (ks.take n)++vW (f,w)++ia (ks.drop n) by simp[ia]]
   ·simp[h3,hold,q0,q4,q5,q6,q7,bp];omega
  have c1:(ia (ks.take n)).length=n*3:=by rw[mK,ahW];omega
  have c2:(ia (ks.drop n)).length=(ks.length-n)*3:=by rw[mK,aii]
  have On:∀J',gW J1 J'->J'[p8]?=some (.cells (vW (f,w))):=by
   rintro J' ⟨G,rfl⟩;rw[ahB l8];exact g8
  rcases Sk with⟨rfl,rfl⟩|⟨ib,rest,rfl,Bu,gi,gu⟩
  ·have CS:n=0:=by simpa using Bq
   subst CS;refine IZ [] [] [] ?_;apply aC rfl;refine vh [4,7,11,12] aO zK λK hK=>?_;simp(disch:=omega)[dx,e8,l8];refine BO (λJ' _=>J'[p8]?=some (.cells (vW (f,w)))) (λJ' U' Ro=>?_) ?_
   ·have e9:=aZ Ro;have l9:=(aht.1 Ro).1;simp(disch:=omega)[dx,e9,l9]
   ·exact Cp f w 0 0 [] [] _ _ _ J1 U zO zO rfl rfl rfl rfl rfl rfl rfl (λ_ _=>rfl) On λe' J' i' lQ mw hp jf hg h3 hold=>hK _ (zl (λh=>absurd h (ahT _)) e' _ J' i' lQ mw hp jf (by simpa[ia] using hg) h3 hold rfl rfl rfl rfl rfl)
  ·have bB:=xX ks rest;have hlen:(ia ks++rest).length=ks.length*3+rest.length:=by rw[ahw,mK]
   have hv1:(ia ks++rest).take (n*3)=ia (ks.take n):=by rw[aiF (by rw[mK];omega),TH]
   have IH:((ia ks++rest).drop (n*3)).take ((ks.length-n)*3)=ia (ks.drop n):=by
    rw[ajH (by rw[mK];omega),Mc,aiy c2]
   generalize Nd:ia ks++rest=vs at *;have ei:=aZ gi;have li:=(aht.1 gi).1;have aaz:∀J',gW J1 J'->J'[ib]?=some (.cells vs):=by
    rintro J' ⟨G,rfl⟩;rw[ahB li];exact gi
   rcases ahD n ks.length with h4|h4
   ·have xq:=bB n h4;have b1:((n:Int)==(ks.length:Int))=false:=ah8.2 zO;have c:=qs (f,w) (ks.getD n k0) (.sl 0 [] .full) (.sl 0 [] .full) J1 U zS zS;have d1:n*3+3<=vs.length:=zO;have d2:n*3<=vs.length:=zO;have d3:n*3+(ks.length-n)*3<=vs.length:=zO
    cases bp:bS (f,w) (ks.getD n k0) with
    |false=>
     rw[bp] at c;rw[DF h4 bp] at go;generalize ks.getD n k0=y at *;refine bC [] [] [] ?_;simp(disch:=omega)[b1,h4,e8,l8,ei,li,xq,d1,d2];refine az (c) rfl ?_;refine zQ ?_;apply aB rfl;apply aj;obtain⟨G1,Rp⟩:=rC;refine go _ J1 _ ⟨G1,Rp⟩ (.inr ⟨ib,rest,rfl,Bu,by rw[Nd];exact gi,gu⟩) ?_;simp[li];omega
    |true=>
     rw[bp] at c;have WA:=zl λ_=>bp;generalize ks.getD n k0=y at *;refine bC [] [] [] ?_;simp(disch:=omega)[b1,h4,e8,l8,ei,li,xq,d1,d2];refine az (c) rfl ?_;refine zQ ?_;apply aC rfl;refine vh [4,7,11,12] aO zK λK hK=>?_;simp(disch:=omega)[dx,e8,l8,h4];refine BO (λJ' _=>J'[p8]?=some (.cells (vW (f,w)))) (λJ' U' Ro=>?_) ?_
     ·have e9:=aZ Ro;have l9:=(aht.1 Ro).1;simp(disch:=omega)[dx,e9,l9,h4]
     ·exact Cp f w n (ks.length-n) (ia (ks.take n)) (ia (ks.drop n)) _ _ _ J1 U zO zO c1 c2 rfl rfl rfl rfl (by simp[ic,ei,li,d2,hv1]) (λJ' hp=>by
       have:=aaz J' hp;simp[ic,this,d3,IH]) On λe' J' i' lQ mw hp jf hg h3 hold=>hK _ (WA e' _ J' i' lQ mw hp jf hg h3 hold rfl rfl rfl rfl rfl)
   ·have Uw:n=ks.length:=zO;subst Uw;have WA:=zl λh=>absurd h (Nat.lt_irrefl _);have d2:ks.length*3<=vs.length:=zO;have dM:ks≠[]:=λe=>by rw[e] at gu;exact absurd gu (Nat.lt_irrefl _)
    refine IZ [] [] [] ?_;apply aC rfl;refine vh [4,7,11,12] aO zK λK hK=>?_;simp(disch:=omega)[dx,e8,l8,dM];refine BO (λJ' _=>J'[p8]?=some (.cells (vW (f,w)))) (λJ' U' Ro=>?_) ?_
    ·have e9:=aZ Ro;have l9:=(aht.1 Ro).1;simp(disch:=omega)[dx,e9,l9,dM]
    ·exact Cp f w ks.length (ks.length-ks.length) (ia (ks.take ks.length)) (ia (ks.drop ks.length)) _ _ _ J1 U zO zO c1 c2 rfl rfl rfl rfl (by simp[ic,ei,li,d2,hv1]) (λJ' hp=>by simp[ia]) On λe' J' i' lQ mw hp jf hg h3 hold=>hK _ (WA e' _ J' i' lQ mw hp jf hg h3 hold rfl rfl rfl rfl rfl)
 refine aG (X:=Nat) (λn=>⟨[(0,.sl L.length (aM L) .none),(3,tv),(4,.int .i64 (i:Nat)),(5,.int .i64 (zi:Nat)),(6,.ptr p6 0),(7,.int .i64 (k:Nat)),(8,.ptr p8 0),(9,.int .i64 (n:Nat))],J1,U⟩)
  (λn=>n<=ks.length/\∀j,j<n->bS (ks.getD j k0) (f,w)=true) (λn=>ks.length-n) 0 ?_ ?_ ?_
 ·exact⟨ahE _,λj hj=>absurd hj (ahT _)⟩
 ·refine Gz _ 0 ?_;simp[ZD,l8];omega
 ·rintro n ⟨Bq,CR⟩;replace cont:=cont n Bq CR;have afk:=Gz;refine ae λK6 jZ=>?_;rcases ahD n ks.length with h4|h4
  ·rcases Sk with⟨rfl,rfl⟩|⟨ib,rest,rfl,Bu,gi,gu⟩
   ·exact absurd h4 (ahT _)
   have xq:=xX ks rest n h4;have hlen:(ia ks++rest).length=ks.length*3+rest.length:=by rw[ahw,mK]
   generalize ia ks++rest=vs at *;have ei:=aZ gi;have li:=(aht.1 gi).1;have d1:n*3+3<=vs.length:=zO;have b1:decide ((n:Int)<(ks.length:Int))=true:=ahx zO;have c:=qs (ks.getD n k0) (f,w) (.sl 0 [] .full) (.sl 0 [] .full) J1 U zS zS;have fe:bS (ks.getD n k0) (f,w)=true->∀j,j<n+1->bS (ks.getD j k0) (f,w)=true:=λh j hj=>by
    rcases ahD j n with h3|h3
    ·exact CR j h3
    ·have:j=n:=zO;subst this;exact h
   cases bp:bS (ks.getD n k0) (f,w) with
   |true=>
    rw[bp] at c;replace fe:=fe bp;generalize ks.getD n k0=y at xq c;refine bC [] [] [] ?_;simp(disch:=omega)[b1,h4,e8,l8,ei,li,xq,d1];refine az (c) rfl ?_;refine zQ ?_;apply aC rfl;apply aj;apply jZ;clear jZ;apply ag;refine aJ ?_;refine⟨n+1,⟨by show n+1<=_;omega,fe⟩,by show ks.length-(n+1)<ks.length-n;omega,?_⟩;refine afk _ (n+1) ?_;simp[li,l8];omega
   |false=>
    rw[bp] at c;replace cont:=cont λ_=>bp;generalize ks.getD n k0=y at xq c;refine bC [] [] [] ?_;simp(disch:=omega)[b1,h4,e8,l8,ei,li,xq,d1];refine az (c) rfl ?_;refine zQ ?_;apply aB rfl;apply aD;refine zQ ?_;refine cont _ ?_;simp[li,l8];omega
  ·have Uw:n=ks.length:=zO;replace cont:=cont λh=>absurd h zO;subst Uw;rcases Sk with⟨rfl,rfl⟩|⟨ib,rest,rfl,Bu,gi,gu⟩
   ·refine IZ [] [] [] ?_;apply aB rfl;apply aD;refine zQ ?_;refine cont _ ?_;simp[l8];omega
   ·have li:=(aht.1 gi).1;refine IZ [] [] [] ?_;apply aB rfl;apply aD;refine zQ ?_;refine cont _ ?_;simp[li,l8];omega
attribute [-simp] getD_eq_getElem?_getD in
def Fy (L:List Dc)(f:Int)(ws:List Wd)(i zi p6:Nat)(ks:List Ky)(tv:AV)(h0 nb tb:Nat)(J:List aA)(U:au)(Re:ks.length+ws.length<=1000000)(RS:TR h0 J ks tv)(h6:J[p6]?=some (.cells (o8 ⟨f,ws⟩)))
  (gL:nb<=J.length) (fZ:tb<=U.length) (HO:bM J U) (h0J:h0<=J.length) (Q:Exit->St->Prop)
  (go:∀(e:Env)(J':List aA)(zB:AV),(∃G,J'=J++G)->TR h0 J' (dN ks (fh ⟨f,ws⟩)) zB->
   bA J'.length U.length e [(0,.sl L.length (aM L) .none),(3,zB),(4,.int .i64 (i:Nat)),(5,.int .i64 (zi:Nat))]->Q .normal ⟨e,J',U⟩) :
  AW ⟨prog,89,10,nb,tb,[100080,100083]⟩ (dZ [1,1,0,1,0,0,1,0,0,1,0,0,1,0,0,1] (Tryz.f85.body.getD .skip)) Q
   ⟨[(0,.sl L.length (aM L) .none),(3,tv),(4,.int .i64 (i:Nat)),(5,.int .i64 (zi:Nat)),(6,.ptr p6 0)],J,U⟩:=by
 conv=>arg 2;whnf
 have l6:=(aht.1 h6).1;have GA:∀(J1:List aA)(IG:List Ky)(vm:AV),TR h0 J1 IG vm->Below J1.length U.length vm:=λJ1 IG vm h=>by
  rcases h with⟨_,rfl⟩|⟨i,rest,rfl,_,h3,_⟩
  ·simp
  ·simpa using(aht.1 h3).1
 have GC:=GA J ks tv RS;refine af ?_;apply ag;refine aG (X:=Nat×List aA×AV) (λx=>⟨[(0,.sl L.length (aM L) .none),(3,x.2.2),(4,.int .i64 (i:Nat)),(5,.int .i64 (zi:Nat)),(6,.ptr p6 0),(7,.int .i64 (x.1:Nat))],x.2.1,U⟩)
  (λx=>x.1<=ws.length/\(∃G,x.2.1=J++G)/\TR h0 x.2.1 (dN ks ((ws.take x.1).map λw=>(f,w.1))) x.2.2/\bM x.2.1 U) (λx=>ws.length-x.1) (0,J,tv) ?_ ?_ ?_
 ·exact⟨ahE _,⟨[],zS⟩,by simpa[dN] using RS,HO⟩
 ·refine ak [] [] zS zS gL fZ HO ?_;simp[GC,l6]
 ·rintro⟨k,J1,vm⟩ ⟨g1,⟨G,hG⟩,g3,g4⟩;simp only at g1 hG g3 g4;have vq:J.length<=J1.length:=by rw[hG];simp
  have h61:J1[p6]?=some (.cells (o8 ⟨f,ws⟩)):=by rw[hG,ahB l6];exact h6
  have e6:=aZ h61;have l61:=(aht.1 h61).1;have uq:=GA J1 _ vm g3;refine ae λK5 iT=>?_;apply ar;simp(disch:=omega)[e6,l61];refine aV rfl (λhk=>?_) (λhk=>?_)
  ·simp  at hk;have gy:(dN ks ((ws.take k).map λw=>(f,w.1))).length<=1000000:=by
    have:=mS ((ws.take k).map λw=>(f,w.1)) ks;rw[ahL,ahW] at this;omega
   have kX:dN ks ((ws.take (k+1)).map λw=>(f,w.1))=lM (f,(ws.getD k w0).1) (dN ks ((ws.take k).map λw=>(f,w.1))):=by
    rw[aX ws k w0 hk,ahJ,sF];rfl
   generalize dN ks ((ws.take k).map λw=>(f,w.1))=IG at *;apply aj;apply iT;clear iT;refine ae λK6 jZ=>?_;apply ag;refine aF ⟨[(0,.sl L.length (aM L) .none),(3,vm),(4,.int .i64 (i:Nat)),(5,.int .i64 (zi:Nat)),(6,.ptr p6 0),(7,.int .i64 (k:Nat))],J1,U⟩ (ak [] [] zS zS (by show nb<=J1.length;omega) fZ g4 (by simp[uq,l61])) ?_;refine Qa L f ws i zi k p6 IG vm h0 nb tb J1 U hk gy g3 h61 zO fZ g4 zO _ λe J2 tv2 RY hT2 he=>?_;have j8:=GA J2 _ tv2 hT2;obtain⟨G2,RY⟩:=RY;have jT:J1.length<=J2.length:=by rw[RY];simp
   refine jZ _ (dE λeG=>?_);refine aF ⟨[(0,.sl L.length (aM L) .none),(3,tv2),(4,.int .i64 (i:Nat)),(5,.int .i64 (zi:Nat)),(6,.ptr p6 0),(7,.int .i64 (k:Nat))],J2,U⟩ (ak [] [] zS zS (by show nb<=J2.length;omega) fZ eG he) ?_;refine aJ ?_;refine⟨(k+1,J2,tv2),⟨by show k+1<=_;omega,⟨G++G2,by rw[RY,hG,ahM]⟩,by simp only;rw[kX];exact hT2,eG⟩,by show ws.length-(k+1)<ws.length-k;omega,?_⟩;refine ak [] [] zS zS (by show nb<=J2.length;omega) fZ eG ?_;simp[j8];omega
  ·simp  at hk;have Gw:k=ws.length:=zO;subst Gw;rw[ahO] at g3;apply aD;refine zQ ?_;refine go _ J1 vm ⟨G,hG⟩ g3 ?_;simp[uq]
attribute [-simp] getD_eq_getElem?_getD in
def Fs (L:List Dc)(i:Nat)(hi:i<L.length)(ks:List Ky)(tv:AV)(h0 nb tb:Nat)(J:List aA)(U:au)(Re:ks.length+(dy (L.getD i d0)).length<=1000000)(zH:(L.getD i d0).zs.length<=9223372036854775807)(RS:TR h0 J ks tv)
  (gL:nb<=J.length) (fZ:tb<=U.length) (HO:bM J U) (h0J:h0<=J.length) (Q:Exit->St->Prop)
  (go:∀(e:Env)(J':List aA)(zB:AV),(∃G,J'=J++G)->TR h0 J' (dN ks (dy (L.getD i d0))) zB->
   bA J'.length U.length e [(0,.sl L.length (aM L) .none),(3,zB),(4,.int .i64 (i:Nat))]->Q .normal ⟨e,J',U⟩) :
  AW ⟨prog,89,10,nb,tb,[100080,100083]⟩ (dZ [1,1,0,1,0,0,1,0,0] (Tryz.f85.body.getD .skip)) Q
   ⟨[(0,.sl L.length (aM L) .none),(3,tv),(4,.int .i64 (i:Nat))],J,U⟩:=by
 conv=>arg 2;whnf
 obtain⟨_,gA,_⟩:=kF L i hi;have GA:∀(J1:List aA)(IG:List Ky)(vm:AV),TR h0 J1 IG vm->Below J1.length U.length vm:=λJ1 IG vm h=>by
  rcases h with⟨_,rfl⟩|⟨i,rest,rfl,_,h3,_⟩
  ·simp
  ·simpa using(aht.1 h3).1
 have GC:=GA J ks tv RS;unfold dy at Re go;generalize (L.getD i d0).zs=zs at *;refine af ?_;apply ag;refine aG (X:=Nat×List aA×AV) (λx=>⟨[(0,.sl L.length (aM L) .none),(3,x.2.2),(4,.int .i64 (i:Nat)),(5,.int .i64 (x.1:Nat))],x.2.1,U⟩)
  (λx=>x.1<=zs.length/\(∃G,x.2.1=J++G)/\TR h0 x.2.1 (dN ks ((zs.take x.1).flatMap fh)) x.2.2/\bM x.2.1 U) (λx=>zs.length-x.1) (0,J,tv) ?_ ?_ ?_
 ·exact⟨ahE _,⟨[],zS⟩,by simpa[dN] using RS,HO⟩
 ·refine ak [] [] zS zS gL fZ HO ?_;simp[GC]
 ·rintro⟨k,J1,vm⟩ ⟨g1,⟨G,hG⟩,g3,g4⟩;simp only at g1 hG g3 g4;have vq:J.length<=J1.length:=by rw[hG];simp
  have uq:=GA J1 _ vm g3;refine ae λK5 iT=>?_;apply ar;simp(disch:=omega)[gA,bI,hi];refine aV rfl (λhk=>?_) (λhk=>?_)
  ·simp  at hk;have bB:=tC zs k hk;have kX:dN ks ((zs.take (k+1)).flatMap fh)=dN (dN ks ((zs.take k).flatMap fh)) (fh (zs.getD k z0)):=by
    rw[aX zs k z0 hk,aid,sF];simp
   have gy:(dN ks ((zs.take k).flatMap fh)).length+(zs.getD k z0).ws.length<=1000000:=by
    have h1:=mS ((zs.take k).flatMap fh) ks;have h2:((zs.take k).flatMap fh).length+(fh (zs.getD k z0)).length<=(zs.flatMap fh).length:=by
     have h3:zs.flatMap fh=(zs.take k).flatMap fh++(fh (zs.getD k z0)++(zs.drop (k+1)).flatMap fh):=by
      conv=>lhs;rw[<-take_append_drop k zs,dF zs k z0 hk,aid,ahK]
     rw[h3];simp
    have h4:(fh (zs.getD k z0)).length=(zs.getD k z0).ws.length:=by simp[fh]
    omega
   generalize dN ks ((zs.take k).flatMap fh)=IG at *;generalize zs.getD k z0=z at *;obtain⟨f,ws⟩:=z;simp only at bB gy;apply aj;apply iT;clear iT;refine ae λK6 jZ=>?_;apply ag;apply ar;simp(disch:=omega)[gA,bI,hi,bB,fW,hk];have eu:bM (J1++[.cells (o8 ⟨f,ws⟩)]) U:=g4.snoc zS;have hg6:(J1++[aA.cells (o8 ⟨f,ws⟩)])[J1.length]?=some (.cells (o8 ⟨f,ws⟩)):=zS;have hT1:=g3.app [aA.cells (o8 ⟨f,ws⟩)];have hlx:(J1++[aA.cells (o8 ⟨f,ws⟩)]).length=J1.length+1:=zS;have hGx:∃G',J1++[aA.cells (o8 ⟨f,ws⟩)]=J++G':=⟨G++[aA.cells (o8 ⟨f,ws⟩)],by rw[hG,ahM]⟩
   rw[show aA.cells [.int .i64 f,.sl ws.length (dX ws) .none]=.cells (o8 ⟨f,ws⟩) from rfl];obtain⟨p6,hp6⟩:∃p,p=J1.length:=⟨_,rfl⟩
   rw[<-hp6] at hg6;simp only[<-hp6];generalize J1++[aA.cells (o8 ⟨f,ws⟩)]=J2 at *;obtain⟨G',Kb⟩:=hGx;have j8:=GA J2 _ vm hT1;refine aF ⟨[(0,.sl L.length (aM L) .none),(3,vm),(4,.int .i64 (i:Nat)),(5,.int .i64 (k:Nat)),(6,.ptr p6 0)],J2,U⟩ (ak [] [] zS zS (by show nb<=J2.length;omega) fZ eu (by simp[j8];omega)) ?_;refine Fy L f ws i k p6 IG vm h0 nb tb J2 U gy hT1 hg6 zO fZ eu zO _ λe J3 Vv w8 YL he=>?_;have RR:=GA J3 _ Vv YL;obtain⟨G3,w8⟩:=w8;have hl3:J2.length<=J3.length:=by rw[w8];simp
   refine jZ _ (dE λeG=>?_);refine aF ⟨[(0,.sl L.length (aM L) .none),(3,Vv),(4,.int .i64 (i:Nat)),(5,.int .i64 (k:Nat))],J3,U⟩ (ak [] [] zS zS (by show nb<=J3.length;omega) fZ eG he) ?_;refine aJ ?_;refine⟨(k+1,J3,Vv),⟨by show k+1<=_;omega,⟨G'++G3,by rw[w8,Kb,ahM]⟩,by simp only;rw[kX];exact YL,eG⟩,by show zs.length-(k+1)<zs.length-k;omega,?_⟩;refine ak [] [] zS zS (by show nb<=J3.length;omega) fZ eG ?_;simp[RR]
  ·simp  at hk;have Gw:k=zs.length:=zO;subst Gw;rw[ahO] at g3;apply aD;refine zQ ?_;refine go _ J1 vm ⟨G,hG⟩ g3 ?_;simp[uq]
attribute [-simp] getD_eq_getElem?_getD in
def Hy (L:List Dc)(hL:L.length<=1000000)(Re:(L.flatMap dy).length<=1000000)(hz:∀d∈L,d.zs.length<=1000000)(H:List aA)(T:au)(tg:Tag) :
  aq prog 85 [.sl L.length (aM L) tg] H T (λr H' T'=>(∃G,H'=H++G)/\T'=T/\TR H.length H' (dR L) r):=by
 refine aq.bR ?_;rw[uX];have GA:∀(J1:List aA)(IG:List Ky)(vm:AV),TR H.length J1 IG vm->Below J1.length T.length vm:=λJ1 IG vm h=>by
  rcases h with⟨_,rfl⟩|⟨i,rest,rfl,_,h3,_⟩
  ·simp
  ·simpa using(aht.1 h3).1
 refine ah 10 [100080,100083] Tryz.ntmps85 Tryz.func85 rfl (λ_ _=>Tryz.call85 _ _) zS (λHO=>?_);refine af ?_;refine af ?_;refine ae λK1 aN=>?_;refine af ?_;apply ag;refine aG (X:=Nat×List aA×AV) (λx=>⟨[(0,.sl L.length (aM L) .none),(3,x.2.2),(4,.int .i64 (x.1:Nat))],x.2.1,T⟩)
  (λx=>x.1<=L.length/\(∃G,x.2.1=H++G)/\TR H.length x.2.1 (dN [] ((L.take x.1).flatMap dy)) x.2.2/\bM x.2.1 T) (λx=>L.length-x.1) (0,H,.sl 0 [] .full) ?_ ?_ ?_
 ·exact⟨ahE _,⟨[],zS⟩,.inl ⟨by simp[dN],rfl⟩,HO⟩
 ·refine ak [] [] zS zS (ahv _) (ahv _) HO ?_;simp
 ·rintro⟨k,J1,vm⟩ ⟨g1,⟨G,hG⟩,g3,g4⟩;simp only at g1 hG g3 g4;have vq:H.length<=J1.length:=by rw[hG];simp
  have uq:=GA J1 _ vm g3;refine ae λK5 iT=>?_;refine af ?_;refine aV rfl (λhk=>?_) (λhk=>?_)
  ·simp  at hk;have kX:dN [] ((L.take (k+1)).flatMap dy)=dN (dN [] ((L.take k).flatMap dy)) (dy (L.getD k d0)):=by
    rw[aX L k d0 hk,aid,sF];simp
   have gy:(dN [] ((L.take k).flatMap dy)).length+(dy (L.getD k d0)).length<=1000000:=by
    have h1:=mS ((L.take k).flatMap dy) [];have h2:((L.take k).flatMap dy).length+(dy (L.getD k d0)).length<=(L.flatMap dy).length:=by
     have h3:L.flatMap dy=(L.take k).flatMap dy++(dy (L.getD k d0)++(L.drop (k+1)).flatMap dy):=by
      conv=>lhs;rw[<-take_append_drop k L,dF L k d0 hk,aid,ahK]
     rw[h3];simp
    rw[ais,aiH] at h1;omega
   have hzk:=hz _ (aQ L k d0 hk);generalize dN [] ((L.take k).flatMap dy)=IG at *;apply aj;apply iT;clear iT;refine ae λK6 jZ=>?_;apply ag;refine aF ⟨[(0,.sl L.length (aM L) .none),(3,vm),(4,.int .i64 (k:Nat))],J1,T⟩ (ak [] [] zS zS vq (ahv _) g4 (by simp[uq])) ?_;refine Fs L k hk IG vm H.length H.length T.length J1 T gy zO g3 vq (ahv _) g4 vq _ λe J3 Vv w8 YL he=>?_;have RR:=GA J3 _ Vv YL;obtain⟨G3,w8⟩:=w8;have hl3:J1.length<=J3.length:=by rw[w8];simp
   refine jZ _ (dE λeG=>?_);refine aF ⟨[(0,.sl L.length (aM L) .none),(3,Vv),(4,.int .i64 (k:Nat))],J3,T⟩ (ak [] [] zS zS (by show H.length<=J3.length;omega) (ahv _) eG he) ?_;refine aJ ?_;refine⟨(k+1,J3,Vv),⟨by show k+1<=_;omega,⟨G++G3,by rw[w8,hG,ahM]⟩,by simp only;rw[kX];exact YL,eG⟩,by show L.length-(k+1)<L.length-k;omega,?_⟩;refine ak [] [] zS zS (by show H.length<=J3.length;omega) (ahv _) eG ?_;simp[RR]
  ·simp  at hk;have Gw:k=L.length:=zO;subst Gw;rw[ahO] at g3;apply aD;refine zQ ?_;apply aN;clear aN;refine af ?_;refine aI ?_;exact⟨⟨G,hG⟩,g3⟩
end Go.Proofs.YtoejlmpbebjemaaGreat
namespace eN
open ie Go.Am
def lI (ws:List Wd)(w:Bs):List Int:=(ws.filter λx=>x.1==w).map (·.2)
def LK (ws:List Wd)(w:Bs)(i:Nat)(h:i<ws.length):lI (ws.take (i+1)) w=lI (ws.take i) w++(if (ws.getD i w0).1=w then [(ws.getD i w0).2] else []):=by
 unfold lI;rw[aX ws i w0 h,aij,ahJ]
 congr 1
 rw[List.filter_cons]
 by_cases h1:(ws.getD i w0).1=w
 ·rw[ahF h1,ahF (zU h1)];rfl
 ·rw[ahC h1,ahC (zU h1)];rfl
def r4 (f:Int)(d:Dc):List Nm:=(CM d.ns f).map λn=>(n,d.id)
def Mi (L:List Dc)(f:Int):fL L f=L.flatMap (r4 f):=by
 unfold fL r4 CM
 congr 1
 funext d
 rw[aiA];exact aib λx _=>rfl
end eN
namespace Go.Proofs.YtoejlmpbebjemaaGreat
open Go Go.Am ie eN
attribute [-simp] getD_eq_getElem?_getD in
theorem zu (d:Dc)(hs:pt d)(Nb:∀z∈d.zs,z.ws.length<=1000000)(f:Int)(w:Bs)(H:List aA)(T:au):aq Tryz.prog 86 [.agg (dY d),.int .i64 f,.str w] H T (Is (.sl (lI (pB d.zs f) w).length (ints (lI (pB d.zs f) w)) .none) H T):=by
 refine aq.bK ?_ zS;have c:=λH T=>Ho d hs Nb f H T;have qC:(pB d.zs f).length<=1000000:=by
  have key:∀zs:List Zn,(∀z∈zs,z.ws.length<=1000000)->(pB zs f).length<=1000000:=by
   intro zs
   induction zs with
   |nil=>intro _;simp[pB]
   |cons z r ih=>
    intro h;unfold pB
    split
    ·exact h z zS
    ·exact ih λy hy=>h y (by simp[hy])
  exact key _ Nb
 generalize pB d.zs f=ws at *;refine ah 10 [] Tryz.ntmps86 Tryz.func86 rfl (λ_ _=>Tryz.call86 _ _) zS (λHO=>?_);refine af ?_;have eu:bM (H++[.cells (dY d)]) T:=HO.snoc zS;refine af ?_;apply ar;refine zQ ?_;refine ai (c _ _) ?_;refine zQ ?_;refine ae λK1 aN=>?_;refine af ?_;apply ag;refine ki 7 0 1 [] zO zS ?_;refine aG (X:=Nat) (λi=>⟨[(2,.str w),(7,.sl (lI (ws.take i) w).length (ints (lI (ws.take i) w)) (.own T.length)),(8,.sl ws.length (dX ws) .none),(9,.int .i64 (i:Nat))],H++[.cells (dY d)],T++[((lI (ws.take i) w).length,1)]⟩)
  (λi=>i<=ws.length) (λi=>ws.length-i) 0 ?_ ?_ ?_
 ·exact ahE _
 ·refine ak [] [] ?_ ?_ ?_ ?_ (eu.fS zS) ?_
  all_goals simp[lI]
 ·intro i g1;refine ae λK2 ba=>?_;refine af ?_;refine aV rfl (λhk=>?_) (λhk=>?_)
  ·simp  at hk;obtain⟨a1,a2⟩:=BZ ws i hk;have gV:=LK ws w i hk;have CT:(lI (ws.take i) w).length<=1000000:=by
    unfold lI;rw[ahL];exact ahA (ahX _ _) (by rw[ahW];omega)
   generalize lI (ws.take i) w=out at *;generalize ws.getD i w0=x at *;obtain⟨xt,xp⟩:=x;simp only at a1 a2 gV;apply aj;refine zQ ?_;apply ba;clear ba;refine ae λK3 bH=>?_;apply ag
   by_cases h1:xt=w
   ·have b1:(xt==w)=true:=by simpa using h1
    rw[ahF h1] at gV;apply ar;simp(disch:=omega)[a1,a2,gG,hk,b1,h1];apply aC rfl;refine br λK hK=>?_;simp(disch:=omega)[a1,a2,gG,hk,cJ];apply hK;apply bH;clear bH;refine aJ ?_;refine⟨i+1,by show i+1<=_;omega,by show ws.length-(i+1)<ws.length-i;omega,?_⟩;refine ak [] [] ?_ ?_ ?_ ?_ (eu.fS zS) ?_
    all_goals simp[gV]
   ·have b1:(xt==w)=false:=by simpa using h1
    rw[ahC h1,ahS] at gV;apply ar;simp(disch:=omega)[a1,a2,gG,hk,b1,h1];apply aB rfl;apply aj;refine zQ ?_;apply bH;clear bH;refine aJ ?_;refine⟨i+1,by show i+1<=_;omega,by show ws.length-(i+1)<ws.length-i;omega,?_⟩;refine ak [] [] ?_ ?_ ?_ ?_ (eu.fS zS) ?_
    all_goals simp[gV]
  ·simp  at hk;have yV:i=ws.length:=zO;subst yV;rw[ahO];apply aD;refine zQ ?_;apply aN;clear aN;refine af ?_;exact bu zC
attribute [-simp] getD_eq_getElem?_getD in
theorem Io (L:List Dc)(f:Int)(hL:L.length<=1000000)(hs:∀d∈L,pt d)(hn:∀d∈L,d.ns.length<=1000000)(hi:(fL L f).length<=1000000)(H:List aA)(T:au)(tg:Tag):aq Tryz.prog 87 [.sl L.length (aM L) tg,.int .i64 f] H T (Is (.sl (dD (fL L f)).length (bG (dD (fL L f))) .none) H T):=by
 refine aq.bR ?_;refine aq.bK ?_ zS;rw[Mi] at *;refine ah 11 [] Tryz.ntmps87 Tryz.func87 rfl (λ_ _=>Tryz.call87 _ _) zS (λHO=>?_);refine af ?_;refine af ?_;refine ae λK1 aN=>?_;refine af ?_;apply ag;refine aG (X:=Nat) (λk=>⟨[(0,.sl L.length (aM L) .none),(1,.int .i64 f),(5,.sl (dD ((L.take k).flatMap (r4 f))).length (bG (dD ((L.take k).flatMap (r4 f)))) .none),(6,.int .i64 (k:Nat))],H,T⟩)
  (λk=>k<=L.length) (λk=>L.length-k) 0 ?_ ?_ ?_
 ·exact ahE _
 ·refine ak [] [] ?_ ?_ ?_ ?_ HO ?_
  all_goals simp[dD,EA]
 ·intro k h1;refine ae λK2 ba=>?_;refine af ?_;refine aV rfl (λhk=>?_) (λhk=>?_)
  ·simp  at hk;have gA:=(kF L k hk).1;have bB:=iw L k hk;have mY:(L.take (k+1)).flatMap (r4 f)=(L.take k).flatMap (r4 f)++(CM (L.getD k d0).ns f).map λn=>(n,(L.getD k d0).id):=by rw[aX L k d0 hk,aid];simp[r4]
   have kW:((L.take k).flatMap (r4 f)).length+(CM (L.getD k d0).ns f).length<=1000000:=by
    have h3:L.flatMap (r4 f)=(L.take k).flatMap (r4 f)++(r4 f (L.getD k d0)++(L.drop (k+1)).flatMap (r4 f)):=by
     conv=>lhs;rw[<-take_append_drop k L,dF L k d0 hk,aid,ahK]
    rw[h3,ahw,ahw] at hi;have h4:(r4 f (L.getD k d0)).length=(CM (L.getD k d0).ns f).length:=by simp[r4]
    omega
   have c0:=λH T=>LS (L.getD k d0) (hs _ (aQ L k d0 hk)) (ahA (hn _ (aQ L k d0 hk)) zO) f H T;generalize (L.take k).flatMap (r4 f)=pre at *;generalize CM (L.getD k d0).ns f=nl at *;generalize L.getD k d0=x at *;have eM:(nl.map λn=>(n,x.id)).length=nl.length:=zS;have hig:∀m,m<nl.length->(nl.map λn=>(n,x.id)).getD m n0=(nl.getD m 0,x.id):=λm hm=>by
    rw[ahs,aiD,ahs,ahu hm];rfl
   generalize nl.map (λn=>(n,x.id))=il at *;apply aj;refine zQ ?_;apply ba;clear ba;refine ae λK3 bH=>?_;apply ag;apply ar;simp(disch:=omega)[bB,bI,hk];refine ai (c0 _ _) ?_;refine zQ ?_;refine af ?_;apply ag;refine aG (X:=Nat) (λm=>⟨[(0,.sl L.length (aM L) .none),(1,.int .i64 f),(5,.sl (dD (pre++il.take m)).length (bG (dD (pre++il.take m))) .none),(6,.int .i64 (k:Nat)),(7,.sl nl.length (ints nl) .none),(8,.int .i64 (m:Nat))],H,T⟩)
    (λm=>m<=nl.length) (λm=>nl.length-m) 0 ?_ ?_ ?_
   ·exact ahE _
   ·exact wk HO
   ·intro m Ra;refine ae λK4 iQ=>?_;refine af ?_;refine aV rfl (λhm=>?_) (λhm=>?_)
    ·simp  at hm;have ae4:=aS hm;have NV:pre++il.take (m+1)=(pre++il.take m)++[(nl.getD m 0,x.id)]:=by rw[aX il m n0 zO,hig m hm,ahM]
     have ahl:(dD (pre++il.take m)).length<=1000000:=by rw[(eT _).length_eq,ahw,ahW];omega
     generalize pre++il.take m=pm at *;have GQ:dD (pre++il.take (m+1))=nW (nl.getD m 0,x.id) (dD pm):=by rw[NV];exact FV _ _
     generalize dD pm=d at *;generalize nl.getD m 0=nv at *;apply aj;refine zQ ?_;apply iQ;clear iQ;refine ae λK4 iQ=>?_;apply ag;refine bC [10,11] [0,0,0,0,0,0,0,0,0,0,0,1] [[0,1,2,3,4,5,6,7,8,9],[]] ?_;simp(disch:=omega)[ae4,gA,fI,bI,hk,hm];have R9:bM (H++[.cells (wA (nv,x.id))]) T:=HO.snoc zS;rw[show aA.cells [.int .i64 nv,.int .i64 x.id]=.cells (wA (nv,x.id)) from rfl];refine af ?_;refine ae λK5 iT=>?_;apply ag;refine aG (X:=Nat) (λn=>⟨[(0,.sl L.length (aM L) .none),(1,.int .i64 f),(5,.sl d.length (bG d) .none),(6,.int .i64 (k:Nat)),(7,.sl nl.length (ints nl) .none),(8,.int .i64 (m:Nat)),(9,.ptr H.length 0),(10,.int .i64 (n:Nat))],H++[.cells (wA (nv,x.id))],T⟩)
      (λn=>n<=d.length/\∀j,j<n->di (d.getD j n0) (nv,x.id)=true) (λn=>d.length-n) 0 ?_ ?_ ?_
     ·exact⟨ahE _,λj hj=>absurd hj (ahT _)⟩
     ·exact wk R9
     ·rintro n ⟨Bq,CR⟩;have go:(n<d.length->di (d.getD n n0) (nv,x.id)=false)->∀e,bA (H.length+1) T.length e [(0,.sl L.length (aM L) .none),(1,.int .i64 f),(5,.sl d.length (bG d) .none),(6,.int .i64 (k:Nat)),(7,.sl nl.length (ints nl) .none),(8,.int .i64 (m:Nat)),(9,.ptr H.length 0),(10,.int .i64 (n:Nat))]->
        K5 ⟨e,H++[.cells (wA (nv,x.id))],T⟩:=by
       intro zN e he;have Dm:=Ju (nv,x.id) d n Bq CR zN;refine iT _ (aF ⟨[(0,.sl L.length (aM L) .none),(1,.int .i64 f),(5,.sl d.length (bG d) .none),(6,.int .i64 (k:Nat)),(7,.sl nl.length (ints nl) .none),(8,.int .i64 (m:Nat)),(9,.ptr H.length 0),(10,.int .i64 (n:Nat))],H++[.cells (wA (nv,x.id))],T⟩ (ak [] [] zS zS zS zS R9 (zU he)) ?_);have ht:=Tt d n;have qE:=LW d n;have bp:(bG (d.take n)).length=n*2:=by rw[cE,ahW];omega
       have YA:(bG (d.drop n)).length=(d.length-n)*2:=by rw[cE,aii]
       have gV:(bG (d.drop n)).take ((d.length-n)*2)=bG (d.drop n):=by rw[<-YA,ahO]
       have zb:bG (d.take n)++.int .i64 nv::.int .i64 x.id::bG (d.drop n)=bG (nW (nv,x.id) d):=by rw[Dm];simp[bG]
       have hlen:n+1+(d.length-n)=(nW (nv,x.id) d).length:=by rw[Dm];simp;omega
       refine du [4,7,11] [0,0,0,0,0,0,0,1,0,0,0,2,3] [[],[],[]] aO zK zK λK hK=>?_;simp(disch:=omega)[dx,cE,ht,qE,bp,YA,gV];rw[zb,hlen];apply hK;apply iQ;clear iQ;refine aJ ?_;refine⟨m+1,by show m+1<=_;omega,by show nl.length-(m+1)<nl.length-m;omega,?_⟩;simp only[GQ];refine ak [.cells (wA (nv,x.id))] [((nW (nv,x.id) d).length*2,2)] ?_ ?_ ?_ ?_ HO ?_
       all_goals simp
      clear iT;refine ae λK6 jZ=>?_
      by_cases zN:n<d.length
      ·have U4:=fH d n zN;have fe:di (d.getD n n0) (nv,x.id)=true->∀j,j<n+1->di (d.getD j n0) (nv,x.id)=true:=λh j hj=>by
        rcases ahD j n with h3|h3
        ·exact CR j h3
        ·have:j=n:=zO;subst this;exact h
       have c:=vO (d.getD n n0) (nv,x.id) (H++[.cells (wA (nv,x.id))]) T;generalize d.getD n n0=y at *;have b4:decide ((n:Int)<d.length)=true:=ahx zO
       cases ha:di y (nv,x.id) with
       |true=>
        rw[ha] at c;refine bC [] [] [] ?_;simp(disch:=omega)[b4,zN,U4,cE];refine az (c) rfl ?_;refine zQ ?_;apply aC rfl;apply aj;refine zQ ?_;apply jZ;clear jZ;apply ag;refine aJ ?_;refine⟨n+1,⟨by show n+1<=_;omega,fe ha⟩,by show d.length-(n+1)<d.length-n;omega,?_⟩;exact wk R9
       |false=>
        rw[ha] at c;refine bC [] [] [] ?_;simp(disch:=omega)[b4,zN,U4,cE];refine az (c) rfl ?_;refine zQ ?_;apply aB rfl;apply aD;refine zQ ?_;refine go (λ_=>ha) _ ?_;simp
      ·have b4:decide ((n:Int)<d.length)=false:=ahy zO;refine bC [] [] [] ?_;simp(disch:=omega)[b4,zN];apply aB rfl;apply aD;refine zQ ?_;refine go (λh=>absurd h zN) _ ?_;simp
    ·simp  at hm;have e:m=nl.length:=zO;subst e;rw[show il.take nl.length=il by rw[<-eM,ahO],<-mY];apply aD;refine zQ ?_;apply bH;clear bH;refine aJ ?_;refine⟨k+1,by show k+1<=_;omega,by show L.length-(k+1)<L.length-k;omega,?_⟩;exact wk HO
  ·simp  at hk;have e:k=L.length:=zO;subst e;rw[ahO];apply aD;refine zQ ?_;apply aN;clear aN;refine af ?_;exact bu zC
end Go.Proofs.YtoejlmpbebjemaaGreat
namespace eN
open ie Go.Am Go.Proofs.YtoejlmpbebjemaaGreat
structure Rw where
 k:Ky
 pl:List Ps
 tg:Tag
abbrev rwC (r:Rw):List AV:=[.int .i64 r.k.1,.str r.k.2,.sl r.pl.length (bD r.pl) r.tg]
def nf (l:List Rw):List AV:=l.flatMap rwC
def Je:eE rwC 3:=λ_=>rfl
def qg (l:List Rw):(nf l).length=l.length*3:=cj Je l
def xO (R1 R2:List Rw)(r:Rw)(rest:List AV):nf (R1++r::R2)++rest=nf R1++(.int .i64 r.k.1::.str r.k.2::.sl r.pl.length (bD r.pl) r.tg::(nf R2++rest)):=by simp[nf]
def ZY (R1 R2:List Rw)(r:Rw)(rest:List AV):(nf (R1++r::R2)++rest).getD (R1.length*3) .top=.int .i64 r.k.1/\(nf (R1++r::R2)++rest).getD (R1.length*3+1) .top=.str r.k.2/\(nf (R1++r::R2)++rest).getD (R1.length*3+2) .top=.sl r.pl.length (bD r.pl) r.tg:=by
 rw[xO];have h:=qg R1;have key:∀(j:Nat)(X:List AV),(nf R1++X).getD (R1.length*3+j) .top=X.getD j .top:=λj X=>by
  rw[ahs,ahP zO,ahs];congr 2;omega
 exact⟨key 0 _,key 1 _,key 2 _⟩
def WT (R1 R2:List Rw)(r:Rw)(rest:List AV)(pl:List Ps)(tg:Tag):(nf (R1++r::R2)++rest).set (R1.length*3+2) (.sl pl.length (bD pl) tg)=nf (R1++⟨r.k,pl,tg⟩::R2)++rest:=by
 rw[xO,xO,ai2 _ _ (by rw[qg];omega),qg]
 congr 1
 rw[show R1.length*3+2-R1.length*3=2 by omega];rfl
def GH (r:Rw):List (Nat×(Nat×Nat)):=match r.tg with
 |.own tk=>[(tk,(r.pl.length*2,2))]
 |_=>[]
def jC (R:List Rw):List (Nat×(Nat×Nat)):=R.flatMap GH
def WE (r:Rw):Prop:=(r.tg=.full/\r.pl=[])\/∃tk,r.tg=.own tk
def BA (d:Dc)(k:Ky):List Int:=lI (pB d.zs k.1) k.2
def rZ (d:Dc)(k:Ky):List Ps:=if BA d k=[] then [] else [(d.id,BA d k)]
end eN
namespace Go.Proofs.YtoejlmpbebjemaaGreat
open Go Go.Am ie eN
attribute [-simp] getD_eq_getElem?_getD in
theorem PI (L:List Dc)(i:Nat)(hi:i<L.length)(hs:pt (L.getD i d0))(Nb:∀z∈(L.getD i d0).zs,z.ws.length<=1000000)(R1 R2:List Rw)(r:Rw)(hr:WE r)(zM:r.pl.length<=1000000)(H:List aA)(T:au)(nb tb b2 b6 td tc it n:Nat)(hn:n=R1.length+1+R2.length)
  (dv cv:AV) (B0:aA) (rest:List AV) (J:List aA) (U:au) (RU:List (Nat×(Nat×Nat))) (gL:nb<=J.length) (fZ:tb<=U.length) (zP:H.length<=it)
  (hJ:Has J ((b2,B0)::(b6,.cells [dv,.cV it 0 n,cv])::[(it,.cells (nf (R1++r::R2)++rest))])) (hU:Has U (RU++jC (R1++r::R2))) (Ni:gW H J) (Gj:gW T U) (htT:∀tk,r.tg=.own tk->T.length<=tk) (HO:bM J U) (Q:Exit->St->Prop)
  (go:∀(e:Env)(J':List aA)(U':au)(r':Rw),r'.k=r.k->r'.pl=r.pl++rZ (L.getD i d0) r.k->WE r'->(∀tk,r'.tg=.own tk->T.length<=tk)->Has J' ((b2,B0)::(b6,.cells [dv,.cV it 0 n,cv])::[(it,.cells (nf (R1++r'::R2)++rest))])->
   Has U' (RU++jC (R1++r'::R2))->gW H J'->gW T U'->J'.length=J.length->U.length<=U'.length->bA J'.length U'.length e [(0,.sl L.length (aM L) .none),(2,.ptr b2 0),(6,.ptr b6 0),(7,.int .i64 (i:Nat)),(8,.int .i64 (R1.length:Nat))]->Q .normal ⟨e,J',U'⟩) :
  AW ⟨Tryz.prog,135,12,nb,tb,[]⟩ (dZ [1,1,1,1,1,1,0,1,0,0,1,0,0,1,1,0,0,1,0,0] (Tryz.f36.body.getD .skip)) Q
   ⟨[(0,.sl L.length (aM L) .none),(2,.ptr b2 0),(6,.ptr b6 0),(7,.int .i64 (i:Nat)),(8,.int .i64 (R1.length:Nat))],J,U⟩:=by
 conv=>arg 2;whnf
 have bB:=iw L i hi;have Nz:=(kF L i hi).1;have c:=zu (L.getD i d0) hs Nb r.k.1 r.k.2 J U;have VG:rZ (L.getD i d0) r.k=if BA (L.getD i d0) r.k=[] then [] else [((L.getD i d0).id,BA (L.getD i d0) r.k)]:=rfl
 rw[show lI (pB (L.getD i d0).zs r.k.1) r.k.2=BA (L.getD i d0) r.k from rfl] at c;have ahc:(BA (L.getD i d0) r.k).length<=1000000:=by
  unfold BA lI;rw[ahL];refine ahA (ahX _ _) ?_;have key:∀zs:List Zn,(∀z∈zs,z.ws.length<=1000000)->(pB zs r.k.1).length<=1000000:=by
   intro zs
   induction zs with
   |nil=>intro _;simp[pB]
   |cons z q ih=>
    intro h;unfold pB
    split
    ·exact h z zS
    ·exact ih λy hy=>h y (by simp[hy])
  exact key _ Nb
 generalize BA (L.getD i d0) r.k=ps at *;generalize rZ (L.getD i d0) r.k=pr at *;generalize L.getD i d0=d at *;have g6:=hJ.get (i:=b6) (b:=.cells [dv,.cV it 0 n,cv]) zS;have git:=hJ.get (i:=it) (b:=.cells (nf (R1++r::R2)++rest)) zS;have l2:=hJ.lt (i:=b2) (b:=B0) zS;have e6:=aZ g6;have eit:=aZ git;have l6:=(aht.1 g6).1;have lit:=(aht.1 git).1;obtain⟨v0,v1,v2⟩:=ZY R1 R2 r rest;have Za:=WT R1 R2 r rest;have ag6:R1.length*3+3<=(nf (R1++r::R2)++rest).length:=by rw[ahw,qg];simp;omega
 have um:R1.length<n:=zO;generalize Nd:nf (R1++r::R2)++rest=vs at *;have d0':R1.length*3<vs.length:=zO;have d1':R1.length*3+1<vs.length:=zO;have d2':R1.length*3+2<vs.length:=zO;have e1:R1.length*3+1=1+R1.length*3:=zO;refine bC [] [] [] ?_;simp(disch:=omega)[e6,l6,eit,lit,bB,bI,hi,um,v0,v1,d0',d1'];refine az (c) rfl ?_;refine zQ ?_;refine aF ⟨[(0,.sl L.length (aM L) .none),(2,.ptr b2 0),(6,.ptr b6 0),(7,.int .i64 (i:Nat)),(8,.int .i64 (R1.length:Nat)),(9,.sl ps.length (ints ps) .none)],J,U⟩ (ak [] [] zS zS gL fZ HO (by simp[l2,l6])) ?_
 by_cases ue:ps=[]
 ·subst ue;refine af ?_;apply aB rfl;apply aj;refine go _ J U r rfl (by rw[VG,ahF rfl,ahS]) hr htT (by rw[Nd];exact hJ) hU Ni Gj rfl (ahv _) ?_;simp[l2,l6]
 have aeX:0<ps.length:=by
  rcases ah0 ps.length with h|h
  ·exact absurd (ah9.1 h) ue
  ·exact h
 have b1:decide ((0:Int)<(ps.length:Int))=true:=ahx zO;rw[ahC ue] at VG;apply ar;simp(disch:=omega)[b1,aeX];apply aC rfl;rcases hr with⟨y4,o9⟩|⟨tk,y4⟩
 ·rw[y4,o9] at v2;have Ye:=Za [(d.id,ps)] (.own U.length);rw[show bD [(d.id,ps)]=[.int .i64 d.id,.sl ps.length (ints ps) .none] from rfl,show [(d.id,ps)].length=1 from rfl] at Ye;refine du [17,20] [0,0,0,0,0,0,0,0,0,0,0,0,0,0,0,0,0,0,1,1,1] [[0,1,2],[]] aO zK zK λK hK=>?_;simp(disch:=omega)[e6,l6,eit,lit,Nz,bI,hi,um,v2,d2',tJ];rw[Ye];have jg:=Has.set (A:=[(b2,B0),(b6,.cells [dv,.cV it 0 n,cv])]) (B:=[]) (b:=.cells vs) hJ (.cells (nf (R1++⟨r.k,[(d.id,ps)],.own U.length⟩::R2)++rest));have CZ:Has (U++[(2,2)]) (RU++jC (R1++⟨r.k,[(d.id,ps)],.own U.length⟩::R2)):=by
   refine(hU.new (2,2)).perm ?_;have h1:jC (R1++⟨r.k,[(d.id,ps)],.own U.length⟩::R2)=jC R1++(U.length,(2,2))::jC R2:=by simp[jC,GH]
   have h2:jC (R1++r::R2)=jC R1++jC R2:=by simp[jC,GH,y4]
   rw[h1,h2];have h3:RU++(jC R1++(U.length,(2,2))::jC R2)=(RU++jC R1)++(U.length,(2,2))::jC R2:=zS;rw[h3];refine ajO.trans ?_;refine(aik _ _).symm.trans ?_;simp
  have hpU:=Gj.le;refine hK _ ?_;refine go _ _ _ ⟨r.k,[(d.id,ps)],.own U.length⟩ rfl (by rw[o9,VG];rfl) (.inr ⟨_,rfl⟩) (λtk h=>by injection h with h;omega) jg CZ (Ni.set zP _) (Gj.app _) zS zS ?_;simp[l2,l6]
 ·have gU:=hU.get (i:=tk) (b:=(r.pl.length*2,2)) (by simp[jC,GH,y4]);have eU:=aZ gU;have lU:=(aht.1 gU).1;rw[y4] at v2;have Ye:=Za (r.pl++[(d.id,ps)]) (.own tk);rw[show bD (r.pl++[(d.id,ps)])=bD r.pl++[.int .i64 d.id,.sl ps.length (ints ps) .none] by simp[bD],show (r.pl++[(d.id,ps)]).length=r.pl.length+1 by simp] at Ye;refine du [17,20] [0,0,0,0,0,0,0,0,0,0,0,0,0,0,0,0,0,0,1,1,1] [[0,1,2],[]] aO zK zK λK hK=>?_;simp(disch:=omega)[e6,l6,eit,lit,Nz,bI,hi,um,v2,d2',bc,eU,lU];rw[Ye];have jg:=Has.set (A:=[(b2,B0),(b6,.cells [dv,.cV it 0 n,cv])]) (B:=[]) (b:=.cells vs) hJ (.cells (nf (R1++⟨r.k,r.pl++[(d.id,ps)],.own tk⟩::R2)++rest));have CZ:Has (U.set tk ((r.pl.length+1)*2,2)) (RU++jC (R1++⟨r.k,r.pl++[(d.id,ps)],.own tk⟩::R2)):=by
   have h1:RU++jC (R1++⟨r.k,r.pl++[(d.id,ps)],.own tk⟩::R2)=(RU++jC R1)++(tk,((r.pl.length+1)*2,2))::jC R2:=by simp[jC,GH]
   have h2:RU++jC (R1++r::R2)=(RU++jC R1)++(tk,(r.pl.length*2,2))::jC R2:=by simp[jC,GH,y4]
   rw[h1];rw[h2] at hU;exact hU.set _
  have gV:=htT tk y4;refine hK _ ?_;refine go _ _ _ ⟨r.k,r.pl++[(d.id,ps)],.own tk⟩ rfl (by rw[VG]) (.inr ⟨_,rfl⟩) (λGf h=>by injection h with h;omega) jg CZ (Ni.set zP _) (Gj.set gV _) zS zS ?_;simp[l2,l6]
end Go.Proofs.YtoejlmpbebjemaaGreat
namespace eN
open ie Go.Am Go.Proofs.YtoejlmpbebjemaaGreat
def Tb (h0:Nat)(R:List Rw)(tv:AV)(TB:List (Nat×aA)):Prop:=(R=[]/\tv=.sl 0 [] .none/\TB=[])\/∃it rest,tv=.cV it 0 R.length/\TB=[(it,.cells (nf R++rest))]/\h0<=it
structure RI (H:List aA)(T:au)(b2 b6:Nat)(RU:List (Nat×(Nat×Nat)))(dv tv cv:AV)(B0:aA)(R:List Rw)(J:List aA)(U:au):Prop where
 hJ:∃TB,Tb H.length R tv TB/\Has J ((b2,B0)::(b6,.cells [dv,tv,cv])::TB)
 hU:Has U (RU++jC R)
 hr:∀r∈R,WE r/\∀tk,r.tg=.own tk->T.length<=tk
 pJ:gW H J
 pU:gW T U
abbrev rw0:Rw:=⟨k0,[],.full⟩
def kp (R:List Rw):List (Ky×List Ps):=R.map λr=>(r.k,r.pl)
def Ac (d:Dc)(x:Ky×List Ps):Ky×List Ps:=(x.1,x.2++rZ d x.1)
def uC (R:List Rw):(kp R).length=R.length:=by simp[kp]
def gw (L:List Dc)(c:Nat):List Cl:=(List.range c).flatMap fun(c:Nat)=>nY L (5+(c:Int))
def oD (L:List Dc)(c:Nat):gw L (c+1)=gw L c++nY L (5+(c:Int)):=by unfold gw;rw[aj3,aid];simp
theorem ye (L:List Dc):∀c,(gw L c).length<=c
 |0=>by simp[gw]
 |c+1=>by
  have:=ye L c;have h2:(nY L (5+(c:Int))).length<=1:=by unfold nY;split<;>simp
  rw[oD,ahw];omega
end eN
namespace Go.Proofs.YtoejlmpbebjemaaGreat
open Go Go.Am ie eN
attribute [-simp] getD_eq_getElem?_getD in
def LD (L:List Dc)(i:Nat)(hi:i<L.length)(hs:pt (L.getD i d0))(Nb:∀z∈(L.getD i d0).zs,z.ws.length<=1000000)(H:List aA)(T:au)(nb tb b2 b6 td tc:Nat)(dv tv cv:AV)(B0:aA)(RU:List (Nat×(Nat×Nat)))(R:List Rw)(J:List aA)(U:au)(gL:nb<=J.length)(fZ:tb<=U.length)
  (Ka:RI H T b2 b6 RU dv tv cv B0 R J U) (zM:∀x∈kp R,x.2.length<=1000000) (hRl:R.length<=1000000) (HO:bM J U) (Q:Exit->St->Prop)
  (go:∀(e:Env)(J':List aA)(U':au)(R':List Rw),RI H T b2 b6 RU dv tv cv B0 R' J' U'->kp R'=(kp R).map (Ac (L.getD i d0))->J'.length=J.length->U.length<=U'.length->
   bA J'.length U'.length e [(0,.sl L.length (aM L) .none),(2,.ptr b2 0),(6,.ptr b6 0),(7,.int .i64 (i:Nat))]->Q .normal ⟨e,J',U'⟩) :
  AW ⟨Tryz.prog,135,12,nb,tb,[]⟩ (dZ [1,1,1,1,1,1,0,1,0,0,1,0,0,1] (Tryz.f36.body.getD .skip)) Q
   ⟨[(0,.sl L.length (aM L) .none),(2,.ptr b2 0),(6,.ptr b6 0),(7,.int .i64 (i:Nat))],J,U⟩:=by
 conv=>arg 2;whnf
 have hb:∀{R' J' U'},RI H T b2 b6 RU dv tv cv B0 R' J' U'->b2<J'.length/\b6<J'.length:=λh=>by
  obtain⟨TB,_,h2⟩:=h.hJ;exact⟨h2.lt (b:=B0) zS,h2.lt (b:=.cells [dv,tv,cv]) zS⟩
 obtain⟨m2,m6⟩:=hb Ka;refine af ?_;apply ag;refine aG (X:=Nat×List aA×au×List Rw) (λx=>⟨[(0,.sl L.length (aM L) .none),(2,.ptr b2 0),(6,.ptr b6 0),(7,.int .i64 (i:Nat)),(8,.int .i64 (x.1:Nat))],x.2.1,x.2.2.1⟩)
  (λx=>x.1<=R.length/\RI H T b2 b6 RU dv tv cv B0 x.2.2.2 x.2.1 x.2.2.1/\kp x.2.2.2=((kp R).take x.1).map (Ac (L.getD i d0))++(kp R).drop x.1/\x.2.1.length=J.length/\U.length<=x.2.2.1.length/\bM x.2.1 x.2.2.1) (λx=>R.length-x.1) (0,J,U,R) ?_ ?_ ?_
 ·exact⟨ahE _,Ka,zS,rfl,ahv _,HO⟩
 ·refine ak [] [] zS zS gL fZ HO ?_;simp[m2,m6]
 ·rintro⟨kk,J1,U1,R3⟩ ⟨g1,g2,g3,g4,g5,g6⟩;simp only at g1 g2 g3 g4 g5 g6;obtain⟨n2,n6⟩:=hb g2;have hlen:R3.length=R.length:=by
   have:=congrArg List.length g3;rw[uC,ahw,ahL,ahW,aii,uC] at this;omega
  obtain⟨TB,VR,Rn⟩:=g2.hJ;have e6:=aZ (Rn.get (i:=b6) (b:=.cells [dv,tv,cv]) zS);refine ae λK5 iT=>?_;rcases VR with⟨h1,Nv,_⟩|⟨it,rest,Nv,afy,zP⟩
  ·subst Nv;have hR0:R.length=0:=by rw[<-hlen,h1];rfl
   have JX:kk=0:=zO;subst JX;apply ar;simp(disch:=omega)[e6,n6];apply aB rfl;apply aD;refine zQ ?_;refine go _ J1 U1 R3 g2 (by rw[h1,ah9.1 hR0];rfl) g4 g5 ?_;simp[n2,n6]
  ·rw[hlen] at Nv;subst Nv;subst afy;apply ar;simp(disch:=omega)[e6,n6];refine aV rfl (λhk=>?_) (λhk=>?_)
   ·simp  at hk;obtain⟨R1,r,R2,hR3,hR1⟩:∃R1 r R2,R3=R1++r::R2/\R1.length=kk:=⟨R3.take kk,R3.getD kk rw0,R3.drop (kk+1),by rw[<-dF R3 kk rw0 zO,ah1],by rw[ahW];omega⟩
    subst hR1;subst hR3;have gy:R1.length<(kp R).length:=by rw[uC];exact hk
    have Gu:kp R1++(r.k,r.pl)::kp R2=((kp R).take R1.length).map (Ac (L.getD i d0))++(kp R).drop R1.length:=by rw[<-g3];simp[kp]
    obtain⟨hA,hB⟩:=List.append_inj Gu (by rw[uC,ahL,ahW];omega);rw[dF (kp R) R1.length (k0,[]) gy] at hB;obtain⟨hx,Gk⟩:=List.cons.inj hB;have gO:(r.k,r.pl)∈kp R:=by rw[hx];exact aQ (kp R) R1.length (k0,[]) gy
    have hn:R.length=R1.length+1+R2.length:=by rw[<-hlen];simp;omega
    obtain⟨y4,o9⟩:=g2.hr r zS;apply aj;apply iT;clear iT;refine ae λK6 jZ=>?_;apply ag;refine aF ⟨[(0,.sl L.length (aM L) .none),(2,.ptr b2 0),(6,.ptr b6 0),(7,.int .i64 (i:Nat)),(8,.int .i64 (R1.length:Nat))],J1,U1⟩ (ak [] [] zS zS (by show nb<=J1.length;omega) (by show tb<=U1.length;omega) g6 (by simp[n2,n6])) ?_;refine PI L i hi hs Nb R1 R2 r y4 (zM _ gO) H T nb tb b2 b6 td tc it R.length hn dv cv B0 rest J1 U1 RU zO zO zP Rn g2.hU g2.pJ g2.pU o9 g6 _ λe J2 U2 r' q1 q2 q3 q4 q5 q6 q7 q8 q9 q10 he=>?_;have p2:b2<J2.length:=zO;have p6:b6<J2.length:=zO;refine jZ _ (dE λeG=>?_);refine aF ⟨[(0,.sl L.length (aM L) .none),(2,.ptr b2 0),(6,.ptr b6 0),(7,.int .i64 (i:Nat)),(8,.int .i64 (R1.length:Nat))],J2,U2⟩ (ak [] [] zS zS (by show nb<=J2.length;omega) (by show tb<=U2.length;omega) eG he) ?_;refine aJ ?_;have aan:R.length=(R1++r'::R2).length:=by rw[hn];simp;omega
    refine⟨(R1.length+1,J2,U2,R1++r'::R2),⟨by show R1.length+1<=_;omega,⟨⟨_,.inr ⟨it,rest,by rw[<-aan],rfl,zP⟩,q5⟩,q6,λx CN=>?_,q7,q8⟩,?_,by show J2.length=_;omega,by show _<=U2.length;omega,eG⟩,by show R.length-(R1.length+1)<R.length-R1.length;omega,?_⟩
    ·rcases ahI.1 CN with CN|CN
     ·exact g2.hr x (by simp[CN])
     ·rcases ah4.1 CN with rfl|CN
      ·exact⟨q3,q4⟩
      ·exact g2.hr x (by simp[CN])
    ·show kp (R1++r'::R2)=((kp R).take (R1.length+1)).map (Ac (L.getD i d0))++(kp R).drop (R1.length+1);rw[aX (kp R) R1.length (k0,[]) gy,ahJ,<-hA,<-Gk,<-hx];simp[kp,Ac,q1,q2]
    ·refine ak [] [] zS zS (by show nb<=J2.length;omega) (by show tb<=U2.length;omega) eG ?_;simp[p2,p6]
   ·simp  at hk;have Gw:kk=R.length:=zO;subst Gw;apply aD;refine zQ ?_;refine go _ J1 U1 R3 g2 ?_ g4 g5 ?_
    ·rw[g3,<-uC R,ahO,aiB,ahS]
    ·simp[n2,n6]
end Go.Proofs.YtoejlmpbebjemaaGreat
namespace eN
open ie Go.Am Go.Proofs.YtoejlmpbebjemaaGreat
theorem xP (k:Ky):∀l:List Dc,(l.flatMap λd=>rZ d k).length<=l.length
 |[]=>by simp
 |d::l=>by
  have:=xP k l;have h2:(rZ d k).length<=1:=by unfold rZ;split<;>simp
  rw[ahK,ahw,ahY];omega
end eN
namespace Go.Proofs.YtoejlmpbebjemaaGreat
open Go Go.Am ie eN
attribute [-simp] getD_eq_getElem?_getD in
def Ii (L:List Dc)(hL:L.length<=1000000)(hs:∀d∈L,pt d)(Nb:∀d∈L,∀z∈d.zs,z.ws.length<=1000000)(H:List aA)(T:au)(nb tb b2 b6 td tc:Nat)(tv cv:AV)(B0:aA)(ks:List Ky)(R:List Rw)(J:List aA)(U:au)(gL:nb<=J.length)(fZ:tb<=U.length)
  (Ka:RI H T b2 b6 [(td,(0,1)),(tc,(0,2))] (.sl 0 [] (.own td)) tv cv B0 R J U) (JX:kp R=ks.map λk=>(k,[])) (gy:ks.length<=1000000) (Gi:H.length<=b6) (Nw:T.length<=td) (HO:bM J U) (Q:Exit->St->Prop)
  (go:∀(e:Env)(J':List aA)(U':au)(R':List Rw),RI H T b2 b6 [(td,(L.length,1)),(tc,(0,2))] (.sl L.length (ints (L.map (·.id))) (.own td)) tv cv B0 R' J' U'->kp R'=ks.map (λk=>(k,L.flatMap λd=>rZ d k))->J'.length=J.length->U.length<=U'.length->
   bA J'.length U'.length e [(0,.sl L.length (aM L) .none),(2,.ptr b2 0),(6,.ptr b6 0)]->Q .normal ⟨e,J',U'⟩) :
  AW ⟨Tryz.prog,135,12,nb,tb,[]⟩ (dZ [1,1,1,1,1,1,0] (Tryz.f36.body.getD .skip)) Q
   ⟨[(0,.sl L.length (aM L) .none),(2,.ptr b2 0),(6,.ptr b6 0)],J,U⟩:=by
 conv=>arg 2;whnf
 have hb:∀{RU dv R' J' U'},RI H T b2 b6 RU dv tv cv B0 R' J' U'->b2<J'.length/\b6<J'.length:=λ{RU dv R' J' U'} h=>by
  obtain⟨TB,_,h2⟩:=h.hJ;exact⟨h2.lt (b:=B0) zS,h2.lt (b:=.cells [dv,tv,cv]) zS⟩
 obtain⟨m2,m6⟩:=hb Ka;refine af ?_;apply ag;refine aG (X:=Nat×List aA×au×List Rw) (λx=>⟨[(0,.sl L.length (aM L) .none),(2,.ptr b2 0),(6,.ptr b6 0),(7,.int .i64 (x.1:Nat))],x.2.1,x.2.2.1⟩)
  (λx=>x.1<=L.length/\RI H T b2 b6 [(td,(x.1,1)),(tc,(0,2))] (.sl x.1 (ints ((L.take x.1).map (·.id))) (.own td)) tv cv B0 x.2.2.2 x.2.1 x.2.2.1/\kp x.2.2.2=ks.map (λk=>(k,(L.take x.1).flatMap λd=>rZ d k))/\x.2.1.length=J.length/\U.length<=x.2.2.1.length/\bM x.2.1 x.2.2.1) (λx=>L.length-x.1) (0,J,U,R) ?_ ?_ ?_
 ·exact⟨ahE _,by simpa using Ka,by simpa using JX,rfl,ahv _,HO⟩
 ·refine ak [] [] zS zS gL fZ HO ?_;simp[m2,m6]
 ·rintro⟨i,J1,U1,R3⟩ ⟨g1,g2,g3,g4,g5,g6⟩;simp only at g1 g2 g3 g4 g5 g6;obtain⟨n2,n6⟩:=hb g2;refine ae λK2 ba=>?_;refine af ?_;refine aV rfl (λhk=>?_) (λhk=>?_)
  ·simp  at hk;have Nz:=(kF L i hk).1;obtain⟨TB,VR,Rn⟩:=g2.hJ;have e6:=aZ (Rn.get (i:=b6) (b:=.cells [.sl i (ints ((L.take i).map (·.id))) (.own td),tv,cv]) zS);have gU:=g2.hU.get (i:=td) (b:=(i,1)) zS;have eU:=aZ gU;have lU:=(aht.1 gU).1;have gV:ints ((L.take i).map (·.id))++[.int .i64 (L.getD i d0).id]=ints ((L.take (i+1)).map (·.id)):=by rw[aX L i d0 hk,ahJ,cJ];rfl
   have Wn:((L.take i).map (·.id)).length=i:=by rw[ahL,ahW];omega
   generalize (L.take i).map (·.id)=ids at *;generalize aaq:(L.take (i+1)).map (·.id)=uu at *;generalize (L.getD i d0).id=xid at *;have eM:(L.take i).length=i:=by rw[ahW];omega
   have RN:∀k,(L.take (i+1)).flatMap (λd=>rZ d k)=(L.take i).flatMap (λd=>rZ d k)++rZ (L.getD i d0) k:=λk=>by rw[aX L i d0 hk,aid];simp
   apply aj;apply ba;clear ba;refine ae λK6 jZ=>?_;apply ag;refine bC [8,10] [0,0,0,0,0,0,0,0,0,1,1] [[],[]] ?_;simp(disch:=omega)[e6,n6,Nz,bI,hk,eU,lU,Wn];refine dE λeG=>?_;simp only at eG;have jg:=Has.set (A:=[(b2,B0)]) (B:=TB) (b:=.cells [.sl i (ints ids) (.own td),tv,cv]) Rn (.cells [.sl (i+1) (ints uu) (.own td),tv,cv]);have CZ:=Has.set (A:=[]) (B:=(tc,(0,2))::jC R3) (b:=(i,1)) (zU g2.hU) (i+1,1);rw[<-gV] at jg;have Ww:RI H T b2 b6 [(td,(i+1,1)),(tc,(0,2))] (.sl (i+1) (ints uu) (.own td)) tv cv B0 R3 (J1.set b6 (.cells [.sl (i+1) (ints ids++[.int .i64 xid]) (.own td),tv,cv])) (U1.set td (i+1,1)):=⟨⟨TB,VR,by rw[<-gV];exact jg⟩,by simpa using CZ,g2.hr,g2.pJ.set Gi _,g2.pU.set Nw _⟩
   have jT:(J1.set b6 (.cells [.sl (i+1) (ints ids++[.int .i64 xid]) (.own td),tv,cv])).length=J1.length:=zS;have hlU:(U1.set td (i+1,1)).length=U1.length:=zS;generalize J1.set b6 (.cells [.sl (i+1) (ints ids++[.int .i64 xid]) (.own td),tv,cv])=J2 at *;generalize U1.set td (i+1,1)=U2 at *;have p2:b2<J2.length:=zO;have p6:b6<J2.length:=zO;refine aF ⟨[(0,.sl L.length (aM L) .none),(2,.ptr b2 0),(6,.ptr b6 0),(7,.int .i64 (i:Nat))],J2,U2⟩ (ak [] [] zS zS (by show nb<=J2.length;omega) (by show tb<=U2.length;omega) eG (by simp[p2,p6])) ?_;refine LD L i hk (hs _ (aQ L i d0 hk)) (Nb _ (aQ L i d0 hk)) H T nb tb b2 b6 td tc _ tv cv B0 _ R3 J2 U2 zO zO Ww (λx hx=>?_) (by rw[<-uC,g3,ahL];exact gy) eG _ λe J3 U3 R4 q1 q2 q3 q4 he=>?_
   ·rw[g3] at hx;obtain⟨k,_,rfl⟩:=ahz.1 hx;have:=xP k (L.take i);simp only;omega
   obtain⟨r2,r6⟩:=hb q1;refine jZ _ (dE λz8=>?_);refine aF ⟨[(0,.sl L.length (aM L) .none),(2,.ptr b2 0),(6,.ptr b6 0),(7,.int .i64 (i:Nat))],J3,U3⟩ (ak [] [] zS zS (by show nb<=J3.length;omega) (by show tb<=U3.length;omega) z8 he) ?_;refine aJ ?_;refine⟨(i+1,J3,U3,R4),⟨by show i+1<=_;omega,by simp only[aaq];exact q1,?_,by show J3.length=_;omega,by show _<=U3.length;omega,z8⟩,by show L.length-(i+1)<L.length-i;omega,?_⟩
   ·show kp R4=_;rw[q2,g3,aiA];exact aib λk _=>by simp only[Function.comp,Ac];rw[RN]
   ·refine ak [] [] zS zS (by show nb<=J3.length;omega) (by show tb<=U3.length;omega) z8 ?_;simp[r2,r6]
  ·simp  at hk;have yV:i=L.length:=zO;subst yV;rw[ahO] at g2 g3;apply aD;refine zQ ?_;refine go _ J1 U1 R3 g2 g3 g4 g5 ?_;simp[n2,n6]
attribute [-simp] getD_eq_getElem?_getD in
def Ip (L:List Dc)(hL:L.length<=1000000)(hs:∀d∈L,pt d)(hn:∀d∈L,d.ns.length<=1000000)(hi:∀f,(fL L f).length<=1000000)(H:List aA)(T:au)(nb tb b2 b6 td tc:Nat)(dv tv:AV)(B0:aA)(R:List Rw)(J:List aA)(U:au)(gL:nb<=J.length)(fZ:tb<=U.length)
  (Ka:RI H T b2 b6 [(td,(L.length,1)),(tc,(0,2))] dv tv (.sl 0 [] (.own tc)) B0 R J U) (Gi:H.length<=b6) (htc:T.length<=tc) (HO:bM J U) (Q:Exit->St->Prop)
  (go:∀(e:Env)(J':List aA)(U':au),RI H T b2 b6 [(td,(L.length,1)),(tc,((gw L 3).length*2,2))] dv tv (.sl (gw L 3).length (dP (gw L 3)) (.own tc)) B0 R J' U'->J'.length=J.length->U.length<=U'.length->
   bA J'.length U'.length e [(2,.ptr b2 0),(6,.ptr b6 0)]->Q .normal ⟨e,J',U'⟩) :
  AW ⟨Tryz.prog,135,12,nb,tb,[]⟩ (dZ [1,1,1,1,1,1,1,0] (Tryz.f36.body.getD .skip)) Q
   ⟨[(0,.sl L.length (aM L) .none),(2,.ptr b2 0),(6,.ptr b6 0)],J,U⟩:=by
 conv=>arg 2;whnf
 have hb:∀{RU cv J' U'},RI H T b2 b6 RU dv tv cv B0 R J' U'->b2<J'.length/\b6<J'.length:=λ{RU cv J' U'} h=>by
  obtain⟨TB,_,h2⟩:=h.hJ;exact⟨h2.lt (b:=B0) zS,h2.lt (b:=.cells [dv,tv,cv]) zS⟩
 obtain⟨m2,m6⟩:=hb Ka;refine af ?_;apply ag;refine aG (X:=Nat×List aA×au) (λx=>⟨[(0,.sl L.length (aM L) .none),(2,.ptr b2 0),(6,.ptr b6 0),(10,.int .i64 (5+(x.1:Nat)))],x.2.1,x.2.2⟩)
  (λx=>x.1<=3/\RI H T b2 b6 [(td,(L.length,1)),(tc,((gw L x.1).length*2,2))] dv tv (.sl (gw L x.1).length (dP (gw L x.1)) (.own tc)) B0 R x.2.1 x.2.2/\x.2.1.length=J.length/\U.length<=x.2.2.length/\bM x.2.1 x.2.2) (λx=>3-x.1) (0,J,U) ?_ ?_ ?_
 ·exact⟨ahE _,by simpa[gw,Fg] using Ka,rfl,ahv _,HO⟩
 ·refine ak [] [] zS zS gL fZ HO ?_;simp[m2,m6]
 ·rintro⟨c,J1,U1⟩ ⟨g1,g2,g4,g5,g6⟩;simp only at g1 g2 g4 g5 g6;obtain⟨n2,n6⟩:=hb g2;have cc:=λH T=>Io L (5+(c:Int)) hL hs hn (hi _) H T .none;have y7:=oD L c;have gg:=ye L c;have RO:nY L (5+(c:Int))=if fL L (5+(c:Int))=[] then [] else [⟨5+(c:Int),dD (fL L (5+(c:Int)))⟩]:=rfl
  have zM:(dD (fL L (5+(c:Int)))).length=(fL L (5+(c:Int))).length:=(eT _).length_eq;have hi5:=hi (5+(c:Int));have w7:-9223372036854775808<=5+(c:Int)+1/\5+(c:Int)+1<=9223372036854775807:=zO;refine ae λK2 ba=>?_;rcases ahD c 3 with h3|h3
  ·have b1:decide (5+(c:Int)<=7)=true:=ahx zO;have n1:5+(c:Int)<=7:=zO;apply ar;simp(disch:=omega)[b1,n1];apply aC rfl;apply aj;apply ba;clear ba;refine ae λK6 jZ=>?_;apply ag;apply ar;refine zQ ?_;refine ai (cc _ _) ?_;refine zQ ?_
   by_cases he:fL L (5+(c:Int))=[]
   ·rw[ahF he] at RO;rw[RO,ahS] at y7;have hz:(dD (fL L (5+(c:Int)))).length=0:=by rw[zM,he];rfl
    apply ar;simp(disch:=omega)[hz];apply aB rfl;apply aj;apply jZ;clear jZ;refine aJ ?_;refine⟨(c+1,J1,U1),⟨by show c+1<=3;omega,by simp only;rw[y7];exact g2,g4,g5,g6⟩,by show 3-(c+1)<3-c;omega,?_⟩;refine ak [] [] zS zS (by show nb<=J1.length;omega) (by show tb<=U1.length;omega) g6 ?_;simp[n2,n6];omega
   ·rw[ahC he] at RO;have hp0:0<(fL L (5+(c:Int))).length:=by
     rcases ah0 (fL L (5+(c:Int))).length with h|h
     ·exact absurd (ah9.1 h) he
     ·exact h
    generalize dD (fL L (5+(c:Int)))=il at *;have b2':decide ((0:Int)<(il.length:Int))=true:=ahx zO;have n2':0<il.length:=zO;obtain⟨TB,VR,Rn⟩:=g2.hJ;have e6:=aZ (Rn.get (i:=b6) (b:=.cells [dv,tv,.sl (gw L c).length (dP (gw L c)) (.own tc)]) zS);have gU:=g2.hU.get (i:=tc) (b:=((gw L c).length*2,2)) zS;have eU:=aZ gU;have lU:=(aht.1 gU).1;have C7:=MR (gw L c) ⟨5+(c:Int),il⟩;rw[RO] at y7;simp only at C7;rw[<-y7] at C7;have wh:(gw L (c+1)).length=(gw L c).length+1:=by rw[y7];simp
    apply ar;simp(disch:=omega)[b2',n2'];apply aC rfl;refine br λK hK=>?_;simp(disch:=omega)[e6,n6,eU,lU,fl];apply hK;have jg:=Has.set (A:=[(b2,B0)]) (B:=TB) (b:=.cells [dv,tv,.sl (gw L c).length (dP (gw L c)) (.own tc)]) Rn (.cells [dv,tv,.sl (gw L (c+1)).length (dP (gw L (c+1))) (.own tc)]);have CZ:=Has.set (A:=[(td,(L.length,1))]) (B:=jC R) (b:=((gw L c).length*2,2)) (zU g2.hU) ((gw L (c+1)).length*2,2);rw[<-C7,wh] at jg;rw[wh] at CZ;have Ww:RI H T b2 b6 [(td,(L.length,1)),(tc,((gw L (c+1)).length*2,2))] dv tv (.sl (gw L (c+1)).length (dP (gw L (c+1))) (.own tc)) B0 R (J1.set b6 (.cells [dv,tv,.sl ((gw L c).length+1) (dP (gw L c)++[.int .i64 (5+(c:Int)),.sl il.length (bG il) .none]) (.own tc)])) (U1.set tc (((gw L c).length+1)*2,2)):=⟨⟨TB,VR,by rw[wh,<-C7];exact jg⟩,by rw[wh];simpa using CZ,g2.hr,g2.pJ.set Gi _,g2.pU.set htc _⟩
    have jT:(J1.set b6 (.cells [dv,tv,.sl ((gw L c).length+1) (dP (gw L c)++[.int .i64 (5+(c:Int)),.sl il.length (bG il) .none]) (.own tc)])).length=J1.length:=zS;have hlU:(U1.set tc (((gw L c).length+1)*2,2)).length=U1.length:=zS;refine jZ _ (dE λeG=>?_);simp only at eG;generalize J1.set b6 (.cells [dv,tv,.sl ((gw L c).length+1) (dP (gw L c)++[.int .i64 (5+(c:Int)),.sl il.length (bG il) .none]) (.own tc)])=J2 at *;generalize U1.set tc (((gw L c).length+1)*2,2)=U2 at *;have p2:b2<J2.length:=zO;have p6:b6<J2.length:=zO;refine aJ ?_;refine⟨(c+1,J2,U2),⟨by show c+1<=3;omega,Ww,by show J2.length=_;omega,by show _<=U2.length;omega,eG⟩,by show 3-(c+1)<3-c;omega,?_⟩;refine ak [] [] zS zS (by show nb<=J2.length;omega) (by show tb<=U2.length;omega) eG ?_;simp[p2,p6];omega
  ·have hc3:c=3:=zO;subst hc3;refine af ?_;apply aB rfl;apply aD;refine zQ ?_;refine go _ J1 U1 g2 g4 g5 ?_;simp[n2,n6]
end Go.Proofs.YtoejlmpbebjemaaGreat
namespace eN
open ie Go.Am Go.Proofs.YtoejlmpbebjemaaGreat
theorem UK {zs:List Zn}(h:∀k,k<zs.length->nm zs k=true):∀j i,i<j->j<zs.length->(zs.getD i z0).f<(zs.getD j z0).f
 |0,i,h1,_=>absurd h1 (ahT _)
 |j+1,i,h1,h2=>by
  have h3:=(fP (h (j+1) h2)).1;unfold iO at h3;rw[ahC zO,ai1] at h3;rcases ahD i j with h4|h4
  ·have:=UK h j i h4 zO;omega
  ·have:i=j:=zO;subst this;exact h3
theorem AL (k:Ky):∀zs:List Zn,(∀z∈zs,z.f≠k.1)->(eW zs).filter (λw=>w.1==k)=[]
 |[],_=>rfl
 |z::r,h=>by
  have e:eW (z::r)=pw z.f z.ws++eW r:=by simp[eW]
  rw[e,aij,AL k r λy hy=>h y (by simp[hy]),ahS,ai9];intro w hw;obtain⟨x,_,rfl⟩:=ahz.1 hw;have:=h z zS;simp only[ajl];intro e;exact this (by rw[<-e])
def O4 (f:Int)(ws:List Wd)(w:Bs):((pw f ws).filter λx=>x.1==(f,w)).map (·.2)=lI ws w:=by
 unfold pw lI;rw[List.filter_map,aiA]
 congr 1
 apply aj7;intro x _;rw[aj2];simp
theorem Es (k:Ky):∀zs:List Zn,(zs.Pairwise λx y=>x.f≠y.f)->((eW zs).filter λw=>w.1==k).map (·.2)=lI (pB zs k.1) k.2
 |[],_=>rfl
 |z::r,h=>by
  have ⟨h1,h2⟩:=ait.1 h;have e:eW (z::r)=pw z.f z.ws++eW r:=by simp[eW]
  rw[e,aij,ahJ];unfold pB
  by_cases hz:z.f=k.1
  ·rw[ahF hz,AL k r λy hy e=>h1 y hy (by rw[hz,e]),aju,ahS];have:=O4 z.f z.ws k.2;rw[hz] at this ⊢;exact this
  ·rw[ahC hz,<-Es k r h2];have:(pw z.f z.ws).filter (λw=>w.1==k)=[]:=by
    rw[ai9];intro w hw;obtain⟨x,_,rfl⟩:=ahz.1 hw;simp only[ajl];intro e;exact hz (by rw[<-e])
   rw[this];rfl
def AH {d:Dc}(h:aU d=true)(k:Ky):BA d k=ji d k:=by
 have h1:=(cG h).2.1;refine(Es k d.zs ?_).symm;rw[ah6];intro i j hi hj jV;have:=UK h1 j i jV hj;rw[ahs,ahs,ahu hi,ahu hj] at this;simp only[ai5] at this;omega
def PK {d:Dc}(h:aU d=true)(k:Ky):rZ d k=C2 d k:=by unfold rZ C2;rw[AH h]
theorem Jj {L:List Dc}(h:∀d∈L,aU d=true)(k:Ky):(L.flatMap λd=>rZ d k)=dq L k:=by
 unfold dq
 induction L with
 |nil=>rfl
 |cons d r ih=>rw[ahK,ahK,PK (h d zS),ih λx hx=>h x (by simp[hx])]
def OX (L:List Dc):gw L 3=dS L:=by
 unfold dS;rw[oD,oD,oD];simp[gw]
def uY {α β:Type}(f:α->List β){l:List α}{x:α}(h:x∈l):(f x).length<=(l.flatMap f).length:=by
 obtain⟨A,B,rfl⟩:=ajS h;rw[aid,ahK,ahw,ahw];omega
theorem JB {α β γ:Type}(f:α->List β)(g:α->List γ)(h:∀x,(f x).length<=(g x).length):∀l:List α,(l.flatMap f).length<=(l.flatMap g).length
 |[]=>by simp
 |x::r=>by
  have h1:=JB f g h r;have h2:=h x;rw[ahK,ahK,ahw,ahw];omega
def A4 {α β:Type}(f:α->List β){l m:List α}(h:l.Perm m):(l.flatMap f).length=(m.flatMap f).length:=(h.flatMap_right f).length_eq
theorem iX {α β:Type}(f:α->List β)(n:Nat):∀l:List α,(∀x∈l,(f x).length<=n)->(l.flatMap f).length<=l.length*n
 |[],_=>by simp
 |x::r,h=>by
  have h1:=iX f n r λy hy=>h y (by simp[hy]);have h2:=h x zS;rw[ahK,ahw,ahY,aiM];omega
end eN
namespace Go.Proofs.YtoejlmpbebjemaaGreat
open Go.Proofs.Tryz(prog)
open Go Go.Am ie eN
theorem Mt {n0 t0:Nat}{J:List aA}{R:List Rw}{tv:AV}{TB:List (Nat×aA)}(h:Tb n0 R tv TB)(hJ:∀p∈TB,J[p.1]?=some p.2):gp n0 t0 J tv (.sl R.length (dB (R.map λr=>(⟨r.k.1,r.k.2,r.pl⟩:Tm))) .none):=by
 rcases h with⟨rfl,rfl,_⟩|⟨it,rest,rfl,rfl,zP⟩
 ·exact .keep (.inr rfl) (by simp[tH])
 ·have hH:=hJ _ (aic.2 rfl);have h2:dB (R.map λr=>(⟨r.k.1,r.k.2,r.pl⟩:Tm))=R.flatMap λr=>mg ⟨r.k.1,r.k.2,r.pl⟩:=by simp[dB,aiK]
  rw[h2];refine .cV zP hH ?_ λj hj=>?_
  ·rw[ahw,cj (f:=λr:Rw=>mg ⟨r.k.1,r.k.2,r.pl⟩) (k:=3) (λ_=>rfl),qg];omega
  ·rw[aiH];refine kR (fa:=rwC) (fb:=λr=>mg ⟨r.k.1,r.k.2,r.pl⟩) (k:=3) Je (λ_=>rfl) R (λr _ j hj=>?_) rest j hj
   match j,hj with
   |0,_=>exact .keep (.inl rfl) (.int _ _)
   |1,_=>exact .keep (.inl rfl) (.str _)
   |2,_=>exact .keep (.inr rfl) zS
attribute [-simp] getD_eq_getElem?_getD in
theorem Gd (L:List Dc)(hL:L.length<=2000)(hs:∀d∈L,pt d)(hv:∀d∈L,aU d=true)(Rl:(L.flatMap dy).length<=1000000)(Uu:(L.flatMap λd=>d.ns).length<=1000000)(H:List aA)(T:au)
  (HO:bM (H++[.cells [.sl 0 [] .full,.sl 0 [] .full,.sl 0 [] .full]]) T) :
  AW ⟨prog,135,12,H.length,T.length,[]⟩ (dZ [1,1,1,1,1] (Tryz.f36.body.getD .skip)) (pR prog Tryz.f36.results.toList (BQ H T (.dn [jh ⟨L.map (·.id),cP L,dS L⟩,.int .i64 0])))
   ⟨[(0,.sl L.length (aM L) .none),(2,.ptr H.length 0)],H++[.cells [.sl 0 [] .full,.sl 0 [] .full,.sl 0 [] .full]],T⟩:=by
 conv=>arg 2;whnf
 have hn:∀d∈L,d.ns.length<=1000000:=λd hd=>ahA (uY (λd:Dc=>d.ns) hd) Uu;have hw:∀d∈L,∀z∈d.zs,z.ws.length<=1000000:=λd hd z hz=>by
  have h1:=uY dy hd;have h2:=uY fh hz;have h3:(fh z).length=z.ws.length:=by simp[fh]
  unfold dy at h1 Rl;omega
 have zP:∀f,(fL L f).length<=1000000:=λf=>ahA (JB _ _ (λd:Dc=>by
  rw[ahL];exact ahX _ _) L) Uu
 have gy:(dR L).length<=1000000:=by
  rw[uX];have:=mS (L.flatMap dy) [];rw[ais,aiH] at this;omega
 have key:∀(G:List aA)(tv:AV),((dR L=[]/\tv=.sl 0 [] .none)\/∃it rest,tv=.cV it 0 (dR L).length/\(H++[aA.cells [.sl 0 [] .full,.sl 0 [] .full,.sl 0 [] .full]]).length<=it/\(H++[aA.cells [.sl 0 [] .full,.sl 0 [] .full,.sl 0 [] .full]]++G)[it]?=some (.cells (ia (dR L)++rest))/\0<(dR L).length)->
   AW ⟨prog,135,12,H.length,T.length,[]⟩ (dZ [1,1,1,1,1,1] (Tryz.f36.body.getD .skip)) (pR prog Tryz.f36.results.toList (BQ H T (.dn [jh ⟨L.map (·.id),cP L,dS L⟩,.int .i64 0])))
    ⟨[(0,.sl L.length (aM L) .none),(2,.ptr H.length 0),(6,.ptr (H.length+(G.length+1)) 0)],(H++.cells [.sl 0 [] .full,.sl 0 [] .full,.sl 0 [] .full]::G)++[.cells [.sl 0 [] .full,tv,.sl 0 [] .full]],T⟩:=by
  intro G tv Nv
  conv=>arg 2;whnf
  refine Cs 1 0 (H++.cells [.sl 0 [] .full,.sl 0 [] .full,.sl 0 [] .full]::G) [.sl 0 [] .full,tv,.sl 0 [] .full] 0 [] zO rfl zS ?_;refine Cs 2 2 (H++.cells [.sl 0 [] .full,.sl 0 [] .full,.sl 0 [] .full]::G) [.sl 0 [] (.own T.length),tv,.sl 0 [] .full] 0 [] zO rfl zS ?_;refine dE λNo=>?_;simp only[ahw,ahY,ais,List.set_cons_zero,List.set_cons_succ,aiH] at No ⊢;have Ka:∃R,kp R=(dR L).map (λk=>(k,[]))/\RI H T H.length (H.length+(G.length+1)) [(T.length,(0,1)),(T.length+1,(0,2))] (.sl 0 [] (.own T.length)) tv (.sl 0 [] (.own (T.length+1))) (.cells [.sl 0 [] .full,.sl 0 [] .full,.sl 0 [] .full]) R
    (H++.cells [.sl 0 [] .full,.sl 0 [] .full,.sl 0 [] .full]::G++[.cells [.sl 0 [] (.own T.length),tv,.sl 0 [] (.own (T.length+1))]]) (T++[(0,1)]++[(0,2)]):=by
   have j8:∀X:List aA,(H++aA.cells [.sl 0 [] .full,.sl 0 [] .full,.sl 0 [] .full]::G++X)[H.length]?=some (.cells [.sl 0 [] .full,.sl 0 [] .full,.sl 0 [] .full]):=λX=>by simp
   have Gi:(H++aA.cells [.sl 0 [] .full,.sl 0 [] .full,.sl 0 [] .full]::G++[aA.cells [.sl 0 [] (.own T.length),tv,.sl 0 [] (.own (T.length+1))]])[H.length+(G.length+1)]?=some (.cells [.sl 0 [] (.own T.length),tv,.sl 0 [] (.own (T.length+1))]):=by
    rw[ahP zS];simp
   refine⟨(dR L).map λk=>⟨k,[],.full⟩,by simp[kp,aiA,Function.comp_def],?_⟩;have uv:jC ((dR L).map λk=>(⟨k,[],.full⟩:Rw))=[]:=by
    unfold jC;rw[aiK];simp[GH]
   have YB:nf ((dR L).map λk=>(⟨k,[],.full⟩:Rw))=ia (dR L):=by unfold nf ia;rw[aiK];rfl
   refine⟨?_,?_,λx hx=>?_,⟨_,by rw[ahM]⟩,⟨_,by rw[ahM]⟩⟩
   ·rcases Nv with⟨h1,h2⟩|⟨it,rest,h1,h2,h3,h4⟩
    ·refine⟨[],.inl ⟨by rw[h1];rfl,h2,rfl⟩,⟨zS,λp hp=>?_⟩⟩;simp at hp;rcases hp with rfl|rfl
     ·exact j8 _
     ·exact Gi
    ·have bp:=(aht.1 h3).1;have Zq:it≠H.length:=λe=>by
      rw[e] at h3;rw[show (H++[aA.cells [.sl 0 [] .full,.sl 0 [] .full,.sl 0 [] .full]]++G)[H.length]?=some (.cells [.sl 0 [] .full,.sl 0 [] .full,.sl 0 [] .full]) by simp] at h3
      injection h3 with h3
      injection h3 with h3
      have hh:=congrArg (λl=>l.getD 0 .top) h3;have h5:(ia (dR L)++rest).getD 0 .top=.int .i64 ((dR L).getD 0 k0).1:=by
       have:=xX (dR L) rest 0 h4;rw[Nat.zero_mul,List.drop_zero] at this;have h6:=congrArg (λl=>l.getD 0 .top) this;simpa[ahs] using h6
      rw[h5] at hh;simp at hh
     refine⟨[(it,.cells (nf ((dR L).map λk=>(⟨k,[],.full⟩:Rw))++rest))],.inr ⟨it,rest,by rw[ahL];exact h1,rfl,by simp at h2;omega⟩,⟨?_,λp hp=>?_⟩⟩
     ·simp at bp ⊢;omega
     ·simp only[ah4,List.not_mem_nil,or_false] at hp;rcases hp with rfl|rfl|rfl
      ·exact j8 _
      ·exact Gi
      ·rw[YB];rw[ahB (by simp at bp ⊢;omega)];rw[<-h3];congr 1;simp
   ·rw[uv];refine⟨zS,λp hp=>?_⟩;simp at hp;rcases hp with rfl|rfl<;>simp
   ·obtain⟨k,_,rfl⟩:=ahz.1 hx;exact⟨.inl ⟨rfl,rfl⟩,λtk h=>by cases h⟩
  obtain⟨R,VJ,Ka⟩:=Ka;have Br:(H++aA.cells [.sl 0 [] .full,.sl 0 [] .full,.sl 0 [] .full]::G++[aA.cells [.sl 0 [] (.own T.length),tv,.sl 0 [] (.own (T.length+1))]]).length=H.length+(G.length+1)+1:=by simp;omega
  have hu0:(T++[((0:Nat),(1:Nat))]++[(0,2)]).length=T.length+2:=zS;generalize hJ0:H++aA.cells [.sl 0 [] .full,.sl 0 [] .full,.sl 0 [] .full]::G++[aA.cells [.sl 0 [] (.own T.length),tv,.sl 0 [] (.own (T.length+1))]]=J0 at *;generalize hU0:T++[((0:Nat),(1:Nat))]++[(0,2)]=U0 at *;obtain⟨b6,Gi⟩:∃b,b=H.length+(G.length+1):=⟨_,rfl⟩
  rw[<-Gi] at Ka Br;simp only[<-Gi];clear hJ0 hU0;refine ae λK2 ba=>?_;refine Ii L zO hs hw H T H.length T.length H.length b6 T.length (T.length+1) tv _ _ (dR L) R J0 U0 zO zO Ka VJ gy zO (ahv _) No _ λe J1 U1 R1 q1 q2 q3 q4 he=>?_;refine ba _ (dE λHO5=>?_);simp only at HO5;refine aF ⟨[(0,.sl L.length (aM L) .none),(2,.ptr H.length 0),(6,.ptr b6 0)],J1,U1⟩ (ak [] [] zS zS (by show H.length<=J1.length;omega) (by show T.length<=U1.length;omega) HO5 he) ?_;clear ba he;refine ae λK3 bH=>?_;refine Ip L zO hs hn zP H T H.length T.length H.length b6 T.length (T.length+1) _ tv _ R1 J1 U1 zO zO q1 zO zO HO5 _ λe J2 U2 p1 p2 p3 he=>?_;refine bH _ (dE λHO6=>?_);simp only at HO6;refine aF ⟨[(2,.ptr H.length 0),(6,.ptr b6 0)],J2,U2⟩ (ak [] [] zS zS (by show H.length<=J2.length;omega) (by show T.length<=U2.length;omega) HO6 he) ?_;clear bH he;rw[<-OX];have VA:cP L=R1.map λr=>(⟨r.k.1,r.k.2,r.pl⟩:Tm):=by
   have h1:(R1.map λr=>(⟨r.k.1,r.k.2,r.pl⟩:Tm))=(kp R1).map λx=>⟨x.1.1,x.1.2,x.2⟩:=by simp[kp,aiA,Function.comp_def]
   rw[h1,q2,aiA];exact aib λk _=>by simp only[Function.comp];rw[Jj hv]
  obtain⟨TB,VR,jg⟩:=p1.hJ;generalize gw L 3=cs at *;have Wn:(L.map (·.id)).length=L.length:=zS;have g2:=jg.get (i:=H.length) (b:=.cells [.sl 0 [] .full,.sl 0 [] .full,.sl 0 [] .full]) zS;have g6:=jg.get (i:=b6) (b:=.cells [.sl L.length (ints (L.map (·.id))) (.own T.length),tv,.sl cs.length (dP cs) (.own (T.length+1))]) zS;have e6:=aZ g6;have l6:=(aht.1 g6).1;have l2:=(aht.1 g2).1;have e2:=aZ g2;have zX:=Has.set (A:=[]) (B:=(b6,.cells [.sl L.length (ints (L.map (·.id))) (.own T.length),tv,.sl cs.length (dP cs) (.own (T.length+1))])::TB) (b:=.cells [.sl 0 [] .full,.sl 0 [] .full,.sl 0 [] .full]) (zU jg) (.cells [.sl L.length (ints (L.map (·.id))) (.own T.length),tv,.sl cs.length (dP cs) (.own (T.length+1))]);have sL:=p1.pJ.set (ahv _) (.cells [.sl L.length (ints (L.map (·.id))) (.own T.length),tv,.sl cs.length (dP cs) (.own (T.length+1))]);generalize lP:L.map (·.id)=ids at *;apply ar;simp(disch:=omega)[e6,l6,e2,l2];refine aI ?_;refine⟨sL,p1.pU,?_⟩;have hsg:jh ⟨ids,cP L,cs⟩=.agg [.sl L.length (ints ids) .none,.sl R1.length (dB (R1.map λr=>(⟨r.k.1,r.k.2,r.pl⟩:Tm))) .none,.sl cs.length (dP cs) .none]:=by
   rw[VA];show AV.agg [.sl ids.length (ints ids) .none,.sl (R1.map λr=>(⟨r.k.1,r.k.2,r.pl⟩:Tm)).length _ .none,_]=_;rw[Wn,ahL]
  rw[hsg];have hrw:=Mt (t0:=T.length) VR λp hp=>zX.2 p (by simp[hp]);refine gp.pair (.agg rfl λj hj=>?_) (.keep (.inl rfl) (.int _ _))
  match j,hj with
  |0,_=>exact .keep (.inr rfl) zS
  |1,_=>exact hrw
  |2,_=>exact .keep (.inr rfl) zS
 apply ar;refine zQ ?_;refine⟨_,Hy L zO Rl (λd hd=>by have:=tF (cG (hv d hd)).2.1;omega) _ _ .none,?_⟩;rintro r H' T' ⟨⟨G,rfl⟩,hT2,RS⟩;subst T';rcases RS with⟨h1,rfl⟩|⟨it,rest,rfl,h2,h3,h4⟩
 ·refine zQ ?_;refine dE λNo=>?_;refine aF ⟨[(0,.sl L.length (aM L) .none),(2,.ptr H.length 0),(6,.ptr (H.length+(G.length+1)) 0)],(H++aA.cells [.sl 0 [] .full,.sl 0 [] .full,.sl 0 [] .full]::G)++[aA.cells [.sl 0 [] .full,.sl 0 [] .none,.sl 0 [] .full]],T⟩ (ak [] [] zS zS zS (ahv _) (zU No) zS) ?_;exact key G _ (.inl ⟨h1,rfl⟩)
 ·refine zQ ?_;refine dE λNo=>?_;refine aF ⟨[(0,.sl L.length (aM L) .none),(2,.ptr H.length 0),(6,.ptr (H.length+(G.length+1)) 0)],(H++aA.cells [.sl 0 [] .full,.sl 0 [] .full,.sl 0 [] .full]::G)++[aA.cells [.sl 0 [] .full,.cV it 0 (dR L).length,.sl 0 [] .full]],T⟩ (ak [] [] zS zS zS (ahv _) (zU No) zS) ?_;exact key G _ (.inr ⟨it,rest,rfl,h2,h3,h4⟩)
attribute [-simp] getD_eq_getElem?_getD in
theorem MU (l:List Dc)(hl:l.length<=1000000)(hs:∀d∈l,pt d)(Rl:(∀d∈l,aU d=true)->(l.flatMap dy).length<=1000000)(Uu:(l.flatMap λd=>d.ns).length<=1000000)(H:List aA)(T:au)(tg:Tag) :
  aq prog 36 [.sl l.length (aM l) tg] H T (Is (.dn [jh (dH l).1,.int .i64 (dH l).2]) H T):=by
 refine aq.bR ?_;refine aq.pF ?_;show aq prog _ _ H T (BQ H T _);have jY:l.length<=9223372036854775807:=zO;refine ah 12 [] Tryz.ntmps36 Tryz.func36 rfl (λ_ _=>Tryz.call36 _ _) zS (λHO=>?_);have eu:bM (H++[.cells [.sl 0 [] .full,.sl 0 [] .full,.sl 0 [] .full]]) T:=HO.snoc zS;refine af ?_;refine ae λK1 aN=>?_
 by_cases GC:2000<l.length
 ·have b0:decide ((2000:Int)<l.length)=true:=ahx zO;apply ar;simp(disch:=omega)[b0,GC];apply aC rfl;refine af ?_;refine aI ?_;have hF:dH l=(bY,3):=by unfold dH;rw[ahF GC]
  rw[hF];exact⟨⟨_,rfl⟩,⟨[],zS⟩,kS 3⟩
 have b0:decide ((2000:Int)<l.length)=false:=ahy zO;have n0:¬(2000:Int)<l.length:=zO;apply ar;simp(disch:=omega)[b0,n0];apply aB rfl;apply aj;apply aN;clear aN;refine ae λK1 aN=>?_;refine af ?_;apply ag;refine aG (X:=Nat) (λi=>⟨[(0,.sl l.length (aM l) .none),(2,.ptr H.length 0),(4,.int .i64 (i:Nat))],H++[.cells [.sl 0 [] .full,.sl 0 [] .full,.sl 0 [] .full]],T⟩)
  (λi=>i<=l.length/\∀j,j<i->aU (l.getD j d0)=true) (λi=>l.length-i) 0 ?_ ?_ ?_
 ·exact⟨ahE _,λj hj=>absurd hj (ahT _)⟩
 ·refine wk eu ?_;simp
 ·rintro i ⟨g1,g2⟩;refine ae λK2 ba=>?_;refine af ?_;refine aV rfl (λhk=>?_) (λhk=>?_)
  ·simp  at hk;have bB:=iw l i hk;have c:=λH=>vF (l.getD i d0) (hs _ (aQ l i d0 hk)) H T;have gO:=aQ l i d0 hk;have kJ:aU (l.getD i d0)=true->∀j,j<i+1->aU (l.getD j d0)=true:=λh j hj=>by
    rcases ahD j i with h1|h1
    ·exact g2 j h1
    ·have:j=i:=zO;subst this;exact h
   have Wv:aU (l.getD i d0)=false->dH l=(bY,1):=λh=>by
    unfold dH;rw[ahC GC,ahF];rw[ai6];exact⟨_,gO,by rw[h];rfl⟩
   generalize l.getD i d0=d at *;apply aj;apply ba;clear ba;refine ae λK3 bH=>?_;apply ag
   cases hv:aU d with
   |false=>
    rw[hv] at c;apply ar;simp(disch:=omega)[bB,bI,hk];refine ai (c _) ?_;refine zQ ?_;apply aC rfl;refine af ?_;refine aI ?_;rw[Wv hv];exact⟨⟨_,rfl⟩,⟨[],zS⟩,kS 1⟩
   |true=>
    rw[hv] at c;apply ar;simp(disch:=omega)[bB,bI,hk];refine ai (c _) ?_;refine zQ ?_;apply aB rfl;apply aj;apply bH;clear bH;refine aJ ?_;refine⟨i+1,⟨by show i+1<=_;omega,kJ hv⟩,by show l.length-(i+1)<l.length-i;omega,?_⟩;refine wk eu ?_;simp
  ·simp  at hk;have lN:∀d∈l,aU d=true:=λd hd=>by
    obtain⟨j,hj,e⟩:=bP d0 hd;rw[<-e];exact g2 j zO
   have Bo:l.any (λd=>!aU d)=false:=by
    rw[ajm];intro d hd;rw[lN d hd];simp
   apply aD;refine zQ ?_;apply aN;clear aN;have cs:=λH=>vI l zO H T .none;have DK:=(eR l).perm;have zd:=(eR l).ord;have hLl:(dQ l).length=l.length:=dU l;have Yv:∀d∈dQ l,d∈l:=λd hd=>DK.mem_iff.1 hd;have hFl:(((dQ l).map (·.id)).Nodup->dH l=(⟨(dQ l).map (·.id),cP (dQ l),dS (dQ l)⟩,0))/\(¬((dQ l).map (·.id)).Nodup->dH l=(bY,10)):=by
    refine⟨λh=>?_,λh=>?_⟩
    ·unfold dH;rw[ahC GC,ahC (by rw[Bo];simp),ahC (λhh=>hh ((DK.map _).nodup_iff.1 h))]
    ·unfold dH;rw[ahC GC,ahC (by rw[Bo];simp),ahF (λhh=>h ((DK.map _).nodup_iff.2 hh))]
   apply ar;refine zQ ?_;refine ai (cs _) ?_;refine zQ ?_;generalize dQ l=L at *;refine ae λK1 aN=>?_;refine af ?_;apply ag;refine aG (X:=Nat) (λi=>⟨[(0,.sl L.length (aM L) .none),(2,.ptr H.length 0),(5,.int .i64 (i:Nat))],H++[.cells [.sl 0 [] .full,.sl 0 [] .full,.sl 0 [] .full]],T⟩)
    (λi=>1<=i/\i<=L.length+1/\∀j,0<j->j<i->j<L.length->(L.getD (j-1) d0).id≠(L.getD j d0).id) (λi=>L.length+1-i) 1 ?_ ?_ ?_
   ·exact⟨ahv _,zO,λj h1 h2=>by omega⟩
   ·refine wk eu ?_;simp
   ·rintro m ⟨m1,m2,m3⟩;refine ae λK2 ba=>?_;refine af ?_;refine aV rfl (λhm=>?_) (λhm=>?_)
    ·simp  at hm;have gA:=(kF L m hm).1;have ZF:=(kF L (m-1) zO).1;have e6:((m:Int)-1)=((m-1:Nat):Int):=zO;have Ra:m-1<L.length:=zO;have afn:=λh=>JM (L:=L) (i:=m) zO hm h;have kJ:(L.getD (m-1) d0).id≠(L.getD m d0).id->∀j,0<j->j<m+1->j<L.length->(L.getD (j-1) d0).id≠(L.getD j d0).id:=λh j h0 hj ru=>by
      rcases ahD j m with h1|h1
      ·exact m3 j h0 h1 ru
      ·have:j=m:=zO;subst this;exact h
     generalize (L.getD m d0).id=x at *;generalize (L.getD (m-1) d0).id=y at *;apply aj;apply ba;clear ba;refine ae λK3 bH=>?_;apply ag
     by_cases Gs:y=x
     ·have b1:(y==x)=true:=by simpa using Gs
      refine bC [] [] [] ?_;simp(disch:=omega)[e6,gA,ZF,bI,hm,Ra,b1,Gs];apply aC rfl;refine af ?_;refine aI ?_;rw[hFl.2 (afn Gs)];exact⟨⟨_,rfl⟩,⟨[],zS⟩,kS 10⟩
     ·have b1:(y==x)=false:=by simpa using Gs
      refine bC [] [] [] ?_;simp(disch:=omega)[e6,gA,ZF,bI,hm,Ra,b1,Gs];apply aB rfl;apply aj;apply bH;clear bH;refine aJ ?_;refine⟨m+1,⟨by show 1<=m+1;omega,by show m+1<=_;omega,kJ Gs⟩,by show L.length+1-(m+1)<L.length+1-m;omega,?_⟩;refine wk eu ?_;simp
    ·simp  at hm;have bp:=Bi zd λj h0 hj=>m3 j h0 zO hj;have nU:=mJ bp;apply aD;refine zQ ?_;apply aN;clear aN;refine aF ⟨[(0,.sl L.length (aM L) .none),(2,.ptr H.length 0)],H++[.cells [.sl 0 [] .full,.sl 0 [] .full,.sl 0 [] .full]],T⟩ (wk eu) ?_;rw[hFl.1 nU];exact Gd L zO (λd hd=>hs d (Yv d hd)) (λd hd=>lN d (Yv d hd)) (by rw[A4 dy DK];exact Rl lN) (by rw[A4 (λd:Dc=>d.ns) DK];exact Uu) H T eu
end Go.Proofs.YtoejlmpbebjemaaGreat
