/- index.tidy (layer 40).
  Conditions: sizes, as the theorems say. -/
import Derived.Test.YtoejlmpbebjemaaGreatXZb
import Derived.Test.YtoejlmpbebjemaaGreatGZy
import Derived.Test.YtoejlmpbebjemaaGreatAmC
set_option linter.all false
set_option maxRecDepth 100000
set_option maxHeartbeats 16000000
namespace Go.Proofs.YtoejlmpbebjemaaGreat
open Go Go.Am ia cO eN
attribute [-simp] List.getD_eq_getElem?_getD in
def IA {m:Nat}{x0:List Sd}(FZ:BX m x0)(AQ:x0.length<=400)(H:List aA)(T:au) :
  ar Tryz.prog 69 [yp x0] H T (Is (yp (gg (dW x0) x0)) H T):=by
 refine ar.bZ ?_ (by simp);have CB:∀S D,bN H T->bN (H++[.cells (iv S D),.cells [.sl 0 [] .full,.sl 0 [] .full]]) T:=λS D HO=>by
  have:=(HO.snoc (vs:=iv S D) (by simp)).snoc (vs:=[.sl 0 [] .full,.sl 0 [] .full]) (by simp);simpa using this
 refine ah 14 [] Tryz.ntmps69 Tryz.func69 rfl (λ_ _=>Tryz.call69 _ _) (by simp) (λHO=>?_);have CB:=λS D=>CB S D HO;apply ae;intro K Z;simp(disch:=omega);apply Z;refine Qa (X:=List Sd) (λx=>⟨[(1,.ptr H.length 0),(2,.ptr (H.length+1) 0)],H++[.cells (iv (br x) (cj x)),.cells [.sl 0 [] .full,.sl 0 [] .full]],T⟩)
  (λx=>BX m x/\x.length<=400/\gg (dW x) x=gg (dW x0) x0) dW x0 ⟨FZ,AQ,rfl⟩ ?_ ?_
 ·refine ag [] [] ?_ ?_ ?_ ?_ (CB _ _) ?_
  all_goals simp
 ·rintro x ⟨hb,hl,he⟩;have hg:=hb.g;have hz:=hb.TC hl;have FD:=fw x;have mN:=l0 x;have eV:=CB (br x) (cj x);have cr:=λi j L (h1:i<=j) (h2:j<=(br x).length) (h3:(eu L).aB.length<=1000) H T=>vh (br x) (cj x) i j (eu L) hz (by omega) h1 h2 h3 H T;refine af λK1 aP=>?_;apply ae;intro K Z;simp(disch:=omega);apply Z;apply aj;refine aJ (X:=Nat) (λi=>⟨[(1,.ptr H.length 0),(2,.ptr (H.length+1) 0),(11,.sl (br x).length (fD (br x)) .none),(12,.int .i64 ((br x).length:Nat)),(13,.int .i64 (i:Nat))],H++[.cells (iv (br x) (cj x)),.cells [.sl 0 [] .full,.sl 0 [] .full]],T⟩)
   (λi=>i<=x.length/\∀j,j<i->rG x j=false) (λi=>x.length-i) 0 ?_ ?_ ?_
  ·exact⟨agP _,λj hj=>absurd hj (ag9 _)⟩
  ·refine ag [] [] ?_ ?_ ?_ ?_ eV ?_
   all_goals simp
  ·rintro i ⟨g1,g2⟩;apply ae;intro K Z;simp(disch:=omega);apply Z;refine af λK2 bp=>?_;refine aU rfl (λhk=>?_) (λhk=>?_)
   ·simp  at hk;have hi:i<x.length:=by omega
    have uV:i<(cj x).length:=by omega
    have hp:=fY hi;have bu:=j7 (br x) i hk;have d1:=oD (cj x) i uV;rw[fx hi] at bu;rw[gn hi] at d1;have gu:=hb.sz hp;have NB:(eu (x.getD i e0).1).aB.length=(x.getD i e0).1.length:=by show ((x.getD i e0).1.map (·.id)).length=_;rw[agU]
    have Wn:(x.getD i e0).2.length<=maxLen:=by
     have h1:=ka (hg.da _ hp) (hg.dd _ hp);have h2:=(hb.b _ hp).1;exact agJ (by omega:_<=19) (by decide)
    have cd:=λH T=>uI (eu (x.getD i e0).1) gu (λ_=>by rw[NB];exact(hb.b _ hp).1) (x.getD i e0).2 Wn H T .none;rw[(hg.vd _ hp).drop] at cd;have XM:iy (x.getD i e0)=(x.getD i e0).1.filter λd=>!decide (d.id∈(x.getD i e0).2):=rfl;rw[<-XM] at cd;have y9:(eu (iy (x.getD i e0))).aB.length<=1000:=(hb.lv hp).d;have cr:=λH T=>cr i (i+1) (iy (x.getD i e0)) (by omega) (by omega) y9 H T;rw[<-ur,<-uu] at cr;rw[show ((i+1:Nat):Int)=(i:Int)+1 by omega] at cr;have px:=λh=>OD hi h g2;have qR:rG x i=decide ((x.getD i e0).1.length<2*(x.getD i e0).2.length):=rfl;rw[<-NB] at qR;have hr:=Dy (iy (x.getD i e0)) (show i<i+1 by omega) hi;have ad5:(x.getD i e0).1.length<=19:=(hb.b _ hp).1;rw[<-NB] at ad5;have agu:(x.getD i e0).2.length<=19:=by
     have h1:=ka (hg.da _ hp) (hg.dd _ hp);have h2:=(hb.b _ hp).1;omega
    generalize gI x i (i+1) (iy (x.getD i e0))=y at *;generalize eu (iy (x.getD i e0))=r at *;generalize eu (x.getD i e0).1=s at *;generalize (x.getD i e0).2=d at *;have fj:bN (H++[.cells (iv (br x) (cj x)),.cells [.sl 0 [] .full,.sl 0 [] .full],.cells (dA s)]) T:=by
     have:=eV.snoc (vs:=dA s) (by simp);simpa using this
    apply aq;simp(disch:=omega) ;apply bp;clear bp;refine af λK3 bG=>?_;apply aj;refine ae λK hK=>?_;simp(disch:=omega)[bu,hk,dD];apply hK
    by_cases vV:s.aB.length<2*d.length
    ·have b1:decide ((s.aB.length:Int)<2*(d.length:Int))=true:=agH (by omega);have hs:=px (by rw[qR];exact agH vV);refine aK [] [0,0,0,0,0,0,0,0,0,0,0] [] aw (by kernel_rfl) (by kernel_rfl) λK hK=>?_;simp(disch:=omega)[d1,uV,bF,b1,vV];apply hK;apply aH rfl;refine aK [12] [0,0,0,0,0,0,0,0,0,0,0,0,0] [[]] aw (by kernel_rfl) (by kernel_rfl) λK hK=>?_;simp(disch:=omega)[d1,uV,bF];refine aD (cd _ _) rfl ?_;simp(disch:=omega)[d1,uV,bF];refine aD (cr _ _) rfl ?_;simp(disch:=omega) ;apply hK;refine Jd ?_;show 0=0/\_;refine⟨rfl,y,⟨hb.step hs,by omega,(zO hg hs).trans he⟩,(jS hg hs).2.2,?_⟩;refine ag [.cells (dA s)] [] ?_ ?_ ?_ ?_ (CB _ _) ?_
     all_goals simp
    ·have b1:decide ((s.aB.length:Int)<2*(d.length:Int))=false:=agI (by omega);have gw:rG x i=false:=by rw[qR];exact agI vV
     refine aK [] [0,0,0,0,0,0,0,0,0,0,0] [] aw (by kernel_rfl) (by kernel_rfl) λK hK=>?_;simp(disch:=omega)[d1,uV,bF,b1,vV];apply hK;apply aF rfl;apply aq;apply bG;clear bG;refine aC λK hK=>?_;simp(disch:=omega) ;apply hK;refine⟨i+1,⟨by show i+1<=_;omega,λj hj=>?_⟩,by show x.length-(i+1)<x.length-i;omega,?_⟩
     ·rcases agM j i with h1|h1
      ·exact g2 j h1
      ·have:j=i:=by omega
       subst this;exact gw
     ·refine ag [.cells (dA s)] [] ?_ ?_ ?_ ?_ eV ?_
      all_goals simp
   ·simp  at hk;have:i=x.length:=by omega
    subst this;apply aG;simp(disch:=omega) ;apply aP;clear aP;refine af λK1 aP=>?_;apply ae;intro K Z;simp(disch:=omega);apply Z;apply aj;refine aJ (X:=Int) (λt=>⟨[(1,.ptr H.length 0),(2,.ptr (H.length+1) 0),(5,.int .i64 t)],H++[.cells (iv (br x) (cj x)),.cells [.sl 0 [] .full,.sl 0 [] .full]],T⟩)
     (λt=>-2<=t/\t<=(x.length:Int)-2/\∀j:Nat,t<(j:Int)->j+1<x.length->qW x j=false) (λt=>(t+2).toNat) ((x.length:Int)-2) ?_ ?_ ?_
    ·exact⟨by omega,by omega,λj h1 h2=>by omega⟩
    ·refine ag [] [] ?_ ?_ ?_ ?_ eV ?_
     all_goals simp[FD]
    ·rintro t ⟨t1,t2,t3⟩;refine af λK2 bp=>?_
     by_cases ht:0<=t
     ·have b1:decide ((0:Int)<=t)=true:=agH ht;refine ae λK hK=>?_;simp(disch:=omega)[b1,ht];apply hK;apply aH rfl;obtain⟨i,rfl⟩:∃i:Nat,t=i:=⟨t.toNat,by omega⟩
      have hi:i<x.length:=by omega
      have MT:i+1<x.length:=by omega
      have UY:i<(br x).length:=by omega
      have Vy:i+1<(br x).length:=by omega
      have uV:i<(cj x).length:=by omega
      have Nc:i+1<(cj x).length:=by omega
      have hp:=fY hi;have WO:=fY MT;have bu:=j7 (br x) i UY;have NC:=j7 (br x) (i+1) Vy;have d1:=oD (cj x) i uV;have d2:=oD (cj x) (i+1) Nc;rw[fx hi] at bu;rw[fx MT] at NC;rw[gn hi] at d1;rw[gn MT] at d2;apply aq;apply bp;clear bp;refine af λK3 bG=>?_;apply aj;refine Qb 11 12 [11,12,13,14] [0,0,0,0,0,0,0,0,0,0,0,0,1,2,3] [[0,1,2,3,4,5,6,7,8,9,10],[0,1,2,3,4,5,6,7,8,9,10],[5,6,7,8,9,10],[]] [11,12,13,14] [0,0,0,0,0,0,0,0,0,0,0,0,1,2,3] [[0,1,2,3,4,5,6,7,8,9,10],[0,1,2,3,4,5,6,7,8,9,10],[5,6,7,8,9,10],[]] aw (by kernel_rfl) (by kernel_rfl) (by kernel_rfl) (by kernel_rfl) (by kernel_rfl) λK hK=>?_;have hsa:=hb.sz hp;have hsb:=hb.sz WO;have XS:(eu (x.getD i e0).1).aB.length=(x.getD i e0).1.length:=by show ((x.getD i e0).1.map (·.id)).length=_;rw[agU]
      have hdb:(eu (x.getD (i+1) e0).1).aB.length=(x.getD (i+1) e0).1.length:=by show ((x.getD (i+1) e0).1.map (·.id)).length=_;rw[agU]
      have hle:∀p∈x,p.2.length<=maxLen:=λp hp=>by
       have h1:=ka (hg.da _ hp) (hg.dd _ hp);have h2:=(hb.b _ hp).1;exact agJ (by omega:_<=19) (by decide)
      have ca:=λH T=>uI (eu (x.getD i e0).1) hsa (λ_=>by rw[XS];exact(hb.b _ hp).1) (x.getD i e0).2 (hle _ hp) H T .none;have cb:=λH T=>uI (eu (x.getD (i+1) e0).1) hsb (λ_=>by rw[hdb];exact(hb.b _ WO).1) (x.getD (i+1) e0).2 (hle _ WO) H T .none;rw[(hg.vd _ hp).drop] at ca;rw[(hg.vd _ WO).drop] at cb;have aek:iy (x.getD i e0)=(x.getD i e0).1.filter λd=>!decide (d.id∈(x.getD i e0).2):=rfl;have aej:iy (x.getD (i+1) e0)=(x.getD (i+1) e0).1.filter λd=>!decide (d.id∈(x.getD (i+1) e0).2):=rfl;rw[<-aek] at ca;rw[<-aej] at cb;have cm:=λH T=>Hl (eu (iy (x.getD i e0))) (eu (iy (x.getD (i+1) e0))) (hb.lv hp) (hb.lv WO) (λ_ _=>by
       have h1:=xN MT;unfold both at h1;rw[dV,agF] at h1;have h2:=hb.a;show ((iy (x.getD i e0)).map (·.id)).length+((iy (x.getD (i+1) e0)).map (·.id)).length<=19;rw[agU,agU];omega) H T
      rw[SF hg MT] at cm;have y9:(eu (both x i)).aB.length<=1000:=(hb.both MT).d;have cr:=λH T=>cr i (i+2) (both x i) (by omega) (by omega) y9 H T;rw[<-ur,<-uu] at cr;rw[show ((i+2:Nat):Int)=(i:Int)+2 by omega] at cr;have px:=λh=>Kq g2 MT h λj h1 h2=>t3 j (by omega) h2;have NI:qW x i=decide ((x.getD i e0).1.length<2*(x.getD (i+1) e0).1.length):=rfl;rw[<-XS,<-hdb] at NI;have hr:=Dy (both x i) (show i<i+2 by omega) MT;have aeJ:(x.getD i e0).1.length<=19:=(hb.b _ hp).1;have aeH:(x.getD (i+1) e0).1.length<=19:=(hb.b _ WO).1;rw[<-XS] at aeJ;rw[<-hdb] at aeH;generalize gI x i (i+2) (both x i)=y at *;generalize eu (both x i)=r at *;generalize eu (iy (x.getD i e0))=ra at *;generalize eu (iy (x.getD (i+1) e0))=rb at *;generalize eu (x.getD i e0).1=a at *;generalize (x.getD i e0).2=da at *;generalize eu (x.getD (i+1) e0).1=b at *;generalize (x.getD (i+1) e0).2=db at *;have key:∀(e:Env)(G:List aA)(pa pb:Nat)(X:List aA),G=H++.cells (iv (br x) (cj x))::.cells [.sl 0 [] .full,.sl 0 [] .full]::X->G[pa]?=some (.cells (dA a))->G[pb]?=some (.cells (dA b))->
        bC G.length T.length e [(1,.ptr H.length 0),(2,.ptr (H.length+1) 0),(5,.int .i64 (i:Nat)),(6,.ptr pa 0),(7,.ptr pb 0)]->K ⟨e,G,T⟩:=by
       intro e G pa pb X hG ga gb he;refine hK _ (dy λho=>aI ⟨[(1,.ptr H.length 0),(2,.ptr (H.length+1) 0),(5,.int .i64 (i:Nat)),(6,.ptr pa 0),(7,.ptr pb 0)],G,T⟩ (ag [] [] (by simp) (by simp) (by rw[hG];simp) (by simp) ho he) ?_);clear hK he;have gx:G[H.length]?=some (.cells (iv (br x) (cj x))):=by rw[hG];simp
       have la:=(agC.1 ga).1;have lb:=(agC.1 gb).1;have lx:=(agC.1 gx).1;have ea:=aX ga;have eb:=aX gb;have ex:=aX gx;refine af λK4 lG=>?_
       by_cases hnr:a.aB.length<2*b.aB.length
       ·have b1:decide (2*(b.aB.length:Int)<=(a.aB.length:Int))=false:=agI (by omega);have b2:¬2*b.aB.length<=a.aB.length:=by omega
        have hs:=px (by rw[NI];exact agH hnr);refine ae λK hK=>?_;simp(disch:=omega)[ea,eb,la,lb,b1,b2];apply hK;apply aF rfl;apply aq;apply lG;clear lG;have ga2:∀z,(G++[z])[pa]?=some (.cells (dA a)):=λz=>by rw[agK la];exact ga
        have gb2:∀z,(G++[z])[pb]?=some (.cells (dA b)):=λz=>by rw[agK lb];exact gb
        have W6:∀z,(G++[z])[H.length]?=some (.cells (iv (br x) (cj x))):=λz=>by rw[agK lx];exact gx
        refine aK [19,20] [0,0,0,0,0,0,0,0,0,0,0,0,0,0,0,0,0,0,0,0,1,2] [[0,1,2,3,4,5,6,7,8,9,10,11,12,13,14,15,16,17,18],[18]] aw (by kernel_rfl) (by kernel_rfl) λK hK=>?_;simp(disch:=omega)[ea,eb,ex,la,lb,lx,ga2,gb2,W6,d1,d2,uV,Nc,bF];refine aD (ca _ _) rfl ?_;simp(disch:=omega)[ea,eb,ex,la,lb,lx,ga2,gb2,W6,d1,d2,uV,Nc,bF];refine aD (cb _ _) rfl ?_;simp(disch:=omega)[ea,eb,ex,la,lb,lx,ga2,gb2,W6,d1,d2,uV,Nc,bF];refine aD (cm _ _) rfl ?_;simp(disch:=omega)[ea,eb,ex,la,lb,lx,ga2,gb2,W6,d1,d2,uV,Nc,bF];refine⟨⟨ca _ _,cb _ _,cm _ _⟩,hK _ ?_⟩;clear hK K;refine af λK4 lG=>?_;apply ae;intro K Z;simp(disch:=omega);apply Z;apply aF rfl;apply aq;apply lG;clear lG;refine ae λK hK=>?_;simp(disch:=omega)[W6,lx,ex];refine ak (cr _ _) ?_;simp(disch:=omega)[W6,ex,lx];apply hK;refine Jd ?_;show 0=0/\_;refine⟨rfl,y,⟨hb.step hs,by omega,(zO hg hs).trans he⟩,(jS hg hs).2.2,?_⟩;refine ag (X++[.cells (dA r)]) [] ?_ ?_ ?_ ?_ (CB _ _) ?_
        all_goals simp[hG]
       ·have b1:decide (2*(b.aB.length:Int)<=(a.aB.length:Int))=true:=agH (by omega);have b2:2*b.aB.length<=a.aB.length:=by omega
        have UT:qW x i=false:=by rw[NI];exact agI hnr
        refine ae λK hK=>?_;simp(disch:=omega)[ea,eb,la,lb,b1,b2];apply hK;apply aH rfl;apply aG;simp(disch:=omega) ;apply bG;clear bG;refine aC λK hK=>?_;simp(disch:=omega) ;apply hK;refine⟨(i:Int)-1,⟨by omega,by omega,λj h1 h2=>?_⟩,by show ((i:Int)-1+2).toNat<((i:Int)+2).toNat;omega,?_⟩
        ·by_cases rp:j=i
         ·subst rp;exact UT
         ·exact t3 j (by omega) h2
        ·refine ag X [] ?_ ?_ ?_ ?_ eV ?_
         all_goals simp[hG]
      refine⟨?_,?_⟩
      ·simp(disch:=omega)[iD,bu,NC,UY,Vy,dD];refine key _ _ (H.length+2) (H.length+3) _ rfl ?_ ?_ ?_
       all_goals simp
      ·simp(disch:=omega)[iD,kE,AZ,sw,bu,NC,UY,Vy,dD];refine key _ _ (H.length+3) (H.length+2) _ rfl ?_ ?_ ?_
       all_goals simp
     ·have b1:decide ((0:Int)<=t)=false:=agI ht;have hs:=Kp g2 λj hj=>t3 j (by omega) hj;rw[Kj hs] at he;refine ae λK hK=>?_;simp(disch:=omega)[b1,ht];apply hK;apply aF rfl;apply aG;simp(disch:=omega) ;apply aP;clear aP;apply ae;intro K Z;simp(disch:=omega);apply Z;apply az;simp(disch:=omega) ;rw[<-he];exact⟨⟨rfl,rfl⟩,rfl,rfl⟩
end Go.Proofs.YtoejlmpbebjemaaGreat
