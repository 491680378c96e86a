/- index.tidy (layer 40).
  Conditions: sizes, as the theorems say. -/
import Derived.Test.YtoejlmpbebjemaaGreatXZb
import Derived.Test.YtoejlmpbebjemaaGreatGZy
import Derived.Test.YtoejlmpbebjemaaGreatAmC
set_option linter.all false
set_option maxRecDepth 100000
set_option maxHeartbeats 16000000
namespace Go.Proofs.YtoejlmpbebjemaaGreat
open Go Go.Am im cL eT
attribute [-simp] List.getD_eq_getElem?_getD in
def Jp {m:Nat}{x0:List Sd}(Gt:BX m x0)(hl0:x0.length<=400)(H:List az)(T:au) :
  ar Tryz.prog 69 [yH x0] H T (Is (yH (gy (dX x0) x0)) H T):=by
 refine ar.bV ?_ (by simp);have CZ:∀S D,bJ H T->bJ (H++[.cells (iE S D),.cells [.sl 0 [] .full,.sl 0 [] .full]]) T:=λS D HO=>by
  have:=(HO.snoc (vs:=iE S D) (by simp)).snoc (vs:=[.sl 0 [] .full,.sl 0 [] .full]) (by simp);simpa using this
 refine ah 14 [] Tryz.ntmps69 Tryz.func69 rfl (λ_ _=>Tryz.call69 _ _) (by simp) (λHO=>?_);have CZ:=λS D=>CZ S D HO;apply ae;intro K Z;simp(disch:=omega);apply Z;refine Q0 (X:=List Sd) (λx=>⟨[(1,.ptr H.length 0),(2,.ptr (H.length+1) 0)],H++[.cells (iE (bf x) (bX x)),.cells [.sl 0 [] .full,.sl 0 [] .full]],T⟩)
  (λx=>BX m x/\x.length<=400/\gy (dX x) x=gy (dX x0) x0) dX x0 ⟨Gt,hl0,rfl⟩ ?_ ?_
 ·refine ag [] [] ?_ ?_ ?_ ?_ (CZ _ _) ?_
  all_goals simp
 ·rintro x ⟨hb,hl,he⟩;have hg:=hb.g;have hz:=hb.UD hl;have Ga:=fG x;have hdl:=mh x;have ff:=CZ (bf x) (bX x);have cr:=λi j L (h1:i<=j) (h2:j<=(bf x).length) (h3:(eB L).aA.length<=1000) H T=>vy (bf x) (bX x) i j (eB L) hz (by omega) h1 h2 h3 H T;refine af λK1 aO=>?_;apply ae;intro K Z;simp(disch:=omega);apply Z;apply aj;refine aI (X:=Nat) (λi=>⟨[(1,.ptr H.length 0),(2,.ptr (H.length+1) 0),(11,.sl (bf x).length (fK (bf x)) .none),(12,.int .i64 ((bf x).length:Nat)),(13,.int .i64 (i:Nat))],H++[.cells (iE (bf x) (bX x)),.cells [.sl 0 [] .full,.sl 0 [] .full]],T⟩)
   (λi=>i<=x.length/\∀j,j<i->rJ x j=false) (λi=>x.length-i) 0 ?_ ?_ ?_
  ·exact⟨ahu _,λj hj=>absurd hj (ahO _)⟩
  ·refine ag [] [] ?_ ?_ ?_ ?_ ff ?_
   all_goals simp
  ·rintro i ⟨g1,g2⟩;apply ae;intro K Z;simp(disch:=omega);apply Z;refine af λK2 bc=>?_;refine aT rfl (λhk=>?_) (λhk=>?_)
   ·simp  at hk;have hi:i<x.length:=by omega
    have va:i<(bX x).length:=by omega
    have hp:=gu hi;have hcut:=ke (bf x) i hk;have d1:=oH (bX x) i va;rw[fH hi] at hcut;rw[gD hi] at d1;have hsz:=hb.sz hp;have Ov:(eB (x.getD i e0).1).aA.length=(x.getD i e0).1.length:=by show ((x.getD i e0).1.map (·.id)).length=_;rw[ahz]
    have Xg:(x.getD i e0).2.length<=maxLen:=by
     have h1:=ki (hg.da _ hp) (hg.dd _ hp);have h2:=(hb.b _ hp).1;exact aho (by omega:_<=19) (by decide)
    have cd:=λH T=>uT (eB (x.getD i e0).1) hsz (λ_=>by rw[Ov];exact(hb.b _ hp).1) (x.getD i e0).2 Xg H T .none;rw[(hg.vd _ hp).drop] at cd;have hlv:iG (x.getD i e0)=(x.getD i e0).1.filter λd=>!decide (d.id∈(x.getD i e0).2):=rfl;rw[<-hlv] at cd;have zp:(eB (iG (x.getD i e0))).aA.length<=1000:=(hb.lv hp).d;have cr:=λH T=>cr i (i+1) (iG (x.getD i e0)) (by omega) (by omega) zp H T;rw[<-uE,<-uF] at cr;rw[show ((i+1:Nat):Int)=(i:Int)+1 by omega] at cr;have pD:=λh=>Pv hi h g2;have qV:rJ x i=decide ((x.getD i e0).1.length<2*(x.getD i e0).2.length):=rfl;rw[<-Ov] at qV;have hr:=D5 (iG (x.getD i e0)) (show i<i+1 by omega) hi;have aeP:(x.getD i e0).1.length<=19:=(hb.b _ hp).1;rw[<-Ov] at aeP;have ag9:(x.getD i e0).2.length<=19:=by
     have h1:=ki (hg.da _ hp) (hg.dd _ hp);have h2:=(hb.b _ hp).1;omega
    generalize gO x i (i+1) (iG (x.getD i e0))=y at *;generalize eB (iG (x.getD i e0))=r at *;generalize eB (x.getD i e0).1=s at *;generalize (x.getD i e0).2=d at *;have fx:bJ (H++[.cells (iE (bf x) (bX x)),.cells [.sl 0 [] .full,.sl 0 [] .full],.cells (dC s)]) T:=by
     have:=ff.snoc (vs:=dC s) (by simp);simpa using this
    apply aq;simp(disch:=omega) ;apply bc;clear bc;refine af λK3 bD=>?_;apply aj;refine ae λK hK=>?_;simp(disch:=omega)[hcut,hk,dF];apply hK
    by_cases hbd:s.aA.length<2*d.length
    ·have b1:decide ((s.aA.length:Int)<2*(d.length:Int))=true:=ahm (by omega);have hs:=pD (by rw[qV];exact ahm hbd);refine aJ [] [0,0,0,0,0,0,0,0,0,0,0] [] aw (by kernel_rfl) (by kernel_rfl) λK hK=>?_;simp(disch:=omega)[d1,va,bC,b1,hbd];apply hK;apply aG rfl;refine aJ [12] [0,0,0,0,0,0,0,0,0,0,0,0,0] [[]] aw (by kernel_rfl) (by kernel_rfl) λK hK=>?_;simp(disch:=omega)[d1,va,bC];refine aC (cd _ _) rfl ?_;simp(disch:=omega)[d1,va,bC];refine aC (cr _ _) rfl ?_;simp(disch:=omega) ;apply hK;refine JZ ?_;show 0=0/\_;refine⟨rfl,y,⟨hb.step hs,by omega,(zY hg hs).trans he⟩,(jY hg hs).2.2,?_⟩;refine ag [.cells (dC s)] [] ?_ ?_ ?_ ?_ (CZ _ _) ?_
     all_goals simp
    ·have b1:decide ((s.aA.length:Int)<2*(d.length:Int))=false:=ahn (by omega);have gG:rJ x i=false:=by rw[qV];exact ahn hbd
     refine aJ [] [0,0,0,0,0,0,0,0,0,0,0] [] aw (by kernel_rfl) (by kernel_rfl) λK hK=>?_;simp(disch:=omega)[d1,va,bC,b1,hbd];apply hK;apply aD rfl;apply aq;apply bD;clear bD;refine aB λK hK=>?_;simp(disch:=omega) ;apply hK;refine⟨i+1,⟨by show i+1<=_;omega,λj hj=>?_⟩,by show x.length-(i+1)<x.length-i;omega,?_⟩
     ·rcases ahr j i with h1|h1
      ·exact g2 j h1
      ·have:j=i:=by omega
       subst this;exact gG
     ·refine ag [.cells (dC s)] [] ?_ ?_ ?_ ?_ ff ?_
      all_goals simp
   ·simp  at hk;have:i=x.length:=by omega
    subst this;apply aF;simp(disch:=omega) ;apply aO;clear aO;refine af λK1 aO=>?_;apply ae;intro K Z;simp(disch:=omega);apply Z;apply aj;refine aI (X:=Int) (λt=>⟨[(1,.ptr H.length 0),(2,.ptr (H.length+1) 0),(5,.int .i64 t)],H++[.cells (iE (bf x) (bX x)),.cells [.sl 0 [] .full,.sl 0 [] .full]],T⟩)
     (λt=>-2<=t/\t<=(x.length:Int)-2/\∀j:Nat,t<(j:Int)->j+1<x.length->re x j=false) (λt=>(t+2).toNat) ((x.length:Int)-2) ?_ ?_ ?_
    ·exact⟨by omega,by omega,λj h1 h2=>by omega⟩
    ·refine ag [] [] ?_ ?_ ?_ ?_ ff ?_
     all_goals simp[Ga]
    ·rintro t ⟨t1,t2,t3⟩;refine af λK2 bc=>?_
     by_cases ht:0<=t
     ·have b1:decide ((0:Int)<=t)=true:=ahm ht;refine ae λK hK=>?_;simp(disch:=omega)[b1,ht];apply hK;apply aG rfl;obtain⟨i,rfl⟩:∃i:Nat,t=i:=⟨t.toNat,by omega⟩
      have hi:i<x.length:=by omega
      have NI:i+1<x.length:=by omega
      have VU:i<(bf x).length:=by omega
      have Wq:i+1<(bf x).length:=by omega
      have va:i<(bX x).length:=by omega
      have N0:i+1<(bX x).length:=by omega
      have hp:=gu hi;have XE:=gu NI;have hcut:=ke (bf x) i VU;have Ow:=ke (bf x) (i+1) Wq;have d1:=oH (bX x) i va;have d2:=oH (bX x) (i+1) N0;rw[fH hi] at hcut;rw[fH NI] at Ow;rw[gD hi] at d1;rw[gD NI] at d2;apply aq;apply bc;clear bc;refine af λK3 bD=>?_;apply aj;refine Q3 11 12 [11,12,13,14] [0,0,0,0,0,0,0,0,0,0,0,0,1,2,3] [[0,1,2,3,4,5,6,7,8,9,10],[0,1,2,3,4,5,6,7,8,9,10],[5,6,7,8,9,10],[]] [11,12,13,14] [0,0,0,0,0,0,0,0,0,0,0,0,1,2,3] [[0,1,2,3,4,5,6,7,8,9,10],[0,1,2,3,4,5,6,7,8,9,10],[5,6,7,8,9,10],[]] aw (by kernel_rfl) (by kernel_rfl) (by kernel_rfl) (by kernel_rfl) (by kernel_rfl) λK hK=>?_;have hsa:=hb.sz hp;have hsb:=hb.sz XE;have YA:(eB (x.getD i e0).1).aA.length=(x.getD i e0).1.length:=by show ((x.getD i e0).1.map (·.id)).length=_;rw[ahz]
      have hdb:(eB (x.getD (i+1) e0).1).aA.length=(x.getD (i+1) e0).1.length:=by show ((x.getD (i+1) e0).1.map (·.id)).length=_;rw[ahz]
      have hle:∀p∈x,p.2.length<=maxLen:=λp hp=>by
       have h1:=ki (hg.da _ hp) (hg.dd _ hp);have h2:=(hb.b _ hp).1;exact aho (by omega:_<=19) (by decide)
      have ca:=λH T=>uT (eB (x.getD i e0).1) hsa (λ_=>by rw[YA];exact(hb.b _ hp).1) (x.getD i e0).2 (hle _ hp) H T .none;have cb:=λH T=>uT (eB (x.getD (i+1) e0).1) hsb (λ_=>by rw[hdb];exact(hb.b _ XE).1) (x.getD (i+1) e0).2 (hle _ XE) H T .none;rw[(hg.vd _ hp).drop] at ca;rw[(hg.vd _ XE).drop] at cb;have ae4:iG (x.getD i e0)=(x.getD i e0).1.filter λd=>!decide (d.id∈(x.getD i e0).2):=rfl;have ae3:iG (x.getD (i+1) e0)=(x.getD (i+1) e0).1.filter λd=>!decide (d.id∈(x.getD (i+1) e0).2):=rfl;rw[<-ae4] at ca;rw[<-ae3] at cb;have cm:=λH T=>H9 (eB (iG (x.getD i e0))) (eB (iG (x.getD (i+1) e0))) (hb.lv hp) (hb.lv XE) (λ_ _=>by
       have h1:=x5 NI;unfold both at h1;rw[dW,ahk] at h1;have h2:=hb.a;show ((iG (x.getD i e0)).map (·.id)).length+((iG (x.getD (i+1) e0)).map (·.id)).length<=19;rw[ahz,ahz];omega) H T
      rw[TM hg NI] at cm;have zp:(eB (both x i)).aA.length<=1000:=(hb.both NI).d;have cr:=λH T=>cr i (i+2) (both x i) (by omega) (by omega) zp H T;rw[<-uE,<-uF] at cr;rw[show ((i+2:Nat):Int)=(i:Int)+2 by omega] at cr;have pD:=λh=>Lk g2 NI h λj h1 h2=>t3 j (by omega) h2;have OB:re x i=decide ((x.getD i e0).1.length<2*(x.getD (i+1) e0).1.length):=rfl;rw[<-YA,<-hdb] at OB;have hr:=D5 (both x i) (show i<i+2 by omega) NI;have afr:(x.getD i e0).1.length<=19:=(hb.b _ hp).1;have afp:(x.getD (i+1) e0).1.length<=19:=(hb.b _ XE).1;rw[<-YA] at afr;rw[<-hdb] at afp;generalize gO x i (i+2) (both x i)=y at *;generalize eB (both x i)=r at *;generalize eB (iG (x.getD i e0))=ra at *;generalize eB (iG (x.getD (i+1) e0))=rb at *;generalize eB (x.getD i e0).1=a at *;generalize (x.getD i e0).2=da at *;generalize eB (x.getD (i+1) e0).1=b at *;generalize (x.getD (i+1) e0).2=db at *;have key:∀(e:Env)(G:List az)(pa pb:Nat)(X:List az),G=H++.cells (iE (bf x) (bX x))::.cells [.sl 0 [] .full,.sl 0 [] .full]::X->G[pa]?=some (.cells (dC a))->G[pb]?=some (.cells (dC b))->
        bu G.length T.length e [(1,.ptr H.length 0),(2,.ptr (H.length+1) 0),(5,.int .i64 (i:Nat)),(6,.ptr pa 0),(7,.ptr pb 0)]->K ⟨e,G,T⟩:=by
       intro e G pa pb X hG ga gb he;refine hK _ (dA λho=>aH ⟨[(1,.ptr H.length 0),(2,.ptr (H.length+1) 0),(5,.int .i64 (i:Nat)),(6,.ptr pa 0),(7,.ptr pb 0)],G,T⟩ (ag [] [] (by simp) (by simp) (by rw[hG];simp) (by simp) ho he) ?_);clear hK he;have gx:G[H.length]?=some (.cells (iE (bf x) (bX x))):=by rw[hG];simp
       have la:=(ahh.1 ga).1;have lb:=(ahh.1 gb).1;have lx:=(ahh.1 gx).1;have ea:=aW ga;have eb:=aW gb;have ex:=aW gx;refine af λK4 lN=>?_
       by_cases hnr:a.aA.length<2*b.aA.length
       ·have b1:decide (2*(b.aA.length:Int)<=(a.aA.length:Int))=false:=ahn (by omega);have b2:¬2*b.aA.length<=a.aA.length:=by omega
        have hs:=pD (by rw[OB];exact ahm hnr);refine ae λK hK=>?_;simp(disch:=omega)[ea,eb,la,lb,b1,b2];apply hK;apply aD rfl;apply aq;apply lN;clear lN;have ga2:∀z,(G++[z])[pa]?=some (.cells (dC a)):=λz=>by rw[ahp la];exact ga
        have gb2:∀z,(G++[z])[pb]?=some (.cells (dC b)):=λz=>by rw[ahp lb];exact gb
        have XS:∀z,(G++[z])[H.length]?=some (.cells (iE (bf x) (bX x))):=λz=>by rw[ahp lx];exact gx
        refine aJ [19,20] [0,0,0,0,0,0,0,0,0,0,0,0,0,0,0,0,0,0,0,0,1,2] [[0,1,2,3,4,5,6,7,8,9,10,11,12,13,14,15,16,17,18],[18]] aw (by kernel_rfl) (by kernel_rfl) λK hK=>?_;simp(disch:=omega)[ea,eb,ex,la,lb,lx,ga2,gb2,XS,d1,d2,va,N0,bC];refine aC (ca _ _) rfl ?_;simp(disch:=omega)[ea,eb,ex,la,lb,lx,ga2,gb2,XS,d1,d2,va,N0,bC];refine aC (cb _ _) rfl ?_;simp(disch:=omega)[ea,eb,ex,la,lb,lx,ga2,gb2,XS,d1,d2,va,N0,bC];refine aC (cm _ _) rfl ?_;simp(disch:=omega)[ea,eb,ex,la,lb,lx,ga2,gb2,XS,d1,d2,va,N0,bC];refine⟨⟨ca _ _,cb _ _,cm _ _⟩,hK _ ?_⟩;clear hK K;refine af λK4 lN=>?_;apply ae;intro K Z;simp(disch:=omega);apply Z;apply aD rfl;apply aq;apply lN;clear lN;refine ae λK hK=>?_;simp(disch:=omega)[XS,lx,ex];refine ak (cr _ _) ?_;simp(disch:=omega)[XS,ex,lx];apply hK;refine JZ ?_;show 0=0/\_;refine⟨rfl,y,⟨hb.step hs,by omega,(zY hg hs).trans he⟩,(jY hg hs).2.2,?_⟩;refine ag (X++[.cells (dC r)]) [] ?_ ?_ ?_ ?_ (CZ _ _) ?_
        all_goals simp[hG]
       ·have b1:decide (2*(b.aA.length:Int)<=(a.aA.length:Int))=true:=ahm (by omega);have b2:2*b.aA.length<=a.aA.length:=by omega
        have VR:re x i=false:=by rw[OB];exact ahn hnr
        refine ae λK hK=>?_;simp(disch:=omega)[ea,eb,la,lb,b1,b2];apply hK;apply aG rfl;apply aF;simp(disch:=omega) ;apply bD;clear bD;refine aB λK hK=>?_;simp(disch:=omega) ;apply hK;refine⟨(i:Int)-1,⟨by omega,by omega,λj h1 h2=>?_⟩,by show ((i:Int)-1+2).toNat<((i:Int)+2).toNat;omega,?_⟩
        ·by_cases hji:j=i
         ·subst hji;exact VR
         ·exact t3 j (by omega) h2
        ·refine ag X [] ?_ ?_ ?_ ?_ ff ?_
         all_goals simp[hG]
      refine⟨?_,?_⟩
      ·simp(disch:=omega)[iJ,hcut,Ow,VU,Wq,dF];refine key _ _ (H.length+2) (H.length+3) _ rfl ?_ ?_ ?_
       all_goals simp
      ·simp(disch:=omega)[iJ,kJ,Bf,sw,hcut,Ow,VU,Wq,dF];refine key _ _ (H.length+3) (H.length+2) _ rfl ?_ ?_ ?_
       all_goals simp
     ·have b1:decide ((0:Int)<=t)=false:=ahn ht;have hs:=Lj g2 λj hj=>t3 j (by omega) hj;rw[Ld hs] at he;refine ae λK hK=>?_;simp(disch:=omega)[b1,ht];apply hK;apply aD rfl;apply aF;simp(disch:=omega) ;apply aO;clear aO;apply ae;intro K Z;simp(disch:=omega);apply Z;apply ay;simp(disch:=omega) ;rw[<-he];exact⟨⟨rfl,rfl⟩,rfl,rfl⟩
end Go.Proofs.YtoejlmpbebjemaaGreat
