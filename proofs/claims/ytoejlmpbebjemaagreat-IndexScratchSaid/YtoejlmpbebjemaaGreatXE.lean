/- index.tidy (layer 40).
  Conditions: sizes, as the theorems say. -/
import Derived.Test.YtoejlmpbebjemaaGreatXZb
import Derived.Test.YtoejlmpbebjemaaGreatGZy
import Derived.Test.YtoejlmpbebjemaaGreatAmC
set_option linter.all false
set_option maxRecDepth 100000
set_option maxHeartbeats 16000000
namespace Go.Proofs.YtoejlmpbebjemaaGreat
open Go Go.Am ie cN eN
attribute [-simp] List.getD_eq_getElem?_getD in
def Ja {m:Nat}{x0:List Sd}(GC:BX m x0)(Br:x0.length<=400)(H:List aA)(T:au) :
  aq Tryz.prog 69 [yW x0] H T (Is (yW (gE (et x0) x0)) H T):=by
 refine aq.bK ?_ zS;have De:∀S D,bM H T->bM (H++[.cells (jr S D),.cells [.sl 0 [] .full,.sl 0 [] .full]]) T:=λS D HO=>by
  have:=(HO.snoc (vs:=jr S D) zS).snoc (vs:=[.sl 0 [] .full,.sl 0 [] .full]) zS;simpa using this
 refine ah 14 [] Tryz.ntmps69 Tryz.func69 rfl (λ_ _=>Tryz.call69 _ _) zS (λHO=>?_);have De:=λS D=>De S D HO;refine af ?_;refine QQ (X:=List Sd) (λx=>⟨[(1,.ptr H.length 0),(2,.ptr (H.length+1) 0)],H++[.cells (jr (bF x) (cI x)),.cells [.sl 0 [] .full,.sl 0 [] .full]],T⟩)
  (λx=>BX m x/\x.length<=400/\gE (et x) x=gE (et x0) x0) et x0 ⟨GC,Br,rfl⟩ ?_ ?_
 ·exact wk (De _ _)
 ·rintro x ⟨hb,hl,he⟩;have hg:=hb.g;have hz:=hb.Uq hl;have yT:=fF x;have kW:=mG x;have eu:=De (bF x) (cI x);have cr:=λi j L (h1:i<=j) (h2:j<=(bF x).length) (h3:(er L).aw.length<=1000) H T=>vK (bF x) (cI x) i j (er L) hz zO h1 h2 h3 H T;refine ae λK1 aN=>?_;refine af ?_;apply ag;refine aG (X:=Nat) (λi=>⟨[(1,.ptr H.length 0),(2,.ptr (H.length+1) 0),(11,.sl (bF x).length (fK (bF x)) .none),(12,.int .i64 ((bF x).length:Nat)),(13,.int .i64 (i:Nat))],H++[.cells (jr (bF x) (cI x)),.cells [.sl 0 [] .full,.sl 0 [] .full]],T⟩)
   (λi=>i<=x.length/\∀j,j<i->sb x j=false) (λi=>x.length-i) 0 ?_ ?_ ?_
  ·exact⟨ahE _,λj hj=>absurd hj (ahT _)⟩
  ·exact wk eu
  ·rintro i ⟨g1,g2⟩;refine af ?_;refine ae λK2 ba=>?_;refine aV rfl (λhk=>?_) (λhk=>?_)
   ·simp  at hk;have hi:i<x.length:=zO;have vv:i<(cI x).length:=zO;have hp:=gC hi;have bB:=kO (bF x) i hk;have d1:=oU (cI x) i vv;rw[fG hi] at bB;rw[gH hi] at d1;have gj:=hb.sz hp;have DL:(er (x.getD i e0).1).aw.length=(x.getD i e0).1.length:=by show ((x.getD i e0).1.map (·.id)).length=_;rw[ahL]
    have Xd:(x.getD i e0).2.length<=maxLen:=by
     have h1:=kQ (hg.da _ hp) (hg.dd _ hp);have h2:=(hb.b _ hp).1;exact ahA (by omega:_<=19) zD
    have cd:=λH T=>u7 (er (x.getD i e0).1) gj (λ_=>by rw[DL];exact(hb.b _ hp).1) (x.getD i e0).2 Xd H T .none;rw[(hg.vd _ hp).drop] at cd;have Yz:iP (x.getD i e0)=(x.getD i e0).1.filter λd=>!decide (d.id∈(x.getD i e0).2):=rfl;rw[<-Yz] at cd;have zJ:(er (iP (x.getD i e0))).aw.length<=1000:=(hb.lv hp).d;have cr:=λH T=>cr i (i+1) (iP (x.getD i e0)) zO zO zJ H T;rw[<-uO,<-uP] at cr;rw[show ((i+1:Nat):Int)=(i:Int)+1 by omega] at cr;have pW:=λh=>Pf hi h g2;have rF:sb x i=decide ((x.getD i e0).1.length<2*(x.getD i e0).2.length):=rfl;rw[<-DL] at rF;have hr:=Ek (iP (x.getD i e0)) (show i<i+1 by omega) hi;have aeU:(x.getD i e0).1.length<=19:=(hb.b _ hp).1;rw[<-DL] at aeU;have ahm:(x.getD i e0).2.length<=19:=by
     have h1:=kQ (hg.da _ hp) (hg.dd _ hp);have h2:=(hb.b _ hp).1;omega
    generalize gY x i (i+1) (iP (x.getD i e0))=y at *;generalize er (iP (x.getD i e0))=r at *;generalize er (x.getD i e0).1=s at *;generalize (x.getD i e0).2=d at *;have eG:bM (H++[.cells (jr (bF x) (cI x)),.cells [.sl 0 [] .full,.sl 0 [] .full],.cells (cH s)]) T:=by
     have:=eu.snoc (vs:=cH s) zS;simpa using this
    apply aj;refine zQ ?_;apply ba;clear ba;refine ae λK3 bH=>?_;apply ag;apply ar;simp(disch:=omega)[bB,hk,dL]
    by_cases wB:s.aw.length<2*d.length
    ·have b1:decide ((s.aw.length:Int)<2*(d.length:Int))=true:=ahx zO;have hs:=pW (by rw[rF];exact ahx wB);refine bC [] [0,0,0,0,0,0,0,0,0,0,0] [] ?_;simp(disch:=omega)[d1,vv,bN,b1,wB];apply aC rfl;refine bC [12] [0,0,0,0,0,0,0,0,0,0,0,0,0] [[]] ?_;simp(disch:=omega)[d1,vv,bN];refine az (cd _ _) rfl ?_;simp(disch:=omega)[d1,vv,bN];refine az (cr _ _) rfl ?_;refine zQ ?_;refine JJ ?_;show 0=0/\_;refine⟨rfl,y,⟨hb.step hs,zO,(Av hg hs).trans he⟩,(ko hg hs).2.2,?_⟩;refine ak [.cells (cH s)] [] ?_ ?_ ?_ ?_ (De _ _) ?_
     all_goals simp
    ·have b1:decide ((s.aw.length:Int)<2*(d.length:Int))=false:=ahy zO;have gL:sb x i=false:=by rw[rF];exact ahy wB
     refine bC [] [0,0,0,0,0,0,0,0,0,0,0] [] ?_;simp(disch:=omega)[d1,vv,bN,b1,wB];apply aB rfl;apply aj;apply bH;clear bH;refine aJ ?_;refine⟨i+1,⟨by show i+1<=_;omega,λj hj=>?_⟩,by show x.length-(i+1)<x.length-i;omega,?_⟩
     ·rcases ahD j i with h1|h1
      ·exact g2 j h1
      ·have:j=i:=zO;subst this;exact gL
     ·refine ak [.cells (cH s)] [] ?_ ?_ ?_ ?_ eu ?_
      all_goals simp
   ·simp  at hk;have:i=x.length:=zO;subst this;apply aD;refine zQ ?_;apply aN;clear aN;refine ae λK1 aN=>?_;refine af ?_;apply ag;refine aG (X:=Int) (λt=>⟨[(1,.ptr H.length 0),(2,.ptr (H.length+1) 0),(5,.int .i64 t)],H++[.cells (jr (bF x) (cI x)),.cells [.sl 0 [] .full,.sl 0 [] .full]],T⟩)
     (λt=>-2<=t/\t<=(x.length:Int)-2/\∀j:Nat,t<(j:Int)->j+1<x.length->rL x j=false) (λt=>(t+2).toNat) ((x.length:Int)-2) ?_ ?_ ?_
    ·exact⟨zO,zO,λj h1 h2=>by omega⟩
    ·refine ak [] [] ?_ ?_ ?_ ?_ eu ?_
     all_goals simp[yT]
    ·rintro t ⟨t1,t2,t3⟩;refine ae λK2 ba=>?_
     by_cases ht:0<=t
     ·have b1:decide ((0:Int)<=t)=true:=ahx ht;apply ar;simp(disch:=omega)[b1,ht];apply aC rfl;obtain⟨i,rfl⟩:∃i:Nat,t=i:=⟨t.toNat,zO⟩
      have hi:i<x.length:=zO;have NA:i+1<x.length:=zO;have VO:i<(bF x).length:=zO;have Wp:i+1<(bF x).length:=zO;have vv:i<(cI x).length:=zO;have NU:i+1<(cI x).length:=zO;have hp:=gC hi;have XF:=gC NA;have bB:=kO (bF x) i VO;have Ol:=kO (bF x) (i+1) Wp;have d1:=oU (cI x) i vv;have d2:=oU (cI x) (i+1) NU;rw[fG hi] at bB;rw[fG NA] at Ol;rw[gH hi] at d1;rw[gH NA] at d2;apply aj;apply ba;clear ba;refine ae λK3 bH=>?_;apply ag;refine QR 11 12 [11,12,13,14] [0,0,0,0,0,0,0,0,0,0,0,0,1,2,3] [[0,1,2,3,4,5,6,7,8,9,10],[0,1,2,3,4,5,6,7,8,9,10],[5,6,7,8,9,10],[]] [11,12,13,14] [0,0,0,0,0,0,0,0,0,0,0,0,1,2,3] [[0,1,2,3,4,5,6,7,8,9,10],[0,1,2,3,4,5,6,7,8,9,10],[5,6,7,8,9,10],[]] aO zK zK zK zK zK λK hK=>?_;have hsa:=hb.sz hp;have hsb:=hb.sz XF;have YF:(er (x.getD i e0).1).aw.length=(x.getD i e0).1.length:=by show ((x.getD i e0).1.map (·.id)).length=_;rw[ahL]
      have hdb:(er (x.getD (i+1) e0).1).aw.length=(x.getD (i+1) e0).1.length:=by show ((x.getD (i+1) e0).1.map (·.id)).length=_;rw[ahL]
      have hle:∀p∈x,p.2.length<=maxLen:=λp hp=>by
       have h1:=kQ (hg.da _ hp) (hg.dd _ hp);have h2:=(hb.b _ hp).1;exact ahA (by omega:_<=19) zD
      have ca:=λH T=>u7 (er (x.getD i e0).1) hsa (λ_=>by rw[YF];exact(hb.b _ hp).1) (x.getD i e0).2 (hle _ hp) H T .none;have cb:=λH T=>u7 (er (x.getD (i+1) e0).1) hsb (λ_=>by rw[hdb];exact(hb.b _ XF).1) (x.getD (i+1) e0).2 (hle _ XF) H T .none;rw[(hg.vd _ hp).drop] at ca;rw[(hg.vd _ XF).drop] at cb;have ae9:iP (x.getD i e0)=(x.getD i e0).1.filter λd=>!decide (d.id∈(x.getD i e0).2):=rfl;have ae8:iP (x.getD (i+1) e0)=(x.getD (i+1) e0).1.filter λd=>!decide (d.id∈(x.getD (i+1) e0).2):=rfl;rw[<-ae9] at ca;rw[<-ae8] at cb;have cm:=λH T=>HY (er (iP (x.getD i e0))) (er (iP (x.getD (i+1) e0))) (hb.lv hp) (hb.lv XF) (λ_ _=>by
       have h1:=yj NA;unfold both at h1;rw[dU,ahw] at h1;have h2:=hb.a;show ((iP (x.getD i e0)).map (·.id)).length+((iP (x.getD (i+1) e0)).map (·.id)).length<=19;rw[ahL,ahL];omega) H T
      rw[Tz hg NA] at cm;have zJ:(er (both x i)).aw.length<=1000:=(hb.both NA).d;have cr:=λH T=>cr i (i+2) (both x i) zO zO zJ H T;rw[<-uO,<-uP] at cr;rw[show ((i+2:Nat):Int)=(i:Int)+2 by omega] at cr;have pW:=λh=>Lb g2 NA h λj h1 h2=>t3 j zO h2;have Ot:rL x i=decide ((x.getD i e0).1.length<2*(x.getD (i+1) e0).1.length):=rfl;rw[<-YF,<-hdb] at Ot;have hr:=Ek (both x i) (show i<i+2 by omega) NA;have afx:(x.getD i e0).1.length<=19:=(hb.b _ hp).1;have afu:(x.getD (i+1) e0).1.length<=19:=(hb.b _ XF).1;rw[<-YF] at afx;rw[<-hdb] at afu;generalize gY x i (i+2) (both x i)=y at *;generalize er (both x i)=r at *;generalize er (iP (x.getD i e0))=ra at *;generalize er (iP (x.getD (i+1) e0))=rb at *;generalize er (x.getD i e0).1=a at *;generalize (x.getD i e0).2=da at *;generalize er (x.getD (i+1) e0).1=b at *;generalize (x.getD (i+1) e0).2=db at *;have key:∀(e:Env)(G:List aA)(pa pb:Nat)(X:List aA),G=H++.cells (jr (bF x) (cI x))::.cells [.sl 0 [] .full,.sl 0 [] .full]::X->G[pa]?=some (.cells (cH a))->G[pb]?=some (.cells (cH b))->
        bA G.length T.length e [(1,.ptr H.length 0),(2,.ptr (H.length+1) 0),(5,.int .i64 (i:Nat)),(6,.ptr pa 0),(7,.ptr pb 0)]->K ⟨e,G,T⟩:=by
       intro e G pa pb X hG ga gb he;refine hK _ (dE λho=>aF ⟨[(1,.ptr H.length 0),(2,.ptr (H.length+1) 0),(5,.int .i64 (i:Nat)),(6,.ptr pa 0),(7,.ptr pb 0)],G,T⟩ (ak [] [] zS zS (by rw[hG];simp) zS ho he) ?_);clear hK he;have gx:G[H.length]?=some (.cells (jr (bF x) (cI x))):=by rw[hG];simp
       have la:=(aht.1 ga).1;have lb:=(aht.1 gb).1;have lx:=(aht.1 gx).1;have ea:=aZ ga;have eb:=aZ gb;have ex:=aZ gx;refine ae λK4 iQ=>?_
       by_cases hnr:a.aw.length<2*b.aw.length
       ·have b1:decide (2*(b.aw.length:Int)<=(a.aw.length:Int))=false:=ahy zO;have b2:¬2*b.aw.length<=a.aw.length:=zO;have hs:=pW (by rw[Ot];exact ahx hnr);apply ar;simp(disch:=omega)[ea,eb,la,lb,b1,b2];apply aB rfl;apply aj;apply iQ;clear iQ;have ga2:∀z,(G++[z])[pa]?=some (.cells (cH a)):=λz=>by rw[ahB la];exact ga
        have gb2:∀z,(G++[z])[pb]?=some (.cells (cH b)):=λz=>by rw[ahB lb];exact gb
        have XV:∀z,(G++[z])[H.length]?=some (.cells (jr (bF x) (cI x))):=λz=>by rw[ahB lx];exact gx
        refine cQ [19,20] [0,0,0,0,0,0,0,0,0,0,0,0,0,0,0,0,0,0,0,0,1,2] [[0,1,2,3,4,5,6,7,8,9,10,11,12,13,14,15,16,17,18],[18]] aO zK zK λK hK=>?_;simp(disch:=omega)[ea,eb,ex,la,lb,lx,ga2,gb2,XV,d1,d2,vv,NU,bN];refine az (ca _ _) rfl ?_;simp(disch:=omega)[ea,eb,ex,la,lb,lx,ga2,gb2,XV,d1,d2,vv,NU,bN];refine az (cb _ _) rfl ?_;simp(disch:=omega)[ea,eb,ex,la,lb,lx,ga2,gb2,XV,d1,d2,vv,NU,bN];refine az (cm _ _) rfl ?_;simp(disch:=omega)[ea,eb,ex,la,lb,lx,ga2,gb2,XV,d1,d2,vv,NU,bN];refine⟨⟨ca _ _,cb _ _,cm _ _⟩,hK _ ?_⟩;clear hK K;refine ae λK4 iQ=>?_;refine af ?_;apply aB rfl;apply aj;apply iQ;clear iQ;apply ar;simp(disch:=omega)[XV,lx,ex];refine ai (cr _ _) ?_;simp(disch:=omega)[XV,ex,lx];refine JJ ?_;show 0=0/\_;refine⟨rfl,y,⟨hb.step hs,zO,(Av hg hs).trans he⟩,(ko hg hs).2.2,?_⟩;refine ak (X++[.cells (cH r)]) [] ?_ ?_ ?_ ?_ (De _ _) ?_
        all_goals simp[hG]
       ·have b1:decide (2*(b.aw.length:Int)<=(a.aw.length:Int))=true:=ahx zO;have b2:2*b.aw.length<=a.aw.length:=zO;have Uv:rL x i=false:=by rw[Ot];exact ahy hnr
        apply ar;simp(disch:=omega)[ea,eb,la,lb,b1,b2];apply aC rfl;apply aD;refine zQ ?_;apply bH;clear bH;refine aJ ?_;refine⟨(i:Int)-1,⟨zO,zO,λj h1 h2=>?_⟩,by show ((i:Int)-1+2).toNat<((i:Int)+2).toNat;omega,?_⟩
        ·by_cases rW:j=i
         ·subst rW;exact Uv
         ·exact t3 j zO h2
        ·refine ak X [] ?_ ?_ ?_ ?_ eu ?_
         all_goals simp[hG]
      refine⟨?_,?_⟩
      ·simp(disch:=omega)[iU,bB,Ol,VO,Wp,dL];refine key _ _ (H.length+2) (H.length+3) _ rfl ?_ ?_ ?_
       all_goals simp
      ·simp(disch:=omega)[iU,lr,By,sw,bB,Ol,VO,Wp,dL];refine key _ _ (H.length+3) (H.length+2) _ rfl ?_ ?_ ?_
       all_goals simp
     ·have b1:decide ((0:Int)<=t)=false:=ahy ht;have hs:=La g2 λj hj=>t3 j zO hj;rw[KX hs] at he;apply ar;simp(disch:=omega)[b1,ht];apply aB rfl;apply aD;refine zQ ?_;apply aN;clear aN;refine af ?_;refine aI ?_;rw[<-he];exact⟨⟨rfl,rfl⟩,rfl,rfl⟩
end Go.Proofs.YtoejlmpbebjemaaGreat
