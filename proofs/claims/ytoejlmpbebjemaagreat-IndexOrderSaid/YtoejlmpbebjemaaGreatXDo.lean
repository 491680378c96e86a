/- index.Documents (layer 40).
  Conditions: sizes, as the theorems say. -/
import Derived.Test.YtoejlmpbebjemaaGreatXZb
import Derived.Test.YtoejlmpbebjemaaGreatXGr
import Derived.Test.YtoejlmpbebjemaaGreatGZy
set_option linter.all false
set_option maxRecDepth 100000
set_option maxHeartbeats 8000000
namespace Go.Proofs.YtoejlmpbebjemaaGreat
open Go.Proofs.Tryz(prog)
open Go Go.Am ia cO eN
def okB (d:Dc):Prop:=1<=d.id/\d.id<=1000000000
attribute [-simp] List.getD_eq_getElem?_getD in
def P7:Gk okB 92:=by
 intro x y hx hy H T;refine⟨x.id-y.id,?_,by omega⟩;obtain⟨x1,x2⟩:=hx;obtain⟨y1,y2⟩:=hy;refine ar.bZ ?_ (by simp);refine ah 5 [] Tryz.ntmps92 Tryz.func92 rfl (λ_ _=>Tryz.call92 _ _) (by simp) (λHO=>?_);apply ae;intro K Z;simp(disch:=omega);apply Z;apply ae;intro K Z;simp(disch:=omega);apply Z;apply az;simp(disch:=omega) 
attribute [-simp] List.getD_eq_getElem?_getD in
def LF (g:Nat)(H:List aA)(T:au):ar prog 185 [.sl 0 [] .none,.int .i64 0,.int .i64 0,.fn g [] []] H T (Is (.df []) H T):=by
 refine ar.bZ ?_ (by simp);refine ah 10 [] Tryz.ntmps185 Tryz.func185 rfl (λ_ _=>Tryz.call185 _ _) (by simp) (λHO=>?_);apply ae;intro K Z;simp(disch:=omega);apply Z;apply aj;refine aJ (X:=Nat) (λ_=>⟨[(2,.int .i64 0),(8,.int .i64 1)],H,T⟩) (λ_=>True) (λ_=>0) 0 trivial ?_ ?_
 ·refine ag [] [] ?_ ?_ ?_ ?_ HO ?_
  all_goals simp
 ·intro k _;refine af λK2 bp=>?_;apply ae;intro K Z;simp(disch:=omega);apply Z;apply aF rfl;apply aG;simp(disch:=omega) 
attribute [-simp] List.getD_eq_getElem?_getD in
def BS (g:Nat)(H:List aA)(T:au):ar prog 91 [.sl 0 [] .none,.fn g [] []] H T (Is (.df []) H T):=by
 refine ar.bZ ?_ (by simp);have c:ar prog 156 [.sl 0 [] .none,.int .i64 0,.fn g [] []] H T (Is (.df []) H T):=by
  refine ar.bZ ?_ (by simp);have c:=LF g H T;refine ah 10 [] Tryz.ntmps156 Tryz.func156 rfl (λ_ _=>Tryz.call156 _ _) (by simp) (λHO=>?_);apply ae;intro K Z;simp(disch:=omega);apply Z;apply ae;intro K Z;simp(disch:=omega);apply Z;refine af λK1 aP=>?_;apply aj;refine aJ (X:=Nat) (λ_=>⟨[(0,.sl 0 [] .none),(1,.int .i64 0),(2,.fn g [] []),(6,.int .i64 20),(7,.int .i64 0),(8,.int .i64 20)],H,T⟩) (λ_=>True) (λ_=>0) 0 trivial ?_ ?_
  ·refine ag [] [] ?_ ?_ ?_ ?_ HO ?_
   all_goals simp
  ·intro k _;refine af λK2 bp=>?_;apply ae;intro K Z;simp(disch:=omega);apply Z;apply aF rfl;apply aG;simp(disch:=omega) ;apply aP;clear aP;refine ae λK hK=>?_;simp(disch:=omega) ;refine ak (c) ?_;simp(disch:=omega) ;apply hK;apply aj;refine aJ (X:=Nat) (λ_=>⟨[(1,.int .i64 0),(6,.int .i64 20)],H,T⟩) (λ_=>True) (λ_=>0) 0 trivial ?_ ?_
   ·refine ag [] [] ?_ ?_ ?_ ?_ HO ?_
    all_goals simp
   ·intro k _;refine af λK3 bG=>?_;apply ae;intro K Z;simp(disch:=omega);apply Z;apply aF rfl;apply aG;simp(disch:=omega) 
 refine ah 3 [] Tryz.ntmps91 Tryz.func91 rfl (λ_ _=>Tryz.call91 _ _) (by simp) (λHO=>?_);refine aC λK hK=>?_;simp(disch:=omega) ;refine ak (c) ?_;simp(disch:=omega) ;apply hK;simp
def xG (n t:Nat)(d:Dc):aM n t (dO d):=by simp
def ML (p:Sd)(j:Nat):List Dc:=(p.1.take j).filter λd=>!decide (d.id∈p.2)
def SG (p:Sd):ML p p.1.length=iy p:=by unfold ML iy;rw[agZ]
def Pr (p:Sd){j:Nat}(h:j<p.1.length):ML p (j+1)=ML p j++(if (p.1.getD j d0).id∈p.2 then [] else [p.1.getD j d0]):=by
 unfold ML;rw[aV p.1 j d0 h,aht]
 congr 1
 by_cases hm:(p.1.getD j d0).id∈p.2<;>simp[hm,-List.getD_eq_getElem?_getD]
def HZ {x:List Sd}{i:Nat}(h:i<x.length):alive (x.take (i+1))=alive (x.take i)++iy (x.getD i e0):=by
 rw[aV x i e0 h,dq];simp[alive]
def OI {x:List Sd}(h:GX x){l:List Dc}(hl:re (alive x) l):l=fl x:=by
 have h1:=gF h;have h2:(l.map (·.id)).Nodup:=(hl.perm.map _).nodup_iff.2 h.nd;have h3:l.Pairwise λa b=>a.id<b.id:=by
  have h4:=hl.ord;rw[List.Nodup,ahj] at h2;exact(h4.and h2).imp λ{a b} ⟨p,q⟩=>by omega
 exact qt h3 h1.lt λd=>hl.perm.mem_iff.trans (eQ d).symm
attribute [-simp] List.getD_eq_getElem?_getD in
def ri {m:Nat}{x:List Sd}(h:BX m x)(hl:x.length<=400)(H:List aA)(T:au) :
  ar prog 38 [yp x] H T (Is (.sl (fl x).length (aN (fl x)) .none) H T):=by
 refine ar.pf ?_;show ar prog _ _ H T (BQ H T _);have hg:=h.g;have ha:=h.a;have FD:=fw x;have mN:=l0 x;have hdc:∀l:List Dc,l.flatMap dO=aN l:=λl=>rfl;refine ah 20 [100033] Tryz.ntmps38 Tryz.func38 rfl (λ_ _=>Tryz.call38 _ _) (by simp) (λHO=>?_);apply ae;intro K Z;simp(disch:=omega);apply Z;have eV:bN (H++[.cells (iv (br x) (cj x))]) T:=HO.snoc (by simp);apply ae;intro K Z;simp(disch:=omega);apply Z;refine af λK1 aP=>?_;apply ae;intro K Z;simp(disch:=omega);apply Z;apply aj;refine aJ (X:=Nat×AV×List aA) (λy=>⟨[(1,.ptr H.length 0),(3,y.2.1),(9,.sl (br x).length (fD (br x)) .none),(10,.int .i64 ((br x).length:Nat)),(11,.int .i64 (y.1:Nat))],y.2.2,T⟩)
  (λy=>y.1<=x.length/\GR dO 3 (H++[.cells (iv (br x) (cj x))]) T (alive (x.take y.1)) y.2.2 y.2.1) (λy=>x.length-y.1) (0,.sl 0 [] .full,H++[.cells (iv (br x) (cj x))]) ?_ ?_ ?_
 ·exact⟨agP _,GR.nil eV⟩
 ·refine ag [] [] ?_ ?_ ?_ ?_ eV ?_
  all_goals simp
 ·rintro⟨i,out,J⟩ ⟨g1,hG⟩;simp only at g1 hG ⊢;have hJl:H.length+1<=J.length:=by have:=hG.pre.le;simp at this;omega
  have hb:=hG.below;apply ae;intro K Z;simp(disch:=omega);apply Z;refine af λK2 bp=>?_;refine aU rfl (λhk=>?_) (λhk=>?_)
  ·simp  at hk;have hi:i<x.length:=by omega
   have TG:=fY hi;have bu:=j7 (br x) i hk;rw[fx hi] at bu;have cd:=λH T=>rj (eu (x.getD i e0).1) (h.sz TG) H T;rw[(hg.vd _ TG).aB] at cd;have cde:=λH T=>BJ (br x) (cj x) i (by omega) (by omega) H T;rw[gn hi] at cde;have hdd:=ka (hg.da _ TG) (hg.dd _ TG);have hbp:=(h.b _ TG).1;have VE:(x.getD i e0).2.length<=19:=by omega
   have uW:=HZ hi;have agx:=mr x i;have aZ:=SG (x.getD i e0);have hln:=λj hj=>Pr (x.getD i e0) (j:=j) hj;have hla:alive (x.take i)=alive (x.take i)++ML (x.getD i e0) 0:=by simp[ML]
   rw[hla] at hG;rw[<-aZ] at uW;have YD:∀j,(ML (x.getD i e0) j).length<=19:=λj=>by
    unfold ML;refine agJ (ahf _ _) ?_;rw[ag5];omega
   have hGm:GR dO 3 (H++[.cells (iv (br x) (cj x))]) T (alive (x.take i)++ML (x.getD i e0) 0) (J++[.cells (dA (eu (x.getD i e0).1))]) out:=hG.more _ (hG.ok.snoc (by simp));have My:Below (J.length+1) T.length out:=by have:=hGm.below;simpa using this
   generalize hna:alive (x.take (i+1))=na at *;generalize alive (x.take i)=al at *;generalize agn:ML (x.getD i e0)=Xv at *;generalize hL:(x.getD i e0).1=L at *;generalize (x.getD i e0).2=dd at *;generalize eu L=s at *;apply aq;simp(disch:=omega) ;apply bp;clear bp;refine af λK3 bG=>?_;apply aj;refine ae λK hK=>?_;simp(disch:=omega)[bu,hk,dD];apply hK;refine ae λK hK=>?_;simp(disch:=omega) ;refine ak (cd _ _) ?_;simp(disch:=omega) ;apply hK;apply aj;refine aJ (X:=Nat×AV×List aA) (λy=>⟨[(1,.ptr H.length 0),(3,y.2.1),(4,.int .i64 (i:Nat)),(9,.sl (br x).length (fD (br x)) .none),(10,.int .i64 ((br x).length:Nat)),(11,.int .i64 (i:Nat)),(17,.sl L.length (aN L) .none),(18,.int .i64 (L.length:Nat)),(19,.int .i64 (y.1:Nat))],y.2.2,T⟩)
    (λy=>y.1<=L.length/\GR dO 3 (H++[.cells (iv (br x) (cj x))]) T (al++Xv y.1) y.2.2 y.2.1) (λy=>L.length-y.1) (0,out,J++[.cells (dA s)]) ?_ ?_ ?_
   ·exact⟨agP _,hGm⟩
   ·refine ag [] [] ?_ ?_ ?_ ?_ hGm.ok ?_
    all_goals simp[My]
    all_goals omega
   ·clear hGm My hb hJl;rintro⟨k,Ga,J2⟩ ⟨k1,k2⟩;simp only at k1 k2 ⊢;have lh2:H.length+1<=J2.length:=by have:=k2.pre.le;simp at this;omega
    have Xw:=k2.below;apply ae;intro K Z;simp(disch:=omega);apply Z;refine af λK5 lq=>?_;refine aU rfl (λfX=>?_) (λfX=>?_)
    ·simp  at fX;have gO:k<L.length:=by omega
     have ZC:=fC L k gO;have TK:=hln k gO;have cc:=λH T=>pZ dd (L.getD k d0).id (agJ VE (by decide)) H T .none;generalize L.getD k d0=d1 at *;have wC:GR dO 3 (H++[.cells (iv (br x) (cj x))]) T (al++Xv k) (J2++[.cells (dO d1)]) Ga:=k2.more _ (k2.ok.snoc (by simp));apply aq;simp(disch:=omega) ;apply lq;clear lq;refine af λK6 oe=>?_;apply aj;refine ae λK hK=>?_;simp(disch:=omega)[ZC,gO,bf];apply hK;have gx:(J2++[aA.cells (dO d1)])[H.length]?=some (.cells (iv (br x) (cj x))):=by
      obtain⟨X,hX⟩:=k2.pre;rw[hX];simp
     have gd:(J2++[aA.cells (dO d1)])[J2.length]?=some (.cells (dO d1)):=by simp
     have ex:=aX gx;have ed:=aX gd;have lx:=(agC.1 gx).1;have ld:=(agC.1 gd).1;have lb3:=wC.below;clear k2 Xw;generalize zk:J2++[aA.cells (dO d1)]=J3 at *;clear zk gx gd;generalize J2.length=jd at *;have af4:=YD (k+1);have fin:∀e J' pj,GR dO 3 (H++[.cells (iv (br x) (cj x))]) T (al++Xv (k+1)) J' pj->bC J'.length T.length e [(1,.ptr H.length 0),(3,pj),(4,.int .i64 (i:Nat)),(9,.sl (br x).length (fD (br x)) .none),(10,.int .i64 ((br x).length:Nat)),(11,.int .i64 (i:Nat)),(17,.sl L.length (aN L) .none),(18,.int .i64 (L.length:Nat)),(19,.int .i64 (k:Nat))]->K6 ⟨e,J',T⟩:=by
      intro e J' pj Jv he;have jJ:=Jv.pre.le;have vF:=Jv.below;refine oe _ (aI ⟨[(1,.ptr H.length 0),(3,pj),(4,.int .i64 (i:Nat)),(9,.sl (br x).length (fD (br x)) .none),(10,.int .i64 ((br x).length:Nat)),(11,.int .i64 (i:Nat)),(17,.sl L.length (aN L) .none),(18,.int .i64 (L.length:Nat)),(19,.int .i64 (k:Nat))],J',T⟩ (ag [] [] (by simp) (by simp) (by simp at jJ;show H.length<=J'.length;omega) (by simp) Jv.ok he) ?_);refine aC λK hK=>?_;simp(disch:=omega) ;apply hK;refine⟨(k+1,pj,J'),⟨by show k+1<=_;omega,Jv⟩,by show L.length-(k+1)<L.length-k;omega,?_⟩;refine ag [] [] ?_ ?_ ?_ ?_ Jv.ok ?_
      all_goals simp at jJ ⊢
      all_goals first|omega|(simp[vF];omega)
     clear oe
     by_cases hm:d1.id∈dd
     ·rw[agN hm,ag2] at TK;rw[TK] at fin;rw[agH hm] at cc;refine aK [] [0,0,0,0,0,0,0] [] aw (by kernel_rfl) (by kernel_rfl) λK hK=>?_;simp(disch:=omega)[ex];refine aD (cde _ _) rfl ?_;simp(disch:=omega)[ed,ld];refine aD (cc _ _) rfl ?_;simp(disch:=omega) ;apply hK;apply aF rfl;apply aq;simp(disch:=omega) ;refine fin _ _ _ wC ?_;simp[lb3];omega
     ·rw[agL hm] at TK;rw[agI hm] at cc;rw[TK,<-List.append_assoc] at fin;refine aK [] [0,0,0,0,0,0,0] [] aw (by kernel_rfl) (by kernel_rfl) λK hK=>?_;simp(disch:=omega)[ex];refine aD (cde _ _) rfl ?_;simp(disch:=omega)[ed,ld];refine aD (cc _ _) rfl ?_;simp(disch:=omega) ;apply hK;apply aH rfl;have ags:(al++Xv k).length<=1000000:=by
       have:=YD k;rw[agF];omega
      generalize al++Xv k=dl at *;rcases wC.o with⟨rfl,rfl⟩|⟨b,cap,rfl,h2,h3,h4⟩
      ·have hg:=λnc hn=>GR.first xG wC [d1] nc hn;refine aC λK hK=>?_;simp(disch:=omega)[ed,ld];intro nc hn;apply hK;have:=hg nc hn;refine fin _ _ _ this ?_;simp;omega
      ·have iS:=λhle=>GR.put jY xG h4 h2 wC.pre wC.ok [d1] hle;have u5:=λnc hn=>GR.grow (nc:=nc) jY xG h4 wC.pre wC.ok [d1] hn;have vF:(dl.flatMap dO++List.replicate ((cap-dl.length)*3) AV.top).length=cap*3:=by
        rw[agF,bY jY,ajd,<-Nat.add_mul]
        congr 1;omega
       refine aC λK hK=>?_;simp(disch:=omega)[ed,ld];refine⟨26,_,dO d1,1,by kernel_rfl,h4,by rw[vF,BL],by simp,by simp;omega,by omega,by kernel_rfl,by simp,λhle=>?_,λnc aZ ll=>?_⟩
       ·have hg:=iS hle;simp only[ahd,ahV,ahO,List.flatMap_singleton] at hg;simp only[BL];generalize hX:J3.set b _=J4 at hg ⊢;have kK:=hg.below;have jy:J3.length=J4.length:=by rw[<-hX,ahY]
        simp(disch:=omega) ;apply hK;refine fin _ _ _ hg ?_;simp[kK];omega
       ·have hg:=u5 nc ll;simp only[ahd,ahV,ahO,List.flatMap_singleton] at hg;simp only[BL];generalize hX:J3++[aA.cells _]=J4 at hg ⊢;have kK:=hg.below;have jy:J3.length+1=J4.length:=by rw[<-hX];simp
        clear u5 iS ex ed h4 hX;generalize J3.length=i2 at *;simp(disch:=omega) ;apply hK;refine fin _ _ _ hg ?_;simp at kK;simp[kK];omega
    ·simp  at fX;have Jp:k=L.length:=by omega
     subst Jp;rw[<-uW] at k2;apply aG;simp(disch:=omega) ;refine bG _ (aI ⟨[(1,.ptr H.length 0),(3,Ga),(9,.sl (br x).length (fD (br x)) .none),(10,.int .i64 ((br x).length:Nat)),(11,.int .i64 (i:Nat))],J2,T⟩ (ag [] [] (by simp) (by simp) (by show H.length<=J2.length;omega) (by simp) k2.ok (by simp[Xw];omega)) ?_);refine aC λK hK=>?_;simp(disch:=omega) ;apply hK;refine⟨(i+1,Ga,J2),⟨by show i+1<=_;omega,by rw[hna];exact k2⟩,by show x.length-(i+1)<x.length-i;omega,?_⟩;refine ag [] [] ?_ ?_ ?_ ?_ k2.ok ?_
     all_goals simp[Xw]
     all_goals omega
  ·simp  at hk;have Cg:i=x.length:=by omega
   subst Cg;rw[agZ] at hG;have hso:=λl=>OI (l:=l) hg;have hP:∀d∈alive x,okB d:=λd hd=>by
    obtain⟨p,hp,tM⟩:=jU.1 hd;exact Classical.byContradiction λhn=>by
     have:=(hg.vd p hp).v d (lY tM);rw[qj hn] at this;cases this
   generalize alive x=dl at *;have lh:=hG.pre.le;rcases hG.o with⟨rfl,rfl⟩|⟨b,cap,rfl,h2,h3,h4⟩
   ·have cs:=ar.cF (a:=.sl 0 [] .full) (BS 92 J T);apply aG;simp(disch:=omega) ;apply aP;clear aP;refine ae λK hK=>?_;simp(disch:=omega) ;refine ak (cs) ?_;simp(disch:=omega) ;apply hK;apply ae;intro K Z;simp(disch:=omega);apply Z;apply az;simp(disch:=omega) ;have hn:fl x=[]:=(hso [] ⟨.nil,.nil⟩).symm;rw[hn];refine⟨?_,⟨[],(ag2 _).symm⟩,fU.sl rfl λj hj=>absurd hj (ag9 j)⟩;obtain⟨X,hX⟩:=hG.pre;exact⟨aA.cells (iv (br x) (cj x))::X,by rw[hX];simp⟩
   ·have cs:=ar.cF (a:=.bJ b dl.length cap) (xU P7 dl hP (List.replicate ((cap-dl.length)*3) .top) b ha J T h4 (by simp));apply aG;simp(disch:=omega) ;apply aP;clear aP;refine ae λK hK=>?_;simp(disch:=omega) ;refine⟨_,cs,?_⟩;rintro r H2 T2 ⟨rfl,rfl,l,rfl,hL⟩;simp(disch:=omega) ;apply hK;apply ae;intro K Z;simp(disch:=omega);apply Z;apply az;simp(disch:=omega) ;rw[<-hso l hL,hL.len];refine⟨?_,⟨[],(ag2 _).symm⟩,fU.YZ (by simp at h2;omega) (rest:=List.replicate ((cap-dl.length)*3) .top) ?_ (xQ _ _ _)⟩
    ·obtain⟨X,hX⟩:=hG.pre.set h2 (aA.cells (aN l++List.replicate ((cap-dl.length)*3) AV.top));exact⟨aA.cells (iv (br x) (cj x))::X,by rw[hX];simp⟩
    ·rw[ag4 (agC.1 h4).1]
end Go.Proofs.YtoejlmpbebjemaaGreat
