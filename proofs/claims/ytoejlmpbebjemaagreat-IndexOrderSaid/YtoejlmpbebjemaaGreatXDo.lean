/- index.Documents (layer 40).
  Conditions: sizes, as the theorems say. -/
import Derived.Test.YtoejlmpbebjemaaGreatXZb
import Derived.Test.YtoejlmpbebjemaaGreatXGr
import Derived.Test.YtoejlmpbebjemaaGreatGZy
set_option linter.all false
set_option maxRecDepth 100000
set_option maxHeartbeats 8000000
namespace Go.Proofs.YtoejlmpbebjemaaGreat
open Go.Proofs.Tryz(prog)
open Go Go.Am im cL eT
def okB (d:Dc):Prop:=1<=d.id/\d.id<=1000000000
attribute [-simp] List.getD_eq_getElem?_getD in
def QX:GM okB 92:=by
 intro x y hx hy H T;refine⟨x.id-y.id,?_,by omega⟩;obtain⟨x1,x2⟩:=hx;obtain⟨y1,y2⟩:=hy;refine ar.bV ?_ (by simp);refine ah 5 [] Tryz.ntmps92 Tryz.func92 rfl (λ_ _=>Tryz.call92 _ _) (by simp) (λHO=>?_);apply ae;intro K Z;simp(disch:=omega);apply Z;apply ae;intro K Z;simp(disch:=omega);apply Z;apply ay;simp(disch:=omega) 
attribute [-simp] List.getD_eq_getElem?_getD in
def Mt (g:Nat)(H:List az)(T:au):ar prog 185 [.sl 0 [] .none,.int .i64 0,.int .i64 0,.fn g [] []] H T (Is (.df []) H T):=by
 refine ar.bV ?_ (by simp);refine ah 10 [] Tryz.ntmps185 Tryz.func185 rfl (λ_ _=>Tryz.call185 _ _) (by simp) (λHO=>?_);apply ae;intro K Z;simp(disch:=omega);apply Z;apply aj;refine aI (X:=Nat) (λ_=>⟨[(2,.int .i64 0),(8,.int .i64 1)],H,T⟩) (λ_=>True) (λ_=>0) 0 trivial ?_ ?_
 ·refine ag [] [] ?_ ?_ ?_ ?_ HO ?_
  all_goals simp
 ·intro k _;refine af λK2 bc=>?_;apply ae;intro K Z;simp(disch:=omega);apply Z;apply aD rfl;apply aF;simp(disch:=omega) 
attribute [-simp] List.getD_eq_getElem?_getD in
def Ci (g:Nat)(H:List az)(T:au):ar prog 91 [.sl 0 [] .none,.fn g [] []] H T (Is (.df []) H T):=by
 refine ar.bV ?_ (by simp);have c:ar prog 156 [.sl 0 [] .none,.int .i64 0,.fn g [] []] H T (Is (.df []) H T):=by
  refine ar.bV ?_ (by simp);have c:=Mt g H T;refine ah 10 [] Tryz.ntmps156 Tryz.func156 rfl (λ_ _=>Tryz.call156 _ _) (by simp) (λHO=>?_);apply ae;intro K Z;simp(disch:=omega);apply Z;apply ae;intro K Z;simp(disch:=omega);apply Z;refine af λK1 aO=>?_;apply aj;refine aI (X:=Nat) (λ_=>⟨[(0,.sl 0 [] .none),(1,.int .i64 0),(2,.fn g [] []),(6,.int .i64 20),(7,.int .i64 0),(8,.int .i64 20)],H,T⟩) (λ_=>True) (λ_=>0) 0 trivial ?_ ?_
  ·refine ag [] [] ?_ ?_ ?_ ?_ HO ?_
   all_goals simp
  ·intro k _;refine af λK2 bc=>?_;apply ae;intro K Z;simp(disch:=omega);apply Z;apply aD rfl;apply aF;simp(disch:=omega) ;apply aO;clear aO;refine ae λK hK=>?_;simp(disch:=omega) ;refine ak (c) ?_;simp(disch:=omega) ;apply hK;apply aj;refine aI (X:=Nat) (λ_=>⟨[(1,.int .i64 0),(6,.int .i64 20)],H,T⟩) (λ_=>True) (λ_=>0) 0 trivial ?_ ?_
   ·refine ag [] [] ?_ ?_ ?_ ?_ HO ?_
    all_goals simp
   ·intro k _;refine af λK3 bD=>?_;apply ae;intro K Z;simp(disch:=omega);apply Z;apply aD rfl;apply aF;simp(disch:=omega) 
 refine ah 3 [] Tryz.ntmps91 Tryz.func91 rfl (λ_ _=>Tryz.call91 _ _) (by simp) (λHO=>?_);refine aB λK hK=>?_;simp(disch:=omega) ;refine ak (c) ?_;simp(disch:=omega) ;apply hK;simp
def xU (n t:Nat)(d:Dc):aK n t (dP d):=by simp
def NB (p:Sd)(j:Nat):List Dc:=(p.1.take j).filter λd=>!decide (d.id∈p.2)
def TN (p:Sd):NB p p.1.length=iG p:=by unfold NB iG;rw[ahE]
def Ql (p:Sd){j:Nat}(h:j<p.1.length):NB p (j+1)=NB p j++(if (p.1.getD j d0).id∈p.2 then [] else [p.1.getD j d0]):=by
 unfold NB;rw[aU p.1 j d0 h,ah8]
 congr 1
 by_cases hm:(p.1.getD j d0).id∈p.2<;>simp[hm,-List.getD_eq_getElem?_getD]
def IQ {x:List Sd}{i:Nat}(h:i<x.length):alive (x.take (i+1))=alive (x.take i)++iG (x.getD i e0):=by
 rw[aU x i e0 h,dw];simp[alive]
def PA {x:List Sd}(h:GX x){l:List Dc}(hl:rk (alive x) l):l=fC x:=by
 have h1:=gL h;have h2:(l.map (·.id)).Nodup:=(hl.perm.map _).nodup_iff.2 h.nd;have h3:l.Pairwise λa b=>a.id<b.id:=by
  have h4:=hl.ord;rw[List.Nodup,ahY] at h2;exact(h4.and h2).imp λ{a b} ⟨p,q⟩=>by omega
 exact qx h3 h1.lt λd=>hl.perm.mem_iff.trans (eZ d).symm
attribute [-simp] List.getD_eq_getElem?_getD in
def rp {m:Nat}{x:List Sd}(h:BX m x)(hl:x.length<=400)(H:List az)(T:au) :
  ar prog 38 [yH x] H T (Is (.sl (fC x).length (aM (fC x)) .none) H T):=by
 refine ar.pn ?_;show ar prog _ _ H T (BQ H T _);have hg:=h.g;have ha:=h.a;have Ga:=fG x;have hdl:=mh x;have hdc:∀l:List Dc,l.flatMap dP=aM l:=λl=>rfl;refine ah 20 [100033] Tryz.ntmps38 Tryz.func38 rfl (λ_ _=>Tryz.call38 _ _) (by simp) (λHO=>?_);apply ae;intro K Z;simp(disch:=omega);apply Z;have ff:bJ (H++[.cells (iE (bf x) (bX x))]) T:=HO.snoc (by simp);apply ae;intro K Z;simp(disch:=omega);apply Z;refine af λK1 aO=>?_;apply ae;intro K Z;simp(disch:=omega);apply Z;apply aj;refine aI (X:=Nat×AV×List az) (λy=>⟨[(1,.ptr H.length 0),(3,y.2.1),(9,.sl (bf x).length (fK (bf x)) .none),(10,.int .i64 ((bf x).length:Nat)),(11,.int .i64 (y.1:Nat))],y.2.2,T⟩)
  (λy=>y.1<=x.length/\GR dP 3 (H++[.cells (iE (bf x) (bX x))]) T (alive (x.take y.1)) y.2.2 y.2.1) (λy=>x.length-y.1) (0,.sl 0 [] .full,H++[.cells (iE (bf x) (bX x))]) ?_ ?_ ?_
 ·exact⟨ahu _,GR.nil ff⟩
 ·refine ag [] [] ?_ ?_ ?_ ?_ ff ?_
  all_goals simp
 ·rintro⟨i,out,J⟩ ⟨g1,hG⟩;simp only at g1 hG ⊢;have hJl:H.length+1<=J.length:=by have:=hG.pre.le;simp at this;omega
  have hb:=hG.below;apply ae;intro K Z;simp(disch:=omega);apply Z;refine af λK2 bc=>?_;refine aT rfl (λhk=>?_) (λhk=>?_)
  ·simp  at hk;have hi:i<x.length:=by omega
   have UH:=gu hi;have hcut:=ke (bf x) i hk;rw[fH hi] at hcut;have cd:=λH T=>rq (eB (x.getD i e0).1) (h.sz UH) H T;rw[(hg.vd _ UH).aA] at cd;have cde:=λH T=>Ca (bf x) (bX x) i (by omega) (by omega) H T;rw[gD hi] at cde;have hdd:=ki (hg.da _ UH) (hg.dd _ UH);have hbp:=(h.b _ UH).1;have Wv:(x.getD i e0).2.length<=19:=by omega
   have vb:=IQ hi;have ahc:=mD x i;have hlt:=TN (x.getD i e0);have hln:=λj hj=>Ql (x.getD i e0) (j:=j) hj;have hla:alive (x.take i)=alive (x.take i)++NB (x.getD i e0) 0:=by simp[NB]
   rw[hla] at hG;rw[<-hlt] at vb;have Zm:∀j,(NB (x.getD i e0) j).length<=19:=λj=>by
    unfold NB;refine aho (ahU _ _) ?_;rw[ahJ];omega
   have hGm:GR dP 3 (H++[.cells (iE (bf x) (bX x))]) T (alive (x.take i)++NB (x.getD i e0) 0) (J++[.cells (dC (eB (x.getD i e0).1))]) out:=hG.more _ (hG.ok.snoc (by simp));have Nq:Below (J.length+1) T.length out:=by have:=hGm.below;simpa using this
   generalize hna:alive (x.take (i+1))=na at *;generalize alive (x.take i)=al at *;generalize ag4:NB (x.getD i e0)=Yg at *;generalize hL:(x.getD i e0).1=L at *;generalize (x.getD i e0).2=dd at *;generalize eB L=s at *;apply aq;simp(disch:=omega) ;apply bc;clear bc;refine af λK3 bD=>?_;apply aj;refine ae λK hK=>?_;simp(disch:=omega)[hcut,hk,dF];apply hK;refine ae λK hK=>?_;simp(disch:=omega) ;refine ak (cd _ _) ?_;simp(disch:=omega) ;apply hK;apply aj;refine aI (X:=Nat×AV×List az) (λy=>⟨[(1,.ptr H.length 0),(3,y.2.1),(4,.int .i64 (i:Nat)),(9,.sl (bf x).length (fK (bf x)) .none),(10,.int .i64 ((bf x).length:Nat)),(11,.int .i64 (i:Nat)),(17,.sl L.length (aM L) .none),(18,.int .i64 (L.length:Nat)),(19,.int .i64 (y.1:Nat))],y.2.2,T⟩)
    (λy=>y.1<=L.length/\GR dP 3 (H++[.cells (iE (bf x) (bX x))]) T (al++Yg y.1) y.2.2 y.2.1) (λy=>L.length-y.1) (0,out,J++[.cells (dC s)]) ?_ ?_ ?_
   ·exact⟨ahu _,hGm⟩
   ·refine ag [] [] ?_ ?_ ?_ ?_ hGm.ok ?_
    all_goals simp[Nq]
    all_goals omega
   ·clear hGm Nq hb hJl;rintro⟨k,GA,J2⟩ ⟨k1,k2⟩;simp only at k1 k2 ⊢;have lh2:H.length+1<=J2.length:=by have:=k2.pre.le;simp at this;omega
    have Yh:=k2.below;apply ae;intro K Z;simp(disch:=omega);apply Z;refine af λK5 lD=>?_;refine aT rfl (λgq=>?_) (λgq=>?_)
    ·simp  at gq;have gV:k<L.length:=by omega
     have aan:=fJ L k gV;have UK:=hln k gV;have cc:=λH T=>qd dd (L.getD k d0).id (aho Wv (by decide)) H T .none;generalize L.getD k d0=d1 at *;have wN:GR dP 3 (H++[.cells (iE (bf x) (bX x))]) T (al++Yg k) (J2++[.cells (dP d1)]) GA:=k2.more _ (k2.ok.snoc (by simp));apply aq;simp(disch:=omega) ;apply lD;clear lD;refine af λK6 om=>?_;apply aj;refine ae λK hK=>?_;simp(disch:=omega)[aan,gV,ba];apply hK;have gx:(J2++[az.cells (dP d1)])[H.length]?=some (.cells (iE (bf x) (bX x))):=by
      obtain⟨X,hX⟩:=k2.pre;rw[hX];simp
     have gd:(J2++[az.cells (dP d1)])[J2.length]?=some (.cells (dP d1)):=by simp
     have ex:=aW gx;have ed:=aW gd;have lx:=(ahh.1 gx).1;have ld:=(ahh.1 gd).1;have lb3:=wN.below;clear k2 Yh;generalize zy:J2++[az.cells (dP d1)]=J3 at *;clear zy gx gd;generalize J2.length=jd at *;have agN:=Zm (k+1);have fin:∀e J' pt,GR dP 3 (H++[.cells (iE (bf x) (bX x))]) T (al++Yg (k+1)) J' pt->bu J'.length T.length e [(1,.ptr H.length 0),(3,pt),(4,.int .i64 (i:Nat)),(9,.sl (bf x).length (fK (bf x)) .none),(10,.int .i64 ((bf x).length:Nat)),(11,.int .i64 (i:Nat)),(17,.sl L.length (aM L) .none),(18,.int .i64 (L.length:Nat)),(19,.int .i64 (k:Nat))]->K6 ⟨e,J',T⟩:=by
      intro e J' pt Kl he;have jR:=Kl.pre.le;have vO:=Kl.below;refine om _ (aH ⟨[(1,.ptr H.length 0),(3,pt),(4,.int .i64 (i:Nat)),(9,.sl (bf x).length (fK (bf x)) .none),(10,.int .i64 ((bf x).length:Nat)),(11,.int .i64 (i:Nat)),(17,.sl L.length (aM L) .none),(18,.int .i64 (L.length:Nat)),(19,.int .i64 (k:Nat))],J',T⟩ (ag [] [] (by simp) (by simp) (by simp at jR;show H.length<=J'.length;omega) (by simp) Kl.ok he) ?_);refine aB λK hK=>?_;simp(disch:=omega) ;apply hK;refine⟨(k+1,pt,J'),⟨by show k+1<=_;omega,Kl⟩,by show L.length-(k+1)<L.length-k;omega,?_⟩;refine ag [] [] ?_ ?_ ?_ ?_ Kl.ok ?_
      all_goals simp at jR ⊢
      all_goals first|omega|(simp[vO];omega)
     clear om
     by_cases hm:d1.id∈dd
     ·rw[ahs hm,ahH] at UK;rw[UK] at fin;rw[ahm hm] at cc;refine aJ [] [0,0,0,0,0,0,0] [] aw (by kernel_rfl) (by kernel_rfl) λK hK=>?_;simp(disch:=omega)[ex];refine aC (cde _ _) rfl ?_;simp(disch:=omega)[ed,ld];refine aC (cc _ _) rfl ?_;simp(disch:=omega) ;apply hK;apply aD rfl;apply aq;simp(disch:=omega) ;refine fin _ _ _ wN ?_;simp[lb3];omega
     ·rw[ahq hm] at UK;rw[ahn hm] at cc;rw[UK,<-List.append_assoc] at fin;refine aJ [] [0,0,0,0,0,0,0] [] aw (by kernel_rfl) (by kernel_rfl) λK hK=>?_;simp(disch:=omega)[ex];refine aC (cde _ _) rfl ?_;simp(disch:=omega)[ed,ld];refine aC (cc _ _) rfl ?_;simp(disch:=omega) ;apply hK;apply aG rfl;have ag7:(al++Yg k).length<=1000000:=by
       have:=Zm k;rw[ahk];omega
      generalize al++Yg k=dl at *;rcases wN.o with⟨rfl,rfl⟩|⟨b,cap,rfl,h2,h3,h4⟩
      ·have hg:=λnc hn=>GR.first xU wN [d1] nc hn;refine aB λK hK=>?_;simp(disch:=omega)[ed,ld];intro nc hn;apply hK;have:=hg nc hn;refine fin _ _ _ this ?_;simp;omega
      ·have iY:=λhle=>GR.put j7 xU h4 h2 wN.pre wN.ok [d1] hle;have vl:=λnc hn=>GR.grow (nc:=nc) j7 xU h4 wN.pre wN.ok [d1] hn;have vO:(dl.flatMap dP++List.replicate ((cap-dl.length)*3) AV.top).length=cap*3:=by
        rw[ahk,bU j7,ajU,<-Nat.add_mul]
        congr 1;omega
       refine aB λK hK=>?_;simp(disch:=omega)[ed,ld];refine⟨26,_,dP d1,1,by kernel_rfl,h4,by rw[vO,Cc],by simp,by simp;omega,by omega,by kernel_rfl,by simp,λhle=>?_,λnc hlt lC=>?_⟩
       ·have hg:=iY hle;simp only[ahS,aiB,aiv,List.flatMap_singleton] at hg;simp only[Cc];generalize hX:J3.set b _=J4 at hg ⊢;have kP:=hg.below;have jH:J3.length=J4.length:=by rw[<-hX,aiE]
        simp(disch:=omega) ;apply hK;refine fin _ _ _ hg ?_;simp[kP];omega
       ·have hg:=vl nc lC;simp only[ahS,aiB,aiv,List.flatMap_singleton] at hg;simp only[Cc];generalize hX:J3++[az.cells _]=J4 at hg ⊢;have kP:=hg.below;have jH:J3.length+1=J4.length:=by rw[<-hX];simp
        clear vl iY ex ed h4 hX;generalize J3.length=i2 at *;simp(disch:=omega) ;apply hK;refine fin _ _ _ hg ?_;simp at kP;simp[kP];omega
    ·simp  at gq;have Kg:k=L.length:=by omega
     subst Kg;rw[<-vb] at k2;apply aF;simp(disch:=omega) ;refine bD _ (aH ⟨[(1,.ptr H.length 0),(3,GA),(9,.sl (bf x).length (fK (bf x)) .none),(10,.int .i64 ((bf x).length:Nat)),(11,.int .i64 (i:Nat))],J2,T⟩ (ag [] [] (by simp) (by simp) (by show H.length<=J2.length;omega) (by simp) k2.ok (by simp[Yh];omega)) ?_);refine aB λK hK=>?_;simp(disch:=omega) ;apply hK;refine⟨(i+1,GA,J2),⟨by show i+1<=_;omega,by rw[hna];exact k2⟩,by show x.length-(i+1)<x.length-i;omega,?_⟩;refine ag [] [] ?_ ?_ ?_ ?_ k2.ok ?_
     all_goals simp[Yh]
     all_goals omega
  ·simp  at hk;have CE:i=x.length:=by omega
   subst CE;rw[ahE] at hG;have hso:=λl=>PA (l:=l) hg;have hP:∀d∈alive x,okB d:=λd hd=>by
    obtain⟨p,hp,hd2⟩:=j0.1 hd;exact Classical.byContradiction λhn=>by
     have:=(hg.vd p hp).v d (mf hd2);rw[qn hn] at this;cases this
   generalize alive x=dl at *;have lh:=hG.pre.le;rcases hG.o with⟨rfl,rfl⟩|⟨b,cap,rfl,h2,h3,h4⟩
   ·have cs:=ar.cg (a:=.sl 0 [] .full) (Ci 92 J T);apply aF;simp(disch:=omega) ;apply aO;clear aO;refine ae λK hK=>?_;simp(disch:=omega) ;refine ak (cs) ?_;simp(disch:=omega) ;apply hK;apply ae;intro K Z;simp(disch:=omega);apply Z;apply ay;simp(disch:=omega) ;have hn:fC x=[]:=(hso [] ⟨.nil,.nil⟩).symm;rw[hn];refine⟨?_,⟨[],(ahH _).symm⟩,gj.sl rfl λj hj=>absurd hj (ahO j)⟩;obtain⟨X,hX⟩:=hG.pre;exact⟨az.cells (iE (bf x) (bX x))::X,by rw[hX];simp⟩
   ·have cs:=ar.cg (a:=.bG b dl.length cap) (yg QX dl hP (List.replicate ((cap-dl.length)*3) .top) b ha J T h4 (by simp));apply aF;simp(disch:=omega) ;apply aO;clear aO;refine ae λK hK=>?_;simp(disch:=omega) ;refine⟨_,cs,?_⟩;rintro r H2 T2 ⟨rfl,rfl,l,rfl,hL⟩;simp(disch:=omega) ;apply hK;apply ae;intro K Z;simp(disch:=omega);apply Z;apply ay;simp(disch:=omega) ;rw[<-hso l hL,hL.len];refine⟨?_,⟨[],(ahH _).symm⟩,gj.ZJ (by simp at h2;omega) (rest:=List.replicate ((cap-dl.length)*3) .top) ?_ (ya _ _ _)⟩
    ·obtain⟨X,hX⟩:=hG.pre.set h2 (az.cells (aM l++List.replicate ((cap-dl.length)*3) AV.top));exact⟨az.cells (iE (bf x) (bX x))::X,by rw[hX];simp⟩
    ·rw[ahK (ahh.1 h4).1]
end Go.Proofs.YtoejlmpbebjemaaGreat
