/- index.Documents (layer 40).
  Conditions: sizes, as the theorems say. -/
import Derived.Test.YtoejlmpbebjemaaGreatXZb
import Derived.Test.YtoejlmpbebjemaaGreatXGr
import Derived.Test.YtoejlmpbebjemaaGreatGZy
set_option linter.all false
set_option maxRecDepth 100000
set_option maxHeartbeats 8000000
namespace Go.Proofs.YtoejlmpbebjemaaGreat
open Go.Proofs.Tryz(prog)
open Go Go.Am ie cN eN
def okB (d:Dc):Prop:=1<=d.id/\d.id<=1000000000
attribute [-simp] List.getD_eq_getElem?_getD in
def QL:GY okB 92:=by
 intro x y hx hy H T;refine⟨x.id-y.id,?_,zO⟩;obtain⟨x1,x2⟩:=hx;obtain⟨y1,y2⟩:=hy;refine aq.bK ?_ zS;refine ah 5 [] Tryz.ntmps92 Tryz.func92 rfl (λ_ _=>Tryz.call92 _ _) zS (λHO=>?_);refine af ?_;refine af ?_;exact bu zC
attribute [-simp] List.getD_eq_getElem?_getD in
def Ml (g:Nat)(H:List aA)(T:au):aq prog 185 [.sl 0 [] .none,.int .i64 0,.int .i64 0,.fn g [] []] H T (Is (.dn []) H T):=by
 refine aq.bK ?_ zS;refine ah 10 [] Tryz.ntmps185 Tryz.func185 rfl (λ_ _=>Tryz.call185 _ _) zS (λHO=>?_);refine af ?_;apply ag;refine aG (X:=Nat) (λ_=>⟨[(2,.int .i64 0),(8,.int .i64 1)],H,T⟩) (λ_=>True) (λ_=>0) 0 trivial ?_ ?_
 ·exact wk HO
 ·intro k _;apply hY;refine af ?_;apply aB rfl;apply aD;simp(disch:=omega) 
attribute [-simp] List.getD_eq_getElem?_getD in
def Cy (g:Nat)(H:List aA)(T:au):aq prog 91 [.sl 0 [] .none,.fn g [] []] H T (Is (.dn []) H T):=by
 refine aq.bK ?_ zS;have c:aq prog 156 [.sl 0 [] .none,.int .i64 0,.fn g [] []] H T (Is (.dn []) H T):=by
  refine aq.bK ?_ zS;have c:=Ml g H T;refine ah 10 [] Tryz.ntmps156 Tryz.func156 rfl (λ_ _=>Tryz.call156 _ _) zS (λHO=>?_);refine af ?_;refine af ?_;refine ae λK1 aN=>?_;apply ag;refine aG (X:=Nat) (λ_=>⟨[(0,.sl 0 [] .none),(1,.int .i64 0),(2,.fn g [] []),(6,.int .i64 20),(7,.int .i64 0),(8,.int .i64 20)],H,T⟩) (λ_=>True) (λ_=>0) 0 trivial ?_ ?_
  ·exact wk HO
  ·intro k _;apply hY;refine af ?_;apply aB rfl;apply aD;refine zQ ?_;apply aN;clear aN;apply ar;refine zQ ?_;refine ai (c) ?_;refine zQ ?_;apply ag;refine aG (X:=Nat) (λ_=>⟨[(1,.int .i64 0),(6,.int .i64 20)],H,T⟩) (λ_=>True) (λ_=>0) 0 trivial ?_ ?_
   ·exact wk HO
   ·intro k _;apply hY;refine af ?_;apply aB rfl;apply aD;simp(disch:=omega) 
 refine ah 3 [] Tryz.ntmps91 Tryz.func91 rfl (λ_ _=>Tryz.call91 _ _) zS (λHO=>?_);refine br λK hK=>?_;refine zQ ?_;refine ai (c) ?_;refine zQ ?_;apply hK;simp
def yb (n t:Nat)(d:Dc):aL n t (dY d):=zS
def Nt (p:Sd)(j:Nat):List Dc:=(p.1.take j).filter λd=>!decide (d.id∈p.2)
def TA (p:Sd):Nt p p.1.length=iP p:=by unfold Nt iP;rw[ahO]
def P7 (p:Sd){j:Nat}(h:j<p.1.length):Nt p (j+1)=Nt p j++(if (p.1.getD j d0).id∈p.2 then [] else [p.1.getD j d0]):=by
 unfold Nt;rw[aX p.1 j d0 h,aij]
 congr 1
 by_cases hm:(p.1.getD j d0).id∈p.2<;>simp[hm,-List.getD_eq_getElem?_getD]
def IE {x:List Sd}{i:Nat}(h:i<x.length):alive (x.take (i+1))=alive (x.take i)++iP (x.getD i e0):=by
 rw[aX x i e0 h,dA];simp[alive]
def Pn {x:List Sd}(h:GX x){l:List Dc}(hl:rP (alive x) l):l=fM x:=by
 have h1:=gT h;have h2:(l.map (·.id)).Nodup:=(hl.perm.map _).nodup_iff.2 h.nd;have h3:l.Pairwise λa b=>a.id<b.id:=by
  have h4:=hl.ord;rw[List.Nodup,aie] at h2;exact(h4.and h2).imp λ{a b} ⟨p,q⟩=>by omega
 exact qV h3 h1.lt λd=>hl.perm.mem_iff.trans (fw d).symm
attribute [-simp] List.getD_eq_getElem?_getD in
def zy {m:Nat}{x:List Sd}(h:BX m x)(hl:x.length<=400)(H:List aA)(T:au) :
  aq prog 38 [yW x] H T (Is (.sl (fM x).length (aM (fM x)) .none) H T):=by
 refine aq.pF ?_;show aq prog _ _ H T (BQ H T _);have hg:=h.g;have ha:=h.a;have yT:=fF x;have kW:=mG x;have hdc:∀l:List Dc,l.flatMap dY=aM l:=λl=>rfl;refine ah 20 [100033] Tryz.ntmps38 Tryz.func38 rfl (λ_ _=>Tryz.call38 _ _) zS (λHO=>?_);refine af ?_;have eu:bM (H++[.cells (jr (bF x) (cI x))]) T:=HO.snoc zS;refine af ?_;refine ae λK1 aN=>?_;refine af ?_;apply ag;refine aG (X:=Nat×AV×List aA) (λy=>⟨[(1,.ptr H.length 0),(3,y.2.1),(9,.sl (bF x).length (fK (bF x)) .none),(10,.int .i64 ((bF x).length:Nat)),(11,.int .i64 (y.1:Nat))],y.2.2,T⟩)
  (λy=>y.1<=x.length/\GR dY 3 (H++[.cells (jr (bF x) (cI x))]) T (alive (x.take y.1)) y.2.2 y.2.1) (λy=>x.length-y.1) (0,.sl 0 [] .full,H++[.cells (jr (bF x) (cI x))]) ?_ ?_ ?_
 ·exact⟨ahE _,GR.nil eu⟩
 ·exact wk eu
 ·rintro⟨i,out,J⟩ ⟨g1,hG⟩;simp only at g1 hG ⊢;have hJl:H.length+1<=J.length:=by have:=hG.pre.le;simp at this;omega
  have hb:=hG.below;refine af ?_;refine ae λK2 ba=>?_;refine aV rfl (λhk=>?_) (λhk=>?_)
  ·simp  at hk;have hi:i<x.length:=zO;have Ut:=gC hi;have bB:=kO (bF x) i hk;rw[fG hi] at bB;have cd:=λH T=>rR (er (x.getD i e0).1) (h.sz Ut) H T;rw[(hg.vd _ Ut).aw] at cd;have cde:=λH T=>Cn (bF x) (cI x) i zO zO H T;rw[gH hi] at cde;have hdd:=kQ (hg.da _ Ut) (hg.dd _ Ut);have hbp:=(h.b _ Ut).1;have Ws:(x.getD i e0).2.length<=19:=zO;have ur:=IE hi;have aho:=mU x i;have bp:=TA (x.getD i e0);have hln:=λj hj=>P7 (x.getD i e0) (j:=j) hj;have hla:alive (x.take i)=alive (x.take i)++Nt (x.getD i e0) 0:=by simp[Nt]
   rw[hla] at hG;rw[<-bp] at ur;have Zs:∀j,(Nt (x.getD i e0) j).length<=19:=λj=>by
    unfold Nt;refine ahA (ahX _ _) ?_;rw[ahW];omega
   have hGm:GR dY 3 (H++[.cells (jr (bF x) (cI x))]) T (alive (x.take i)++Nt (x.getD i e0) 0) (J++[.cells (cH (er (x.getD i e0).1))]) out:=hG.more _ (hG.ok.snoc zS);have Ng:Below (J.length+1) T.length out:=by have:=hGm.below;simpa using this
   generalize hna:alive (x.take (i+1))=na at *;generalize alive (x.take i)=al at *;generalize ahf:Nt (x.getD i e0)=Yi at *;generalize hL:(x.getD i e0).1=L at *;generalize (x.getD i e0).2=dd at *;generalize er L=s at *;apply aj;refine zQ ?_;apply ba;clear ba;refine ae λK3 bH=>?_;apply ag;apply ar;simp(disch:=omega)[bB,hk,dL];apply ar;refine zQ ?_;refine ai (cd _ _) ?_;refine zQ ?_;apply ag;refine aG (X:=Nat×AV×List aA) (λy=>⟨[(1,.ptr H.length 0),(3,y.2.1),(4,.int .i64 (i:Nat)),(9,.sl (bF x).length (fK (bF x)) .none),(10,.int .i64 ((bF x).length:Nat)),(11,.int .i64 (i:Nat)),(17,.sl L.length (aM L) .none),(18,.int .i64 (L.length:Nat)),(19,.int .i64 (y.1:Nat))],y.2.2,T⟩)
    (λy=>y.1<=L.length/\GR dY 3 (H++[.cells (jr (bF x) (cI x))]) T (al++Yi y.1) y.2.2 y.2.1) (λy=>L.length-y.1) (0,out,J++[.cells (cH s)]) ?_ ?_ ?_
   ·exact⟨ahE _,hGm⟩
   ·refine ak [] [] ?_ ?_ ?_ ?_ hGm.ok ?_
    all_goals simp[Ng]
    all_goals omega
   ·clear hGm Ng hb hJl;rintro⟨k,GL,J2⟩ ⟨k1,k2⟩;simp only at k1 k2 ⊢;have lh2:H.length+1<=J2.length:=by have:=k2.pre.le;simp at this;omega
    have Yj:=k2.below;refine af ?_;refine ae λK5 iT=>?_;refine aV rfl (λeL=>?_) (λeL=>?_)
    ·simp  at eL;have gy:k<L.length:=zO;have aau:=iw L k gy;have Uw:=hln k gy;have cc:=λH T=>qA dd (L.getD k d0).id (ahA Ws zD) H T .none;generalize L.getD k d0=d1 at *;have w8:GR dY 3 (H++[.cells (jr (bF x) (cI x))]) T (al++Yi k) (J2++[.cells (dY d1)]) GL:=k2.more _ (k2.ok.snoc zS);apply aj;refine zQ ?_;apply iT;clear iT;refine ae λK6 jZ=>?_;apply ag;apply ar;simp(disch:=omega)[aau,gy,bI];have gx:(J2++[aA.cells (dY d1)])[H.length]?=some (.cells (jr (bF x) (cI x))):=by
      obtain⟨X,hX⟩:=k2.pre;rw[hX];simp
     have gd:(J2++[aA.cells (dY d1)])[J2.length]?=some (.cells (dY d1)):=zS;have ex:=aZ gx;have ed:=aZ gd;have lx:=(aht.1 gx).1;have ld:=(aht.1 gd).1;have lb3:=w8.below;clear k2 Yj;generalize zX:J2++[aA.cells (dY d1)]=J3 at *;clear zX gx gd;generalize J2.length=jd at *;have agR:=Zs (k+1);have fin:∀e J' pI,GR dY 3 (H++[.cells (jr (bF x) (cI x))]) T (al++Yi (k+1)) J' pI->bA J'.length T.length e [(1,.ptr H.length 0),(3,pI),(4,.int .i64 (i:Nat)),(9,.sl (bF x).length (fK (bF x)) .none),(10,.int .i64 ((bF x).length:Nat)),(11,.int .i64 (i:Nat)),(17,.sl L.length (aM L) .none),(18,.int .i64 (L.length:Nat)),(19,.int .i64 (k:Nat))]->K6 ⟨e,J',T⟩:=by
      intro e J' pI Kb he;have jY:=Kb.pre.le;have vw:=Kb.below;refine jZ _ (aF ⟨[(1,.ptr H.length 0),(3,pI),(4,.int .i64 (i:Nat)),(9,.sl (bF x).length (fK (bF x)) .none),(10,.int .i64 ((bF x).length:Nat)),(11,.int .i64 (i:Nat)),(17,.sl L.length (aM L) .none),(18,.int .i64 (L.length:Nat)),(19,.int .i64 (k:Nat))],J',T⟩ (ak [] [] zS zS (by simp at jY;show H.length<=J'.length;omega) zS Kb.ok he) ?_);refine aJ ?_;refine⟨(k+1,pI,J'),⟨by show k+1<=_;omega,Kb⟩,by show L.length-(k+1)<L.length-k;omega,?_⟩;refine ak [] [] ?_ ?_ ?_ ?_ Kb.ok ?_
      all_goals simp at jY ⊢
      all_goals first|omega|(simp[vw];omega)
     clear jZ
     by_cases hm:d1.id∈dd
     ·rw[ahF hm,ahS] at Uw;rw[Uw] at fin;rw[ahx hm] at cc;refine bC [] [0,0,0,0,0,0,0] [] ?_;simp(disch:=omega)[ex];refine az (cde _ _) rfl ?_;simp(disch:=omega)[ed,ld];refine az (cc _ _) rfl ?_;refine zQ ?_;apply aB rfl;apply aj;refine zQ ?_;refine fin _ _ _ w8 ?_;simp[lb3];omega
     ·rw[ahC hm] at Uw;rw[ahy hm] at cc;rw[Uw,<-List.append_assoc] at fin;refine bC [] [0,0,0,0,0,0,0] [] ?_;simp(disch:=omega)[ex];refine az (cde _ _) rfl ?_;simp(disch:=omega)[ed,ld];refine az (cc _ _) rfl ?_;refine zQ ?_;apply aC rfl;have ahk:(al++Yi k).length<=1000000:=by
       have:=Zs k;rw[ahw];omega
      generalize al++Yi k=dl at *;rcases w8.o with⟨rfl,rfl⟩|⟨b,cap,rfl,h2,h3,h4⟩
      ·have hg:=λnc hn=>GR.first yb w8 [d1] nc hn;refine br λK hK=>?_;simp(disch:=omega)[ed,ld];intro nc hn;apply hK;have:=hg nc hn;refine fin _ _ _ this ?_;simp;omega
      ·have jk:=λhle=>GR.put kE yb h4 h2 w8.pre w8.ok [d1] hle;have vA:=λnc hn=>GR.grow (nc:=nc) kE yb h4 w8.pre w8.ok [d1] hn;have vw:(dl.flatMap dY++List.replicate ((cap-dl.length)*3) AV.top).length=cap*3:=by
        rw[ahw,cj kE,aj4,<-Nat.add_mul]
        congr 1;omega
       refine br λK hK=>?_;simp(disch:=omega)[ed,ld];refine⟨26,_,dY d1,1,zK,h4,by rw[vw,Cq],zS,by simp;omega,zO,zK,zS,λhle=>?_,λnc bp lY=>?_⟩
       ·have hg:=jk hle;simp only[ahY,ais,aiH,List.flatMap_singleton] at hg;simp only[Cq];generalize hX:J3.set b _=J4 at hg ⊢;have j8:=hg.below;have jT:J3.length=J4.length:=by rw[<-hX,aiR]
        refine zQ ?_;apply hK;refine fin _ _ _ hg ?_;simp[j8];omega
       ·have hg:=vA nc lY;simp only[ahY,ais,aiH,List.flatMap_singleton] at hg;simp only[Cq];generalize hX:J3++[aA.cells _]=J4 at hg ⊢;have j8:=hg.below;have jT:J3.length+1=J4.length:=by rw[<-hX];simp
        clear vA jk ex ed h4 hX;generalize J3.length=i2 at *;refine zQ ?_;apply hK;refine fin _ _ _ hg ?_;simp at j8;simp[j8];omega
    ·simp  at eL;have Gw:k=L.length:=zO;subst Gw;rw[<-ur] at k2;apply aD;refine zQ ?_;refine bH _ (aF ⟨[(1,.ptr H.length 0),(3,GL),(9,.sl (bF x).length (fK (bF x)) .none),(10,.int .i64 ((bF x).length:Nat)),(11,.int .i64 (i:Nat))],J2,T⟩ (ak [] [] zS zS (by show H.length<=J2.length;omega) zS k2.ok (by simp[Yj];omega)) ?_);refine aJ ?_;refine⟨(i+1,GL,J2),⟨by show i+1<=_;omega,by rw[hna];exact k2⟩,by show x.length-(i+1)<x.length-i;omega,?_⟩;refine ak [] [] ?_ ?_ ?_ ?_ k2.ok ?_
     all_goals simp[Yj]
     all_goals omega
  ·simp  at hk;have yV:i=x.length:=zO;subst yV;rw[ahO] at hG;have hso:=λl=>Pn (l:=l) hg;have hP:∀d∈alive x,okB d:=λd hd=>by
    obtain⟨p,hp,ug⟩:=ku.1 hd;exact Classical.byContradiction λhn=>by
     have:=(hg.vd p hp).v d (mE ug);rw[qL hn] at this;cases this
   generalize alive x=dl at *;have lh:=hG.pre.le;rcases hG.o with⟨rfl,rfl⟩|⟨b,cap,rfl,h2,h3,h4⟩
   ·have cs:=aq.bR (a:=.sl 0 [] .full) (Cy 92 J T);apply aD;refine zQ ?_;apply aN;clear aN;apply ar;refine zQ ?_;refine ai (cs) ?_;refine zQ ?_;refine af ?_;refine aI ?_;have hn:fM x=[]:=(hso [] ⟨.nil,.nil⟩).symm;rw[hn];refine⟨?_,⟨[],(ahS _).symm⟩,gp.sl rfl λj hj=>absurd hj (ahT j)⟩;obtain⟨X,hX⟩:=hG.pre;exact⟨aA.cells (jr (bF x) (cI x))::X,by rw[hX];simp⟩
   ·have cs:=aq.bR (a:=.bQ b dl.length cap) (yu QL dl hP (List.replicate ((cap-dl.length)*3) .top) b ha J T h4 zS);apply aD;refine zQ ?_;apply aN;clear aN;apply ar;refine zQ ?_;refine⟨_,cs,?_⟩;rintro r H2 T2 ⟨rfl,rfl,l,rfl,hL⟩;refine zQ ?_;refine af ?_;refine aI ?_;rw[<-hso l hL,hL.len];refine⟨?_,⟨[],(ahS _).symm⟩,gp.ZN (by simp at h2;omega) (rest:=List.replicate ((cap-dl.length)*3) .top) ?_ (ym _ _ _)⟩
    ·obtain⟨X,hX⟩:=hG.pre.set h2 (aA.cells (aM l++List.replicate ((cap-dl.length)*3) AV.top));exact⟨aA.cells (jr (bF x) (cI x))::X,by rw[hX];simp⟩
    ·rw[ahZ (aht.1 h4).1]
end Go.Proofs.YtoejlmpbebjemaaGreat
