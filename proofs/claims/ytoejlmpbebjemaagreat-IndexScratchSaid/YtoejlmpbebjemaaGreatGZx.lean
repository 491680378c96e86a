/- What Build returns is a valid segment (layer 39). What is found in what Build returns (layer 39). Sizes of the documents of a segment (layer 39, plain). The documents of what Build returns are the documents (layer 39, plain). What Build, Merge and Drop return, in plain lists (layer 39). Segments of two sets of documents and of both (layer 39, plain).
  Conditions: as the theorems say. -/
import Derived.Test.YtoejlmpbebjemaaGreatGZc
import Derived.Test.YtoejlmpbebjemaaGreatGV
import Derived.Test.YtoejlmpbebjemaaGreatPZ
import Derived.Test.YtoejlmpbebjemaaGreatGFA
import Derived.Test.YtoejlmpbebjemaaGreatGFB
import Derived.Test.YtoejlmpbebjemaaGreatGZb
set_option linter.all false
set_option maxRecDepth 100000

namespace eN
open ie Go.Am Go.Proofs.YtoejlmpbebjemaaGreat cN
def G5 {α:Type}{R:α->α->Prop}{l:List α}(h:l.Pairwise R)(d:α){i:Nat}(h0:0<i)(hi:i<l.length):R (l.getD (i-1) d) (l.getD i d):=by
 have:=ah6.1 h (i-1) i zO hi zO;rw[ahs,ahs,ahu (by omega:i-1<l.length),ahu hi];exact this
theorem WK {ws:List Wd}(h:∀k,k<ws.length->px ws k=true):(ws.map (·.2)).Pairwise (·<·):=by
 have key:∀j i,i<j->j<ws.length->(ws.getD i w0).2<(ws.getD j w0).2:=by
  intro j
  induction j with
  |zero=>intro i h1;omega
  |succ j ih=>
   intro i h1 h2;have h3:=(mP (h (j+1) h2)).2.1;unfold iW at h3;rw[ahC zO,ai1] at h3;rcases ahD i j with h4|h4
   ·have:=ih i h4 zO;omega
   ·have:i=j:=zO;subst this;exact h3
 rw[aie,ah6];intro i j hi hj jV;have:=key j i jV hj;rw[ahs,ahs,ahu hi,ahu hj] at this;exact this
theorem BY {zs:List Zn}{f:Int}{w:Wd}(h:w∈pB zs f):∃z∈zs,z.f=f/\pB zs f=z.ws:=by
 induction zs with
 |nil=>simp[pB] at h
 |cons z r ih=>
  unfold pB at h ⊢
  by_cases hz:z.f=f
  ·rw[ahF hz];exact⟨z,zS,hz,rfl⟩
  ·rw[ahC hz] at h ⊢;obtain⟨y,h1,h2,h3⟩:=ih h;exact⟨y,by simp[h1],h2,h3⟩
def GZ {d:Dc}(h:aU d=true)(f:Int):((pB d.zs f).map (·.2)).Pairwise (·<·)/\∀w∈pB d.zs f,okW w.1=true/\0<=w.2/\w.2<=1000000/\1<=f/\f<=4:=by
 have hz:=(cG h).2.1;rcases Classical.em (pB d.zs f=[]) with he|he
 ·rw[he];exact⟨zS,λw hw=>by simp at hw⟩
 ·obtain⟨w1,yZ⟩:=aiX _ he;obtain⟨z,h1,h2,h3⟩:=BY yZ;obtain⟨i,hi,e⟩:=bP z0 h1;have hk:=fP (hz i hi);rw[e] at hk;have hf:=kT hz i hi;rw[e] at hf;rw[h3];refine⟨WK hk.2.2.2,λw hw=>?_⟩;obtain⟨k,Gx,eL⟩:=bP w0 hw;have h5:=mP (hk.2.2.2 k Gx);have h6:=uH hk.2.2.2 k Gx;rw[eL] at h5 h6;exact⟨h5.1,zO,h5.2.2,zO,zO⟩
def om {d:Dc}(h:aU d=true)(k:Ky):ji d k=lI (pB d.zs k.1) k.2:=(AH h k).symm
def tK {d:Dc}(h:aU d=true)(k:Ky):(ji d k).Pairwise (·<·)/\∀p∈ji d k,0<=p/\p<=1000000/\okW k.2=true/\1<=k.1/\k.1<=4:=by
 rw[om h];obtain⟨h1,h2⟩:=GZ h k.1;unfold lI;refine⟨h1.sublist (ajk.map _),λp hp=>?_⟩;obtain⟨w,hw,rfl⟩:=ahz.1 hp;obtain⟨yZ,Nc⟩:=ahU.1 hw;have:=h2 w yZ;have e:w.1=k.2:=by simpa using Nc
 rw[<-e];exact⟨this.2.1,this.2.2.1,this.1,this.2.2.2⟩
def PR {d:Dc}(h:aU d=true){k1 k2:Ky}(hf:k1.1=k2.1){p:Int}(h1:p∈ji d k1)(h2:p∈ji d k2):k1=k2:=by
 rw[om h] at h1 h2;rw[hf] at h1;unfold lI at h1 h2;obtain⟨w,hw,e1⟩:=ahz.1 h1;obtain⟨v,hv,e2⟩:=ahz.1 h2;obtain⟨yZ,Nc⟩:=ahU.1 hw;obtain⟨hv1,IH⟩:=ahU.1 hv;obtain⟨hp,_⟩:=GZ h k2.1;have hwv:w=v:=by
  obtain⟨i,hi,ei⟩:=ahN.1 yZ;obtain⟨j,hj,ej⟩:=ahN.1 hv1;rw[aie,ah6] at hp;rcases ai7 i j with h3|h3|h3
  ·have:=hp i j hi hj h3;rw[ei,ej] at this;omega
  ·subst h3;rw[<-ei,<-ej]
  ·have:=hp j i hj hi h3;rw[ei,ej] at this;omega
 subst hwv;have a1:w.1=k1.2:=by simpa using Nc
 have a2:w.1=k2.2:=by simpa using IH
 exact Prod.ext hf (by rw[<-a1,<-a2])
def eZ {L:List Dc}{k:Ky}{p:Ps}(h:p∈dq L k):∃d∈L,p=(d.id,ji d k)/\ji d k≠[]:=by
 unfold dq at h;obtain⟨d,hd,h1⟩:=ah7.1 h;unfold C2 at h1
 split at h1
 ·simp at h1
 ·rename_i dM;exact⟨d,hd,by simpa using h1,dM⟩
theorem oj (k:Ky):∀{L:List Dc},(L.Pairwise λx y=>x.id<y.id)->((dq L k).map (·.1)).Pairwise (·<·)
 |[],_=>by simp[dq]
 |d::r,h=>by
  have ⟨h1,h2⟩:=ait.1 h;have e:dq (d::r) k=C2 d k++dq r k:=by simp[dq]
  rw[e,ahJ,ajg];refine⟨?_,oj k h2,λx hx y hy=>?_⟩
  ·unfold C2;split<;>simp
  ·have ex:x=d.id:=by
    unfold C2 at hx
    split at hx
    ·simp at hx
    ·simpa using hx
   obtain⟨p,hp,rfl⟩:=ahz.1 hy;obtain⟨d2,h3,rfl,_⟩:=eZ hp;rw[ex];exact h1 d2 h3
def Ce {L:List Dc}{k:Ky}(h:k∈dR L):∃d∈L,ji d k≠[]:=by
 obtain⟨d,hd,p,hp⟩:=(ow L k).1 h;refine⟨d,hd,λe=>?_⟩;have:p∈ji d k:=by
  unfold ji;exact ahz.2 ⟨_,ahU.2 ⟨hp,zS⟩,rfl⟩
 rw[e] at this;simp at this
def PN {L:List Dc}{k:Ky}(h:k∈dR L):dq L k≠[]:=by
 obtain⟨d,hd,dM⟩:=Ce h;intro e;have:(d.id,ji d k)∈dq L k:=by
  unfold dq;refine ah7.2 ⟨d,hd,?_⟩;unfold C2;rw[ahC dM];simp
 rw[e] at this;simp at this
def iD {L:List Dc}(hs:L.Pairwise λx y=>x.id<y.id)(hv:∀d∈L,aU d=true)(k:Ky):cC (dq L k)=true:=by
 unfold cC;rw[ahG]
 constructor
 ·refine lj (oj k hs) λq hq=>?_;obtain⟨p,hp,rfl⟩:=ahz.1 hq;obtain⟨d,hd,rfl,_⟩:=eZ hp;exact(cG (hv d hd)).1
 ·rw[ajZ,ajm];intro p hp;obtain⟨d,hd,rfl,dM⟩:=eZ hp;obtain⟨h1,h2⟩:=tK (hv d hd) k;unfold jl;rw[ahy (λe=>dM (ah9.1 e)),lj h1 λq hq=>⟨(h2 q hq).1,(h2 q hq).2.1⟩];simp
theorem qT {L:List Dc}(hs:L.Pairwise λx y=>x.id<y.id)(hv:∀d∈L,aU d=true):(pC (cP L)).Nodup:=by
 have afh:∀d∈L,∀e∈L,d.id=e.id->d=e:=by
  intro d hd e he h;obtain⟨i,hi,e1⟩:=ahN.1 hd;obtain⟨j,hj,e2⟩:=ahN.1 he;rw[ah6] at hs;rcases ai7 i j with h3|h3|h3
  ·have:=hs i j hi hj h3;rw[e1,e2] at this;omega
  ·subst h3;rw[<-e1,<-e2]
  ·have:=hs j i hj hi h3;rw[e1,e2] at this;omega
 unfold pC;rw[List.Nodup,ajF]
 constructor
 ·intro t ht;obtain⟨k,hk,rfl⟩:=ahz.1 ht;unfold pH;rw[ajF]
  constructor
  ·intro p hp;obtain⟨d,hd,rfl,_⟩:=eZ hp;unfold ff;have:=(tK (hv d hd) k).1;rw[aie];exact this.imp λh e=>by
    have:=(Prod.mk.inj (Prod.mk.inj e).2).2;omega
  ·have:=oj k hs;rw[aie] at this;refine this.imp λ{p q} hpq=>?_;intro x hx y hy e;obtain⟨a,_,rfl⟩:=ahz.1 hx;obtain⟨b,_,rfl⟩:=ahz.1 hy;have:=(Prod.mk.inj (Prod.mk.inj e).2).1;omega
 ·unfold cP;rw[aie];refine(qW L).imp λ{k1 k2} hk=>?_;intro x hx y hy e;obtain⟨p,hp,CN⟩:=ah7.1 hx;obtain⟨q,hq,hy2⟩:=ah7.1 hy;obtain⟨d,hd,rfl,_⟩:=eZ hp;obtain⟨d2,ug,rfl,_⟩:=eZ hq;obtain⟨a,ha,rfl⟩:=ahz.1 CN;obtain⟨b,hb,rfl⟩:=ahz.1 hy2;have e1:=(Prod.mk.inj e).1;have e2:=(Prod.mk.inj (Prod.mk.inj e).2).1;have e3:=(Prod.mk.inj (Prod.mk.inj e).2).2;simp only at e1 e2 e3;have hdd:=afh d hd d2 ug e2;subst hdd;subst e3;have:=PR (hv d hd) e1 ha hb;rw[this,jB] at hk
  cases hk
theorem OH {d:Dc}(h:aU d=true):d.ns.Pairwise λx y=>di x y=true:=by
 have h3:=(cG h).2.2;have key:∀j i,i<j->j<d.ns.length->di (d.ns.getD i n0) (d.ns.getD j n0)=true:=by
  intro j
  induction j with
  |zero=>intro i h1;omega
  |succ j ih=>
   intro i h1 h2;have h4:=h3 (j+1) h2;unfold rA at h4;simp only[ahG,aiq,ahH,ai1] at h4;have h5:di (d.ns.getD j n0) (d.ns.getD (j+1) n0)=true:=by
    rcases h4.2 with h6|h6
    ·omega
    ·exact h6
   rcases ahD i j with h7|h7
   ·exact sC (ih i h7 zO) h5
   ·have:i=j:=zO;subst this;exact h5
 rw[ah6];intro i j hi hj jV;have:=key j i jV hj;rw[ahs,ahs,ahu hi,ahu hj] at this;exact this
def tO {L:List Dc}{f:Int}{x:Nm}(h:x∈fL L f):∃d∈L,x.2=d.id/\(f,x.1)∈d.ns:=by
 unfold fL at h;obtain⟨d,hd,h1⟩:=ah7.1 h;obtain⟨y,hy,rfl⟩:=ahz.1 h1;obtain⟨h2,h3⟩:=ahU.1 hy;have e:y.1=f:=by simpa using h3
 exact⟨d,hd,rfl,by rw[<-e];exact h2⟩
def yE {L:List Dc}(hs:L.Pairwise λx y=>x.id<y.id)(hv:∀d∈L,aU d=true)(f:Int):(fL L f).Nodup:=by
 unfold fL;rw[List.Nodup,ajF]
 constructor
 ·intro d hd;rw[aie];have h1:=(OH (hv d hd)).sublist (ajk (p:=λx=>x.1==f));have h2:∀x∈d.ns.filter (λx=>x.1==f),x.1=f:=λx hx=>by simpa using(ahU.1 hx).2
  refine h1.imp_of_mem λ{a b} ha hb j9 e=>?_;have e1:=(Prod.mk.inj e).1;rcases (oa a b).1 j9 with h3|h3
  ·rw[h2 a ha,h2 b hb] at h3;omega
  ·omega
 ·refine hs.imp λ{d e} hde=>?_;intro x hx y hy exy;obtain⟨a,_,rfl⟩:=ahz.1 hx;obtain⟨b,_,rfl⟩:=ahz.1 hy;have:=(Prod.mk.inj exy).2;omega
theorem H8 (l:List Nm):(dD l).Pairwise λx y=>di y x=false:=by
 have key:∀(l a:List Nm),(a.Pairwise λx y=>di y x=false)->(l.foldl (λa d=>nW d a) a).Pairwise λx y=>di y x=false:=by
  intro l
  induction l with
  |nil=>intro a h;exact h
  |cons d r ih=>intro a h;exact ih _ (EL d h)
 exact key l [] .nil
theorem AY {l:List Nm}(h:l.Nodup):(dD l).Pairwise λx y=>di x y=true:=by
 have h1:=H8 l;have h2:(dD l).Pairwise (·≠·):=(eT l).nodup_iff.2 h;refine(h1.and h2).imp λ{x y} ⟨a,b⟩=>?_
 cases Gs:di x y with
 |true=>rfl
 |false=>exact absurd (sD Gs a) b
def oC {L:List Dc}{c:Cl}(h:c∈dS L):(5<=c.f/\c.f<=7)/\fL L c.f≠[]/\c.x=dD (fL L c.f):=by
 have key:∀f,c∈nY L f->c.f=f/\fL L c.f≠[]/\c.x=dD (fL L c.f):=λf hf=>by
  unfold nY at hf
  split at hf
  ·simp at hf
  ·rename_i dM;have:c=⟨f,dD (fL L f)⟩:=by simpa using hf
   subst this;exact⟨rfl,dM,rfl⟩
 unfold dS at h;rcases ahI.1 h with h|h
 ·rcases ahI.1 h with h|h
  ·obtain⟨a,b⟩:=key 5 h;exact⟨zO,b⟩
  ·obtain⟨a,b⟩:=key 6 h;exact⟨zO,b⟩
 ·obtain⟨a,b⟩:=key 7 h;exact⟨zO,b⟩
def Bb (L:List Dc):(dS L).Pairwise λx y=>x.f<y.f:=by
 have one:∀f,(nY L f).Pairwise λx y=>x.f<y.f:=λf=>by unfold nY;split<;>simp
 have UE:∀f,∀c∈nY L f,c.f=f:=λf c hc=>by
  unfold nY at hc
  split at hc
  ·simp at hc
  ·have:c=⟨f,dD (fL L f)⟩:=by simpa using hc
   rw[this]
 unfold dS;rw[ajg,ajg];refine⟨⟨one 5,one 6,λx hx y hy=>by rw[UE 5 x hx,UE 6 y hy];omega⟩,one 7,λx hx y hy=>?_⟩;rw[UE 7 y hy];rcases ahI.1 hx with h|h
 ·rw[UE 5 x h];omega
 ·rw[UE 6 x h];omega
def kU {L:List Dc}(hl:L.length<=2000)(hs:L.Pairwise λx y=>x.id<y.id)(hv:∀d∈L,aU d=true):aT ⟨L.map (·.id),cP L,dS L⟩=true:=by
 have lP:(L.map (·.id)).Pairwise (·<·):=by rw[aie];exact hs
 refine qp ?_ (zU hl) (λi hi=>?_) (qT hs hv) (λi hi=>?_)
 ·refine lj lP λq hq=>?_;obtain⟨d,hd,rfl⟩:=ahz.1 hq;exact(cG (hv d hd)).1
 ·simp only at hi ⊢;have gy:i<(dR L).length:=by unfold cP at hi;rwa [ahL] at hi
  have wg:∀j,j<(dR L).length->(cP L).getD j t0=⟨((dR L).getD j ((0,[]):Ky)).1,((dR L).getD j ((0,[]):Ky)).2,dq L ((dR L).getD j ((0,[]):Ky))⟩:=λj hj=>by
   unfold cP;rw[ahs,aiD,ahs,ahu hj];rfl
  have gO:=aQ (dR L) i ((0,[]):Ky) gy;obtain⟨d,hd,dM⟩:=Ce gO;obtain⟨p,hp⟩:=aiX _ dM;have je:=(tK (hv d hd) _).2 p hp
  constructor
  ·unfold np;rw[wg i gy];simp only[ahG,aiq,ahH];refine⟨⟨je.2.2.2,je.2.2.1⟩,?_⟩;rcases ah0 i with h0|h0
   ·exact .inl h0
   ·right
    rw[wg (i-1) zO];exact G5 (qW L) ((0,[]):Ky) h0 gy
  ·unfold yR;rw[wg i gy];simp only[ahG,ahH];refine⟨⟨PN gO,iD hs hv _⟩,λq hq=>?_⟩;obtain⟨d2,ug,rfl,_⟩:=eZ hq;exact ahz.2 ⟨d2,ug,rfl⟩
 ·simp only at hi ⊢;have gO:=aQ (dS L) i c0 hi;obtain⟨h1,h2,h3⟩:=oC gO
  constructor
  ·unfold pL;simp only[ahG,aiq,ahH];refine⟨⟨h1,λe=>h2 ?_⟩,?_⟩
   ·rw[h3] at e;have:=(eT (fL L ((dS L).getD i c0).f)).length_eq;rw[e] at this;exact ah9.1 this.symm
   ·rcases ah0 i with h0|h0
    ·exact .inl h0
    ·exact .inr (G5 (Bb L) c0 h0 hi)
  ·intro k hk;have bp:=AY (yE hs hv ((dS L).getD i c0).f);rw[<-h3] at bp;have eL:=aQ ((dS L).getD i c0).x k n0 hk;have wX:((dS L).getD i c0).x.getD k n0∈fL L ((dS L).getD i c0).f:=(eT _).mem_iff.1 (by rw[<-h3];exact eL);obtain⟨d,hd,e1,e2⟩:=tO wX;obtain⟨m,hm,e3⟩:=bP n0 e2;have Q8:=(cG (hv d hd)).2.2 m hm;unfold rA at Q8;rw[e3] at Q8;unfold v7 at Q8;simp only[ahG,ahH] at Q8;unfold mj;simp only[ahG,aiq,ahH];refine⟨⟨by rw[e1];exact ahz.2 ⟨d,hd,rfl⟩,Q8.1.2⟩,?_⟩;rcases ah0 k with h0|h0
   ·exact .inl h0
   ·exact .inr (G5 bp n0 h0 hk)
def QM {L:List Dc}(hl:L.length<=40)(hk:(L.flatMap dy).length<=1000)(hv:∀d∈L,aU d=true)(hw:∀d∈L,∀z∈d.zs,z.ws.length<=1000)(hn:∀d∈L,d.ns.length<=20):rz ⟨L.map (·.id),cP L,dS L⟩:=by
 have hm:1000<=Go.maxLen:=zD;refine⟨by simp;omega,?_,λt ht=>?_,?_,λc hc=>?_⟩
 ·show (cP L).length<=1000;unfold cP;rw[ahL,uX];have:=mS (L.flatMap dy) [];rw[ais,aiH] at this;omega
 ·obtain⟨k,pD,rfl⟩:=ahz.1 ht;obtain⟨d,hd,dM⟩:=Ce pD;obtain⟨p,hp⟩:=aiX _ dM;have je:=(tK (hv d hd) k).2 p hp;refine⟨?_,?_,λq hq=>?_⟩
  ·have:=je.2.2.1;unfold okW at this;simp only[ahG,ahH] at this;show k.2.length<=_;omega
  ·show (dq L k).length<=1000;have:=xP k L;rw[Jj hv] at this;omega
  ·obtain⟨d2,ug,rfl,_⟩:=eZ hq;show (ji d2 k).length<=1000;rw[om (hv d2 ug)];unfold lI;rw[ahL];refine ahA (ahX _ _) ?_;rcases Classical.em (pB d2.zs k.1=[]) with he|he
   ·rw[he];simp
   ·obtain⟨w,yZ⟩:=aiX _ he;obtain⟨z,h1,_,h3⟩:=BY yZ;rw[h3];exact hw d2 ug z h1
 ·show (dS L).length<=1000;rw[<-OX];have:=ye L 3;omega
 ·obtain⟨_,_,h3⟩:=oC hc;rw[h3,(eT _).length_eq];unfold fL;have:=iX (λd:Dc=>(d.ns.filter λx=>x.1==c.f).map λx=>(x.2,d.id)) 20 L λd hd=>by
   rw[ahL];exact ahA (ahX _ _) (hn d hd)
  omega
end eN
namespace Go.Proofs.YtoejlmpbebjemaaGreat
open Go Go.Am ie eN cN
def er (L:List Dc):Sg:=⟨L.map (·.id),cP L,dS L⟩
section
variable {L : List Dc} (hl : L.length <= 2000) (hs : L.Pairwise λx y => x.id < y.id) (hv : ∀ d ∈ L, aU d = true)
include hl hs hv
theorem qy (k:Ky):fU (er L) k=dq L k:=by
 unfold fU;rw[ahF (show aT (er L)=true from kU hl hs hv)];unfold xk;show (((cP L).find? λt=>decide (t.k=k)).map (·.l)).getD []=_;unfold cP;rw[List.find?_map]
 cases hf:(dR L).find? ((λt:Tm=>decide (t.k=k)) ∘ λk=>⟨k.1,k.2,dq L k⟩) with
 |none=>
  have nQ:k∉dR L:=λhm=>by
   have:=aiJ.1 hf k hm;simp[Tm.k] at this
  show []=_
  cases hp:dq L k with
  |nil=>rfl
  |cons p r=>
   exfalso;obtain⟨d,hd,e1,e2⟩:=eZ (L:=L) (k:=k) (p:=p) (by rw[hp];simp);obtain⟨q,hq⟩:=aiX _ e2;unfold ji at hq;obtain⟨w,hw,_⟩:=ahz.1 hq;obtain⟨yZ,Nc⟩:=ahU.1 hw;have e3:w.1=k:=by simpa using Nc
   exact nQ ((ow L k).2 ⟨d,hd,w.2,by rw[<-e3];exact yZ⟩)
 |some k2=>
  have h1:=ajL hf;have e:k2=k:=by
   have:((k2.1,k2.2):Ky)=k:=by simpa[Tm.k] using h1
   exact this
  subst e;rfl
theorem qv (k:Ky){d:Dc}(hd:d∈L):posOf (dq L k) d.id=ji d k:=by
 rcases Classical.em (ji d k=[]) with he|he
 ·rw[he];refine oY λp hp e=>?_;obtain⟨d2,ug,rfl,dM⟩:=eZ hp;have:d2=d:=by
   obtain⟨i,hi,e1⟩:=ahN.1 hd;obtain⟨j,hj,e2⟩:=ahN.1 ug;rw[ah6] at hs;simp only at e;rcases ai7 i j with h3|h3|h3
   ·have:=hs i j hi hj h3;rw[e1,e2] at this;omega
   ·subst h3;rw[<-e1,<-e2]
   ·have:=hs j i hj hi h3;rw[e1,e2] at this;omega
  subst this;exact dM he
 ·have hm:(d.id,ji d k)∈dq L k:=by
   unfold dq;refine ah7.2 ⟨d,hd,?_⟩;unfold C2;rw[ahC he];simp
  exact qS (show lR (dq L k) from oj k hs) hm
theorem Iy (f lo hi x:Int):x∈jG (er L) f lo hi↔∃n,(n,x)∈fL L f/\lo<=n/\n<=hi:=by
 unfold jG;rw[ahF (show aT (er L)=true from kU hl hs hv),mN];unfold lg;rw[ah7];show (∃c∈dS L,_)↔_
 constructor
 ·rintro⟨c,hc,hx⟩;obtain⟨_,_,h3⟩:=oC hc;unfold Ko at hx;obtain⟨y,hy,CN⟩:=ah7.1 hx;unfold gB at CN
  split at CN
  ·rename_i pn;unfold zh at pn;simp only[ahG,ahH] at pn;rw[h3] at hy;have:=(eT _).mem_iff.1 hy;have ex:x=y.2:=by simpa using CN
   exact⟨y.1,by rw[ex,<-show c.f=f by simpa using pn.1.1];exact this,pn.1.2,pn.2⟩
  ·simp at CN
 ·rintro⟨n,hn,h1,h2⟩;have hf:∃d∈L,(f,n)∈d.ns:=by
   obtain⟨d,hd,_,e⟩:=tO hn;exact⟨d,hd,e⟩
  obtain⟨d,hd,hm⟩:=hf;obtain⟨i,zR,e⟩:=bP n0 hm;have Q8:=(cG (hv d hd)).2.2 i zR;unfold rA v7 at Q8;rw[e] at Q8;simp only[ahG,ahH] at Q8;have Rj:=Q8.1.1;have dM:fL L f≠[]:=λe=>by rw[e] at hn;simp at hn
  have gg:(⟨f,dD (fL L f)⟩:Cl)∈dS L:=by
   have h5:(⟨f,dD (fL L f)⟩:Cl)∈nY L f:=by unfold nY;rw[ahC dM];simp
   unfold dS;have h6:f=5\/f=6\/f=7:=zO;rcases h6 with rfl|rfl|rfl<;>simp[h5]
  refine⟨_,gg,?_⟩;unfold Ko;refine ah7.2 ⟨(n,x),(eT _).mem_iff.2 hn,?_⟩;unfold gB;rw[ahF (by unfold zh;simp[h1,h2])];simp
theorem Cv (f:Int)(p:Bs):fk (er L) f p=((dR L).filter λk=>decide (k.1=f)&&ka p k.2).map (·.2):=by
 unfold fk;rw[ahF (show aT (er L)=true from kU hl hs hv)];unfold ir;show ((cP L).filter _).map _=_;unfold cP;rw[List.filter_map,aiA];rfl
end
def GG (L:List Dc)(f:Int):List Bs:=((dR L).filter λk=>decide (k.1=f)).map (·.2)
theorem ER (w:Bs):ka [] w=true:=by simp[ka]
def ss {L:List Dc}(hl:L.length<=2000)(hs:L.Pairwise λx y=>x.id<y.id)(hv:∀d∈L,aU d=true)(f:Int)(p:Bs):fk (er L) f p=(GG L f).filter (ka p):=by
 rw[Cv hl hs hv];unfold GG;rw[List.filter_map,List.filter_filter]
 congr 1
 exact aj7 λk _=>by rw[Bool.and_comm];rfl
def O7 (L:List Dc)(f:Int):(GG L f).Pairwise λx y=>slt x y=true:=by
 unfold GG;rw[aie];have h1:=(qW L).sublist (ajk (p:=λk=>decide (k.1=f)));have h2:∀k∈(dR L).filter (λk=>decide (k.1=f)),k.1=f:=λk hk=>by simpa using(ahU.1 hk).2
 refine h1.imp_of_mem λ{a b} ha hb j9=>?_;unfold bS at j9;simp only[aiq,ahG,ahH] at j9;rcases j9 with h|h
 ·rw[h2 a ha,h2 b hb] at h;omega
 ·exact h.2
def O8 {L:List Dc}(f:Int)(w:Bs):w∈GG L f↔(f,w)∈dR L:=by
 unfold GG;rw[ahz]
 constructor
 ·rintro⟨k,hk,rfl⟩;obtain⟨h1,h2⟩:=ahU.1 hk;have:k.1=f:=by simpa using h2
  rw[<-this];exact h1
 ·intro h;exact⟨(f,w),ahU.2 ⟨h,zS⟩,rfl⟩
theorem AJ {P:Nat}:∀{l:List Ps},(∀p∈l,p.2.length<=P)->∀d:Int,(posOf l d).length<=P
 |[],_,d=>by simp[posOf]
 |p::l,h,d=>by
  unfold posOf
  split
  ·exact h p zS
  ·exact AJ (λq hq=>h q (by simp[hq])) d
def Ao {s:Sg}(hv:aT s=true):∀t∈s.aW,lR t.l:=λt ht=>(de (N9 hv ht).2.2.1).1
def Tr {s:Sg}(hv:aT s=true){P:Nat}(hP:∀t∈s.aW,∀p∈t.l,p.2.length<=P)(id f:Int):(occs s.aW id f).length<=s.aW.length*P:=by
 rw[tM (Ao hv)];refine iX _ P _ λt ht=>?_;unfold Vt
 split
 ·rw[ahL];exact AJ (hP t ht) id
 ·simp
def P0 {s:Sg}(hv:aT s=true){id f a:Int}{w:Bs}:(w,a)∈occs s.aW id f↔∃t∈s.aW,t.f=f/\t.w=w/\a∈posOf t.l id:=by
 rw[tM (Ao hv),ah7]
 constructor
 ·rintro⟨t,ht,h⟩;unfold Vt at h
  split at h
  ·rename_i hf;obtain⟨b,hb,e⟩:=ahz.1 h;obtain⟨e1,e2⟩:=Prod.mk.inj e;exact⟨t,ht,hf,e1,by rw[<-e2];exact hb⟩
  ·simp at h
 ·rintro⟨t,ht,hf,hw,ha⟩;refine⟨t,ht,?_⟩;unfold Vt;rw[ahF hf];exact ahz.2 ⟨a,ha,by rw[hw]⟩
def Fw (g:Int->List Wd):(dm g).length<=4:=by
 rw[<-SK];exact WH g 4
def E7 {s:Sg}(hv:aT s=true){T P C X:Nat}(hT:s.aW.length<=T)(hw:∀t∈s.aW,t.w.length<=maxLen/\∀p∈t.l,p.2.length<=P)(hC:s.aH.length<=C)(hX:∀c∈s.aH,c.x.length<=X) :
  ∀d∈jx s,d.zs.length<=4/\(∀z∈d.zs,z.ws.length<=T*P/\∀w∈z.ws,w.1.length<=maxLen)/\d.ns.length<=C*X:=by
 intro d hd;unfold jx at hd;obtain⟨id,_,rfl⟩:=ahz.1 hd;refine⟨Fw (λf=>jM (occs s.aW id f)),λz hz=>?_,?_⟩
 ·obtain⟨_,h2,_⟩:=qo (g:=λf=>jM (occs s.aW id f)) hz;rw[h2];refine⟨?_,λw Nc=>?_⟩
  ·rw[(sy _).1.length_eq];exact ahA (Tr hv (λt ht=>(hw t ht).2) id z.f) (aiz _ hT)
  ·obtain⟨w1,w2⟩:=w;obtain⟨t,ht,_,e,_⟩:=(P0 hv).1 ((sy _).1.mem_iff.1 Nc);rw[<-e];exact(hw t ht).1
 ·show (M7 s.aH id).length<=_;unfold M7;refine ahA (iX _ X _ λc hc=>?_) (aiz _ hC);rw[ahL];exact ahA (ahX _ _) (hX c hc)
def vb {s:Sg}(hs:rz s):∀d∈eC s,pt d:=by
 intro d hd;unfold eC at hd
 split at hd
 ·rename_i hv;obtain⟨h1,h2,h3⟩:=E7 hv hs.t (λt ht=>⟨(hs.w t ht).1,(hs.w t ht).2.2⟩) hs.c hs.x d hd;have hm:1000000<=maxLen:=zD;exact⟨zO,λz hz=>⟨by have:=(h2 z hz).1;omega,(h2 z hz).2⟩,zO⟩
 ·simp at hd
def ve {s:Sg}(hs:rz s):(eC s).length<=1000:=by
 unfold eC
 split
 ·simp[jx];exact hs.d
 ·simp
theorem iZ {α:Type}{lt:α->α->Prop}(asym:∀x y,lt x y->lt y x->False):∀{a b:List α},a.Pairwise lt->b.Pairwise lt->(∀x,x∈a↔x∈b)->a=b
 |[],[],_,_,_=>rfl
 |[],y::b,_,_,h=>by have:=(h y).2 zS;simp at this
 |x::a,[],_,_,h=>by have:=(h x).1 zS;simp at this
 |x::a,y::b,ha,hb,h=>by
  have ⟨a1,a2⟩:=ait.1 ha;have ⟨b1,b2⟩:=ait.1 hb;have e:x=y:=by
   rcases ah4.1 ((h x).1 zS) with h1|h1
   ·exact h1
   rcases ah4.1 ((h y).2 zS) with h2|h2
   ·exact h2.symm
   exact(asym _ _ (b1 x h1) (a1 y h2)).elim
  subst e;rw[iZ asym a2 b2 λz=>⟨λhz=>?_,λhz=>?_⟩]
  ·rcases ah4.1 ((h z).1 (by simp[hz])) with e|h1
   ·subst e;exact(asym _ _ (a1 z hz) (a1 z hz)).elim
   ·exact h1
  ·rcases ah4.1 ((h z).2 (by simp[hz])) with e|h1
   ·subst e;exact(asym _ _ (b1 z hz) (b1 z hz)).elim
   ·exact h1
theorem Oy {d:Dc}(h:aU d=true):d.zs.Pairwise λx y=>x.f<y.f:=by
 have h3:=(cG h).2.1;have key:∀j i,i<j->j<d.zs.length->(d.zs.getD i z0).f<(d.zs.getD j z0).f:=by
  intro j
  induction j with
  |zero=>intro i h1;omega
  |succ j ih=>
   intro i h1 h2;have h4:=(fP (h3 (j+1) h2)).1;unfold iO at h4;rw[ahC zO,ai1] at h4;rcases ahD i j with h5|h5
   ·have:=ih i h5 zO;omega
   ·have:i=j:=zO;subst this;exact h4
 rw[ah6];intro i j hi hj jV;have:=key j i jV hj;rw[ahs,ahs,ahu hi,ahu hj] at this;exact this
theorem DT:∀{zs:List Zn},(zs.Pairwise λx y=>x.f<y.f)->∀z∈zs,pB zs z.f=z.ws
 |[],_,z,h=>by simp at h
 |y::r,hp,z,h=>by
  have ⟨h1,h2⟩:=ait.1 hp;unfold pB;rcases ah4.1 h with e|h3
  ·subst e;rw[ahF rfl]
  ·rw[ahC (by have:=h1 z h3;omega)];exact DT h2 z h3
def ZV {d:Dc}(h:aU d=true){z:Zn}(hz:z∈d.zs):z.ws≠[]/\1<=z.f/\z.f<=4:=by
 have h3:=(cG h).2.1;obtain⟨i,hi,e⟩:=bP z0 hz;have hk:=fP (h3 i hi);have hf:=kT h3 i hi;rw[e] at hk hf;exact⟨λe=>hk.2.2.1 (by rw[e];rfl),zO,hk.2.1⟩
def Fv (g:Int->List Wd):(dm g).Pairwise λx y=>x.f<y.f:=by
 unfold dm;rw[ajF];refine⟨λf _=>by split<;>simp,?_⟩;have UE:∀f,∀z∈(if g f=[] then [] else [(⟨f,g f⟩:Zn)]),z.f=f:=λf z hz=>by
  split at hz
  ·simp at hz
  ·rw[aic.1 hz]
 simp only[ait,ah4,List.not_mem_nil,or_false];refine⟨?_,?_,?_,?_,List.Pairwise.nil⟩
 all_goals (intro f' hf' x hx y hy;rw[UE _ x hx,UE _ y hy])
 ·rcases hf' with rfl|rfl|rfl<;>decide
 ·rcases hf' with rfl|rfl<;>decide
 ·subst hf';decide
 ·exact hf'.elim
def Ft {d:Dc}(h:aU d=true):dm (pB d.zs)=d.zs:=by
 refine iZ (lt:=λx y:Zn=>x.f<y.f) (λx y h1 h2=>by omega) (Fv _) (Oy h) λz=>⟨λhz=>?_,λhz=>?_⟩
 ·obtain⟨h1,h2,_⟩:=qo hz;obtain⟨w,hw⟩:=aiX _ h1;rw[h2] at hw;obtain⟨y,h3,h4,h5⟩:=BY hw;have:z=y:=by
   obtain⟨zf,zw⟩:=z;obtain⟨yf,yw⟩:=y;simp only at h2 h4 h5;rw[h4,h2,h5]
  rw[this];exact h3
 ·obtain⟨h1,h2,h3⟩:=ZV h hz;have e:=DT (Oy h) z hz;unfold dm;refine ah7.2 ⟨z.f,?_,?_⟩
  ·rcases (by omega:z.f=1\/z.f=2\/z.f=3\/z.f=4) with e|e|e|e<;>simp[e]
  ·rw[e,ahC h1];simp
def Eo (ws:List Wd)(w:Bs)(a:Int):a∈lI ws w↔(w,a)∈ws:=by
 unfold lI
 constructor
 ·intro h;obtain⟨x,hx,rfl⟩:=ahz.1 h;obtain⟨h1,h2⟩:=ahU.1 hx;have e:x.1=w:=by simpa using h2
  rw[<-e];exact h1
 ·intro h;exact ahz.2 ⟨(w,a),ahU.2 ⟨h,zS⟩,rfl⟩
def PS {L:List Dc}{d:Dc}(hd:d∈L){k:Ky}{a:Int}(h:a∈ji d k):k∈dR L:=by
 unfold ji at h;obtain⟨w,hw,_⟩:=ahz.1 h;obtain⟨yZ,Nc⟩:=ahU.1 hw;have e3:w.1=k:=by simpa using Nc
 exact(ow L k).2 ⟨d,hd,w.2,by rw[<-e3];exact yZ⟩
section
variable {L : List Dc} (hl : L.length <= 2000) (hs : L.Pairwise λx y => x.id < y.id) (hv : ∀ d ∈ L, aU d = true)
include hl hs hv
theorem HU {d:Dc}(hd:d∈L)(f:Int):jM (occs (cP L) d.id f)=pB d.zs f:=by
 have afv:∀t∈cP L,lR t.l:=λt ht=>by
  obtain⟨k,_,rfl⟩:=ahz.1 ht;exact oj k hs
 have h1:=sy (occs (cP L) d.id f);have dM:=Jm (eN.qT hs hv) d.id f;have sym:∀x y:Wd,x.2≠y.2->y.2≠x.2:=λ_ _ h e=>h e.symm;have bp:(jM (occs (cP L) d.id f)).Pairwise λx y=>x.2<y.2:=(h1.2.and ((h1.1.pairwise_iff (λ{x y} h=>sym x y h)).2 dM)).imp fun⟨h1,h2⟩=>by omega
 refine iZ (lt:=λx y:Wd=>x.2<y.2) (λx y h1 h2=>by omega) bp (aie.1 (GZ (hv d hd) f).1) λx=>?_;rw[h1.1.mem_iff,tM afv];obtain⟨w,a⟩:=x;rw[ah7]
 constructor
 ·rintro⟨t,ht,hx⟩;obtain⟨k,hk,rfl⟩:=ahz.1 ht;unfold Vt at hx;simp only at hx
  split at hx
  ·rename_i hf;rw[qv hl hs hv k hd] at hx;obtain⟨b,hb,e⟩:=ahz.1 hx;obtain⟨e1,e2⟩:=Prod.mk.inj e;rw[om (hv d hd),Eo] at hb;rw[<-hf,<-e1,<-e2];exact hb
  ·simp at hx
 ·intro hx;have hp:a∈ji d (f,w):=by rw[om (hv d hd),Eo];exact hx
  refine⟨⟨f,w,dq L (f,w)⟩,ahz.2 ⟨(f,w),PS hd hp,rfl⟩,?_⟩;unfold Vt;rw[ahF rfl];simp only;rw[qv hl hs hv (f,w) hd];exact ahz.2 ⟨a,hp,rfl⟩
theorem LV {d:Dc}(hd:d∈L):M7 (dS L) d.id=d.ns:=by
 have Nz:∀d2∈L,d2.id=d.id->d2=d:=λd2 ug e=>by
  obtain⟨i,hi,e1⟩:=ahN.1 hd;obtain⟨j,hj,e2⟩:=ahN.1 ug;rw[ah6] at hs;rcases ai7 i j with h3|h3|h3
  ·have:=hs i j hi hj h3;rw[e1,e2] at this;omega
  ·subst h3;rw[<-e1,<-e2]
  ·have:=hs j i hj hi h3;rw[e1,e2] at this;omega
 have gO:∀c∈dS L,∀y:Nm,y∈c.x↔y∈fL L c.f:=λc hc y=>by
  rw[(oC hc).2.2];exact(eT _).mem_iff
 have asym:∀x y:Nm,di x y=true->di y x=true->False:=λx y h1 h2=>by rw[sE h1] at h2;cases h2
 refine iZ (lt:=λx y=>di x y=true) asym ?_ (OH (hv d hd)) λx=>?_
 ·unfold M7;rw[ajF];refine⟨λc hc=>?_,(Bb L).imp λ{a b} j9 x hx y hy=>?_⟩
  ·rw[aie];have hx:=(oC hc).2.2;have h1:c.x.Pairwise λx y=>di x y=true:=by rw[hx];exact AY (yE hs hv c.f)
   refine(h1.sublist (ajk (p:=λy=>y.2==d.id))).imp_of_mem λ{x y} hx hy Gs=>?_;have e1:x.2=d.id:=by simpa using(ahU.1 hx).2
   have e2:y.2=d.id:=by simpa using(ahU.1 hy).2
   rw[oa] at Gs;refine(oa _ _).2 (.inr ⟨rfl,?_⟩);show x.1<y.1;omega
  ·obtain⟨p,_,rfl⟩:=ahz.1 hx;obtain⟨q,_,rfl⟩:=ahz.1 hy;rw[oa];exact .inl j9
 ·unfold M7;rw[ah7]
  constructor
  ·rintro⟨c,hc,hx⟩;obtain⟨y,hy,rfl⟩:=ahz.1 hx;obtain⟨h1,h2⟩:=ahU.1 hy;have e:y.2=d.id:=by simpa using h2
   obtain⟨d2,ug,e2,h3⟩:=tO ((gO c hc y).1 h1);rw[Nz d2 ug zO] at h3;exact h3
  ·intro hx;obtain⟨f,n⟩:=x;obtain⟨i,hi,e⟩:=bP n0 hx;have hf:=(cG (hv d hd)).2.2 i hi;unfold rA v7 at hf;rw[e] at hf;simp only[ahG,ahH] at hf;have zP:(n,d.id)∈fL L f:=ah7.2 ⟨d,hd,ahz.2 ⟨(f,n),ahU.2 ⟨hx,zS⟩,rfl⟩⟩;have dM:fL L f≠[]:=λe=>by rw[e] at zP;simp at zP
   have Kq:(⟨f,dD (fL L f)⟩:Cl)∈dS L:=by
    have:(⟨f,dD (fL L f)⟩:Cl)∈nY L f:=by unfold nY;rw[ahC dM];simp
    unfold dS;rcases (by omega:f=5\/f=6\/f=7) with e|e|e<;>subst e<;>simp[this]
   refine⟨_,Kq,ahz.2 ⟨(n,d.id),ahU.2 ⟨?_,zS⟩,rfl⟩⟩;exact(eT _).mem_iff.2 zP
theorem F6:jx (er L)=L:=by
 unfold jx;show (L.map (·.id)).map _=L;rw[aiA]
 conv=>rhs;rw[<-List.map_id L]
 refine aib λd hd=>?_;show (⟨d.id,dm λf=>jM (occs (cP L) d.id f),M7 (dS L) d.id⟩:Dc)=d;have e:(λf=>jM (occs (cP L) d.id f))=pB d.zs:=funext λf=>HU hl hs hv hd f;rw[e,Ft (hv d hd),LV hl hs hv hd]
theorem F5:eC (er L)=L:=by
 unfold eC;rw[ahF (show aT (er L)=true from kU hl hs hv)];exact F6 hl hs hv
end
structure VD (L:List Dc):Prop where
 n:L.length<=2000
 lt:L.Pairwise λx y=>x.id<y.id
 v:∀d∈L,aU d=true
def VD.valid {L:List Dc}(h:VD L):aT (er L)=true:=kU h.n h.lt h.v
def VD.aw {L:List Dc}(h:VD L):eC (er L)=L:=F5 h.n h.lt h.v
theorem VD.filter {L:List Dc}(h:VD L)(p:Dc->Bool):VD (L.filter p):=
 ⟨ahA (ahX _ _) h.n,h.lt.sublist ajk,λd hd=>h.v d (ahU.1 hd).1⟩
def qe {l:List Dc}(hn:(l.map (·.id)).Nodup):(dQ l).Pairwise λx y=>x.id<y.id:=by
 have hp:=(eR l).perm;have h4:=(eR l).ord;have h5:((dQ l).map (·.id)).Nodup:=(hp.map _).nodup_iff.2 hn;rw[List.Nodup,aie] at h5;exact(h4.and h5).imp λ{x y} ⟨a,b⟩=>by omega
def fw {l:List Dc}(x:Dc):x∈dQ l↔x∈l:=(eR l).perm.mem_iff
def qV {a b:List Dc}(ha:a.Pairwise λx y=>x.id<y.id)(hb:b.Pairwise λx y=>x.id<y.id)(h:∀x,x∈a↔x∈b):a=b:=
 iZ (lt:=λx y:Dc=>x.id<y.id) (λx y h1 h2=>by omega) ha hb h
def HE {L:List Dc}(h:L.Pairwise λx y=>x.id<y.id):dQ L=L:=
 qV (qe (mJ h)) h λx=>fw x
structure Ak (l:List Dc):Prop where
 n:l.length<=2000
 nd:(l.map (·.id)).Nodup
 v:∀d∈l,aU d=true
def Ak.vd {l:List Dc}(h:Ak l):VD (dQ l):=⟨by rw[dU];exact h.n,qe h.nd,λd hd=>h.v d ((fw d).1 hd)⟩
def VD.sT {L:List Dc}(h:VD L):Ak L:=⟨h.n,mJ h.lt,h.v⟩
def Ak.build {l:List Dc}(h:Ak l):dH l=(er (dQ l),0):=by
 unfold dH er;rw[ahC (by have:=h.n;omega),ahC,ahC (λe=>e h.nd)];rw[Bool.not_eq_true,ajm];intro d hd;simp[h.v d hd]
theorem VD.build {L:List Dc}(h:VD L):dH L=(er L,0):=by rw[h.sT.build,HE h.lt]
def kg (s t:Sg):Sg×Int:=
 if aT s=true/\aT t=true then if comb (λp q=>p&&q) s.aw t.aw=[] then dH (eC s++eC t) else (bY,10) else (bY,1)
def rM (s:Sg)(ids:List Int):List Dc:=(eC s).filter λd=>!decide (d.id∈ids)
def IV (s:Sg)(ids:List Int):Sg:=(dH (rM s ids)).1
def VD.drop {L:List Dc}(h:VD L)(ids:List Int):IV (er L) ids=er (L.filter λd=>!decide (d.id∈ids)):=by
 unfold IV rM;rw[h.aw,(h.filter _).build]
def xQ {L:List Dc}(hL:VD L)(k:Ky)(d z:Int):z∈posOf (dq L k) d↔∃x∈L,x.id=d/\z∈ji x k:=by
 constructor
 ·intro h;obtain⟨p,hp,e1,e2⟩:=uB h;obtain⟨x,hx,rfl,_⟩:=eZ hp;rw[e2] at h;exact⟨x,hx,e1,h⟩
 ·rintro⟨x,hx,rfl,h⟩;rw[qv hL.n hL.lt hL.v k hx];exact h
def Jt {L:List Dc}(f n i:Int):(n,i)∈fL L f↔∃d∈L,d.id=i/\(f,n)∈d.ns:=by
 constructor
 ·intro h;obtain⟨d,hd,e,h2⟩:=tO h;exact⟨d,hd,e.symm,h2⟩
 ·rintro⟨d,hd,rfl,h⟩;exact ah7.2 ⟨d,hd,ahz.2 ⟨(f,n),ahU.2 ⟨h,zS⟩,rfl⟩⟩
def wS (s:Sg)(f lo hi:Int):kI (jG s f lo hi):=by
 unfold jG
 split
 ·exact tW _
 ·exact List.Pairwise.nil
def oV {L:List Dc}(hL:VD L)(f lo hi x:Int):x∈jG (er L) f lo hi↔∃d∈L,d.id=x/\∃n,(f,n)∈d.ns/\lo<=n/\n<=hi:=by
 rw[Iy hL.n hL.lt hL.v]
 constructor
 ·rintro⟨n,h,h2⟩;obtain⟨d,hd,e,h3⟩:=(Jt f n x).1 h;exact⟨d,hd,e,n,h3,h2⟩
 ·rintro⟨d,hd,e,n,h3,h2⟩;exact⟨n,(Jt f n x).2 ⟨d,hd,e,h3⟩,h2⟩
def Aa {L:List Dc}(hL:VD L){d:Dc}(hd:d∈L):1<=d.id/\d.id<=1000000000:=(cG (hL.v d hd)).1
def IY {L:List Dc}(hL:VD L)(f lo hi:Int):V (jG (er L) f lo hi):=
 lj (wS _ _ _ _) λq hq=>by
  obtain⟨d,hd,e,_⟩:=(oV hL f lo hi q).1 hq;have:=Aa hL hd;omega
def nZ {L:List Dc}(hL:VD L):V (L.map (·.id)):=
 lj (aie.2 hL.lt) λq hq=>by
  obtain⟨d,hd,rfl⟩:=ahz.1 hq;exact Aa hL hd
section
variable {L M N : List Dc} (hL : VD L) (hM : VD M) (hN : VD N) (gO : ∀ x, x ∈ N ↔ x ∈ L \/ x ∈ M)
include hL hM hN gO
theorem T4 (k:Ky):jm (dq L k) (dq M k)=dq N k:=by
 have hA:=iD hL.lt hL.v k;have hB:=iD hM.lt hM.v k;refine Zb (Zc hA hB) (iD hN.lt hN.v k) λd z=>?_;rw[OC hA hB,xQ hL,xQ hM,xQ hN]
 constructor
 ·rintro (⟨x,hx,h⟩|⟨x,hx,h⟩)
  ·exact⟨x,(gO x).2 (.inl hx),h⟩
  ·exact⟨x,(gO x).2 (.inr hx),h⟩
 ·rintro⟨x,hx,h⟩;rcases (gO x).1 hx with h1|h1
  ·exact .inl ⟨x,h1,h⟩
  ·exact .inr ⟨x,h1,h⟩
variable (Wt : ∀ x ∈ L, ∀ y ∈ M, x.id ≠ y.id)
include Wt
theorem P6 (hn:L.length+M.length<=2000):kg (er L) (er M)=(er N,0):=by
 have hc:comb (λp q=>p&&q) (er L).aw (er M).aw=[]:=by
  obtain⟨_,h2⟩:=iM (λp q=>p&&q) (nZ hL) (nZ hM);rw[aiQ];intro z hz;have h3:=(h2 z).1 hz;have h4:z∈L.map (·.id)/\z∈M.map (·.id):=by
   by_cases ha:z∈L.map (·.id)<;>by_cases hb:z∈M.map (·.id)<;>simp[ha,hb] at h3 ⊢
  obtain⟨x,hx,e1⟩:=ahz.1 h4.1;obtain⟨y,hy,e2⟩:=ahz.1 h4.2;exact Wt x hx y hy (e1.trans e2.symm)
 have hg:Ak (L++M):=by
  refine⟨by rw[ahw];exact hn,?_,λd hd=>(ahI.1 hd).elim (hL.v d) (hM.v d)⟩;rw[ahJ,aif];refine⟨mJ hL.lt,mJ hM.lt,?_⟩;intro a ha b hb e;obtain⟨x,hx,e1⟩:=ahz.1 ha;obtain⟨y,hy,e2⟩:=ahz.1 hb;exact Wt x hx y hy zO
 unfold kg;rw[ahF ⟨hL.valid,hM.valid⟩,ahF hc,hL.aw,hM.aw,hg.build];rw[qV (qe hg.nd) hN.lt λx=>by rw[fw,ahI,gO]]
end
end Go.Proofs.YtoejlmpbebjemaaGreat
