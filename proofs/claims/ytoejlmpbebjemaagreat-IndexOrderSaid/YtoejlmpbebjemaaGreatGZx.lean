/- What Build returns is a valid segment (layer 39). What is found in what Build returns (layer 39). Sizes of the documents of a segment (layer 39, plain). The documents of what Build returns are the documents (layer 39, plain). What Build, Merge and Drop return, in plain lists (layer 39). Segments of two sets of documents and of both (layer 39, plain).
  Conditions: as the theorems say. -/
import Derived.Test.YtoejlmpbebjemaaGreatGZc
import Derived.Test.YtoejlmpbebjemaaGreatGV
import Derived.Test.YtoejlmpbebjemaaGreatPZ
import Derived.Test.YtoejlmpbebjemaaGreatGFA
import Derived.Test.YtoejlmpbebjemaaGreatGFB
import Derived.Test.YtoejlmpbebjemaaGreatGZb
set_option linter.all false
set_option maxRecDepth 100000

namespace eT
open im Go.Am Go.Proofs.YtoejlmpbebjemaaGreat cL
def GS {α:Type}{R:α->α->Prop}{l:List α}(h:l.Pairwise R)(d:α){i:Nat}(h0:0<i)(hi:i<l.length):R (l.getD (i-1) d) (l.getD i d):=by
 have:=ahN.1 h (i-1) i (by omega) hi (by omega);rw[ahg,ahg,ahi (by omega:i-1<l.length),ahi hi];exact this
theorem WM {ws:List Wd}(h:∀k,k<ws.length->o7 ws k=true):(ws.map (·.2)).Pairwise (·<·):=by
 have key:∀j i,i<j->j<ws.length->(ws.getD i w0).2<(ws.getD j w0).2:=by
  intro j
  induction j with
  |zero=>intro i h1;omega
  |succ j ih=>
   intro i h1 h2;have h3:=(mv (h (j+1) h2)).2.1;unfold iN at h3;rw[ahq (by omega),aiP] at h3;rcases ahr i j with h4|h4
   ·have:=ih i h4 (by omega);omega
   ·have:i=j:=by omega
    subst this;exact h3
 rw[ahY,ahN];intro i j hi hj hij;have:=key j i hij hj;rw[ahg,ahg,ahi hi,ahi hj] at this;exact this
theorem BD {zs:List Zn}{f:Int}{w:Wd}(h:w∈pg zs f):∃z∈zs,z.f=f/\pg zs f=z.ws:=by
 induction zs with
 |nil=>simp[pg] at h
 |cons z r ih=>
  unfold pg at h ⊢
  by_cases hz:z.f=f
  ·rw[ahs hz];exact⟨z,by simp,hz,rfl⟩
  ·rw[ahq hz] at h ⊢;obtain⟨y,h1,h2,h3⟩:=ih h;exact⟨y,by simp[h1],h2,h3⟩
def GN {d:Dc}(h:aR d=true)(f:Int):((pg d.zs f).map (·.2)).Pairwise (·<·)/\∀w∈pg d.zs f,okW w.1=true/\0<=w.2/\w.2<=1000000/\1<=f/\f<=4:=by
 have hz:=(bZ h).2.1;rcases Classical.em (pg d.zs f=[]) with he|he
 ·rw[he];exact⟨by simp,λw hw=>by simp at hw⟩
 ·obtain⟨w1,hw1⟩:=aiL _ he;obtain⟨z,h1,h2,h3⟩:=BD hw1;obtain⟨i,hi,e⟩:=bH z0 h1;have hk:=fO (hz i hi);rw[e] at hk;have hf:=kq hz i hi;rw[e] at hf;rw[h3];refine⟨WM hk.2.2.2,λw hw=>?_⟩;obtain⟨k,hk1,gq⟩:=bH w0 hw;have h5:=mv (hk.2.2.2 k hk1);have h6:=uw hk.2.2.2 k hk1;rw[gq] at h5 h6;exact⟨h5.1,by omega,h5.2.2,by omega,by omega⟩
def nT {d:Dc}(h:aR d=true)(k:Ky):iX d k=kS (pg d.zs k.1) k.2:=(Ag h k).symm
def tz {d:Dc}(h:aR d=true)(k:Ky):(iX d k).Pairwise (·<·)/\∀p∈iX d k,0<=p/\p<=1000000/\okW k.2=true/\1<=k.1/\k.1<=4:=by
 rw[nT h];obtain⟨h1,h2⟩:=GN h k.1;unfold kS;refine⟨h1.sublist (ai8.map _),λp hp=>?_⟩;obtain⟨w,hw,rfl⟩:=ahl.1 hp;obtain⟨hw1,hw2⟩:=ahF.1 hw;have:=h2 w hw1;have e:w.1=k.2:=by simpa using hw2
 rw[<-e];exact⟨this.2.1,this.2.2.1,this.1,this.2.2.2⟩
def P5 {d:Dc}(h:aR d=true){k1 k2:Ky}(hf:k1.1=k2.1){p:Int}(h1:p∈iX d k1)(h2:p∈iX d k2):k1=k2:=by
 rw[nT h] at h1 h2;rw[hf] at h1;unfold kS at h1 h2;obtain⟨w,hw,e1⟩:=ahl.1 h1;obtain⟨v,hv,e2⟩:=ahl.1 h2;obtain⟨hw1,hw2⟩:=ahF.1 hw;obtain⟨hv1,I1⟩:=ahF.1 hv;obtain⟨hp,_⟩:=GN h k2.1;have hwv:w=v:=by
  obtain⟨i,hi,ei⟩:=ahB.1 hw1;obtain⟨j,hj,ej⟩:=ahB.1 hv1;rw[ahY,ahN] at hp;rcases aiM i j with h3|h3|h3
  ·have:=hp i j hi hj h3;rw[ei,ej] at this;omega
  ·subst h3;rw[<-ei,<-ej]
  ·have:=hp j i hj hi h3;rw[ei,ej] at this;omega
 subst hwv;have a1:w.1=k1.2:=by simpa using hw2
 have a2:w.1=k2.2:=by simpa using I1
 exact Prod.ext hf (by rw[<-a1,<-a2])
def fc {L:List Dc}{k:Ky}{p:Ps}(h:p∈dg L k):∃d∈L,p=(d.id,iX d k)/\iX d k≠[]:=by
 unfold dg at h;obtain⟨d,hd,h1⟩:=ah1.1 h;unfold CM at h1
 split at h1
 ·simp at h1
 ·rename_i hne;exact⟨d,hd,by simpa using h1,hne⟩
theorem nS (k:Ky):∀{L:List Dc},(L.Pairwise λx y=>x.id<y.id)->((dg L k).map (·.1)).Pairwise (·<·)
 |[],_=>by simp[dg]
 |d::r,h=>by
  have ⟨h1,h2⟩:=aie.1 h;have e:dg (d::r) k=CM d k++dg r k:=by simp[dg]
  rw[e,ahx,ai3];refine⟨?_,nS k h2,λx hx y hy=>?_⟩
  ·unfold CM;split<;>simp
  ·have ex:x=d.id:=by
    unfold CM at hx
    split at hx
    ·simp at hx
    ·simpa using hx
   obtain⟨p,hp,rfl⟩:=ahl.1 hy;obtain⟨d2,h3,rfl,_⟩:=fc hp;rw[ex];exact h1 d2 h3
def BU {L:List Dc}{k:Ky}(h:k∈dL L):∃d∈L,iX d k≠[]:=by
 obtain⟨d,hd,p,hp⟩:=(nX L k).1 h;refine⟨d,hd,λe=>?_⟩;have:p∈iX d k:=by
  unfold iX;exact ahl.2 ⟨_,ahF.2 ⟨hp,by simp⟩,rfl⟩
 rw[e] at this;simp at this
def P3 {L:List Dc}{k:Ky}(h:k∈dL L):dg L k≠[]:=by
 obtain⟨d,hd,hne⟩:=BU h;intro e;have:(d.id,iX d k)∈dg L k:=by
  unfold dg;refine ah1.2 ⟨d,hd,?_⟩;unfold CM;rw[ahq hne];simp
 rw[e] at this;simp at this
def ij {L:List Dc}(hs:L.Pairwise λx y=>x.id<y.id)(hv:∀d∈L,aR d=true)(k:Ky):dT (dg L k)=true:=by
 unfold dT;rw[aht]
 constructor
 ·refine nf (nS k hs) λq hq=>?_;obtain⟨p,hp,rfl⟩:=ahl.1 hq;obtain⟨d,hd,rfl,_⟩:=fc hp;exact(bZ (hv d hd)).1
 ·rw[ajM,ai9];intro p hp;obtain⟨d,hd,rfl,hne⟩:=fc hp;obtain⟨h1,h2⟩:=tz (hv d hd) k;unfold nG;rw[ahn (λe=>hne (ah3.1 e)),nf h1 λq hq=>⟨(h2 q hq).1,(h2 q hq).2.1⟩];simp
def uH {L:List Dc}(hs:L.Pairwise λx y=>x.id<y.id)(hv:∀d∈L,aR d=true):(qL (cC L)).Nodup:=by
 have afc:∀d∈L,∀e∈L,d.id=e.id->d=e:=by
  intro d hd e he h;obtain⟨i,hi,e1⟩:=ahB.1 hd;obtain⟨j,hj,e2⟩:=ahB.1 he;rw[ahN] at hs;rcases aiM i j with h3|h3|h3
  ·have:=hs i j hi hj h3;rw[e1,e2] at this;omega
  ·subst h3;rw[<-e1,<-e2]
  ·have:=hs j i hj hi h3;rw[e1,e2] at this;omega
 unfold qL;rw[List.Nodup,ajr]
 constructor
 ·intro t ht;obtain⟨k,hk,rfl⟩:=ahl.1 ht;unfold pq;rw[ajr]
  constructor
  ·intro p hp;obtain⟨d,hd,rfl,_⟩:=fc hp;unfold fg;have:=(tz (hv d hd) k).1;rw[ahY];exact this.imp λh e=>by
    have:=(Prod.mk.inj (Prod.mk.inj e).2).2;omega
  ·have:=nS k hs;rw[ahY] at this;refine this.imp λ{p q} hpq=>?_;intro x hx y hy e;obtain⟨a,_,rfl⟩:=ahl.1 hx;obtain⟨b,_,rfl⟩:=ahl.1 hy;have:=(Prod.mk.inj (Prod.mk.inj e).2).1;omega
 ·unfold cC;rw[ahY];refine(qy L).imp λ{k1 k2} hk=>?_;intro x hx y hy e;obtain⟨p,hp,CA⟩:=ah1.1 hx;obtain⟨q,hq,hy2⟩:=ah1.1 hy;obtain⟨d,hd,rfl,_⟩:=fc hp;obtain⟨d2,hd2,rfl,_⟩:=fc hq;obtain⟨a,ha,rfl⟩:=ahl.1 CA;obtain⟨b,hb,rfl⟩:=ahl.1 hy2;have e1:=(Prod.mk.inj e).1;have e2:=(Prod.mk.inj (Prod.mk.inj e).2).1;have e3:=(Prod.mk.inj (Prod.mk.inj e).2).2;simp only at e1 e2 e3;have hdd:=afc d hd d2 hd2 e2;subst hdd;subst e3;have:=P5 (hv d hd) e1 ha hb;rw[this,jo] at hk
  cases hk
theorem OS {d:Dc}(h:aR d=true):d.ns.Pairwise λx y=>dh x y=true:=by
 have h3:=(bZ h).2.2;have key:∀j i,i<j->j<d.ns.length->dh (d.ns.getD i n0) (d.ns.getD j n0)=true:=by
  intro j
  induction j with
  |zero=>intro i h1;omega
  |succ j ih=>
   intro i h1 h2;have h4:=h3 (j+1) h2;unfold qR at h4;simp only[aht,aic,ahv,aiP] at h4;have h5:dh (d.ns.getD j n0) (d.ns.getD (j+1) n0)=true:=by
    rcases h4.2 with h6|h6
    ·omega
    ·exact h6
   rcases ahr i j with h7|h7
   ·exact rZ (ih i h7 (by omega)) h5
   ·have:i=j:=by omega
    subst this;exact h5
 rw[ahN];intro i j hi hj hij;have:=key j i hij hj;rw[ahg,ahg,ahi hi,ahi hj] at this;exact this
def tC {L:List Dc}{f:Int}{x:Nm}(h:x∈fL L f):∃d∈L,x.2=d.id/\(f,x.1)∈d.ns:=by
 unfold fL at h;obtain⟨d,hd,h1⟩:=ah1.1 h;obtain⟨y,hy,rfl⟩:=ahl.1 h1;obtain⟨h2,h3⟩:=ahF.1 hy;have e:y.1=f:=by simpa using h3
 exact⟨d,hd,rfl,by rw[<-e];exact h2⟩
def yp {L:List Dc}(hs:L.Pairwise λx y=>x.id<y.id)(hv:∀d∈L,aR d=true)(f:Int):(fL L f).Nodup:=by
 unfold fL;rw[List.Nodup,ajr]
 constructor
 ·intro d hd;rw[ahY];have h1:=(OS (hv d hd)).sublist (ai8 (p:=λx=>x.1==f));have h2:∀x∈d.ns.filter (λx=>x.1==f),x.1=f:=λx hx=>by simpa using(ahF.1 hx).2
  refine h1.imp_of_mem λ{a b} ha hb hab e=>?_;have e1:=(Prod.mk.inj e).1;rcases (nK a b).1 hab with h3|h3
  ·rw[h2 a ha,h2 b hb] at h3;omega
  ·omega
 ·refine hs.imp λ{d e} hde=>?_;intro x hx y hy exy;obtain⟨a,_,rfl⟩:=ahl.1 hx;obtain⟨b,_,rfl⟩:=ahl.1 hy;have:=(Prod.mk.inj exy).2;omega
theorem Ii (l:List Nm):(dz l).Pairwise λx y=>dh y x=false:=by
 have key:∀(l a:List Nm),(a.Pairwise λx y=>dh y x=false)->(l.foldl (λa d=>nD d a) a).Pairwise λx y=>dh y x=false:=by
  intro l
  induction l with
  |nil=>intro a h;exact h
  |cons d r ih=>intro a h;exact ih _ (Ey d h)
 exact key l [] .nil
theorem Ax {l:List Nm}(h:l.Nodup):(dz l).Pairwise λx y=>dh x y=true:=by
 have h1:=Ii l;have h2:(dz l).Pairwise (·≠·):=(eR l).nodup_iff.2 h;refine(h1.and h2).imp λ{x y} ⟨a,b⟩=>?_
 cases Gl:dh x y with
 |true=>rfl
 |false=>exact absurd (r8 Gl a) b
def od {L:List Dc}{c:Cl}(h:c∈dM L):(5<=c.f/\c.f<=7)/\fL L c.f≠[]/\c.x=dz (fL L c.f):=by
 have key:∀f,c∈nF L f->c.f=f/\fL L c.f≠[]/\c.x=dz (fL L c.f):=λf hf=>by
  unfold nF at hf
  split at hf
  ·simp at hf
  ·rename_i hne;have:c=⟨f,dz (fL L f)⟩:=by simpa using hf
   subst this;exact⟨rfl,hne,rfl⟩
 unfold dM at h;rcases ahw.1 h with h|h
 ·rcases ahw.1 h with h|h
  ·obtain⟨a,b⟩:=key 5 h;exact⟨by omega,b⟩
  ·obtain⟨a,b⟩:=key 6 h;exact⟨by omega,b⟩
 ·obtain⟨a,b⟩:=key 7 h;exact⟨by omega,b⟩
def AQ (L:List Dc):(dM L).Pairwise λx y=>x.f<y.f:=by
 have one:∀f,(nF L f).Pairwise λx y=>x.f<y.f:=λf=>by unfold nF;split<;>simp
 have UT:∀f,∀c∈nF L f,c.f=f:=λf c hc=>by
  unfold nF at hc
  split at hc
  ·simp at hc
  ·have:c=⟨f,dz (fL L f)⟩:=by simpa using hc
   rw[this]
 unfold dM;rw[ai3,ai3];refine⟨⟨one 5,one 6,λx hx y hy=>by rw[UT 5 x hx,UT 6 y hy];omega⟩,one 7,λx hx y hy=>?_⟩;rw[UT 7 y hy];rcases ahw.1 hx with h|h
 ·rw[UT 5 x h];omega
 ·rw[UT 6 x h];omega
def kr {L:List Dc}(hl:L.length<=2000)(hs:L.Pairwise λx y=>x.id<y.id)(hv:∀d∈L,aR d=true):aX ⟨L.map (·.id),cC L,dM L⟩=true:=by
 have kZ:(L.map (·.id)).Pairwise (·<·):=by rw[ahY];exact hs
 refine vp ?_ (by simpa using hl) (λi hi=>?_) (uH hs hv) (λi hi=>?_)
 ·refine nf kZ λq hq=>?_;obtain⟨d,hd,rfl⟩:=ahl.1 hq;exact(bZ (hv d hd)).1
 ·simp only at hi ⊢;have gV:i<(dL L).length:=by unfold cC at hi;rwa [ahz] at hi
  have vX:∀j,j<(dL L).length->(cC L).getD j t0=⟨((dL L).getD j ((0,[]):Ky)).1,((dL L).getD j ((0,[]):Ky)).2,dg L ((dL L).getD j ((0,[]):Ky))⟩:=λj hj=>by
   unfold cC;rw[ahg,aip,ahg,ahi hj];rfl
  have fS:=aS (dL L) i ((0,[]):Ky) gV;obtain⟨d,hd,hne⟩:=BU fS;obtain⟨p,hp⟩:=aiL _ hne;have jK:=(tz (hv d hd) _).2 p hp
  constructor
  ·unfold rB;rw[vX i gV];simp only[aht,aic,ahv];refine⟨⟨jK.2.2.2,jK.2.2.1⟩,?_⟩;rcases ahR i with h0|h0
   ·exact .inl h0
   ·right
    rw[vX (i-1) (by omega)];exact GS (qy L) ((0,[]):Ky) h0 gV
  ·unfold IV;rw[vX i gV];simp only[aht,ahv];refine⟨⟨P3 fS,ij hs hv _⟩,λq hq=>?_⟩;obtain⟨d2,hd2,rfl,_⟩:=fc hq;exact ahl.2 ⟨d2,hd2,rfl⟩
 ·simp only at hi ⊢;have fS:=aS (dM L) i c0 hi;obtain⟨h1,h2,h3⟩:=od fS
  constructor
  ·unfold wQ;simp only[aht,aic,ahv];refine⟨⟨h1,λe=>h2 ?_⟩,?_⟩
   ·rw[h3] at e;have:=(eR (fL L ((dM L).getD i c0).f)).length_eq;rw[e] at this;exact ah3.1 this.symm
   ·rcases ahR i with h0|h0
    ·exact .inl h0
    ·exact .inr (GS (AQ L) c0 h0 hi)
  ·intro k hk;have hlt:=Ax (yp hs hv ((dM L).getD i c0).f);rw[<-h3] at hlt;have gq:=aS ((dM L).getD i c0).x k n0 hk;have yK:((dM L).getD i c0).x.getD k n0∈fL L ((dM L).getD i c0).f:=(eR _).mem_iff.1 (by rw[<-h3];exact gq);obtain⟨d,hd,e1,e2⟩:=tC yK;obtain⟨m,hm,e3⟩:=bH n0 e2;have Rm:=(bZ (hv d hd)).2.2 m hm;unfold qR at Rm;rw[e3] at Rm;unfold vQ at Rm;simp only[aht,ahv] at Rm;unfold sC;simp only[aht,aic,ahv];refine⟨⟨by rw[e1];exact ahl.2 ⟨d,hd,rfl⟩,Rm.1.2⟩,?_⟩;rcases ahR k with h0|h0
   ·exact .inl h0
   ·exact .inr (GS hlt n0 h0 hk)
def QY {L:List Dc}(hl:L.length<=40)(hk:(L.flatMap dn).length<=1000)(hv:∀d∈L,aR d=true)(hw:∀d∈L,∀z∈d.zs,z.ws.length<=1000)(hn:∀d∈L,d.ns.length<=20):ve ⟨L.map (·.id),cC L,dM L⟩:=by
 have hm:1000<=Go.maxLen:=by decide
 refine⟨by simp;omega,?_,λt ht=>?_,?_,λc hc=>?_⟩
 ·show (cC L).length<=1000;unfold cC;rw[ahz,uO];have:=mB (L.flatMap dn) [];rw[aiB,aiv] at this;omega
 ·obtain⟨k,hkk,rfl⟩:=ahl.1 ht;obtain⟨d,hd,hne⟩:=BU hkk;obtain⟨p,hp⟩:=aiL _ hne;have jK:=(tz (hv d hd) k).2 p hp;refine⟨?_,?_,λq hq=>?_⟩
  ·have:=jK.2.2.1;unfold okW at this;simp only[aht,ahv] at this;show k.2.length<=_;omega
  ·show (dg L k).length<=1000;have:=xF k L;rw[Jx hv] at this;omega
  ·obtain⟨d2,hd2,rfl,_⟩:=fc hq;show (iX d2 k).length<=1000;rw[nT (hv d2 hd2)];unfold kS;rw[ahz];refine aho (ahU _ _) ?_;rcases Classical.em (pg d2.zs k.1=[]) with he|he
   ·rw[he];simp
   ·obtain⟨w,hw1⟩:=aiL _ he;obtain⟨z,h1,_,h3⟩:=BD hw1;rw[h3];exact hw d2 hd2 z h1
 ·show (dM L).length<=1000;rw[<-O8];have:=xW L 3;omega
 ·obtain⟨_,_,h3⟩:=od hc;rw[h3,(eR _).length_eq];unfold fL;have:=iP (λd:Dc=>(d.ns.filter λx=>x.1==c.f).map λx=>(x.2,d.id)) 20 L λd hd=>by
   rw[ahz];exact aho (ahU _ _) (hn d hd)
  omega
end eT
namespace Go.Proofs.YtoejlmpbebjemaaGreat
open Go Go.Am im eT cL
def eB (L:List Dc):Sg:=⟨L.map (·.id),cC L,dM L⟩
section
variable {L : List Dc} (hl : L.length <= 2000) (hs : L.Pairwise λx y => x.id < y.id) (hv : ∀ d ∈ L, aR d = true)
include hl hs hv
theorem vC (k:Ky):iO (eB L) k=dg L k:=by
 unfold iO;rw[ahs (show aX (eB L)=true from kr hl hs hv)];unfold zJ;show (((cC L).find? λt=>decide (t.k=k)).map (·.l)).getD []=_;unfold cC;rw[List.find?_map]
 cases hf:(dL L).find? ((λt:Tm=>decide (t.k=k)) ∘ λk=>⟨k.1,k.2,dg L k⟩) with
 |none=>
  have hno:k∉dL L:=λhm=>by
   have:=aiy.1 hf k hm;simp[Tm.k] at this
  show []=_
  cases hp:dg L k with
  |nil=>rfl
  |cons p r=>
   exfalso;obtain⟨d,hd,e1,e2⟩:=fc (L:=L) (k:=k) (p:=p) (by rw[hp];simp);obtain⟨q,hq⟩:=aiL _ e2;unfold iX at hq;obtain⟨w,hw,_⟩:=ahl.1 hq;obtain⟨hw1,hw2⟩:=ahF.1 hw;have e3:w.1=k:=by simpa using hw2
   exact hno ((nX L k).2 ⟨d,hd,w.2,by rw[<-e3];exact hw1⟩)
 |some k2=>
  have h1:=ajA hf;have e:k2=k:=by
   have:((k2.1,k2.2):Ky)=k:=by simpa[Tm.k] using h1
   exact this
  subst e;rfl
def qa (k:Ky){d:Dc}(hd:d∈L):posOf (dg L k) d.id=iX d k:=by
 rcases Classical.em (iX d k=[]) with he|he
 ·rw[he];refine rX λp hp e=>?_;obtain⟨d2,hd2,rfl,hne⟩:=fc hp;have:d2=d:=by
   obtain⟨i,hi,e1⟩:=ahB.1 hd;obtain⟨j,hj,e2⟩:=ahB.1 hd2;rw[ahN] at hs;simp only at e;rcases aiM i j with h3|h3|h3
   ·have:=hs i j hi hj h3;rw[e1,e2] at this;omega
   ·subst h3;rw[<-e1,<-e2]
   ·have:=hs j i hj hi h3;rw[e1,e2] at this;omega
  subst this;exact hne he
 ·have hm:(d.id,iX d k)∈dg L k:=by
   unfold dg;refine ah1.2 ⟨d,hd,?_⟩;unfold CM;rw[ahq he];simp
  exact qv (show lq (dg L k) from nS k hs) hm
def IH (f lo hi x:Int):x∈lg (eB L) f lo hi↔∃n,(n,x)∈fL L f/\lo<=n/\n<=hi:=by
 unfold lg;rw[ahs (show aX (eB L)=true from kr hl hs hv),Fa];unfold hits;rw[ah1];show (∃c∈dM L,_)↔_
 constructor
 ·rintro⟨c,hc,hx⟩;obtain⟨_,_,h3⟩:=od hc;unfold NZ at hx;obtain⟨y,hy,CA⟩:=ah1.1 hx;unfold o9 at CA
  split at CA
  ·rename_i hc2;unfold Db at hc2;simp only[aht,ahv] at hc2;rw[h3] at hy;have:=(eR _).mem_iff.1 hy;have ex:x=y.2:=by simpa using CA
   exact⟨y.1,by rw[ex,<-show c.f=f by simpa using hc2.1.1];exact this,hc2.1.2,hc2.2⟩
  ·simp at CA
 ·rintro⟨n,hn,h1,h2⟩;have hf:∃d∈L,(f,n)∈d.ns:=by
   obtain⟨d,hd,_,e⟩:=tC hn;exact⟨d,hd,e⟩
  obtain⟨d,hd,hm⟩:=hf;obtain⟨i,hi2,e⟩:=bH n0 hm;have Rm:=(bZ (hv d hd)).2.2 i hi2;unfold qR vQ at Rm;rw[e] at Rm;simp only[aht,ahv] at Rm;have Rs:=Rm.1.1;have hne:fL L f≠[]:=λe=>by rw[e] at hn;simp at hn
  have hcl:(⟨f,dz (fL L f)⟩:Cl)∈dM L:=by
   have h5:(⟨f,dz (fL L f)⟩:Cl)∈nF L f:=by unfold nF;rw[ahq hne];simp
   unfold dM;have h6:f=5\/f=6\/f=7:=by omega
   rcases h6 with rfl|rfl|rfl<;>simp[h5]
  refine⟨_,hcl,?_⟩;unfold NZ;refine ah1.2 ⟨(n,x),(eR _).mem_iff.2 hn,?_⟩;unfold o9;rw[ahs (by unfold Db;simp[h1,h2])];simp
def Cg (f:Int)(p:Bs):gZ (eB L) f p=((dL L).filter λk=>decide (k.1=f)&&mK p k.2).map (·.2):=by
 unfold gZ;rw[ahs (show aX (eB L)=true from kr hl hs hv)];unfold uj;show ((cC L).filter _).map _=_;unfold cC;rw[List.filter_map,ain];rfl
end
def Gw (L:List Dc)(f:Int):List Bs:=((dL L).filter λk=>decide (k.1=f)).map (·.2)
def ED (w:Bs):mK [] w=true:=by simp[mK]
def rU {L:List Dc}(hl:L.length<=2000)(hs:L.Pairwise λx y=>x.id<y.id)(hv:∀d∈L,aR d=true)(f:Int)(p:Bs):gZ (eB L) f p=(Gw L f).filter (mK p):=by
 rw[Cg hl hs hv];unfold Gw;rw[List.filter_map,List.filter_filter]
 congr 1
 exact ajV λk _=>by rw[Bool.and_comm];rfl
def Pj (L:List Dc)(f:Int):(Gw L f).Pairwise λx y=>slt x y=true:=by
 unfold Gw;rw[ahY];have h1:=(qy L).sublist (ai8 (p:=λk=>decide (k.1=f)));have h2:∀k∈(dL L).filter (λk=>decide (k.1=f)),k.1=f:=λk hk=>by simpa using(ahF.1 hk).2
 refine h1.imp_of_mem λ{a b} ha hb hab=>?_;unfold bP at hab;simp only[aic,aht,ahv] at hab;rcases hab with h|h
 ·rw[h2 a ha,h2 b hb] at h;omega
 ·exact h.2
def Pk {L:List Dc}(f:Int)(w:Bs):w∈Gw L f↔(f,w)∈dL L:=by
 unfold Gw;rw[ahl]
 constructor
 ·rintro⟨k,hk,rfl⟩;obtain⟨h1,h2⟩:=ahF.1 hk;have:k.1=f:=by simpa using h2
  rw[<-this];exact h1
 ·intro h;exact⟨(f,w),ahF.2 ⟨h,by simp⟩,rfl⟩
theorem Ai {P:Nat}:∀{l:List Ps},(∀p∈l,p.2.length<=P)->∀d:Int,(posOf l d).length<=P
 |[],_,d=>by simp[posOf]
 |p::l,h,d=>by
  unfold posOf
  split
  ·exact h p (by simp)
  ·exact Ai (λq hq=>h q (by simp[hq])) d
def zV {s:Sg}(hv:aX s=true):∀t∈s.bK,lq t.l:=λt ht=>(cU (Oj hv ht).2.2.1).1
def TC {s:Sg}(hv:aX s=true){P:Nat}(hP:∀t∈s.bK,∀p∈t.l,p.2.length<=P)(id f:Int):(occs s.bK id f).length<=s.bK.length*P:=by
 rw[tB (zV hv)];refine iP _ P _ λt ht=>?_;unfold VG
 split
 ·rw[ahz];exact Ai (hP t ht) id
 ·simp
def Qe {s:Sg}(hv:aX s=true){id f a:Int}{w:Bs}:(w,a)∈occs s.bK id f↔∃t∈s.bK,t.f=f/\t.w=w/\a∈posOf t.l id:=by
 rw[tB (zV hv),ah1]
 constructor
 ·rintro⟨t,ht,h⟩;unfold VG at h
  split at h
  ·rename_i hf;obtain⟨b,hb,e⟩:=ahl.1 h;obtain⟨e1,e2⟩:=Prod.mk.inj e;exact⟨t,ht,hf,e1,by rw[<-e2];exact hb⟩
  ·simp at h
 ·rintro⟨t,ht,hf,hw,ha⟩;refine⟨t,ht,?_⟩;unfold VG;rw[ahs hf];exact ahl.2 ⟨a,ha,by rw[hw]⟩
def Fk (g:Int->List Wd):(de g).length<=4:=by
 rw[<-SN];exact WJ g 4
def EP {s:Sg}(hv:aX s=true){T P C X:Nat}(hT:s.bK.length<=T)(hw:∀t∈s.bK,t.w.length<=maxLen/\∀p∈t.l,p.2.length<=P)(hC:s.aN.length<=C)(hX:∀c∈s.aN,c.x.length<=X) :
  ∀d∈jh s,d.zs.length<=4/\(∀z∈d.zs,z.ws.length<=T*P/\∀w∈z.ws,w.1.length<=maxLen)/\d.ns.length<=C*X:=by
 intro d hd;unfold jh at hd;obtain⟨id,_,rfl⟩:=ahl.1 hd;refine⟨Fk (λf=>jA (occs s.bK id f)),λz hz=>?_,?_⟩
 ·obtain⟨_,h2,_⟩:=pZ (g:=λf=>jA (occs s.bK id f)) hz;rw[h2];refine⟨?_,λw hw2=>?_⟩
  ·rw[(rV _).1.length_eq];exact aho (TC hv (λt ht=>(hw t ht).2) id z.f) (ail _ hT)
  ·obtain⟨w1,w2⟩:=w;obtain⟨t,ht,_,e,_⟩:=(Qe hv).1 ((rV _).1.mem_iff.1 hw2);rw[<-e];exact(hw t ht).1
 ·show (Ng s.aN id).length<=_;unfold Ng;refine aho (iP _ X _ λc hc=>?_) (ail _ hC);rw[ahz];exact aho (ahU _ _) (hX c hc)
def uW {s:Sg}(hs:ve s):∀d∈et s,o5 d:=by
 intro d hd;unfold et at hd
 split at hd
 ·rename_i hv;obtain⟨h1,h2,h3⟩:=EP hv hs.t (λt ht=>⟨(hs.w t ht).1,(hs.w t ht).2.2⟩) hs.c hs.x d hd;have hm:1000000<=maxLen:=by decide
  exact⟨by omega,λz hz=>⟨by have:=(h2 z hz).1;omega,(h2 z hz).2⟩,by omega⟩
 ·simp at hd
def uX {s:Sg}(hs:ve s):(et s).length<=1000:=by
 unfold et
 split
 ·simp[jh];exact hs.d
 ·simp
theorem iR {α:Type}{lt:α->α->Prop}(KF:∀x y,lt x y->lt y x->False):∀{a b:List α},a.Pairwise lt->b.Pairwise lt->(∀x,x∈a↔x∈b)->a=b
 |[],[],_,_,_=>rfl
 |[],y::b,_,_,h=>by have:=(h y).2 (by simp);simp at this
 |x::a,[],_,_,h=>by have:=(h x).1 (by simp);simp at this
 |x::a,y::b,ha,hb,h=>by
  have ⟨a1,a2⟩:=aie.1 ha;have ⟨b1,b2⟩:=aie.1 hb;have e:x=y:=by
   rcases ahL.1 ((h x).1 (by simp)) with h1|h1
   ·exact h1
   rcases ahL.1 ((h y).2 (by simp)) with h2|h2
   ·exact h2.symm
   exact(KF _ _ (b1 x h1) (a1 y h2)).elim
  subst e;rw[iR KF a2 b2 λz=>⟨λhz=>?_,λhz=>?_⟩]
  ·rcases ahL.1 ((h z).1 (by simp[hz])) with e|h1
   ·subst e;exact(KF _ _ (a1 z hz) (a1 z hz)).elim
   ·exact h1
  ·rcases ahL.1 ((h z).2 (by simp[hz])) with e|h1
   ·subst e;exact(KF _ _ (b1 z hz) (b1 z hz)).elim
   ·exact h1
theorem OH {d:Dc}(h:aR d=true):d.zs.Pairwise λx y=>x.f<y.f:=by
 have h3:=(bZ h).2.1;have key:∀j i,i<j->j<d.zs.length->(d.zs.getD i z0).f<(d.zs.getD j z0).f:=by
  intro j
  induction j with
  |zero=>intro i h1;omega
  |succ j ih=>
   intro i h1 h2;have h4:=(fO (h3 (j+1) h2)).1;unfold iF at h4;rw[ahq (by omega),aiP] at h4;rcases ahr i j with h5|h5
   ·have:=ih i h5 (by omega);omega
   ·have:i=j:=by omega
    subst this;exact h4
 rw[ahN];intro i j hi hj hij;have:=key j i hij hj;rw[ahg,ahg,ahi hi,ahi hj] at this;exact this
theorem DD:∀{zs:List Zn},(zs.Pairwise λx y=>x.f<y.f)->∀z∈zs,pg zs z.f=z.ws
 |[],_,z,h=>by simp at h
 |y::r,hp,z,h=>by
  have ⟨h1,h2⟩:=aie.1 hp;unfold pg;rcases ahL.1 h with e|h3
  ·subst e;rw[ahs rfl]
  ·rw[ahq (by have:=h1 z h3;omega)];exact DD h2 z h3
def ZP {d:Dc}(h:aR d=true){z:Zn}(hz:z∈d.zs):z.ws≠[]/\1<=z.f/\z.f<=4:=by
 have h3:=(bZ h).2.1;obtain⟨i,hi,e⟩:=bH z0 hz;have hk:=fO (h3 i hi);have hf:=kq h3 i hi;rw[e] at hk hf;exact⟨λe=>hk.2.2.1 (by rw[e];rfl),by omega,hk.2.1⟩
def Fj (g:Int->List Wd):(de g).Pairwise λx y=>x.f<y.f:=by
 unfold de;rw[ajr];refine⟨λf _=>by split<;>simp,?_⟩;have UT:∀f,∀z∈(if g f=[] then [] else [(⟨f,g f⟩:Zn)]),z.f=f:=λf z hz=>by
  split at hz
  ·simp at hz
  ·rw[ah0.1 hz]
 simp only[aie,ahL,List.not_mem_nil,aj2];refine⟨?_,?_,?_,?_,List.Pairwise.nil⟩
 all_goals (intro f' hf' x hx y hy;rw[UT _ x hx,UT _ y hy])
 ·rcases hf' with rfl|rfl|rfl<;>decide
 ·rcases hf' with rfl|rfl<;>decide
 ·subst hf';decide
 ·exact hf'.elim
def Fh {d:Dc}(h:aR d=true):de (pg d.zs)=d.zs:=by
 refine iR (lt:=λx y:Zn=>x.f<y.f) (λx y h1 h2=>by omega) (Fj _) (OH h) λz=>⟨λhz=>?_,λhz=>?_⟩
 ·obtain⟨h1,h2,_⟩:=pZ hz;obtain⟨w,hw⟩:=aiL _ h1;rw[h2] at hw;obtain⟨y,h3,h4,h5⟩:=BD hw;have:z=y:=by
   obtain⟨zf,zw⟩:=z;obtain⟨yf,yw⟩:=y;simp only at h2 h4 h5;rw[h4,h2,h5]
  rw[this];exact h3
 ·obtain⟨h1,h2,h3⟩:=ZP h hz;have e:=DD (OH h) z hz;unfold de;refine ah1.2 ⟨z.f,?_,?_⟩
  ·rcases (by omega:z.f=1\/z.f=2\/z.f=3\/z.f=4) with e|e|e|e<;>simp[e]
  ·rw[e,ahq h1];simp
def D8 (ws:List Wd)(w:Bs)(a:Int):a∈kS ws w↔(w,a)∈ws:=by
 unfold kS
 constructor
 ·intro h;obtain⟨x,hx,rfl⟩:=ahl.1 h;obtain⟨h1,h2⟩:=ahF.1 hx;have e:x.1=w:=by simpa using h2
  rw[<-e];exact h1
 ·intro h;exact ahl.2 ⟨(w,a),ahF.2 ⟨h,by simp⟩,rfl⟩
def P6 {L:List Dc}{d:Dc}(hd:d∈L){k:Ky}{a:Int}(h:a∈iX d k):k∈dL L:=by
 unfold iX at h;obtain⟨w,hw,_⟩:=ahl.1 h;obtain⟨hw1,hw2⟩:=ahF.1 hw;have e3:w.1=k:=by simpa using hw2
 exact(nX L k).2 ⟨d,hd,w.2,by rw[<-e3];exact hw1⟩
section
variable {L : List Dc} (hl : L.length <= 2000) (hs : L.Pairwise λx y => x.id < y.id) (hv : ∀ d ∈ L, aR d = true)
include hl hs hv
def H5 {d:Dc}(hd:d∈L)(f:Int):jA (occs (cC L) d.id f)=pg d.zs f:=by
 have afq:∀t∈cC L,lq t.l:=λt ht=>by
  obtain⟨k,_,rfl⟩:=ahl.1 ht;exact nS k hs
 have h1:=rV (occs (cC L) d.id f);have hne:=JA (eT.uH hs hv) d.id f;have sym:∀x y:Wd,x.2≠y.2->y.2≠x.2:=λ_ _ h e=>h e.symm;have hlt:(jA (occs (cC L) d.id f)).Pairwise λx y=>x.2<y.2:=(h1.2.and ((h1.1.pairwise_iff (λ{x y} h=>sym x y h)).2 hne)).imp fun⟨h1,h2⟩=>by omega
 refine iR (lt:=λx y:Wd=>x.2<y.2) (λx y h1 h2=>by omega) hlt (ahY.1 (GN (hv d hd) f).1) λx=>?_;rw[h1.1.mem_iff,tB afq];obtain⟨w,a⟩:=x;rw[ah1]
 constructor
 ·rintro⟨t,ht,hx⟩;obtain⟨k,hk,rfl⟩:=ahl.1 ht;unfold VG at hx;simp only at hx
  split at hx
  ·rename_i hf;rw[qa hl hs hv k hd] at hx;obtain⟨b,hb,e⟩:=ahl.1 hx;obtain⟨e1,e2⟩:=Prod.mk.inj e;rw[nT (hv d hd),D8] at hb;rw[<-hf,<-e1,<-e2];exact hb
  ·simp at hx
 ·intro hx;have hp:a∈iX d (f,w):=by rw[nT (hv d hd),D8];exact hx
  refine⟨⟨f,w,dg L (f,w)⟩,ahl.2 ⟨(f,w),P6 hd hp,rfl⟩,?_⟩;unfold VG;rw[ahs rfl];simp only;rw[qa hl hs hv (f,w) hd];exact ahl.2 ⟨a,hp,rfl⟩
def L8 {d:Dc}(hd:d∈L):Ng (dM L) d.id=d.ns:=by
 have Gb:∀d2∈L,d2.id=d.id->d2=d:=λd2 hd2 e=>by
  obtain⟨i,hi,e1⟩:=ahB.1 hd;obtain⟨j,hj,e2⟩:=ahB.1 hd2;rw[ahN] at hs;rcases aiM i j with h3|h3|h3
  ·have:=hs i j hi hj h3;rw[e1,e2] at this;omega
  ·subst h3;rw[<-e1,<-e2]
  ·have:=hs j i hj hi h3;rw[e1,e2] at this;omega
 have fS:∀c∈dM L,∀y:Nm,y∈c.x↔y∈fL L c.f:=λc hc y=>by
  rw[(od hc).2.2];exact(eR _).mem_iff
 have KF:∀x y:Nm,dh x y=true->dh y x=true->False:=λx y h1 h2=>by rw[r9 h1] at h2;cases h2
 refine iR (lt:=λx y=>dh x y=true) KF ?_ (OS (hv d hd)) λx=>?_
 ·unfold Ng;rw[ajr];refine⟨λc hc=>?_,(AQ L).imp λ{a b} hab x hx y hy=>?_⟩
  ·rw[ahY];have hx:=(od hc).2.2;have h1:c.x.Pairwise λx y=>dh x y=true:=by rw[hx];exact Ax (yp hs hv c.f)
   refine(h1.sublist (ai8 (p:=λy=>y.2==d.id))).imp_of_mem λ{x y} hx hy Gl=>?_;have e1:x.2=d.id:=by simpa using(ahF.1 hx).2
   have e2:y.2=d.id:=by simpa using(ahF.1 hy).2
   rw[nK] at Gl;refine(nK _ _).2 (.inr ⟨rfl,?_⟩);show x.1<y.1;omega
  ·obtain⟨p,_,rfl⟩:=ahl.1 hx;obtain⟨q,_,rfl⟩:=ahl.1 hy;rw[nK];exact .inl hab
 ·unfold Ng;rw[ah1]
  constructor
  ·rintro⟨c,hc,hx⟩;obtain⟨y,hy,rfl⟩:=ahl.1 hx;obtain⟨h1,h2⟩:=ahF.1 hy;have e:y.2=d.id:=by simpa using h2
   obtain⟨d2,hd2,e2,h3⟩:=tC ((fS c hc y).1 h1);rw[Gb d2 hd2 (by omega)] at h3;exact h3
  ·intro hx;obtain⟨f,n⟩:=x;obtain⟨i,hi,e⟩:=bH n0 hx;have hf:=(bZ (hv d hd)).2.2 i hi;unfold qR vQ at hf;rw[e] at hf;simp only[aht,ahv] at hf;have hit:(n,d.id)∈fL L f:=ah1.2 ⟨d,hd,ahl.2 ⟨(f,n),ahF.2 ⟨hx,by simp⟩,rfl⟩⟩;have hne:fL L f≠[]:=λe=>by rw[e] at hit;simp at hit
   have Kx:(⟨f,dz (fL L f)⟩:Cl)∈dM L:=by
    have:(⟨f,dz (fL L f)⟩:Cl)∈nF L f:=by unfold nF;rw[ahq hne];simp
    unfold dM;rcases (by omega:f=5\/f=6\/f=7) with e|e|e<;>subst e<;>simp[this]
   refine⟨_,Kx,ahl.2 ⟨(n,d.id),ahF.2 ⟨?_,by simp⟩,rfl⟩⟩;exact(eR _).mem_iff.2 hit
def FV:jh (eB L)=L:=by
 unfold jh;show (L.map (·.id)).map _=L;rw[ain]
 conv=>rhs;rw[<-List.map_id L]
 refine ahW λd hd=>?_;show (⟨d.id,de λf=>jA (occs (cC L) d.id f),Ng (dM L) d.id⟩:Dc)=d;have e:(λf=>jA (occs (cC L) d.id f))=pg d.zs:=funext λf=>H5 hl hs hv hd f;rw[e,Fh (hv d hd),L8 hl hs hv hd]
def FU:et (eB L)=L:=by
 unfold et;rw[ahs (show aX (eB L)=true from kr hl hs hv)];exact FV hl hs hv
end
structure VD (L:List Dc):Prop where
 n:L.length<=2000
 lt:L.Pairwise λx y=>x.id<y.id
 v:∀d∈L,aR d=true
def VD.valid {L:List Dc}(h:VD L):aX (eB L)=true:=kr h.n h.lt h.v
def VD.aA {L:List Dc}(h:VD L):et (eB L)=L:=FU h.n h.lt h.v
theorem VD.filter {L:List Dc}(h:VD L)(p:Dc->Bool):VD (L.filter p):=
 ⟨aho (ahU _ _) h.n,h.lt.sublist ai8,λd hd=>h.v d (ahF.1 hd).1⟩
def pO {l:List Dc}(hn:(l.map (·.id)).Nodup):(ep l).Pairwise λx y=>x.id<y.id:=by
 have hp:=(gh l).perm;have h4:=(gh l).ord;have h5:((ep l).map (·.id)).Nodup:=(hp.map _).nodup_iff.2 hn;rw[List.Nodup,ahY] at h5;exact(h4.and h5).imp λ{x y} ⟨a,b⟩=>by omega
def eZ {l:List Dc}(x:Dc):x∈ep l↔x∈l:=(gh l).perm.mem_iff
def qx {a b:List Dc}(ha:a.Pairwise λx y=>x.id<y.id)(hb:b.Pairwise λx y=>x.id<y.id)(h:∀x,x∈a↔x∈b):a=b:=
 iR (lt:=λx y:Dc=>x.id<y.id) (λx y h1 h2=>by omega) ha hb h
def Hw {L:List Dc}(h:L.Pairwise λx y=>x.id<y.id):ep L=L:=
 qx (pO (mn h)) h λx=>eZ x
structure zQ (l:List Dc):Prop where
 n:l.length<=2000
 nd:(l.map (·.id)).Nodup
 v:∀d∈l,aR d=true
def zQ.vd {l:List Dc}(h:zQ l):VD (ep l):=⟨by rw[dW];exact h.n,pO h.nd,λd hd=>h.v d ((eZ d).1 hd)⟩
def VD.wT {L:List Dc}(h:VD L):zQ L:=⟨h.n,mn h.lt,h.v⟩
def zQ.build {l:List Dc}(h:zQ l):cZ l=(eB (ep l),0):=by
 unfold cZ eB;rw[ahq (by have:=h.n;omega),ahq,ahq (λe=>e h.nd)];rw[Bool.not_eq_true,ai9];intro d hd;simp[h.v d hd]
theorem VD.build {L:List Dc}(h:VD L):cZ L=(eB L,0):=by rw[h.wT.build,Hw h.lt]
def jU (s t:Sg):Sg×Int:=
 if aX s=true/\aX t=true then if comb (λp q=>p&&q) s.aA t.aA=[] then cZ (et s++et t) else (bR,10) else (bR,1)
def rf (s:Sg)(ids:List Int):List Dc:=(et s).filter λd=>!decide (d.id∈ids)
def Jc (s:Sg)(ids:List Int):Sg:=(cZ (rf s ids)).1
def VD.drop {L:List Dc}(h:VD L)(ids:List Int):Jc (eB L) ids=eB (L.filter λd=>!decide (d.id∈ids)):=by
 unfold Jc rf;rw[h.aA,(h.filter _).build]
def xG {L:List Dc}(hL:VD L)(k:Ky)(d z:Int):z∈posOf (dg L k) d↔∃x∈L,x.id=d/\z∈iX x k:=by
 constructor
 ·intro h;obtain⟨p,hp,e1,e2⟩:=um h;obtain⟨x,hx,rfl,_⟩:=fc hp;rw[e2] at h;exact⟨x,hx,e1,h⟩
 ·rintro⟨x,hx,rfl,h⟩;rw[qa hL.n hL.lt hL.v k hx];exact h
def JI {L:List Dc}(f n i:Int):(n,i)∈fL L f↔∃d∈L,d.id=i/\(f,n)∈d.ns:=by
 constructor
 ·intro h;obtain⟨d,hd,e,h2⟩:=tC h;exact⟨d,hd,e.symm,h2⟩
 ·rintro⟨d,hd,rfl,h⟩;exact ah1.2 ⟨d,hd,ahl.2 ⟨(f,n),ahF.2 ⟨h,by simp⟩,rfl⟩⟩
def wG (s:Sg)(f lo hi:Int):kz (lg s f lo hi):=by
 unfold lg
 split
 ·exact Q6 _
 ·exact List.Pairwise.nil
def oI {L:List Dc}(hL:VD L)(f lo hi x:Int):x∈lg (eB L) f lo hi↔∃d∈L,d.id=x/\∃n,(f,n)∈d.ns/\lo<=n/\n<=hi:=by
 rw[IH hL.n hL.lt hL.v]
 constructor
 ·rintro⟨n,h,h2⟩;obtain⟨d,hd,e,h3⟩:=(JI f n x).1 h;exact⟨d,hd,e,n,h3,h2⟩
 ·rintro⟨d,hd,e,n,h3,h2⟩;exact⟨n,(JI f n x).2 ⟨d,hd,e,h3⟩,h2⟩
def zD {L:List Dc}(hL:VD L){d:Dc}(hd:d∈L):1<=d.id/\d.id<=1000000000:=(bZ (hL.v d hd)).1
def Je {L:List Dc}(hL:VD L)(f lo hi:Int):V (lg (eB L) f lo hi):=
 nf (wG _ _ _ _) λq hq=>by
  obtain⟨d,hd,e,_⟩:=(oI hL f lo hi q).1 hq;have:=zD hL hd;omega
def nH {L:List Dc}(hL:VD L):V (L.map (·.id)):=
 nf (ahY.2 hL.lt) λq hq=>by
  obtain⟨d,hd,rfl⟩:=ahl.1 hq;exact zD hL hd
section
variable {L M N : List Dc} (hL : VD L) (hM : VD M) (hN : VD N) (fS : ∀ x, x ∈ N ↔ x ∈ L \/ x ∈ M)
include hL hM hN fS
def Uf (k:Ky):ja (dg L k) (dg M k)=dg N k:=by
 have hA:=ij hL.lt hL.v k;have hB:=ij hM.lt hM.v k;refine Y7 (Y8 hA hB) (ij hN.lt hN.v k) λd z=>?_;rw[OK hA hB,xG hL,xG hM,xG hN]
 constructor
 ·rintro (⟨x,hx,h⟩|⟨x,hx,h⟩)
  ·exact⟨x,(fS x).2 (.inl hx),h⟩
  ·exact⟨x,(fS x).2 (.inr hx),h⟩
 ·rintro⟨x,hx,h⟩;rcases (fS x).1 hx with h1|h1
  ·exact .inl ⟨x,h1,h⟩
  ·exact .inr ⟨x,h1,h⟩
variable (Ww : ∀ x ∈ L, ∀ y ∈ M, x.id ≠ y.id)
include Ww
def Qk (hn:L.length+M.length<=2000):jU (eB L) (eB M)=(eB N,0):=by
 have hc:comb (λp q=>p&&q) (eB L).aA (eB M).aA=[]:=by
  obtain⟨_,h2⟩:=jk (λp q=>p&&q) (nH hL) (nH hM);rw[aiJ];intro z hz;have h3:=(h2 z).1 hz;have h4:z∈L.map (·.id)/\z∈M.map (·.id):=by
   by_cases ha:z∈L.map (·.id)<;>by_cases hb:z∈M.map (·.id)<;>simp[ha,hb] at h3 ⊢
  obtain⟨x,hx,e1⟩:=ahl.1 h4.1;obtain⟨y,hy,e2⟩:=ahl.1 h4.2;exact Ww x hx y hy (e1.trans e2.symm)
 have hg:zQ (L++M):=by
  refine⟨by rw[ahk];exact hn,?_,λd hd=>(ahw.1 hd).elim (hL.v d) (hM.v d)⟩;rw[ahx,ah2];refine⟨mn hL.lt,mn hM.lt,?_⟩;intro a ha b hb e;obtain⟨x,hx,e1⟩:=ahl.1 ha;obtain⟨y,hy,e2⟩:=ahl.1 hb;exact Ww x hx y hy (by omega)
 unfold jU;rw[ahs ⟨hL.valid,hM.valid⟩,ahs hc,hL.aA,hM.aA,hg.build];rw[qx (pO hg.nd) hN.lt λx=>by rw[eZ,ahw,fS]]
end
end Go.Proofs.YtoejlmpbebjemaaGreat
