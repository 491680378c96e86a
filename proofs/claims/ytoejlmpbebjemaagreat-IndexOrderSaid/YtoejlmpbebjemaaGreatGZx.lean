/- What Build returns is a valid segment (layer 39). What is found in what Build returns (layer 39). Sizes of the documents of a segment (layer 39, plain). The documents of what Build returns are the documents (layer 39, plain). What Build, Merge and Drop return, in plain lists (layer 39). Segments of two sets of documents and of both (layer 39, plain).
  Conditions: as the theorems say. -/
import Derived.Test.YtoejlmpbebjemaaGreatGZc
import Derived.Test.YtoejlmpbebjemaaGreatGV
import Derived.Test.YtoejlmpbebjemaaGreatPZ
import Derived.Test.YtoejlmpbebjemaaGreatGFA
import Derived.Test.YtoejlmpbebjemaaGreatGFB
import Derived.Test.YtoejlmpbebjemaaGreatGZb
set_option linter.all false
set_option maxRecDepth 100000

namespace eN
open ia Go.Am Go.Proofs.YtoejlmpbebjemaaGreat cO
def Gp {α:Type}{R:α->α->Prop}{l:List α}(h:l.Pairwise R)(d:α){i:Nat}(h0:0<i)(hi:i<l.length):R (l.getD (i-1) d) (l.getD i d):=by
 have:=ag8.1 h (i-1) i (by omega) hi (by omega);rw[agB,agB,agD (by omega:i-1<l.length),agD hi];exact this
theorem VV {ws:List Wd}(h:∀k,k<ws.length->o3 ws k=true):(ws.map (·.2)).Pairwise (·<·):=by
 have key:∀j i,i<j->j<ws.length->(ws.getD i w0).2<(ws.getD j w0).2:=by
  intro j
  induction j with
  |zero=>intro i h1;omega
  |succ j ih=>
   intro i h1 h2;have h3:=(mj (h (j+1) h2)).2.1;unfold iG at h3;rw[agL (by omega),ah9] at h3;rcases agM i j with h4|h4
   ·have:=ih i h4 (by omega);omega
   ·have:i=j:=by omega
    subst this;exact h3
 rw[ahj,ag8];intro i j hi hj jz;have:=key j i jz hj;rw[agB,agB,agD hi,agD hj] at this;exact this
theorem Bl {zs:List Zn}{f:Int}{w:Wd}(h:w∈o7 zs f):∃z∈zs,z.f=f/\o7 zs f=z.ws:=by
 induction zs with
 |nil=>simp[o7] at h
 |cons z r ih=>
  unfold o7 at h ⊢
  by_cases hz:z.f=f
  ·rw[agN hz];exact⟨z,by simp,hz,rfl⟩
  ·rw[agL hz] at h ⊢;obtain⟨y,h1,h2,h3⟩:=ih h;exact⟨y,by simp[h1],h2,h3⟩
def Gl {d:Dc}(h:aS d=true)(f:Int):((o7 d.zs f).map (·.2)).Pairwise (·<·)/\∀w∈o7 d.zs f,okW w.1=true/\0<=w.2/\w.2<=1000000/\1<=f/\f<=4:=by
 have hz:=(cC h).2.1;rcases Classical.em (o7 d.zs f=[]) with he|he
 ·rw[he];exact⟨by simp,λw hw=>by simp at hw⟩
 ·obtain⟨w1,yu⟩:=ah4 _ he;obtain⟨z,h1,h2,h3⟩:=Bl yu;obtain⟨i,hi,e⟩:=bK z0 h1;have hk:=fH (hz i hi);rw[e] at hk;have hf:=kh hz i hi;rw[e] at hf;rw[h3];refine⟨VV hk.2.2.2,λw hw=>?_⟩;obtain⟨k,FU,fX⟩:=bK w0 hw;have h5:=mj (hk.2.2.2 k FU);have h6:=ug hk.2.2.2 k FU;rw[fX] at h5 h6;exact⟨h5.1,by omega,h5.2.2,by omega,by omega⟩
def nQ {d:Dc}(h:aS d=true)(k:Ky):iR d k=kN (o7 d.zs k.1) k.2:=(z6 h k).symm
def sY {d:Dc}(h:aS d=true)(k:Ky):(iR d k).Pairwise (·<·)/\∀p∈iR d k,0<=p/\p<=1000000/\okW k.2=true/\1<=k.1/\k.1<=4:=by
 rw[nQ h];obtain⟨h1,h2⟩:=Gl h k.1;unfold kN;refine⟨h1.sublist (ait.map _),λp hp=>?_⟩;obtain⟨w,hw,rfl⟩:=agG.1 hp;obtain⟨yu,Mu⟩:=ag0.1 hw;have:=h2 w yu;have e:w.1=k.2:=by simpa using Mu
 rw[<-e];exact⟨this.2.1,this.2.2.1,this.1,this.2.2.2⟩
def O9 {d:Dc}(h:aS d=true){k1 k2:Ky}(hf:k1.1=k2.1){p:Int}(h1:p∈iR d k1)(h2:p∈iR d k2):k1=k2:=by
 rw[nQ h] at h1 h2;rw[hf] at h1;unfold kN at h1 h2;obtain⟨w,hw,e1⟩:=agG.1 h1;obtain⟨v,hv,e2⟩:=agG.1 h2;obtain⟨yu,Mu⟩:=ag0.1 hw;obtain⟨hv1,H8⟩:=ag0.1 hv;obtain⟨hp,_⟩:=Gl h k2.1;have hwv:w=v:=by
  obtain⟨i,hi,ei⟩:=agW.1 yu;obtain⟨j,hj,ej⟩:=agW.1 hv1;rw[ahj,ag8] at hp;rcases ah6 i j with h3|h3|h3
  ·have:=hp i j hi hj h3;rw[ei,ej] at this;omega
  ·subst h3;rw[<-ei,<-ej]
  ·have:=hp j i hj hi h3;rw[ei,ej] at this;omega
 subst hwv;have a1:w.1=k1.2:=by simpa using Mu
 have a2:w.1=k2.2:=by simpa using H8
 exact Prod.ext hf (by rw[<-a1,<-a2])
def eR {L:List Dc}{k:Ky}{p:Ps}(h:p∈dg L k):∃d∈L,p=(d.id,iR d k)/\iR d k≠[]:=by
 unfold dg at h;obtain⟨d,hd,h1⟩:=ahm.1 h;unfold Co at h1
 split at h1
 ·simp at h1
 ·rename_i dN;exact⟨d,hd,by simpa using h1,dN⟩
theorem nP (k:Ky):∀{L:List Dc},(L.Pairwise λx y=>x.id<y.id)->((dg L k).map (·.1)).Pairwise (·<·)
 |[],_=>by simp[dg]
 |d::r,h=>by
  have ⟨h1,h2⟩:=ahz.1 h;have e:dg (d::r) k=Co d k++dg r k:=by simp[dg]
  rw[e,agS,aio];refine⟨?_,nP k h2,λx hx y hy=>?_⟩
  ·unfold Co;split<;>simp
  ·have ex:x=d.id:=by
    unfold Co at hx
    split at hx
    ·simp at hx
    ·simpa using hx
   obtain⟨p,hp,rfl⟩:=agG.1 hy;obtain⟨d2,h3,rfl,_⟩:=eR hp;rw[ex];exact h1 d2 h3
def Bz {L:List Dc}{k:Ky}(h:k∈dJ L):∃d∈L,iR d k≠[]:=by
 obtain⟨d,hd,p,hp⟩:=(nU L k).1 h;refine⟨d,hd,λe=>?_⟩;have:p∈iR d k:=by
  unfold iR;exact agG.2 ⟨_,ag0.2 ⟨hp,by simp⟩,rfl⟩
 rw[e] at this;simp at this
def O7 {L:List Dc}{k:Ky}(h:k∈dJ L):dg L k≠[]:=by
 obtain⟨d,hd,dN⟩:=Bz h;intro e;have:(d.id,iR d k)∈dg L k:=by
  unfold dg;refine ahm.2 ⟨d,hd,?_⟩;unfold Co;rw[agL dN];simp
 rw[e] at this;simp at this
def gZ {L:List Dc}(hs:L.Pairwise λx y=>x.id<y.id)(hv:∀d∈L,aS d=true)(k:Ky):dS (dg L k)=true:=by
 unfold dS;rw[agO]
 constructor
 ·refine mY (nP k hs) λq hq=>?_;obtain⟨p,hp,rfl⟩:=agG.1 hq;obtain⟨d,hd,rfl,_⟩:=eR hp;exact(cC (hv d hd)).1
 ·rw[ai7,aiv];intro p hp;obtain⟨d,hd,rfl,dN⟩:=eR hp;obtain⟨h1,h2⟩:=sY (hv d hd) k;unfold nD;rw[agI (λe=>dN (aho.1 e)),mY h1 λq hq=>⟨(h2 q hq).1,(h2 q hq).2.1⟩];simp
theorem uw {L:List Dc}(hs:L.Pairwise λx y=>x.id<y.id)(hv:∀d∈L,aS d=true):(qH (cH L)).Nodup:=by
 have aes:∀d∈L,∀e∈L,d.id=e.id->d=e:=by
  intro d hd e he h;obtain⟨i,hi,e1⟩:=agW.1 hd;obtain⟨j,hj,e2⟩:=agW.1 he;rw[ag8] at hs;rcases ah6 i j with h3|h3|h3
  ·have:=hs i j hi hj h3;rw[e1,e2] at this;omega
  ·subst h3;rw[<-e1,<-e2]
  ·have:=hs j i hj hi h3;rw[e1,e2] at this;omega
 unfold qH;rw[List.Nodup,aiM]
 constructor
 ·intro t ht;obtain⟨k,hk,rfl⟩:=agG.1 ht;unfold ph;rw[aiM]
  constructor
  ·intro p hp;obtain⟨d,hd,rfl,_⟩:=eR hp;unfold eW;have:=(sY (hv d hd) k).1;rw[ahj];exact this.imp λh e=>by
    have:=(Prod.mk.inj (Prod.mk.inj e).2).2;omega
  ·have:=nP k hs;rw[ahj] at this;refine this.imp λ{p q} hpq=>?_;intro x hx y hy e;obtain⟨a,_,rfl⟩:=agG.1 hx;obtain⟨b,_,rfl⟩:=agG.1 hy;have:=(Prod.mk.inj (Prod.mk.inj e).2).1;omega
 ·unfold cH;rw[ahj];refine(qu L).imp λ{k1 k2} hk=>?_;intro x hx y hy e;obtain⟨p,hp,Cc⟩:=ahm.1 hx;obtain⟨q,hq,hy2⟩:=ahm.1 hy;obtain⟨d,hd,rfl,_⟩:=eR hp;obtain⟨d2,tM,rfl,_⟩:=eR hq;obtain⟨a,ha,rfl⟩:=agG.1 Cc;obtain⟨b,hb,rfl⟩:=agG.1 hy2;have e1:=(Prod.mk.inj e).1;have e2:=(Prod.mk.inj (Prod.mk.inj e).2).1;have e3:=(Prod.mk.inj (Prod.mk.inj e).2).2;simp only at e1 e2 e3;have hdd:=aes d hd d2 tM e2;subst hdd;subst e3;have:=O9 (hv d hd) e1 ha hb;rw[this,jg] at hk
  cases hk
theorem NW {d:Dc}(h:aS d=true):d.ns.Pairwise λx y=>dh x y=true:=by
 have h3:=(cC h).2.2;have key:∀j i,i<j->j<d.ns.length->dh (d.ns.getD i n0) (d.ns.getD j n0)=true:=by
  intro j
  induction j with
  |zero=>intro i h1;omega
  |succ j ih=>
   intro i h1 h2;have h4:=h3 (j+1) h2;unfold qN at h4;simp only[agO,ahx,agQ,ah9] at h4;have h5:dh (d.ns.getD j n0) (d.ns.getD (j+1) n0)=true:=by
    rcases h4.2 with h6|h6
    ·omega
    ·exact h6
   rcases agM i j with h7|h7
   ·exact rX (ih i h7 (by omega)) h5
   ·have:i=j:=by omega
    subst this;exact h5
 rw[ag8];intro i j hi hj jz;have:=key j i jz hj;rw[agB,agB,agD hi,agD hj] at this;exact this
def s9 {L:List Dc}{f:Int}{x:Nm}(h:x∈fE L f):∃d∈L,x.2=d.id/\(f,x.1)∈d.ns:=by
 unfold fE at h;obtain⟨d,hd,h1⟩:=ahm.1 h;obtain⟨y,hy,rfl⟩:=agG.1 h1;obtain⟨h2,h3⟩:=ag0.1 hy;have e:y.1=f:=by simpa using h3
 exact⟨d,hd,rfl,by rw[<-e];exact h2⟩
def x6 {L:List Dc}(hs:L.Pairwise λx y=>x.id<y.id)(hv:∀d∈L,aS d=true)(f:Int):(fE L f).Nodup:=by
 unfold fE;rw[List.Nodup,aiM]
 constructor
 ·intro d hd;rw[ahj];have h1:=(NW (hv d hd)).sublist (ait (p:=λx=>x.1==f));have h2:∀x∈d.ns.filter (λx=>x.1==f),x.1=f:=λx hx=>by simpa using(ag0.1 hx).2
  refine h1.imp_of_mem λ{a b} ha hb jK e=>?_;have e1:=(Prod.mk.inj e).1;rcases (nH a b).1 jK with h3|h3
  ·rw[h2 a ha,h2 b hb] at h3;omega
  ·omega
 ·refine hs.imp λ{d e} hde=>?_;intro x hx y hy exy;obtain⟨a,_,rfl⟩:=agG.1 hx;obtain⟨b,_,rfl⟩:=agG.1 hy;have:=(Prod.mk.inj exy).2;omega
theorem Ht (l:List Nm):(dx l).Pairwise λx y=>dh y x=false:=by
 have key:∀(l a:List Nm),(a.Pairwise λx y=>dh y x=false)->(l.foldl (λa d=>nA d a) a).Pairwise λx y=>dh y x=false:=by
  intro l
  induction l with
  |nil=>intro a h;exact h
  |cons d r ih=>intro a h;exact ih _ (D3 d h)
 exact key l [] .nil
theorem Ak {l:List Nm}(h:l.Nodup):(dx l).Pairwise λx y=>dh x y=true:=by
 have h1:=Ht l;have h2:(dx l).Pairwise (·≠·):=(eM l).nodup_iff.2 h;refine(h1.and h2).imp λ{x y} ⟨a,b⟩=>?_
 cases FP:dh x y with
 |true=>rfl
 |false=>exact absurd (rY FP a) b
def nZ {L:List Dc}{c:Cl}(h:c∈dK L):(5<=c.f/\c.f<=7)/\fE L c.f≠[]/\c.x=dx (fE L c.f):=by
 have key:∀f,c∈nC L f->c.f=f/\fE L c.f≠[]/\c.x=dx (fE L c.f):=λf hf=>by
  unfold nC at hf
  split at hf
  ·simp at hf
  ·rename_i dN;have:c=⟨f,dx (fE L f)⟩:=by simpa using hf
   subst this;exact⟨rfl,dN,rfl⟩
 unfold dK at h;rcases agR.1 h with h|h
 ·rcases agR.1 h with h|h
  ·obtain⟨a,b⟩:=key 5 h;exact⟨by omega,b⟩
  ·obtain⟨a,b⟩:=key 6 h;exact⟨by omega,b⟩
 ·obtain⟨a,b⟩:=key 7 h;exact⟨by omega,b⟩
def Az (L:List Dc):(dK L).Pairwise λx y=>x.f<y.f:=by
 have one:∀f,(nC L f).Pairwise λx y=>x.f<y.f:=λf=>by unfold nC;split<;>simp
 have TX:∀f,∀c∈nC L f,c.f=f:=λf c hc=>by
  unfold nC at hc
  split at hc
  ·simp at hc
  ·have:c=⟨f,dx (fE L f)⟩:=by simpa using hc
   rw[this]
 unfold dK;rw[aio,aio];refine⟨⟨one 5,one 6,λx hx y hy=>by rw[TX 5 x hx,TX 6 y hy];omega⟩,one 7,λx hx y hy=>?_⟩;rw[TX 7 y hy];rcases agR.1 hx with h|h
 ·rw[TX 5 x h];omega
 ·rw[TX 6 x h];omega
def ki {L:List Dc}(hl:L.length<=2000)(hs:L.Pairwise λx y=>x.id<y.id)(hv:∀d∈L,aS d=true):aY ⟨L.map (·.id),cH L,dK L⟩=true:=by
 have kU:(L.map (·.id)).Pairwise (·<·):=by rw[ahj];exact hs
 refine u9 ?_ (by simpa using hl) (λi hi=>?_) (uw hs hv) (λi hi=>?_)
 ·refine mY kU λq hq=>?_;obtain⟨d,hd,rfl⟩:=agG.1 hq;exact(cC (hv d hd)).1
 ·simp only at hi ⊢;have gO:i<(dJ L).length:=by unfold cH at hi;rwa [agU] at hi
  have vO:∀j,j<(dJ L).length->(cH L).getD j t0=⟨((dJ L).getD j ((0,[]):Ky)).1,((dJ L).getD j ((0,[]):Ky)).2,dg L ((dJ L).getD j ((0,[]):Ky))⟩:=λj hj=>by
   unfold cH;rw[agB,ahJ,agB,agD hj];rfl
  have fK:=aT (dJ L) i ((0,[]):Ky) gO;obtain⟨d,hd,dN⟩:=Bz fK;obtain⟨p,hp⟩:=ah4 _ dN;have jC:=(sY (hv d hd) _).2 p hp
  constructor
  ·unfold rz;rw[vO i gO];simp only[agO,ahx,agQ];refine⟨⟨jC.2.2.2,jC.2.2.1⟩,?_⟩;rcases ahc i with h0|h0
   ·exact .inl h0
   ·right
    rw[vO (i-1) (by omega)];exact Gp (qu L) ((0,[]):Ky) h0 gO
  ·unfold H4;rw[vO i gO];simp only[agO,agQ];refine⟨⟨O7 fK,gZ hs hv _⟩,λq hq=>?_⟩;obtain⟨d2,tM,rfl,_⟩:=eR hq;exact agG.2 ⟨d2,tM,rfl⟩
 ·simp only at hi ⊢;have fK:=aT (dK L) i c0 hi;obtain⟨h1,h2,h3⟩:=nZ fK
  constructor
  ·unfold wF;simp only[agO,ahx,agQ];refine⟨⟨h1,λe=>h2 ?_⟩,?_⟩
   ·rw[h3] at e;have:=(eM (fE L ((dK L).getD i c0).f)).length_eq;rw[e] at this;exact aho.1 this.symm
   ·rcases ahc i with h0|h0
    ·exact .inl h0
    ·exact .inr (Gp (Az L) c0 h0 hi)
  ·intro k hk;have aZ:=Ak (x6 hs hv ((dK L).getD i c0).f);rw[<-h3] at aZ;have fX:=aT ((dK L).getD i c0).x k n0 hk;have yx:((dK L).getD i c0).x.getD k n0∈fE L ((dK L).getD i c0).f:=(eM _).mem_iff.1 (by rw[<-h3];exact fX);obtain⟨d,hd,e1,e2⟩:=s9 yx;obtain⟨m,hm,e3⟩:=bK n0 e2;have Qs:=(cC (hv d hd)).2.2 m hm;unfold qN at Qs;rw[e3] at Qs;unfold vH at Qs;simp only[agO,agQ] at Qs;unfold sn;simp only[agO,ahx,agQ];refine⟨⟨by rw[e1];exact agG.2 ⟨d,hd,rfl⟩,Qs.1.2⟩,?_⟩;rcases ahc k with h0|h0
   ·exact .inl h0
   ·exact .inr (Gp aZ n0 h0 hk)
def P8 {L:List Dc}(hl:L.length<=40)(hk:(L.flatMap dm).length<=1000)(hv:∀d∈L,aS d=true)(hw:∀d∈L,∀z∈d.zs,z.ws.length<=1000)(hn:∀d∈L,d.ns.length<=20):uX ⟨L.map (·.id),cH L,dK L⟩:=by
 have hm:1000<=Go.maxLen:=by decide
 refine⟨by simp;omega,?_,λt ht=>?_,?_,λc hc=>?_⟩
 ·show (cH L).length<=1000;unfold cH;rw[agU,uD];have:=mo (L.flatMap dm) [];rw[ahV,ahO] at this;omega
 ·obtain⟨k,qa,rfl⟩:=agG.1 ht;obtain⟨d,hd,dN⟩:=Bz qa;obtain⟨p,hp⟩:=ah4 _ dN;have jC:=(sY (hv d hd) k).2 p hp;refine⟨?_,?_,λq hq=>?_⟩
  ·have:=jC.2.2.1;unfold okW at this;simp only[agO,agQ] at this;show k.2.length<=_;omega
  ·show (dg L k).length<=1000;have:=xl k L;rw[II hv] at this;omega
  ·obtain⟨d2,tM,rfl,_⟩:=eR hq;show (iR d2 k).length<=1000;rw[nQ (hv d2 tM)];unfold kN;rw[agU];refine agJ (ahf _ _) ?_;rcases Classical.em (o7 d2.zs k.1=[]) with he|he
   ·rw[he];simp
   ·obtain⟨w,yu⟩:=ah4 _ he;obtain⟨z,h1,_,h3⟩:=Bl yu;rw[h3];exact hw d2 tM z h1
 ·show (dK L).length<=1000;rw[<-Of];have:=xI L 3;omega
 ·obtain⟨_,_,h3⟩:=nZ hc;rw[h3,(eM _).length_eq];unfold fE;have:=iI (λd:Dc=>(d.ns.filter λx=>x.1==c.f).map λx=>(x.2,d.id)) 20 L λd hd=>by
   rw[agU];exact agJ (ahf _ _) (hn d hd)
  omega
end eN
namespace Go.Proofs.YtoejlmpbebjemaaGreat
open Go Go.Am ia eN cO
def eu (L:List Dc):Sg:=⟨L.map (·.id),cH L,dK L⟩
section
variable {L : List Dc} (hl : L.length <= 2000) (hs : L.Pairwise λx y => x.id < y.id) (hv : ∀ d ∈ L, aS d = true)
include hl hs hv
theorem vp (k:Ky):iH (eu L) k=dg L k:=by
 unfold iH;rw[agN (show aY (eu L)=true from ki hl hs hv)];unfold zz;show (((cH L).find? λt=>decide (t.k=k)).map (·.l)).getD []=_;unfold cH;rw[List.find?_map]
 cases hf:(dJ L).find? ((λt:Tm=>decide (t.k=k)) ∘ λk=>⟨k.1,k.2,dg L k⟩) with
 |none=>
  have oh:k∉dJ L:=λhm=>by
   have:=ahT.1 hf k hm;simp[Tm.k] at this
  show []=_
  cases hp:dg L k with
  |nil=>rfl
  |cons p r=>
   exfalso;obtain⟨d,hd,e1,e2⟩:=eR (L:=L) (k:=k) (p:=p) (by rw[hp];simp);obtain⟨q,hq⟩:=ah4 _ e2;unfold iR at hq;obtain⟨w,hw,_⟩:=agG.1 hq;obtain⟨yu,Mu⟩:=ag0.1 hw;have e3:w.1=k:=by simpa using Mu
   exact oh ((nU L k).2 ⟨d,hd,w.2,by rw[<-e3];exact yu⟩)
 |some k2=>
  have h1:=aiV hf;have e:k2=k:=by
   have:((k2.1,k2.2):Ky)=k:=by simpa[Tm.k] using h1
   exact this
  subst e;rfl
theorem pW (k:Ky){d:Dc}(hd:d∈L):posOf (dg L k) d.id=iR d k:=by
 rcases Classical.em (iR d k=[]) with he|he
 ·rw[he];refine rV λp hp e=>?_;obtain⟨d2,tM,rfl,dN⟩:=eR hp;have:d2=d:=by
   obtain⟨i,hi,e1⟩:=agW.1 hd;obtain⟨j,hj,e2⟩:=agW.1 tM;rw[ag8] at hs;simp only at e;rcases ah6 i j with h3|h3|h3
   ·have:=hs i j hi hj h3;rw[e1,e2] at this;omega
   ·subst h3;rw[<-e1,<-e2]
   ·have:=hs j i hj hi h3;rw[e1,e2] at this;omega
  subst this;exact dN he
 ·have hm:(d.id,iR d k)∈dg L k:=by
   unfold dg;refine ahm.2 ⟨d,hd,?_⟩;unfold Co;rw[agL he];simp
  exact qq (show kY (dg L k) from nP k hs) hm
theorem HS (f lo hi x:Int):x∈kW (eu L) f lo hi↔∃n,(n,x)∈fE L f/\lo<=n/\n<=hi:=by
 unfold kW;rw[agN (show aY (eu L)=true from ki hl hs hv),EF];unfold tQ;rw[ahm];show (∃c∈dK L,_)↔_
 constructor
 ·rintro⟨c,hc,hx⟩;obtain⟨_,_,h3⟩:=nZ hc;unfold Nb at hx;obtain⟨y,hy,Cc⟩:=ahm.1 hx;unfold o5 at Cc
  split at Cc
  ·rename_i oU;unfold CJ at oU;simp only[agO,agQ] at oU;rw[h3] at hy;have:=(eM _).mem_iff.1 hy;have ex:x=y.2:=by simpa using Cc
   exact⟨y.1,by rw[ex,<-show c.f=f by simpa using oU.1.1];exact this,oU.1.2,oU.2⟩
  ·simp at Cc
 ·rintro⟨n,hn,h1,h2⟩;have hf:∃d∈L,(f,n)∈d.ns:=by
   obtain⟨d,hd,_,e⟩:=s9 hn;exact⟨d,hd,e⟩
  obtain⟨d,hd,hm⟩:=hf;obtain⟨i,zh,e⟩:=bK n0 hm;have Qs:=(cC (hv d hd)).2.2 i zh;unfold qN vH at Qs;rw[e] at Qs;simp only[agO,agQ] at Qs;have Qz:=Qs.1.1;have dN:fE L f≠[]:=λe=>by rw[e] at hn;simp at hn
  have gC:(⟨f,dx (fE L f)⟩:Cl)∈dK L:=by
   have h5:(⟨f,dx (fE L f)⟩:Cl)∈nC L f:=by unfold nC;rw[agL dN];simp
   unfold dK;have h6:f=5\/f=6\/f=7:=by omega
   rcases h6 with rfl|rfl|rfl<;>simp[h5]
  refine⟨_,gC,?_⟩;unfold Nb;refine ahm.2 ⟨(n,x),(eM _).mem_iff.2 hn,?_⟩;unfold o5;rw[agN (by unfold CJ;simp[h1,h2])];simp
theorem BP (f:Int)(p:Bs):gS (eu L) f p=((dJ L).filter λk=>decide (k.1=f)&&mC p k.2).map (·.2):=by
 unfold gS;rw[agN (show aY (eu L)=true from ki hl hs hv)];unfold tY;show ((cH L).filter _).map _=_;unfold cH;rw[List.filter_map,ahG];rfl
end
def F6 (L:List Dc)(f:Int):List Bs:=((dJ L).filter λk=>decide (k.1=f)).map (·.2)
theorem D8 (w:Bs):mC [] w=true:=by simp[mC]
def rQ {L:List Dc}(hl:L.length<=2000)(hs:L.Pairwise λx y=>x.id<y.id)(hv:∀d∈L,aS d=true)(f:Int)(p:Bs):gS (eu L) f p=(F6 L f).filter (mC p):=by
 rw[BP hl hs hv];unfold F6;rw[List.filter_map,List.filter_filter]
 congr 1
 exact ajg λk _=>by rw[Bool.and_comm];rfl
def Ot (L:List Dc)(f:Int):(F6 L f).Pairwise λx y=>slt x y=true:=by
 unfold F6;rw[ahj];have h1:=(qu L).sublist (ait (p:=λk=>decide (k.1=f)));have h2:∀k∈(dJ L).filter (λk=>decide (k.1=f)),k.1=f:=λk hk=>by simpa using(ag0.1 hk).2
 refine h1.imp_of_mem λ{a b} ha hb jK=>?_;unfold bT at jK;simp only[ahx,agO,agQ] at jK;rcases jK with h|h
 ·rw[h2 a ha,h2 b hb] at h;omega
 ·exact h.2
def Ou {L:List Dc}(f:Int)(w:Bs):w∈F6 L f↔(f,w)∈dJ L:=by
 unfold F6;rw[agG]
 constructor
 ·rintro⟨k,hk,rfl⟩;obtain⟨h1,h2⟩:=ag0.1 hk;have:k.1=f:=by simpa using h2
  rw[<-this];exact h1
 ·intro h;exact⟨(f,w),ag0.2 ⟨h,by simp⟩,rfl⟩
theorem z8 {P:Nat}:∀{l:List Ps},(∀p∈l,p.2.length<=P)->∀d:Int,(posOf l d).length<=P
 |[],_,d=>by simp[posOf]
 |p::l,h,d=>by
  unfold posOf
  split
  ·exact h p (by simp)
  ·exact z8 (λq hq=>h q (by simp[hq])) d
def zK {s:Sg}(hv:aY s=true):∀t∈s.bO,kY t.l:=λt ht=>(cU (Ns hv ht).2.2.1).1
def Sw {s:Sg}(hv:aY s=true){P:Nat}(hP:∀t∈s.bO,∀p∈t.l,p.2.length<=P)(id f:Int):(occs s.bO id f).length<=s.bO.length*P:=by
 rw[s8 (zK hv)];refine iI _ P _ λt ht=>?_;unfold UG
 split
 ·rw[agU];exact z8 (hP t ht) id
 ·simp
def Pj {s:Sg}(hv:aY s=true){id f a:Int}{w:Bs}:(w,a)∈occs s.bO id f↔∃t∈s.bO,t.f=f/\t.w=w/\a∈posOf t.l id:=by
 rw[s8 (zK hv),ahm]
 constructor
 ·rintro⟨t,ht,h⟩;unfold UG at h
  split at h
  ·rename_i hf;obtain⟨b,hb,e⟩:=agG.1 h;obtain⟨e1,e2⟩:=Prod.mk.inj e;exact⟨t,ht,hf,e1,by rw[<-e2];exact hb⟩
  ·simp at h
 ·rintro⟨t,ht,hf,hw,ha⟩;refine⟨t,ht,?_⟩;unfold UG;rw[agN hf];exact agG.2 ⟨a,ha,by rw[hw]⟩
def EO (g:Int->List Wd):(de g).length<=4:=by
 rw[<-RO];exact VR g 4
def El {s:Sg}(hv:aY s=true){T P C X:Nat}(hT:s.bO.length<=T)(hw:∀t∈s.bO,t.w.length<=maxLen/\∀p∈t.l,p.2.length<=P)(hC:s.aO.length<=C)(hX:∀c∈s.aO,c.x.length<=X) :
  ∀d∈ja s,d.zs.length<=4/\(∀z∈d.zs,z.ws.length<=T*P/\∀w∈z.ws,w.1.length<=maxLen)/\d.ns.length<=C*X:=by
 intro d hd;unfold ja at hd;obtain⟨id,_,rfl⟩:=agG.1 hd;refine⟨EO (λf=>jq (occs s.bO id f)),λz hz=>?_,?_⟩
 ·obtain⟨_,h2,_⟩:=pS (g:=λf=>jq (occs s.bO id f)) hz;rw[h2];refine⟨?_,λw Mu=>?_⟩
  ·rw[(rR _).1.length_eq];exact agJ (Sw hv (λt ht=>(hw t ht).2) id z.f) (ahF _ hT)
  ·obtain⟨w1,w2⟩:=w;obtain⟨t,ht,_,e,_⟩:=(Pj hv).1 ((rR _).1.mem_iff.1 Mu);rw[<-e];exact(hw t ht).1
 ·show (Mp s.aO id).length<=_;unfold Mp;refine agJ (iI _ X _ λc hc=>?_) (ahF _ hC);rw[agU];exact agJ (ahf _ _) (hX c hc)
def uL {s:Sg}(hs:uX s):∀d∈eh s,oY d:=by
 intro d hd;unfold eh at hd
 split at hd
 ·rename_i hv;obtain⟨h1,h2,h3⟩:=El hv hs.t (λt ht=>⟨(hs.w t ht).1,(hs.w t ht).2.2⟩) hs.c hs.x d hd;have hm:1000000<=maxLen:=by decide
  exact⟨by omega,λz hz=>⟨by have:=(h2 z hz).1;omega,(h2 z hz).2⟩,by omega⟩
 ·simp at hd
def uM {s:Sg}(hs:uX s):(eh s).length<=1000:=by
 unfold eh
 split
 ·simp[ja];exact hs.d
 ·simp
theorem iK {α:Type}{lt:α->α->Prop}(asym:∀x y,lt x y->lt y x->False):∀{a b:List α},a.Pairwise lt->b.Pairwise lt->(∀x,x∈a↔x∈b)->a=b
 |[],[],_,_,_=>rfl
 |[],y::b,_,_,h=>by have:=(h y).2 (by simp);simp at this
 |x::a,[],_,_,h=>by have:=(h x).1 (by simp);simp at this
 |x::a,y::b,ha,hb,h=>by
  have ⟨a1,a2⟩:=ahz.1 ha;have ⟨b1,b2⟩:=ahz.1 hb;have e:x=y:=by
   rcases ag6.1 ((h x).1 (by simp)) with h1|h1
   ·exact h1
   rcases ag6.1 ((h y).2 (by simp)) with h2|h2
   ·exact h2.symm
   exact(asym _ _ (b1 x h1) (a1 y h2)).elim
  subst e;rw[iK asym a2 b2 λz=>⟨λhz=>?_,λhz=>?_⟩]
  ·rcases ag6.1 ((h z).1 (by simp[hz])) with e|h1
   ·subst e;exact(asym _ _ (a1 z hz) (a1 z hz)).elim
   ·exact h1
  ·rcases ag6.1 ((h z).2 (by simp[hz])) with e|h1
   ·subst e;exact(asym _ _ (b1 z hz) (b1 z hz)).elim
   ·exact h1
theorem NN {d:Dc}(h:aS d=true):d.zs.Pairwise λx y=>x.f<y.f:=by
 have h3:=(cC h).2.1;have key:∀j i,i<j->j<d.zs.length->(d.zs.getD i z0).f<(d.zs.getD j z0).f:=by
  intro j
  induction j with
  |zero=>intro i h1;omega
  |succ j ih=>
   intro i h1 h2;have h4:=(fH (h3 (j+1) h2)).1;unfold iw at h4;rw[agL (by omega),ah9] at h4;rcases agM i j with h5|h5
   ·have:=ih i h5 (by omega);omega
   ·have:i=j:=by omega
    subst this;exact h4
 rw[ag8];intro i j hi hj jz;have:=key j i jz hj;rw[agB,agB,agD hi,agD hj] at this;exact this
theorem Da:∀{zs:List Zn},(zs.Pairwise λx y=>x.f<y.f)->∀z∈zs,o7 zs z.f=z.ws
 |[],_,z,h=>by simp at h
 |y::r,hp,z,h=>by
  have ⟨h1,h2⟩:=ahz.1 hp;unfold o7;rcases ag6.1 h with e|h3
  ·subst e;rw[agN rfl]
  ·rw[agL (by have:=h1 z h3;omega)];exact Da h2 z h3
def Y5 {d:Dc}(h:aS d=true){z:Zn}(hz:z∈d.zs):z.ws≠[]/\1<=z.f/\z.f<=4:=by
 have h3:=(cC h).2.1;obtain⟨i,hi,e⟩:=bK z0 hz;have hk:=fH (h3 i hi);have hf:=kh h3 i hi;rw[e] at hk hf;exact⟨λe=>hk.2.2.1 (by rw[e];rfl),by omega,hk.2.1⟩
def EN (g:Int->List Wd):(de g).Pairwise λx y=>x.f<y.f:=by
 unfold de;rw[aiM];refine⟨λf _=>by split<;>simp,?_⟩;have TX:∀f,∀z∈(if g f=[] then [] else [(⟨f,g f⟩:Zn)]),z.f=f:=λf z hz=>by
  split at hz
  ·simp at hz
  ·rw[ahl.1 hz]
 simp only[ahz,ag6,List.not_mem_nil,ajn];refine⟨?_,?_,?_,?_,List.Pairwise.nil⟩
 all_goals (intro f' hf' x hx y hy;rw[TX _ x hx,TX _ y hy])
 ·rcases hf' with rfl|rfl|rfl<;>decide
 ·rcases hf' with rfl|rfl<;>decide
 ·subst hf';decide
 ·exact hf'.elim
def EL {d:Dc}(h:aS d=true):de (o7 d.zs)=d.zs:=by
 refine iK (lt:=λx y:Zn=>x.f<y.f) (λx y h1 h2=>by omega) (EN _) (NN h) λz=>⟨λhz=>?_,λhz=>?_⟩
 ·obtain⟨h1,h2,_⟩:=pS hz;obtain⟨w,hw⟩:=ah4 _ h1;rw[h2] at hw;obtain⟨y,h3,h4,h5⟩:=Bl hw;have:z=y:=by
   obtain⟨zf,zw⟩:=z;obtain⟨yf,yw⟩:=y;simp only at h2 h4 h5;rw[h4,h2,h5]
  rw[this];exact h3
 ·obtain⟨h1,h2,h3⟩:=Y5 h hz;have e:=Da (NN h) z hz;unfold de;refine ahm.2 ⟨z.f,?_,?_⟩
  ·rcases (by omega:z.f=1\/z.f=2\/z.f=3\/z.f=4) with e|e|e|e<;>simp[e]
  ·rw[e,agL h1];simp
def DC (ws:List Wd)(w:Bs)(a:Int):a∈kN ws w↔(w,a)∈ws:=by
 unfold kN
 constructor
 ·intro h;obtain⟨x,hx,rfl⟩:=agG.1 h;obtain⟨h1,h2⟩:=ag0.1 hx;have e:x.1=w:=by simpa using h2
  rw[<-e];exact h1
 ·intro h;exact agG.2 ⟨(w,a),ag0.2 ⟨h,by simp⟩,rfl⟩
def Pa {L:List Dc}{d:Dc}(hd:d∈L){k:Ky}{a:Int}(h:a∈iR d k):k∈dJ L:=by
 unfold iR at h;obtain⟨w,hw,_⟩:=agG.1 h;obtain⟨yu,Mu⟩:=ag0.1 hw;have e3:w.1=k:=by simpa using Mu
 exact(nU L k).2 ⟨d,hd,w.2,by rw[<-e3];exact yu⟩
section
variable {L : List Dc} (hl : L.length <= 2000) (hs : L.Pairwise λx y => x.id < y.id) (hv : ∀ d ∈ L, aS d = true)
include hl hs hv
theorem Hh {d:Dc}(hd:d∈L)(f:Int):jq (occs (cH L) d.id f)=o7 d.zs f:=by
 have aeI:∀t∈cH L,kY t.l:=λt ht=>by
  obtain⟨k,_,rfl⟩:=agG.1 ht;exact nP k hs
 have h1:=rR (occs (cH L) d.id f);have dN:=IL (eN.uw hs hv) d.id f;have sym:∀x y:Wd,x.2≠y.2->y.2≠x.2:=λ_ _ h e=>h e.symm;have aZ:(jq (occs (cH L) d.id f)).Pairwise λx y=>x.2<y.2:=(h1.2.and ((h1.1.pairwise_iff (λ{x y} h=>sym x y h)).2 dN)).imp fun⟨h1,h2⟩=>by omega
 refine iK (lt:=λx y:Wd=>x.2<y.2) (λx y h1 h2=>by omega) aZ (ahj.1 (Gl (hv d hd) f).1) λx=>?_;rw[h1.1.mem_iff,s8 aeI];obtain⟨w,a⟩:=x;rw[ahm]
 constructor
 ·rintro⟨t,ht,hx⟩;obtain⟨k,hk,rfl⟩:=agG.1 ht;unfold UG at hx;simp only at hx
  split at hx
  ·rename_i hf;rw[pW hl hs hv k hd] at hx;obtain⟨b,hb,e⟩:=agG.1 hx;obtain⟨e1,e2⟩:=Prod.mk.inj e;rw[nQ (hv d hd),DC] at hb;rw[<-hf,<-e1,<-e2];exact hb
  ·simp at hx
 ·intro hx;have hp:a∈iR d (f,w):=by rw[nQ (hv d hd),DC];exact hx
  refine⟨⟨f,w,dg L (f,w)⟩,agG.2 ⟨(f,w),Pa hd hp,rfl⟩,?_⟩;unfold UG;rw[agN rfl];simp only;rw[pW hl hs hv (f,w) hd];exact agG.2 ⟨a,hp,rfl⟩
theorem Li {d:Dc}(hd:d∈L):Mp (dK L) d.id=d.ns:=by
 have FG:∀d2∈L,d2.id=d.id->d2=d:=λd2 tM e=>by
  obtain⟨i,hi,e1⟩:=agW.1 hd;obtain⟨j,hj,e2⟩:=agW.1 tM;rw[ag8] at hs;rcases ah6 i j with h3|h3|h3
  ·have:=hs i j hi hj h3;rw[e1,e2] at this;omega
  ·subst h3;rw[<-e1,<-e2]
  ·have:=hs j i hj hi h3;rw[e1,e2] at this;omega
 have fK:∀c∈dK L,∀y:Nm,y∈c.x↔y∈fE L c.f:=λc hc y=>by
  rw[(nZ hc).2.2];exact(eM _).mem_iff
 have asym:∀x y:Nm,dh x y=true->dh y x=true->False:=λx y h1 h2=>by rw[rZ h1] at h2;cases h2
 refine iK (lt:=λx y=>dh x y=true) asym ?_ (NW (hv d hd)) λx=>?_
 ·unfold Mp;rw[aiM];refine⟨λc hc=>?_,(Az L).imp λ{a b} jK x hx y hy=>?_⟩
  ·rw[ahj];have hx:=(nZ hc).2.2;have h1:c.x.Pairwise λx y=>dh x y=true:=by rw[hx];exact Ak (x6 hs hv c.f)
   refine(h1.sublist (ait (p:=λy=>y.2==d.id))).imp_of_mem λ{x y} hx hy FP=>?_;have e1:x.2=d.id:=by simpa using(ag0.1 hx).2
   have e2:y.2=d.id:=by simpa using(ag0.1 hy).2
   rw[nH] at FP;refine(nH _ _).2 (.inr ⟨rfl,?_⟩);show x.1<y.1;omega
  ·obtain⟨p,_,rfl⟩:=agG.1 hx;obtain⟨q,_,rfl⟩:=agG.1 hy;rw[nH];exact .inl jK
 ·unfold Mp;rw[ahm]
  constructor
  ·rintro⟨c,hc,hx⟩;obtain⟨y,hy,rfl⟩:=agG.1 hx;obtain⟨h1,h2⟩:=ag0.1 hy;have e:y.2=d.id:=by simpa using h2
   obtain⟨d2,tM,e2,h3⟩:=s9 ((fK c hc y).1 h1);rw[FG d2 tM (by omega)] at h3;exact h3
  ·intro hx;obtain⟨f,n⟩:=x;obtain⟨i,hi,e⟩:=bK n0 hx;have hf:=(cC (hv d hd)).2.2 i hi;unfold qN vH at hf;rw[e] at hf;simp only[agO,agQ] at hf;have zg:(n,d.id)∈fE L f:=ahm.2 ⟨d,hd,agG.2 ⟨(f,n),ag0.2 ⟨hx,by simp⟩,rfl⟩⟩;have dN:fE L f≠[]:=λe=>by rw[e] at zg;simp at zg
   have JH:(⟨f,dx (fE L f)⟩:Cl)∈dK L:=by
    have:(⟨f,dx (fE L f)⟩:Cl)∈nC L f:=by unfold nC;rw[agL dN];simp
    unfold dK;rcases (by omega:f=5\/f=6\/f=7) with e|e|e<;>subst e<;>simp[this]
   refine⟨_,JH,agG.2 ⟨(n,d.id),ag0.2 ⟨?_,by simp⟩,rfl⟩⟩;exact(eM _).mem_iff.2 zg
theorem Fq:ja (eu L)=L:=by
 unfold ja;show (L.map (·.id)).map _=L;rw[ahG]
 conv=>rhs;rw[<-List.map_id L]
 refine ahh λd hd=>?_;show (⟨d.id,de λf=>jq (occs (cH L) d.id f),Mp (dK L) d.id⟩:Dc)=d;have e:(λf=>jq (occs (cH L) d.id f))=o7 d.zs:=funext λf=>Hh hl hs hv hd f;rw[e,EL (hv d hd),Li hl hs hv hd]
theorem Fp:eh (eu L)=L:=by
 unfold eh;rw[agN (show aY (eu L)=true from ki hl hs hv)];exact Fq hl hs hv
end
structure VD (L:List Dc):Prop where
 n:L.length<=2000
 lt:L.Pairwise λx y=>x.id<y.id
 v:∀d∈L,aS d=true
def VD.valid {L:List Dc}(h:VD L):aY (eu L)=true:=ki h.n h.lt h.v
def VD.aB {L:List Dc}(h:VD L):eh (eu L)=L:=Fp h.n h.lt h.v
theorem VD.filter {L:List Dc}(h:VD L)(p:Dc->Bool):VD (L.filter p):=
 ⟨agJ (ahf _ _) h.n,h.lt.sublist ait,λd hd=>h.v d (ag0.1 hd).1⟩
def pH {l:List Dc}(hn:(l.map (·.id)).Nodup):(eg l).Pairwise λx y=>x.id<y.id:=by
 have hp:=(fT l).perm;have h4:=(fT l).ord;have h5:((eg l).map (·.id)).Nodup:=(hp.map _).nodup_iff.2 hn;rw[List.Nodup,ahj] at h5;exact(h4.and h5).imp λ{x y} ⟨a,b⟩=>by omega
def eQ {l:List Dc}(x:Dc):x∈eg l↔x∈l:=(fT l).perm.mem_iff
def qt {a b:List Dc}(ha:a.Pairwise λx y=>x.id<y.id)(hb:b.Pairwise λx y=>x.id<y.id)(h:∀x,x∈a↔x∈b):a=b:=
 iK (lt:=λx y:Dc=>x.id<y.id) (λx y h1 h2=>by omega) ha hb h
def GW {L:List Dc}(h:L.Pairwise λx y=>x.id<y.id):eg L=L:=
 qt (pH (me h)) h λx=>eQ x
structure zG (l:List Dc):Prop where
 n:l.length<=2000
 nd:(l.map (·.id)).Nodup
 v:∀d∈l,aS d=true
def zG.vd {l:List Dc}(h:zG l):VD (eg l):=⟨by rw[dV];exact h.n,pH h.nd,λd hd=>h.v d ((eQ d).1 hd)⟩
def VD.wI {L:List Dc}(h:VD L):zG L:=⟨h.n,me h.lt,h.v⟩
def zG.build {l:List Dc}(h:zG l):cZ l=(eu (eg l),0):=by
 unfold cZ eu;rw[agL (by have:=h.n;omega),agL,agL (λe=>e h.nd)];rw[Bool.not_eq_true,aiv];intro d hd;simp[h.v d hd]
theorem VD.build {L:List Dc}(h:VD L):cZ L=(eu L,0):=by rw[h.wI.build,GW h.lt]
def jO (s t:Sg):Sg×Int:=
 if aY s=true/\aY t=true then if comb (λp q=>p&&q) s.aB t.aB=[] then cZ (eh s++eh t) else (bV,10) else (bV,1)
def qX (s:Sg)(ids:List Int):List Dc:=(eh s).filter λd=>!decide (d.id∈ids)
def Il (s:Sg)(ids:List Int):Sg:=(cZ (qX s ids)).1
def VD.drop {L:List Dc}(h:VD L)(ids:List Int):Il (eu L) ids=eu (L.filter λd=>!decide (d.id∈ids)):=by
 unfold Il qX;rw[h.aB,(h.filter _).build]
def xm {L:List Dc}(hL:VD L)(k:Ky)(d z:Int):z∈posOf (dg L k) d↔∃x∈L,x.id=d/\z∈iR x k:=by
 constructor
 ·intro h;obtain⟨p,hp,e1,e2⟩:=ua h;obtain⟨x,hx,rfl,_⟩:=eR hp;rw[e2] at h;exact⟨x,hx,e1,h⟩
 ·rintro⟨x,hx,rfl,h⟩;rw[pW hL.n hL.lt hL.v k hx];exact h
def IV {L:List Dc}(f n i:Int):(n,i)∈fE L f↔∃d∈L,d.id=i/\(f,n)∈d.ns:=by
 constructor
 ·intro h;obtain⟨d,hd,e,h2⟩:=s9 h;exact⟨d,hd,e.symm,h2⟩
 ·rintro⟨d,hd,rfl,h⟩;exact ahm.2 ⟨d,hd,agG.2 ⟨(f,n),ag0.2 ⟨h,by simp⟩,rfl⟩⟩
def wo (s:Sg)(f lo hi:Int):kn (kW s f lo hi):=by
 unfold kW
 split
 ·exact Qe _
 ·exact List.Pairwise.nil
def oE {L:List Dc}(hL:VD L)(f lo hi x:Int):x∈kW (eu L) f lo hi↔∃d∈L,d.id=x/\∃n,(f,n)∈d.ns/\lo<=n/\n<=hi:=by
 rw[HS hL.n hL.lt hL.v]
 constructor
 ·rintro⟨n,h,h2⟩;obtain⟨d,hd,e,h3⟩:=(IV f n x).1 h;exact⟨d,hd,e,n,h3,h2⟩
 ·rintro⟨d,hd,e,n,h3,h2⟩;exact⟨n,(IV f n x).2 ⟨d,hd,e,h3⟩,h2⟩
def zq {L:List Dc}(hL:VD L){d:Dc}(hd:d∈L):1<=d.id/\d.id<=1000000000:=(cC (hL.v d hd)).1
def Io {L:List Dc}(hL:VD L)(f lo hi:Int):V (kW (eu L) f lo hi):=
 mY (wo _ _ _ _) λq hq=>by
  obtain⟨d,hd,e,_⟩:=(oE hL f lo hi q).1 hq;have:=zq hL hd;omega
def nE {L:List Dc}(hL:VD L):V (L.map (·.id)):=
 mY (ahj.2 hL.lt) λq hq=>by
  obtain⟨d,hd,rfl⟩:=agG.1 hq;exact zq hL hd
section
variable {L M N : List Dc} (hL : VD L) (hM : VD M) (hN : VD N) (fK : ∀ x, x ∈ N ↔ x ∈ L \/ x ∈ M)
include hL hM hN fK
theorem S8 (k:Ky):iU (dg L k) (dg M k)=dg N k:=by
 have hA:=gZ hL.lt hL.v k;have hB:=gZ hM.lt hM.v k;refine Yo (Yp hA hB) (gZ hN.lt hN.v k) λd z=>?_;rw[NQ hA hB,xm hL,xm hM,xm hN]
 constructor
 ·rintro (⟨x,hx,h⟩|⟨x,hx,h⟩)
  ·exact⟨x,(fK x).2 (.inl hx),h⟩
  ·exact⟨x,(fK x).2 (.inr hx),h⟩
 ·rintro⟨x,hx,h⟩;rcases (fK x).1 hx with h1|h1
  ·exact .inl ⟨x,h1,h⟩
  ·exact .inr ⟨x,h1,h⟩
variable (VF : ∀ x ∈ L, ∀ y ∈ M, x.id ≠ y.id)
include VF
theorem Pq (hn:L.length+M.length<=2000):jO (eu L) (eu M)=(eu N,0):=by
 have hc:comb (λp q=>p&&q) (eu L).aB (eu M).aB=[]:=by
  obtain⟨_,h2⟩:=jc (λp q=>p&&q) (nE hL) (nE hM);rw[ah3];intro z hz;have h3:=(h2 z).1 hz;have h4:z∈L.map (·.id)/\z∈M.map (·.id):=by
   by_cases ha:z∈L.map (·.id)<;>by_cases hb:z∈M.map (·.id)<;>simp[ha,hb] at h3 ⊢
  obtain⟨x,hx,e1⟩:=agG.1 h4.1;obtain⟨y,hy,e2⟩:=agG.1 h4.2;exact VF x hx y hy (e1.trans e2.symm)
 have hg:zG (L++M):=by
  refine⟨by rw[agF];exact hn,?_,λd hd=>(agR.1 hd).elim (hL.v d) (hM.v d)⟩;rw[agS,ahn];refine⟨me hL.lt,me hM.lt,?_⟩;intro a ha b hb e;obtain⟨x,hx,e1⟩:=agG.1 ha;obtain⟨y,hy,e2⟩:=agG.1 hb;exact VF x hx y hy (by omega)
 unfold jO;rw[agN ⟨hL.valid,hM.valid⟩,agN hc,hL.aB,hM.aB,hg.build];rw[qt (pH hg.nd) hN.lt λx=>by rw[eQ,agR,fK]]
end
end Go.Proofs.YtoejlmpbebjemaaGreat
