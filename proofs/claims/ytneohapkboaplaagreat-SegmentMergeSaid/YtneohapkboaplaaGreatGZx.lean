/- What Build returns is a valid segment (layer 39). What is found in what Build returns (layer 39). Sizes of the documents of a segment (layer 39, plain). The documents of what Build returns are the documents (layer 39, plain). What Build, Merge and Drop return, in plain lists (layer 39).
   Conditions: as the theorems say. -/
import Derived.Test.YtneohapkboaplaaGreatGZc
import Derived.Test.YtneohapkboaplaaGreatGV
import Derived.Test.YtneohapkboaplaaGreatPZ
import Derived.Test.YtneohapkboaplaaGreatGFA
import Derived.Test.YtneohapkboaplaaGreatGFB
import Derived.Test.YtneohapkboaplaaGreatGZb
set_option linter.all false
set_option maxRecDepth 100000
open List (getD_eq_getElem?_getD getElem?_eq_getElem pairwise_map pairwise_iff_getElem pairwise_flatMap length_map mem_flatMap)
namespace eJ
open iF Go.Am Go.Proofs.YtneohapkboaplaaGreat dh
theorem CZ {α:Type}{R:α→α→Prop}{l:List α}(h:l.Pairwise R)(d:α){i:Nat}(h0:0<i)(hi:i<l.length):R (l.getD (i-1) d) (l.getD i d):=by
 have:=List.pairwise_iff_getElem.1 h (i-1) i (by omega) hi (by omega);rw[getD_eq_getElem?_getD,getD_eq_getElem?_getD,getElem?_eq_getElem (by omega:i-1<l.length),getElem?_eq_getElem hi];exact this
theorem Qw {ws:List Wd}(h:∀k,k<ws.length→nm ws k=true):(ws.map (·.2)).Pairwise (·<·):=by
 have key:∀j i,i<j→j<ws.length→(ws.getD i w0).2<(ws.getD j w0).2:=by
  intro j
  induction j with
  |zero=>intro i h1;omega
  |succ j ih=>
   intro i h1 h2;have h3:=(kH (h (j+1) h2)).2.1;unfold gF at h3;rw[if_neg (by omega),Nat.add_sub_cancel] at h3;rcases Nat.lt_or_ge i j with h4|h4
   ·have:=ih i h4 (by omega);omega
   ·have:i=j:=by omega
    subst this;exact h3
 rw[pairwise_map,pairwise_iff_getElem];intro i j hi hj jt;have:=key j i jt hj;rw[getD_eq_getElem?_getD,getD_eq_getElem?_getD,getElem?_eq_getElem hi,getElem?_eq_getElem hj] at this;exact this
theorem yM {zs:List Zn}{f:Int}{w:Wd}(h:w∈nA zs f):∃z∈zs,z.f=f∧nA zs f=z.ws:=by
 induction zs with
 |nil=>simp[nA] at h
 |cons z r ih=>
  unfold nA at h ⊢
  by_cases hz:z.f=f
  ·rw[if_pos hz];exact⟨z,by simp,hz,rfl⟩
  ·rw[if_neg hz] at h ⊢;obtain⟨y,h1,h2,h3⟩:=ih h;exact⟨y,by simp[h1],h2,h3⟩
theorem CU {d:Dc}(h:aX d=true)(f:Int):((nA d.zs f).map (·.2)).Pairwise (·<·)∧∀w∈nA d.zs f,okW w.1=true∧0≤w.2∧w.2≤1000000∧1≤f∧f≤4:=by
 have hz:=(cM h).2.1;rcases Classical.em (nA d.zs f=[]) with he|he
 ·rw[he];exact⟨by simp,fun w hw=>by simp at hw⟩
 ·obtain⟨w1,zy⟩:=List.exists_mem_of_ne_nil _ he;obtain⟨z,h1,h2,h3⟩:=yM zy;obtain⟨i,hi,e⟩:=bS z0 h1;have hk:=fh (hz i hi);rw[e] at hk;have hf:=jr hz i hi;rw[e] at hf;rw[h3];refine⟨Qw hk.2.2.2,fun w hw=>?_⟩;obtain⟨k,CF,dg⟩:=bS w0 hw;have h5:=kH (hk.2.2.2 k CF);have h6:=rO hk.2.2.2 k CF;rw[dg] at h5 h6;exact⟨h5.1,by omega,h5.2.2,by omega,by omega⟩
theorem lX {d:Dc}(h:aX d=true)(k:Ky):iI d k=j9 (nA d.zs k.1) k.2:=(xj h k).symm
theorem qY {d:Dc}(h:aX d=true)(k:Ky):(iI d k).Pairwise (·<·)∧∀p∈iI d k,0≤p∧p≤1000000∧okW k.2=true∧1≤k.1∧k.1≤4:=by
 rw[lX h];obtain⟨h1,h2⟩:=CU h k.1;unfold j9;refine⟨h1.sublist (List.filter_sublist.map _),fun p hp=>?_⟩;obtain⟨w,hw,rfl⟩:=List.mem_map.1 hp;obtain⟨zy,LZ⟩:=List.mem_filter.1 hw;have:=h2 w zy;have e:w.1=k.2:=by simpa using LZ
 rw[←e];exact⟨this.2.1,this.2.2.1,this.1,this.2.2.2⟩
theorem KP {d:Dc}(h:aX d=true){k1 k2:Ky}(hf:k1.1=k2.1){p:Int}(h1:p∈iI d k1)(h2:p∈iI d k2):k1=k2:=by
 rw[lX h] at h1 h2;rw[hf] at h1;unfold j9 at h1 h2;obtain⟨w,hw,e1⟩:=List.mem_map.1 h1;obtain⟨v,hv,e2⟩:=List.mem_map.1 h2;obtain⟨zy,LZ⟩:=List.mem_filter.1 hw;obtain⟨WW,qk⟩:=List.mem_filter.1 hv;obtain⟨hp,_⟩:=CU h k2.1;have hwv:w=v:=by
  obtain⟨i,hi,ei⟩:=List.mem_iff_getElem.1 zy;obtain⟨j,hj,ej⟩:=List.mem_iff_getElem.1 WW;rw[pairwise_map,pairwise_iff_getElem] at hp;rcases Nat.lt_trichotomy i j with h3|h3|h3
  ·have:=hp i j hi hj h3;rw[ei,ej] at this;omega
  ·subst h3;rw[←ei,←ej]
  ·have:=hp j i hj hi h3;rw[ei,ej] at this;omega
 subst hwv;have a1:w.1=k1.2:=by simpa using LZ
 have a2:w.1=k2.2:=by simpa using qk
 exact Prod.ext hf (by rw[←a1,←a2])
theorem gu {L:List Dc}{k:Ky}{p:Ps}(h:p∈eY L k):∃d∈L,p=(d.id,iI d k)∧iI d k≠[]:=by
 unfold eY at h;obtain⟨d,hd,h1⟩:=List.mem_flatMap.1 h;unfold Ek at h1
 split at h1
 ·simp at h1
 ·rename_i dA;exact⟨d,hd,by simpa using h1,dA⟩
theorem lW (k:Ky):∀{L:List Dc},(L.Pairwise fun x y=>x.id<y.id)→((eY L k).map (·.1)).Pairwise (·<·)
 |[],_=>by simp[eY]
 |d::r,h=>by
  have ⟨h1,h2⟩:=List.pairwise_cons.1 h;have e:eY (d::r) k=Ek d k++eY r k:=by simp[eY]
  rw[e,List.map_append,List.pairwise_append];refine⟨?_,lW k h2,fun x hx y hy=>?_⟩
  ·unfold Ek;split<;>simp
  ·have ex:x=d.id:=by
    unfold Ek at hx
    split at hx
    ·simp at hx
    ·simpa using hx
   obtain⟨p,hp,rfl⟩:=List.mem_map.1 hy;obtain⟨d2,h3,rfl,_⟩:=gu hp;rw[ex];exact h1 d2 h3
theorem yV {L:List Dc}{k:Ky}(h:k∈dE L):∃d∈L,iI d k≠[]:=by
 obtain⟨d,hd,p,hp⟩:=(r8 L k).1 h;refine⟨d,hd,fun e=>?_⟩;have:p∈iI d k:=by
  unfold iI;exact List.mem_map.2 ⟨_,List.mem_filter.2 ⟨hp,by simp⟩,rfl⟩
 rw[e] at this;simp at this
theorem KM {L:List Dc}{k:Ky}(h:k∈dE L):eY L k≠[]:=by
 obtain⟨d,hd,dA⟩:=yV h;intro e;have:(d.id,iI d k)∈eY L k:=by
  unfold eY;refine List.mem_flatMap.2 ⟨d,hd,?_⟩;unfold Ek;rw[if_neg dA];simp
 rw[e] at this;simp at this
theorem BH {L:List Dc}(hs:L.Pairwise fun x y=>x.id<y.id)(hv:∀d∈L,aX d=true)(k:Ky):bX (eY L k)=true:=by
 unfold bX;rw[Bool.and_eq_true]
 constructor
 ·refine uJ (lW k hs) fun q hq=>?_;obtain⟨p,hp,rfl⟩:=List.mem_map.1 hq;obtain⟨d,hd,rfl,_⟩:=gu hp;exact(cM (hv d hd)).1
 ·rw[Bool.not_eq_true',List.any_eq_false];intro p hp;obtain⟨d,hd,rfl,dA⟩:=gu hp;obtain⟨h1,h2⟩:=qY (hv d hd) k;unfold gN;rw[decide_eq_false (fun e=>dA (List.length_eq_zero_iff.1 e)),uJ h1 fun q hq=>⟨(h2 q hq).1,(h2 q hq).2.1⟩];simp
theorem oU {L:List Dc}(hs:L.Pairwise fun x y=>x.id<y.id)(hv:∀d∈L,aX d=true):(nw (cQ L)).Nodup:=by
 have aau:∀d∈L,∀e∈L,d.id=e.id→d=e:=by
  intro d hd e he h;obtain⟨i,hi,e1⟩:=List.mem_iff_getElem.1 hd;obtain⟨j,hj,e2⟩:=List.mem_iff_getElem.1 he;rw[pairwise_iff_getElem] at hs;rcases Nat.lt_trichotomy i j with h3|h3|h3
  ·have:=hs i j hi hj h3;rw[e1,e2] at this;omega
  ·subst h3;rw[←e1,←e2]
  ·have:=hs j i hj hi h3;rw[e1,e2] at this;omega
 unfold nw;rw[List.Nodup,pairwise_flatMap]
 constructor
 ·intro t ht;obtain⟨k,hk,rfl⟩:=List.mem_map.1 ht;unfold nI;rw[pairwise_flatMap]
  constructor
  ·intro p hp;obtain⟨d,hd,rfl,_⟩:=gu hp;unfold eh;have:=(qY (hv d hd) k).1;rw[pairwise_map];exact this.imp fun h e=>by
    have:=(Prod.mk.inj (Prod.mk.inj e).2).2;omega
  ·have:=lW k hs;rw[pairwise_map] at this;refine this.imp fun {p q} Zj=>?_;intro x hx y hy e;obtain⟨a,_,rfl⟩:=List.mem_map.1 hx;obtain⟨b,_,rfl⟩:=List.mem_map.1 hy;have:=(Prod.mk.inj (Prod.mk.inj e).2).1;omega
 ·unfold cQ;rw[pairwise_map];refine(oX L).imp fun {k1 k2} hk=>?_;intro x hx y hy e;obtain⟨p,hp,Ix⟩:=List.mem_flatMap.1 hx;obtain⟨q,hq,hy2⟩:=List.mem_flatMap.1 hy;obtain⟨d,hd,rfl,_⟩:=gu hp;obtain⟨d2,Ex,rfl,_⟩:=gu hq;obtain⟨a,ha,rfl⟩:=List.mem_map.1 Ix;obtain⟨b,hb,rfl⟩:=List.mem_map.1 hy2;have e1:=(Prod.mk.inj e).1;have e2:=(Prod.mk.inj (Prod.mk.inj e).2).1;have e3:=(Prod.mk.inj (Prod.mk.inj e).2).2;simp only at e1 e2 e3;have hdd:=aau d hd d2 Ex e2;subst hdd;subst e3;have:=KP (hv d hd) e1 ha hb;rw[this,eH] at hk
  cases hk
theorem JU {d:Dc}(h:aX d=true):d.ns.Pairwise fun x y=>cP x y=true:=by
 have h3:=(cM h).2.2;have key:∀j i,i<j→j<d.ns.length→cP (d.ns.getD i n0) (d.ns.getD j n0)=true:=by
  intro j
  induction j with
  |zero=>intro i h1;omega
  |succ j ih=>
   intro i h1 h2;have h4:=h3 (j+1) h2;unfold pN at h4;simp only[Bool.and_eq_true,Bool.or_eq_true,decide_eq_true_eq,Nat.add_sub_cancel] at h4;have h5:cP (d.ns.getD j n0) (d.ns.getD (j+1) n0)=true:=by
    rcases h4.2 with h6|h6
    ·omega
    ·exact h6
   rcases Nat.lt_or_ge i j with h7|h7
   ·exact qd (ih i h7 (by omega)) h5
   ·have:i=j:=by omega
    subst this;exact h5
 rw[pairwise_iff_getElem];intro i j hi hj jt;have:=key j i jt hj;rw[getD_eq_getElem?_getD,getD_eq_getElem?_getD,getElem?_eq_getElem hi,getElem?_eq_getElem hj] at this;exact this
theorem u4 {L:List Dc}{f:Int}{x:Nm}(h:x∈fe L f):∃d∈L,x.2=d.id∧(f,x.1)∈d.ns:=by
 unfold fe at h;obtain⟨d,hd,h1⟩:=List.mem_flatMap.1 h;obtain⟨y,hy,rfl⟩:=List.mem_map.1 h1;obtain⟨h2,h3⟩:=List.mem_filter.1 hy;have e:y.1=f:=by simpa using h3
 exact⟨d,hd,rfl,by rw[←e];exact h2⟩
theorem qg {L:List Dc}(hs:L.Pairwise fun x y=>x.id<y.id)(hv:∀d∈L,aX d=true)(f:Int):(fe L f).Nodup:=by
 unfold fe;rw[List.Nodup,pairwise_flatMap]
 constructor
 ·intro d hd;rw[pairwise_map];have h1:=(JU (hv d hd)).sublist (List.filter_sublist (p:=fun x=>x.1==f));have h2:∀x∈d.ns.filter (fun x=>x.1==f),x.1=f:=fun x hx=>by simpa using(List.mem_filter.1 hx).2
  refine h1.imp_of_mem fun {a b} ha hb iZ e=>?_;have e1:=(Prod.mk.inj e).1;rcases (lQ a b).1 iZ with h3|h3
  ·rw[h2 a ha,h2 b hb] at h3;omega
  ·omega
 ·refine hs.imp fun {d e} hde=>?_;intro x hx y hy exy;obtain⟨a,_,rfl⟩:=List.mem_map.1 hx;obtain⟨b,_,rfl⟩:=List.mem_map.1 hy;have:=(Prod.mk.inj exy).2;omega
theorem DW (l:List Nm):(di l).Pairwise fun x y=>cP y x=false:=by
 have key:∀(l a:List Nm),(a.Pairwise fun x y=>cP y x=false)→(l.foldl (fun a d=>lO d a) a).Pairwise fun x y=>cP y x=false:=by
  intro l
  induction l with
  |nil=>intro a h;exact h
  |cons d r ih=>intro a h;exact ih _ (A1 d h)
 exact key l [] .nil
theorem xC {l:List Nm}(h:l.Nodup):(di l).Pairwise fun x y=>cP x y=true:=by
 have h1:=DW l;have h2:(di l).Pairwise (·≠·):=(eZ l).nodup_iff.2 h;refine(h1.and h2).imp fun {x y} ⟨a,b⟩=>?_
 cases Cy:cP x y with
 |true=>rfl
 |false=>exact absurd (qe Cy a) b
theorem o4 {L:List Dc}{c:Cl}(h:c∈dG L):(5≤c.f∧c.f≤7)∧fe L c.f≠[]∧c.x=di (fe L c.f):=by
 have key:∀f,c∈mq L f→c.f=f∧fe L c.f≠[]∧c.x=di (fe L c.f):=fun f hf=>by
  unfold mq at hf
  split at hf
  ·simp at hf
  ·rename_i dA;have:c=⟨f,di (fe L f)⟩:=by simpa using hf
   subst this;exact⟨rfl,dA,rfl⟩
 unfold dG at h;rcases List.mem_append.1 h with h|h
 ·rcases List.mem_append.1 h with h|h
  ·obtain⟨a,b⟩:=key 5 h;exact⟨by omega,b⟩
  ·obtain⟨a,b⟩:=key 6 h;exact⟨by omega,b⟩
 ·obtain⟨a,b⟩:=key 7 h;exact⟨by omega,b⟩
theorem xU (L:List Dc):(dG L).Pairwise fun x y=>x.f<y.f:=by
 have one:∀f,(mq L f).Pairwise fun x y=>x.f<y.f:=fun f=>by unfold mq;split<;>simp
 have OI:∀f,∀c∈mq L f,c.f=f:=fun f c hc=>by
  unfold mq at hc
  split at hc
  ·simp at hc
  ·have:c=⟨f,di (fe L f)⟩:=by simpa using hc
   rw[this]
 unfold dG;rw[List.pairwise_append,List.pairwise_append];refine⟨⟨one 5,one 6,fun x hx y hy=>by rw[OI 5 x hx,OI 6 y hy];omega⟩,one 7,fun x hx y hy=>?_⟩;rw[OI 7 y hy];rcases List.mem_append.1 hx with h|h
 ·rw[OI 5 x h];omega
 ·rw[OI 6 x h];omega
theorem sB {L:List Dc}(hl:L.length≤2000)(hs:L.Pairwise fun x y=>x.id<y.id)(hv:∀d∈L,aX d=true):aP ⟨L.map (·.id),cQ L,dG L⟩=true:=by
 have jM:(L.map (·.id)).Pairwise (·<·):=by rw[pairwise_map];exact hs
 refine ou ?_ (by simpa using hl) (fun i hi=>?_) (oU hs hv) (fun i hi=>?_)
 ·refine uJ jM fun q hq=>?_;obtain⟨d,hd,rfl⟩:=List.mem_map.1 hq;exact(cM (hv d hd)).1
 ·simp only at hi ⊢;have gB:i<(dE L).length:=by unfold cQ at hi;rwa [length_map] at hi
  have kb:∀j,j<(dE L).length→(cQ L).getD j t0=⟨((dE L).getD j ((0,[]):Ky)).1,((dE L).getD j ((0,[]):Ky)).2,eY L ((dE L).getD j ((0,[]):Ky))⟩:=fun j hj=>by
   unfold cQ;rw[getD_eq_getElem?_getD,List.getElem?_map,getD_eq_getElem?_getD,getElem?_eq_getElem hj];rfl
  have iR:=aR (dE L) i ((0,[]):Ky) gB;obtain⟨d,hd,dA⟩:=yV iR;obtain⟨p,hp⟩:=List.exists_mem_of_ne_nil _ dA;have iG:=(qY (hv d hd) _).2 p hp
  constructor
  ·unfold kP;rw[kb i gB];simp only[Bool.and_eq_true,Bool.or_eq_true,decide_eq_true_eq];refine⟨⟨iG.2.2.2,iG.2.2.1⟩,?_⟩;rcases Nat.eq_zero_or_pos i with h0|h0
   ·exact .inl h0
   ·right
    rw[kb (i-1) (by omega)];exact CZ (oX L) ((0,[]):Ky) h0 gB
  ·unfold vK;rw[kb i gB];simp only[Bool.and_eq_true,decide_eq_true_eq];refine⟨⟨KM iR,BH hs hv _⟩,fun q hq=>?_⟩;obtain⟨d2,Ex,rfl,_⟩:=gu hq;exact List.mem_map.2 ⟨d2,Ex,rfl⟩
 ·simp only at hi ⊢;have iR:=aR (dG L) i c0 hi;obtain⟨h1,h2,h3⟩:=o4 iR
  constructor
  ·unfold nJ;simp only[Bool.and_eq_true,Bool.or_eq_true,decide_eq_true_eq];refine⟨⟨h1,fun e=>h2 ?_⟩,?_⟩
   ·rw[h3] at e;have:=(eZ (fe L ((dG L).getD i c0).f)).length_eq;rw[e] at this;exact List.length_eq_zero_iff.1 this.symm
   ·rcases Nat.eq_zero_or_pos i with h0|h0
    ·exact .inl h0
    ·exact .inr (CZ (xU L) c0 h0 hi)
  ·intro k hk;have aZ:=xC (qg hs hv ((dG L).getD i c0).f);rw[←h3] at aZ;have dg:=aR ((dG L).getD i c0).x k n0 hk;have qm:((dG L).getD i c0).x.getD k n0∈fe L ((dG L).getD i c0).f:=(eZ _).mem_iff.1 (by rw[←h3];exact dg);obtain⟨d,hd,e1,e2⟩:=u4 qm;obtain⟨m,hm,e3⟩:=bS n0 e2;have Rn:=(cM (hv d hd)).2.2 m hm;unfold pN at Rn;rw[e3] at Rn;unfold uh at Rn;simp only[Bool.and_eq_true,decide_eq_true_eq] at Rn;unfold kQ;simp only[Bool.and_eq_true,Bool.or_eq_true,decide_eq_true_eq];refine⟨⟨by rw[e1];exact List.mem_map.2 ⟨d,hd,rfl⟩,Rn.1.2⟩,?_⟩;rcases Nat.eq_zero_or_pos k with h0|h0
   ·exact .inl h0
   ·exact .inr (CZ aZ n0 h0 hk)
end eJ
namespace Go.Proofs.YtneohapkboaplaaGreat
open Go Go.Am iF eJ dh
def Iu (L:List Dc):Sg:=⟨L.map (·.id),cQ L,dG L⟩
section
variable {L : List Dc} (hl : L.length ≤ 2000) (hs : L.Pairwise fun x y => x.id < y.id) (hv : ∀ d ∈ L, aX d = true)
include hl hs hv
theorem sG (k:Ky){d:Dc}(hd:d∈L):posOf (eY L k) d.id=iI d k:=by
 rcases Classical.em (iI d k=[]) with he|he
 ·rw[he];refine mE fun p hp e=>?_;obtain⟨d2,Ex,rfl,dA⟩:=gu hp;have:d2=d:=by
   obtain⟨i,hi,e1⟩:=List.mem_iff_getElem.1 hd;obtain⟨j,hj,e2⟩:=List.mem_iff_getElem.1 Ex;rw[pairwise_iff_getElem] at hs;simp only at e;rcases Nat.lt_trichotomy i j with h3|h3|h3
   ·have:=hs i j hi hj h3;rw[e1,e2] at this;omega
   ·subst h3;rw[←e1,←e2]
   ·have:=hs j i hj hi h3;rw[e1,e2] at this;omega
  subst this;exact dA he
 ·have hm:(d.id,iI d k)∈eY L k:=by
   unfold eY;refine List.mem_flatMap.2 ⟨d,hd,?_⟩;unfold Ek;rw[if_neg he];simp
  exact rW (show nO (eY L k) from lW k hs) hm
end
theorem A6 (w:Bs):lP [] w=true:=by simp[lP]
end Go.Proofs.YtneohapkboaplaaGreat
namespace Go.Proofs.YtneohapkboaplaaGreat
open Go Go.Am iF dh eJ
theorem rX {P:Nat}:∀{l:List Ps},(∀p∈l,p.2.length≤P)→∀d:Int,(posOf l d).length≤P
 |[],_,d=>by simp[posOf]
 |p::l,h,d=>by
  unfold posOf
  split
  ·exact h p (by simp)
  ·exact rX (fun q hq=>h q (by simp[hq])) d
theorem wV {s:Sg}(hv:aP s=true):∀t∈s.aK,nO t.l:=fun t ht=>(cU (ED hv ht).2.2.1).1
theorem NI {s:Sg}(hv:aP s=true){P:Nat}(hP:∀t∈s.aK,∀p∈t.l,p.2.length≤P)(id f:Int):(occs s.aK id f).length≤s.aK.length*P:=by
 rw[oh (wV hv)];refine fZ _ P _ fun t ht=>?_;unfold wB
 split
 ·rw[length_map];exact rX (hP t ht) id
 ·simp
theorem AR {s:Sg}(hv:aP s=true){id f a:Int}{w:Bs}:(w,a)∈occs s.aK id f↔∃t∈s.aK,t.f=f∧t.w=w∧a∈posOf t.l id:=by
 rw[oh (wV hv),mem_flatMap]
 constructor
 ·rintro⟨t,ht,h⟩;unfold wB at h
  split at h
  ·rename_i hf;obtain⟨b,hb,e⟩:=List.mem_map.1 h;obtain⟨e1,e2⟩:=Prod.mk.inj e;exact⟨t,ht,hf,e1,by rw[←e2];exact hb⟩
  ·simp at h
 ·rintro⟨t,ht,hf,hw,ha⟩;refine⟨t,ht,?_⟩;unfold wB;rw[if_pos hf];exact List.mem_map.2 ⟨a,ha,by rw[hw]⟩
theorem BA (g:Int→List Wd):(bP g).length≤4:=by
 rw[←EV];exact JN g 4
theorem va {s:Sg}(hv:aP s=true){T P C X:Nat}(hT:s.aK.length≤T)(hw:∀t∈s.aK,t.w.length≤maxLen∧∀p∈t.l,p.2.length≤P)(hC:s.aw.length≤C)(hX:∀c∈s.aw,c.x.length≤X) :
  ∀d∈fG s,d.zs.length≤4∧(∀z∈d.zs,z.ws.length≤T*P∧∀w∈z.ws,w.1.length≤maxLen)∧d.ns.length≤C*X:=by
 intro d hd;unfold fG at hd;obtain⟨id,_,rfl⟩:=List.mem_map.1 hd;refine⟨BA (fun f=>gw (occs s.aK id f)),fun z hz=>?_,?_⟩
 ·obtain⟨_,h2,_⟩:=ll (g:=fun f=>gw (occs s.aK id f)) hz;rw[h2];refine⟨?_,fun w LZ=>?_⟩
  ·rw[(iY _).1.length_eq];exact Nat.le_trans (NI hv (fun t ht=>(hw t ht).2) id z.f) (Nat.mul_le_mul_right _ hT)
  ·obtain⟨w1,w2⟩:=w;obtain⟨t,ht,_,e,_⟩:=(AR hv).1 ((iY _).1.mem_iff.1 LZ);rw[←e];exact(hw t ht).1
 ·show (El s.aw id).length≤_;unfold El;refine Nat.le_trans (fZ _ X _ fun c hc=>?_) (Nat.mul_le_mul_right _ hC);rw[length_map];exact Nat.le_trans (List.length_filter_le _ _) (hX c hc)
theorem xR {d:Dc}{W:Nat}(hz:d.zs.length≤4)(hw:∀z∈d.zs,z.ws.length≤W):(dF d).length≤4*W:=by
 unfold dF;refine Nat.le_trans (fZ _ W _ fun z Rh=>?_) (Nat.mul_le_mul_right _ hz);have:(eK z).length=z.ws.length:=by simp[eK]
 rw[this];exact hw z Rh
theorem jZ {s:Sg}(hs:mh s):∀d∈bI s,wa d:=by
 intro d hd;unfold bI at hd
 split at hd
 ·rename_i hv;obtain⟨h1,h2,h3⟩:=va hv hs.t (fun t ht=>⟨(hs.w t ht).1,(hs.w t ht).2.2⟩) hs.c hs.x d hd;have hm:1000000≤maxLen:=by decide
  exact⟨by omega,fun z hz=>⟨by have:=(h2 z hz).1;omega,(h2 z hz).2⟩,by omega⟩
 ·simp at hd
theorem j0 {s:Sg}(hs:mh s):(bI s).length≤400:=by
 unfold bI
 split
 ·simp[fG];exact hs.d
 ·simp
theorem gJ {α:Type}{lt:α→α→Prop}(asym:∀x y,lt x y→lt y x→False):∀{a b:List α},a.Pairwise lt→b.Pairwise lt→(∀x,x∈a↔x∈b)→a=b
 |[],[],_,_,_=>rfl
 |[],y::b,_,_,h=>by have:=(h y).2 (by simp);simp at this
 |x::a,[],_,_,h=>by have:=(h x).1 (by simp);simp at this
 |x::a,y::b,ha,hb,h=>by
  have ⟨a1,a2⟩:=List.pairwise_cons.1 ha;have ⟨b1,b2⟩:=List.pairwise_cons.1 hb;have e:x=y:=by
   rcases List.mem_cons.1 ((h x).1 (by simp)) with h1|h1
   ·exact h1
   rcases List.mem_cons.1 ((h y).2 (by simp)) with h2|h2
   ·exact h2.symm
   exact(asym _ _ (b1 x h1) (a1 y h2)).elim
  subst e;rw[gJ asym a2 b2 fun z=>⟨fun hz=>?_,fun hz=>?_⟩]
  ·rcases List.mem_cons.1 ((h z).1 (by simp[hz])) with e|h1
   ·subst e;exact(asym _ _ (a1 z hz) (a1 z hz)).elim
   ·exact h1
  ·rcases List.mem_cons.1 ((h z).2 (by simp[hz])) with e|h1
   ·subst e;exact(asym _ _ (b1 z hz) (b1 z hz)).elim
   ·exact h1
theorem JL {d:Dc}(h:aX d=true):d.zs.Pairwise fun x y=>x.f<y.f:=by
 have h3:=(cM h).2.1;have key:∀j i,i<j→j<d.zs.length→(d.zs.getD i z0).f<(d.zs.getD j z0).f:=by
  intro j
  induction j with
  |zero=>intro i h1;omega
  |succ j ih=>
   intro i h1 h2;have h4:=(fh (h3 (j+1) h2)).1;unfold gy at h4;rw[if_neg (by omega),Nat.add_sub_cancel] at h4;rcases Nat.lt_or_ge i j with h5|h5
   ·have:=ih i h5 (by omega);omega
   ·have:i=j:=by omega
    subst this;exact h4
 rw[pairwise_iff_getElem];intro i j hi hj jt;have:=key j i jt hj;rw[getD_eq_getElem?_getD,getD_eq_getElem?_getD,getElem?_eq_getElem hi,getElem?_eq_getElem hj] at this;exact this
theorem Ah:∀{zs:List Zn},(zs.Pairwise fun x y=>x.f<y.f)→∀z∈zs,nA zs z.f=z.ws
 |[],_,z,h=>by simp at h
 |y::r,hp,z,h=>by
  have ⟨h1,h2⟩:=List.pairwise_cons.1 hp;unfold nA;rcases List.mem_cons.1 h with e|h3
  ·subst e;rw[if_pos rfl]
  ·rw[if_neg (by have:=h1 z h3;omega)];exact Ah h2 z h3
theorem TX {d:Dc}(h:aX d=true){z:Zn}(hz:z∈d.zs):z.ws≠[]∧1≤z.f∧z.f≤4:=by
 have h3:=(cM h).2.1;obtain⟨i,hi,e⟩:=bS z0 hz;have hk:=fh (h3 i hi);have hf:=jr h3 i hi;rw[e] at hk hf;exact⟨fun e=>hk.2.2.1 (by rw[e];rfl),by omega,hk.2.1⟩
theorem Bz (g:Int→List Wd):(bP g).Pairwise fun x y=>x.f<y.f:=by
 unfold bP;rw[pairwise_flatMap];refine⟨fun f _=>by split<;>simp,?_⟩;have OI:∀f,∀z∈(if g f=[] then [] else [(⟨f,g f⟩:Zn)]),z.f=f:=fun f z hz=>by
  split at hz
  ·simp at hz
  ·rw[List.mem_singleton.1 hz]
 simp only[List.pairwise_cons,List.mem_cons,List.not_mem_nil,or_false];refine⟨?_,?_,?_,?_,List.Pairwise.nil⟩
 all_goals (intro f' Xb x hx y hy;rw[OI _ x hx,OI _ y hy])
 ·rcases Xb with rfl|rfl|rfl<;>decide
 ·rcases Xb with rfl|rfl<;>decide
 ·subst Xb;decide
 ·exact Xb.elim
theorem Bx {d:Dc}(h:aX d=true):bP (nA d.zs)=d.zs:=by
 refine gJ (lt:=fun x y:Zn=>x.f<y.f) (fun x y h1 h2=>by omega) (Bz _) (JL h) fun z=>⟨fun hz=>?_,fun hz=>?_⟩
 ·obtain⟨h1,h2,_⟩:=ll hz;obtain⟨w,hw⟩:=List.exists_mem_of_ne_nil _ h1;rw[h2] at hw;obtain⟨y,h3,h4,h5⟩:=yM hw;have:z=y:=by
   obtain⟨zf,zw⟩:=z;obtain⟨yf,yw⟩:=y;simp only at h2 h4 h5;rw[h4,h2,h5]
  rw[this];exact h3
 ·obtain⟨h1,h2,h3⟩:=TX h hz;have e:=Ah (JL h) z hz;unfold bP;refine List.mem_flatMap.2 ⟨z.f,?_,?_⟩
  ·rcases (by omega:z.f=1∨z.f=2∨z.f=3∨z.f=4) with e|e|e|e<;>simp[e]
  ·rw[e,if_neg h1];simp
theorem uR (ws:List Wd)(w:Bs)(a:Int):a∈j9 ws w↔(w,a)∈ws:=by
 unfold j9
 constructor
 ·intro h;obtain⟨x,hx,rfl⟩:=List.mem_map.1 h;obtain⟨h1,h2⟩:=List.mem_filter.1 hx;have e:x.1=w:=by simpa using h2
  rw[←e];exact h1
 ·intro h;exact List.mem_map.2 ⟨(w,a),List.mem_filter.2 ⟨h,by simp⟩,rfl⟩
theorem KQ {L:List Dc}{d:Dc}(hd:d∈L){k:Ky}{a:Int}(h:a∈iI d k):k∈dE L:=by
 unfold iI at h;obtain⟨w,hw,_⟩:=List.mem_map.1 h;obtain⟨zy,LZ⟩:=List.mem_filter.1 hw;have e3:w.1=k:=by simpa using LZ
 exact(r8 L k).2 ⟨d,hd,w.2,by rw[←e3];exact zy⟩
section
variable {L : List Dc} (hl : L.length ≤ 2000) (hs : L.Pairwise fun x y => x.id < y.id) (hv : ∀ d ∈ L, aX d = true)
include hl hs hv
theorem DK {d:Dc}(hd:d∈L)(f:Int):gw (occs (cQ L) d.id f)=nA d.zs f:=by
 have aaN:∀t∈cQ L,nO t.l:=fun t ht=>by
  obtain⟨k,_,rfl⟩:=List.mem_map.1 ht;exact lW k hs
 have h1:=iY (occs (cQ L) d.id f);have dA:=yR (eJ.oU hs hv) d.id f;have sym:∀x y:Wd,x.2≠y.2→y.2≠x.2:=fun _ _ h e=>h e.symm;have aZ:(gw (occs (cQ L) d.id f)).Pairwise fun x y=>x.2<y.2:=(h1.2.and ((h1.1.pairwise_iff (fun {x y} h=>sym x y h)).2 dA)).imp fun⟨h1,h2⟩=>by omega
 refine gJ (lt:=fun x y:Wd=>x.2<y.2) (fun x y h1 h2=>by omega) aZ (List.pairwise_map.1 (CU (hv d hd) f).1) fun x=>?_;rw[h1.1.mem_iff,oh aaN];obtain⟨w,a⟩:=x;rw[mem_flatMap]
 constructor
 ·rintro⟨t,ht,hx⟩;obtain⟨k,hk,rfl⟩:=List.mem_map.1 ht;unfold wB at hx;simp only at hx
  split at hx
  ·rename_i hf;rw[sG hl hs hv k hd] at hx;obtain⟨b,hb,e⟩:=List.mem_map.1 hx;obtain⟨e1,e2⟩:=Prod.mk.inj e;rw[lX (hv d hd),uR] at hb;rw[←hf,←e1,←e2];exact hb
  ·simp at hx
 ·intro hx;have hp:a∈iI d (f,w):=by rw[lX (hv d hd),uR];exact hx
  refine⟨⟨f,w,eY L (f,w)⟩,List.mem_map.2 ⟨(f,w),KQ hd hp,rfl⟩,?_⟩;unfold wB;rw[if_pos rfl];simp only;rw[sG hl hs hv (f,w) hd];exact List.mem_map.2 ⟨a,hp,rfl⟩
theorem Hr {d:Dc}(hd:d∈L):El (dG L) d.id=d.ns:=by
 have IE:∀d2∈L,d2.id=d.id→d2=d:=fun d2 Ex e=>by
  obtain⟨i,hi,e1⟩:=List.mem_iff_getElem.1 hd;obtain⟨j,hj,e2⟩:=List.mem_iff_getElem.1 Ex;rw[pairwise_iff_getElem] at hs;rcases Nat.lt_trichotomy i j with h3|h3|h3
  ·have:=hs i j hi hj h3;rw[e1,e2] at this;omega
  ·subst h3;rw[←e1,←e2]
  ·have:=hs j i hj hi h3;rw[e1,e2] at this;omega
 have iR:∀c∈dG L,∀y:Nm,y∈c.x↔y∈fe L c.f:=fun c hc y=>by
  rw[(o4 hc).2.2];exact(eZ _).mem_iff
 have asym:∀x y:Nm,cP x y=true→cP y x=true→False:=fun x y h1 h2=>by rw[qf h1] at h2;cases h2
 refine gJ (lt:=fun x y=>cP x y=true) asym ?_ (JU (hv d hd)) fun x=>?_
 ·unfold El;rw[pairwise_flatMap];refine⟨fun c hc=>?_,(xU L).imp fun {a b} iZ x hx y hy=>?_⟩
  ·rw[pairwise_map];have hx:=(o4 hc).2.2;have h1:c.x.Pairwise fun x y=>cP x y=true:=by rw[hx];exact xC (qg hs hv c.f)
   refine(h1.sublist (List.filter_sublist (p:=fun y=>y.2==d.id))).imp_of_mem fun {x y} hx hy Cy=>?_;have e1:x.2=d.id:=by simpa using(List.mem_filter.1 hx).2
   have e2:y.2=d.id:=by simpa using(List.mem_filter.1 hy).2
   rw[lQ] at Cy;refine(lQ _ _).2 (.inr ⟨rfl,?_⟩);show x.1<y.1;omega
  ·obtain⟨p,_,rfl⟩:=List.mem_map.1 hx;obtain⟨q,_,rfl⟩:=List.mem_map.1 hy;rw[lQ];exact .inl iZ
 ·unfold El;rw[mem_flatMap]
  constructor
  ·rintro⟨c,hc,hx⟩;obtain⟨y,hy,rfl⟩:=List.mem_map.1 hx;obtain⟨h1,h2⟩:=List.mem_filter.1 hy;have e:y.2=d.id:=by simpa using h2
   obtain⟨d2,Ex,e2,h3⟩:=u4 ((iR c hc y).1 h1);rw[IE d2 Ex (by omega)] at h3;exact h3
  ·intro hx;obtain⟨f,n⟩:=x;obtain⟨i,hi,e⟩:=bS n0 hx;have hf:=(cM (hv d hd)).2.2 i hi;unfold pN uh at hf;rw[e] at hf;simp only[Bool.and_eq_true,decide_eq_true_eq] at hf;have wH:(n,d.id)∈fe L f:=List.mem_flatMap.2 ⟨d,hd,List.mem_map.2 ⟨(f,n),List.mem_filter.2 ⟨hx,by simp⟩,rfl⟩⟩;have dA:fe L f≠[]:=fun e=>by rw[e] at wH;simp at wH
   have wh:(⟨f,di (fe L f)⟩:Cl)∈dG L:=by
    have:(⟨f,di (fe L f)⟩:Cl)∈mq L f:=by unfold mq;rw[if_neg dA];simp
    unfold dG;rcases (by omega:f=5∨f=6∨f=7) with e|e|e<;>subst e<;>simp[this]
   refine⟨_,wh,List.mem_map.2 ⟨(n,d.id),List.mem_filter.2 ⟨?_,by simp⟩,rfl⟩⟩;exact(eZ _).mem_iff.2 wH
theorem Cc:fG (Iu L)=L:=by
 unfold fG;show (L.map (·.id)).map _=L;rw[List.map_map]
 conv=>rhs;rw[←List.map_id L]
 refine List.map_congr_left fun d hd=>?_;show (⟨d.id,bP fun f=>gw (occs (cQ L) d.id f),El (dG L) d.id⟩:Dc)=d;have e:(fun f=>gw (occs (cQ L) d.id f))=nA d.zs:=funext fun f=>DK hl hs hv hd f;rw[e,Bx (hv d hd),Hr hl hs hv hd]
theorem Cb:bI (Iu L)=L:=by
 unfold bI;rw[if_pos (show aP (Iu L)=true from sB hl hs hv)];exact Cc hl hs hv
end
end Go.Proofs.YtneohapkboaplaaGreat
namespace Go.Proofs.YtneohapkboaplaaGreat
open Go Go.Am iF dh eJ
structure VD (L:List Dc):Prop where
 n:L.length≤2000
 lt:L.Pairwise fun x y=>x.id<y.id
 v:∀d∈L,aX d=true
theorem VD.valid {L:List Dc}(h:VD L):aP (Iu L)=true:=sB h.n h.lt h.v
theorem VD.an {L:List Dc}(h:VD L):bI (Iu L)=L:=Cb h.n h.lt h.v
theorem VD.filter {L:List Dc}(h:VD L)(p:Dc→Bool):VD (L.filter p):=
 ⟨Nat.le_trans (List.length_filter_le _ _) h.n,h.lt.sublist List.filter_sublist,fun d hd=>h.v d (List.mem_filter.1 hd).1⟩
theorem AA {l:List Dc}(hn:(l.map (·.id)).Nodup):(dU l).Pairwise fun x y=>x.id<y.id:=by
 have hp:=(gj l).perm;have h4:=(gj l).ord;have h5:((dU l).map (·.id)).Nodup:=(hp.map _).nodup_iff.2 hn;rw[List.Nodup,pairwise_map] at h5;exact(h4.and h5).imp fun {x y} ⟨a,b⟩=>by omega
theorem oR {l:List Dc}(x:Dc):x∈dU l↔x∈l:=(gj l).perm.mem_iff
theorem HD {a b:List Dc}(ha:a.Pairwise fun x y=>x.id<y.id)(hb:b.Pairwise fun x y=>x.id<y.id)(h:∀x,x∈a↔x∈b):a=b:=
 gJ (lt:=fun x y:Dc=>x.id<y.id) (fun x y h1 h2=>by omega) ha hb h
theorem Du {L:List Dc}(h:L.Pairwise fun x y=>x.id<y.id):dU L=L:=
 HD (AA (ra h)) h fun x=>oR x
structure wT (l:List Dc):Prop where
 n:l.length≤2000
 nd:(l.map (·.id)).Nodup
 v:∀d∈l,aX d=true
theorem wT.vd {l:List Dc}(h:wT l):VD (dU l):=⟨by rw[lR];exact h.n,AA h.nd,fun d hd=>h.v d ((oR d).1 hd)⟩
theorem VD.qt {L:List Dc}(h:VD L):wT L:=⟨h.n,ra h.lt,h.v⟩
theorem wT.build {l:List Dc}(h:wT l):bY l=(Iu (dU l),0):=by
 unfold bY Iu;rw[if_neg (by have:=h.n;omega),if_neg,if_neg (fun e=>e h.nd)];rw[Bool.not_eq_true,List.any_eq_false];intro d hd;simp[h.v d hd]
theorem VD.build {L:List Dc}(h:VD L):bY L=(Iu L,0):=by rw[h.qt.build,Du h.lt]
theorem vA {l:List Dc}(h:(bY l).2=0):wT l:=by
 unfold bY at h
 split at h
 ·exact absurd h (by decide)
 rename_i h1
 split at h
 ·exact absurd h (by decide)
 rename_i h2
 split at h
 ·exact absurd h (by decide)
 rename_i h3;refine⟨by omega,Classical.not_not.1 h3,fun d hd=>?_⟩;have:=List.any_eq_false.1 (by simpa using h2:l.any (fun d=>!aX d)=false) d hd;simpa using this
theorem xZ {l:List Dc}(h:(bY l).2≠0):(bY l).1=fl:=by
 unfold bY at h ⊢
 split
 ·rfl
 rename_i h1;rw[if_neg h1] at h
 split
 ·rfl
 rename_i h2;rw[if_neg h2] at h
 split
 ·rfl
 rename_i h3;rw[if_neg h3] at h;exact absurd rfl h
theorem oi:mh fl:=⟨by simp[fl],by simp[fl],fun t ht=>by simp[fl] at ht,by simp[fl],fun c hc=>by simp[fl] at hc⟩
def gO (s t:Sg):Sg×Int:=
 if aP s=true∧aP t=true then if comb (fun p q=>p&&q) s.an t.an=[] then bY (bI s++bI t) else (fl,10) else (fl,1)
def ig (s:Sg)(ids:List Int):List Dc:=(bI s).filter fun d=>!decide (d.id∈ids)
def qE (s:Sg)(ids:List Int):Sg:=(bY (ig s ids)).1
theorem VD.drop {L:List Dc}(h:VD L)(ids:List Int):qE (Iu L) ids=Iu (L.filter fun d=>!decide (d.id∈ids)):=by
 unfold qE ig;rw[h.an,(h.filter _).build]
end Go.Proofs.YtneohapkboaplaaGreat
