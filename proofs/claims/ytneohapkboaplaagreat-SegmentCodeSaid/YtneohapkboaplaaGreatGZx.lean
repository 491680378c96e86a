/- What Build returns is a valid segment (layer 39). What is found in what Build returns (layer 39). Sizes of the documents of a segment (layer 39, plain). The documents of what Build returns are the documents (layer 39, plain). What Build, Merge and Drop return, in plain lists (layer 39).
  Conditions: as the theorems say. -/
import Derived.Test.YtneohapkboaplaaGreatGZc
import Derived.Test.YtneohapkboaplaaGreatGV
import Derived.Test.YtneohapkboaplaaGreatPZ
import Derived.Test.YtneohapkboaplaaGreatGFA
import Derived.Test.YtneohapkboaplaaGreatGFB
import Derived.Test.YtneohapkboaplaaGreatGZb
set_option linter.all false
set_option maxRecDepth 100000
open List (getD_eq_getElem?_getD getElem?_eq_getElem pairwise_map pairwise_iff_getElem pairwise_flatMap)
namespace eB
open gH Go.Am Go.Proofs.YtneohapkboaplaaGreat dc
theorem Cq {α:Type}{R:α→α→Prop}{l:List α}(h:l.Pairwise R)(d:α){i:Nat}(h0:0<i)(hi:i<l.length):R (l.getD (i-1) d) (l.getD i d):=by
 have:=List.pairwise_iff_getElem.1 h (i-1) i (by omega) hi (by omega);rw[getD_eq_getElem?_getD,getD_eq_getElem?_getD,getElem?_eq_getElem (by omega:i-1<l.length),getElem?_eq_getElem hi];exact this
theorem P9 {ws:List Wd}(h:∀k,k<ws.length→tU ws k=true):(ws.map (·.2)).Pairwise (·<·):=by
 have key:∀j i,i<j→j<ws.length→(ws.getD i w0).2<(ws.getD j w0).2:=by
  intro j
  induction j with
  |zero=>intro i h1;omega
  |succ j ih=>
   intro i h1 h2;have h3:=(kh (h (j+1) h2)).2.1;unfold nC at h3;rw[if_neg (by omega),Nat.add_sub_cancel] at h3;rcases Nat.lt_or_ge i j with h4|h4
   ·have:=ih i h4 (by omega);omega
   ·have:i=j:=by omega
    subst this;exact h3
 rw[pairwise_map,pairwise_iff_getElem];intro i j hi hj lY;have:=key j i lY hj;rw[getD_eq_getElem?_getD,getD_eq_getElem?_getD,getElem?_eq_getElem hi,getElem?_eq_getElem hj] at this;exact this
theorem Ea {zs:List Zn}{f:Int}{w:Wd}(h:w∈yA zs f):∃z∈zs,z.f=f∧yA zs f=z.ws:=by
 induction zs with
 |nil=>simp[yA] at h
 |cons z r ih=>
  unfold yA at h ⊢
  by_cases hz:z.f=f
  ·rw[if_pos hz];exact⟨z,by simp,hz,rfl⟩
  ·rw[if_neg hz] at h ⊢;obtain⟨y,h1,h2,h3⟩:=ih h;exact⟨y,by simp[h1],h2,h3⟩
theorem Ck {d:Dc}(h:bG d=true)(f:Int):((yA d.zs f).map (·.2)).Pairwise (·<·)∧∀w∈yA d.zs f,okW w.1=true∧0≤w.2∧w.2≤1000000∧1≤f∧f≤4:=by
 have hz:=(dj h).2.1;rcases Classical.em (yA d.zs f=[]) with he|he
 ·rw[he];exact⟨by simp,fun w hw=>by simp at hw⟩
 ·obtain⟨w1,yD⟩:=List.exists_mem_of_ne_nil _ he;obtain⟨z,h1,h2,h3⟩:=Ea yD;obtain⟨i,hi,e⟩:=bP z0 h1;have hk:=fc (hz i hi);rw[e] at hk;have hf:=iX hz i hi;rw[e] at hf;rw[h3];refine⟨P9 hk.2.2.2,fun w hw=>?_⟩;obtain⟨k,E5,da⟩:=bP w0 hw;have h5:=kh (hk.2.2.2 k E5);have h6:=rB hk.2.2.2 k E5;rw[da] at h5 h6;exact⟨h5.1,by omega,h5.2.2,by omega,by omega⟩
theorem oo {d:Dc}(h:bG d=true)(k:Ky):kC d k=xu (yA d.zs k.1) k.2:=(Gx h k).symm
theorem uL {d:Dc}(h:bG d=true)(k:Ky):(kC d k).Pairwise (·<·)∧∀p∈kC d k,0≤p∧p≤1000000∧okW k.2=true∧1≤k.1∧k.1≤4:=by
 rw[oo h];obtain⟨h1,h2⟩:=Ck h k.1;unfold xu;refine⟨h1.sublist (List.filter_sublist.map _),fun p hp=>?_⟩;obtain⟨w,hw,rfl⟩:=List.mem_map.1 hp;obtain⟨yD,NP⟩:=List.mem_filter.1 hw;have:=h2 w yD;have e:w.1=k.2:=by simpa using NP
 rw[←e];exact⟨this.2.1,this.2.2.1,this.1,this.2.2.2⟩
theorem JU {d:Dc}(h:bG d=true){k1 k2:Ky}(hf:k1.1=k2.1){p:Int}(h1:p∈kC d k1)(h2:p∈kC d k2):k1=k2:=by
 rw[oo h] at h1 h2;rw[hf] at h1;unfold xu at h1 h2;obtain⟨w,hw,e1⟩:=List.mem_map.1 h1;obtain⟨v,hv,e2⟩:=List.mem_map.1 h2;obtain⟨yD,NP⟩:=List.mem_filter.1 hw;obtain⟨hv1,hv2⟩:=List.mem_filter.1 hv;obtain⟨hp,_⟩:=Ck h k2.1;have hwv:w=v:=by
  obtain⟨i,hi,ei⟩:=List.mem_iff_getElem.1 yD;obtain⟨j,hj,ej⟩:=List.mem_iff_getElem.1 hv1;rw[pairwise_map,pairwise_iff_getElem] at hp;rcases Nat.lt_trichotomy i j with h3|h3|h3
  ·have:=hp i j hi hj h3;rw[ei,ej] at this;omega
  ·subst h3;rw[←ei,←ej]
  ·have:=hp j i hj hi h3;rw[ei,ej] at this;omega
 subst hwv;have a1:w.1=k1.2:=by simpa using NP
 have a2:w.1=k2.2:=by simpa using hv2
 exact Prod.ext hf (by rw[←a1,←a2])
theorem gI {L:List Dc}{k:Ky}{p:Ps}(h:p∈fT L k):∃d∈L,p=(d.id,kC d k)∧kC d k≠[]:=by
 unfold fT at h;obtain⟨d,hd,h1⟩:=List.mem_flatMap.1 h;unfold vq at h1
 split at h1
 ·simp at h1
 ·rename_i dW;exact⟨d,hd,by simpa using h1,dW⟩
theorem lO (k:Ky):∀{L:List Dc},(L.Pairwise fun x y=>x.id<y.id)→((fT L k).map (·.1)).Pairwise (·<·)
 |[],_=>by simp[fT]
 |d::r,h=>by
  have ⟨h1,h2⟩:=List.pairwise_cons.1 h;have e:fT (d::r) k=vq d k++fT r k:=by simp[fT]
  rw[e,List.map_append,List.pairwise_append];refine⟨?_,lO k h2,fun x hx y hy=>?_⟩
  ·unfold vq;split<;>simp
  ·have ex:x=d.id:=by
    unfold vq at hx
    split at hx
    ·simp at hx
    ·simpa using hx
   obtain⟨p,hp,rfl⟩:=List.mem_map.1 hy;obtain⟨d2,h3,rfl,_⟩:=gI hp;rw[ex];exact h1 d2 h3
theorem Es {L:List Dc}{k:Ky}(h:k∈kK L):∃d∈L,kC d k≠[]:=by
 obtain⟨d,hd,p,hp⟩:=(rR L k).1 h;refine⟨d,hd,fun e=>?_⟩;have:p∈kC d k:=by
  unfold kC;exact List.mem_map.2 ⟨_,List.mem_filter.2 ⟨hp,by simp⟩,rfl⟩
 rw[e] at this;simp at this
theorem JS {L:List Dc}{k:Ky}(h:k∈kK L):fT L k≠[]:=by
 obtain⟨d,hd,dW⟩:=Es h;intro e;have:(d.id,kC d k)∈fT L k:=by
  unfold fT;refine List.mem_flatMap.2 ⟨d,hd,?_⟩;unfold vq;rw[if_neg dW];simp
 rw[e] at this;simp at this
theorem AU {L:List Dc}(hs:L.Pairwise fun x y=>x.id<y.id)(hv:∀d∈L,bG d=true)(k:Ky):bc (fT L k)=true:=by
 unfold bc;rw[Bool.and_eq_true]
 constructor
 ·refine uC (lO k hs) fun q hq=>?_;obtain⟨p,hp,rfl⟩:=List.mem_map.1 hq;obtain⟨d,hd,rfl,_⟩:=gI hp;exact(dj (hv d hd)).1
 ·rw[Bool.not_eq_true',List.any_eq_false];intro p hp;obtain⟨d,hd,rfl,dW⟩:=gI hp;obtain⟨h1,h2⟩:=uL (hv d hd) k;unfold gA;rw[decide_eq_false (fun e=>dW (List.length_eq_zero_iff.1 e)),uC h1 fun q hq=>⟨(h2 q hq).1,(h2 q hq).2.1⟩];simp
theorem oq {L:List Dc}(hs:L.Pairwise fun x y=>x.id<y.id)(hv:∀d∈L,bG d=true):(mX (dK L)).Nodup:=by
 have aaF:∀d∈L,∀e∈L,d.id=e.id→d=e:=by
  intro d hd e he h;obtain⟨i,hi,e1⟩:=List.mem_iff_getElem.1 hd;obtain⟨j,hj,e2⟩:=List.mem_iff_getElem.1 he;rw[pairwise_iff_getElem] at hs;rcases Nat.lt_trichotomy i j with h3|h3|h3
  ·have:=hs i j hi hj h3;rw[e1,e2] at this;omega
  ·subst h3;rw[←e1,←e2]
  ·have:=hs j i hj hi h3;rw[e1,e2] at this;omega
 unfold mX;rw[List.Nodup,pairwise_flatMap]
 constructor
 ·intro t ht;obtain⟨k,hk,rfl⟩:=List.mem_map.1 ht;unfold np;rw[pairwise_flatMap]
  constructor
  ·intro p hp;obtain⟨d,hd,rfl,_⟩:=gI hp;unfold eg;have:=(uL (hv d hd) k).1;rw[pairwise_map];exact this.imp fun h e=>by
    have:=(Prod.mk.inj (Prod.mk.inj e).2).2;omega
  ·have:=lO k hs;rw[pairwise_map] at this;refine this.imp fun {p q} ZH=>?_;intro x hx y hy e;obtain⟨a,_,rfl⟩:=List.mem_map.1 hx;obtain⟨b,_,rfl⟩:=List.mem_map.1 hy;have:=(Prod.mk.inj (Prod.mk.inj e).2).1;omega
 ·unfold dK;rw[pairwise_map];refine(rQ L).imp fun {k1 k2} hk=>?_;intro x hx y hy e;obtain⟨p,hp,hx2⟩:=List.mem_flatMap.1 hx;obtain⟨q,hq,hy2⟩:=List.mem_flatMap.1 hy;obtain⟨d,hd,rfl,_⟩:=gI hp;obtain⟨d2,jc,rfl,_⟩:=gI hq;obtain⟨a,ha,rfl⟩:=List.mem_map.1 hx2;obtain⟨b,hb,rfl⟩:=List.mem_map.1 hy2;have e1:=(Prod.mk.inj e).1;have e2:=(Prod.mk.inj (Prod.mk.inj e).2).1;have e3:=(Prod.mk.inj (Prod.mk.inj e).2).2;simp only at e1 e2 e3;have Xc:=aaF d hd d2 jc e2;subst Xc;subst e3;have:=JU (hv d hd) e1 ha hb;rw[this,gM] at hk
  cases hk
theorem I4 {d:Dc}(h:bG d=true):d.ns.Pairwise fun x y=>dJ x y=true:=by
 have h3:=(dj h).2.2;have key:∀j i,i<j→j<d.ns.length→dJ (d.ns.getD i n0) (d.ns.getD j n0)=true:=by
  intro j
  induction j with
  |zero=>intro i h1;omega
  |succ j ih=>
   intro i h1 h2;have h4:=h3 (j+1) h2;unfold sP at h4;simp only[Bool.and_eq_true,Bool.or_eq_true,decide_eq_true_eq,Nat.add_sub_cancel] at h4;have h5:dJ (d.ns.getD j n0) (d.ns.getD (j+1) n0)=true:=by
    rcases h4.2 with h6|h6
    ·omega
    ·exact h6
   rcases Nat.lt_or_ge i j with h7|h7
   ·exact pB (ih i h7 (by omega)) h5
   ·have:i=j:=by omega
    subst this;exact h5
 rw[pairwise_iff_getElem];intro i j hi hj lY;have:=key j i lY hj;rw[getD_eq_getElem?_getD,getD_eq_getElem?_getD,getElem?_eq_getElem hi,getElem?_eq_getElem hj] at this;exact this
theorem z6 {L:List Dc}{f:Int}{x:Nm}(h:x∈kX L f):∃d∈L,x.2=d.id∧(f,x.1)∈d.ns:=by
 unfold kX at h;obtain⟨d,hd,h1⟩:=List.mem_flatMap.1 h;obtain⟨y,hy,rfl⟩:=List.mem_map.1 h1;obtain⟨h2,h3⟩:=List.mem_filter.1 hy;have e:y.1=f:=by simpa using h3
 exact⟨d,hd,rfl,by rw[←e];exact h2⟩
theorem vb {L:List Dc}(hs:L.Pairwise fun x y=>x.id<y.id)(hv:∀d∈L,bG d=true)(f:Int):(kX L f).Nodup:=by
 unfold kX;rw[List.Nodup,pairwise_flatMap]
 constructor
 ·intro d hd;rw[pairwise_map];have h1:=(I4 (hv d hd)).sublist (List.filter_sublist (p:=fun x=>x.1==f));have h2:∀x∈d.ns.filter (fun x=>x.1==f),x.1=f:=fun x hx=>by simpa using(List.mem_filter.1 hx).2
  refine h1.imp_of_mem fun {a b} ha hb jA e=>?_;have e1:=(Prod.mk.inj e).1;rcases (lF a b).1 jA with h3|h3
  ·rw[h2 a ha,h2 b hb] at h3;omega
  ·omega
 ·refine hs.imp fun {d e} hde=>?_;intro x hx y hy exy;obtain⟨a,_,rfl⟩:=List.mem_map.1 hx;obtain⟨b,_,rfl⟩:=List.mem_map.1 hy;have:=(Prod.mk.inj exy).2;omega
theorem Dh (l:List Nm):(jj l).Pairwise fun x y=>dJ y x=false:=by
 have key:∀(l a:List Nm),(a.Pairwise fun x y=>dJ y x=false)→(l.foldl (fun a d=>sT d a) a).Pairwise fun x y=>dJ y x=false:=by
  intro l
  induction l with
  |nil=>intro a h;exact h
  |cons d r ih=>intro a h;exact ih _ (z7 d h)
 exact key l [] .nil
theorem wO {l:List Nm}(h:l.Nodup):(jj l).Pairwise fun x y=>dJ x y=true:=by
 have h1:=Dh l;have h2:(jj l).Pairwise (·≠·):=(iZ l).nodup_iff.2 h;refine(h1.and h2).imp fun {x y} ⟨a,b⟩=>?_
 cases NM:dJ x y with
 |true=>rfl
 |false=>exact absurd (pC NM a) b
theorem rZ {L:List Dc}{c:Cl}(h:c∈eC L):(5≤c.f∧c.f≤7)∧kX L c.f≠[]∧c.x=jj (kX L c.f):=by
 have key:∀f,c∈rk L f→c.f=f∧kX L c.f≠[]∧c.x=jj (kX L c.f):=fun f hf=>by
  unfold rk at hf
  split at hf
  ·simp at hf
  ·rename_i dW;have:c=⟨f,jj (kX L f)⟩:=by simpa using hf
   subst this;exact⟨rfl,dW,rfl⟩
 unfold eC at h;rcases List.mem_append.1 h with h|h
 ·rcases List.mem_append.1 h with h|h
  ·obtain⟨a,b⟩:=key 5 h;exact⟨by omega,b⟩
  ·obtain⟨a,b⟩:=key 6 h;exact⟨by omega,b⟩
 ·obtain⟨a,b⟩:=key 7 h;exact⟨by omega,b⟩
theorem xb (L:List Dc):(eC L).Pairwise fun x y=>x.f<y.f:=by
 have one:∀f,(rk L f).Pairwise fun x y=>x.f<y.f:=fun f=>by unfold rk;split<;>simp
 have N6:∀f,∀c∈rk L f,c.f=f:=fun f c hc=>by
  unfold rk at hc
  split at hc
  ·simp at hc
  ·have:c=⟨f,jj (kX L f)⟩:=by simpa using hc
   rw[this]
 unfold eC;rw[List.pairwise_append,List.pairwise_append];refine⟨⟨one 5,one 6,fun x hx y hy=>by rw[N6 5 x hx,N6 6 y hy];omega⟩,one 7,fun x hx y hy=>?_⟩;rw[N6 7 y hy];rcases List.mem_append.1 hx with h|h
 ·rw[N6 5 x h];omega
 ·rw[N6 6 x h];omega
theorem sr {L:List Dc}(hl:L.length≤2000)(hs:L.Pairwise fun x y=>x.id<y.id)(hv:∀d∈L,bG d=true):aW ⟨L.map (·.id),dK L,eC L⟩=true:=by
 have Im:(L.map (·.id)).Pairwise (·<·):=by rw[pairwise_map];exact hs
 refine nR ?_ (by simpa using hl) (fun i hi=>?_) (oq hs hv) (fun i hi=>?_)
 ·refine uC Im fun q hq=>?_;obtain⟨d,hd,rfl⟩:=List.mem_map.1 hq;exact(dj (hv d hd)).1
 ·simp only at hi ⊢;have lW:i<(kK L).length:=by unfold dK at hi;rwa [List.length_map] at hi
  have jV:∀j,j<(kK L).length→(dK L).getD j t0=⟨((kK L).getD j ((0,[]):Ky)).1,((kK L).getD j ((0,[]):Ky)).2,fT L ((kK L).getD j ((0,[]):Ky))⟩:=fun j hj=>by
   unfold dK;rw[getD_eq_getElem?_getD,List.getElem?_map,getD_eq_getElem?_getD,getElem?_eq_getElem hj];rfl
  have lv:=aR (kK L) i ((0,[]):Ky) lW;obtain⟨d,hd,dW⟩:=Es lv;obtain⟨p,hp⟩:=List.exists_mem_of_ne_nil _ dW;have fC:=(uL (hv d hd) _).2 p hp
  constructor
  ·unfold jT;rw[jV i lW];simp only[Bool.and_eq_true,Bool.or_eq_true,decide_eq_true_eq];refine⟨⟨fC.2.2.2,fC.2.2.1⟩,?_⟩;rcases Nat.eq_zero_or_pos i with h0|h0
   ·exact .inl h0
   ·right
    rw[jV (i-1) (by omega)];exact Cq (rQ L) ((0,[]):Ky) h0 lW
  ·unfold qV;rw[jV i lW];simp only[Bool.and_eq_true,decide_eq_true_eq];refine⟨⟨JS lv,AU hs hv _⟩,fun q hq=>?_⟩;obtain⟨d2,jc,rfl,_⟩:=gI hq;exact List.mem_map.2 ⟨d2,jc,rfl⟩
 ·simp only at hi ⊢;have lv:=aR (eC L) i c0 hi;obtain⟨h1,h2,h3⟩:=rZ lv
  constructor
  ·unfold lq;simp only[Bool.and_eq_true,Bool.or_eq_true,decide_eq_true_eq];refine⟨⟨h1,fun e=>h2 ?_⟩,?_⟩
   ·rw[h3] at e;have:=(iZ (kX L ((eC L).getD i c0).f)).length_eq;rw[e] at this;exact List.length_eq_zero_iff.1 this.symm
   ·rcases Nat.eq_zero_or_pos i with h0|h0
    ·exact .inl h0
    ·exact .inr (Cq (xb L) c0 h0 hi)
  ·intro k hk;have bh:=wO (vb hs hv ((eC L).getD i c0).f);rw[←h3] at bh;have da:=aR ((eC L).getD i c0).x k n0 hk;have ko:((eC L).getD i c0).x.getD k n0∈kX L ((eC L).getD i c0).f:=(iZ _).mem_iff.1 (by rw[←h3];exact da);obtain⟨d,hd,e1,e2⟩:=z6 ko;obtain⟨m,hm,e3⟩:=bP n0 e2;have R1:=(dj (hv d hd)).2.2 m hm;unfold sP at R1;rw[e3] at R1;unfold xw at R1;simp only[Bool.and_eq_true,decide_eq_true_eq] at R1;unfold jC;simp only[Bool.and_eq_true,Bool.or_eq_true,decide_eq_true_eq];refine⟨⟨by rw[e1];exact List.mem_map.2 ⟨d,hd,rfl⟩,R1.1.2⟩,?_⟩;rcases Nat.eq_zero_or_pos k with h0|h0
   ·exact .inl h0
   ·exact .inr (Cq bh n0 h0 hk)
end eB
namespace Go.Proofs.YtneohapkboaplaaGreat
open Go Go.Am gH eB dc
def Lh (L:List Dc):Sg:=⟨L.map (·.id),dK L,eC L⟩
section
variable {L : List Dc} (hl : L.length ≤ 2000) (hs : L.Pairwise fun x y => x.id < y.id) (hv : ∀ d ∈ L, bG d = true)
include hl hs hv
theorem sy (k:Ky){d:Dc}(hd:d∈L):posOf (fT L k) d.id=kC d k:=by
 rcases Classical.em (kC d k=[]) with he|he
 ·rw[he];refine my fun p hp e=>?_;obtain⟨d2,jc,rfl,dW⟩:=gI hp;have:d2=d:=by
   obtain⟨i,hi,e1⟩:=List.mem_iff_getElem.1 hd;obtain⟨j,hj,e2⟩:=List.mem_iff_getElem.1 jc;rw[pairwise_iff_getElem] at hs;simp only at e;rcases Nat.lt_trichotomy i j with h3|h3|h3
   ·have:=hs i j hi hj h3;rw[e1,e2] at this;omega
   ·subst h3;rw[←e1,←e2]
   ·have:=hs j i hj hi h3;rw[e1,e2] at this;omega
  subst this;exact dW he
 ·have hm:(d.id,kC d k)∈fT L k:=by
   unfold fT;refine List.mem_flatMap.2 ⟨d,hd,?_⟩;unfold vq;rw[if_neg he];simp
  exact rL (show mW (fT L k) from lO k hs) hm
end
theorem Ac (w:Bs):lx [] w=true:=by simp[lx]
theorem gm {α:Type}{lt:α→α→Prop}(asym:∀x y,lt x y→lt y x→False):∀{a b:List α},a.Pairwise lt→b.Pairwise lt→(∀x,x∈a↔x∈b)→a=b
 |[],[],_,_,_=>rfl
 |[],y::b,_,_,h=>by have:=(h y).2 (by simp);simp at this
 |x::a,[],_,_,h=>by have:=(h x).1 (by simp);simp at this
 |x::a,y::b,ha,hb,h=>by
  have ⟨a1,a2⟩:=List.pairwise_cons.1 ha;have ⟨b1,b2⟩:=List.pairwise_cons.1 hb;have e:x=y:=by
   rcases List.mem_cons.1 ((h x).1 (by simp)) with h1|h1
   ·exact h1
   rcases List.mem_cons.1 ((h y).2 (by simp)) with h2|h2
   ·exact h2.symm
   exact(asym _ _ (b1 x h1) (a1 y h2)).elim
  subst e;rw[gm asym a2 b2 fun z=>⟨fun hz=>?_,fun hz=>?_⟩]
  ·rcases List.mem_cons.1 ((h z).1 (by simp[hz])) with e|h1
   ·subst e;exact(asym _ _ (a1 z hz) (a1 z hz)).elim
   ·exact h1
  ·rcases List.mem_cons.1 ((h z).2 (by simp[hz])) with e|h1
   ·subst e;exact(asym _ _ (b1 z hz) (b1 z hz)).elim
   ·exact h1
theorem IZ {d:Dc}(h:bG d=true):d.zs.Pairwise fun x y=>x.f<y.f:=by
 have h3:=(dj h).2.1;have key:∀j i,i<j→j<d.zs.length→(d.zs.getD i z0).f<(d.zs.getD j z0).f:=by
  intro j
  induction j with
  |zero=>intro i h1;omega
  |succ j ih=>
   intro i h1 h2;have h4:=(fc (h3 (j+1) h2)).1;unfold lz at h4;rw[if_neg (by omega),Nat.add_sub_cancel] at h4;rcases Nat.lt_or_ge i j with h5|h5
   ·have:=ih i h5 (by omega);omega
   ·have:i=j:=by omega
    subst this;exact h4
 rw[pairwise_iff_getElem];intro i j hi hj lY;have:=key j i lY hj;rw[getD_eq_getElem?_getD,getD_eq_getElem?_getD,getElem?_eq_getElem hi,getElem?_eq_getElem hj] at this;exact this
theorem zg:∀{zs:List Zn},(zs.Pairwise fun x y=>x.f<y.f)→∀z∈zs,yA zs z.f=z.ws
 |[],_,z,h=>by simp at h
 |y::r,hp,z,h=>by
  have ⟨h1,h2⟩:=List.pairwise_cons.1 hp;unfold yA;rcases List.mem_cons.1 h with e|h3
  ·subst e;rw[if_pos rfl]
  ·rw[if_neg (by have:=h1 z h3;omega)];exact zg h2 z h3
theorem Tv {d:Dc}(h:bG d=true){z:Zn}(hz:z∈d.zs):z.ws≠[]∧1≤z.f∧z.f≤4:=by
 have h3:=(dj h).2.1;obtain⟨i,hi,e⟩:=bP z0 hz;have hk:=fc (h3 i hi);have hf:=iX h3 i hi;rw[e] at hk hf;exact⟨fun e=>hk.2.2.1 (by rw[e];rfl),by omega,hk.2.1⟩
theorem AP (g:Int→List Wd):(kP g).Pairwise fun x y=>x.f<y.f:=by
 unfold kP;rw[pairwise_flatMap];refine⟨fun f _=>by split<;>simp,?_⟩;have N6:∀f,∀z∈(if g f=[] then [] else [(⟨f,g f⟩:Zn)]),z.f=f:=fun f z hz=>by
  split at hz
  ·simp at hz
  ·rw[List.mem_singleton.1 hz]
 simp only[List.pairwise_cons,List.mem_cons,List.not_mem_nil,or_false];refine⟨?_,?_,?_,?_,List.Pairwise.nil⟩
 all_goals (intro f' Sc x hx y hy;rw[N6 _ x hx,N6 _ y hy])
 ·rcases Sc with rfl|rfl|rfl<;>decide
 ·rcases Sc with rfl|rfl<;>decide
 ·subst Sc;decide
 ·exact Sc.elim
theorem AO {d:Dc}(h:bG d=true):kP (yA d.zs)=d.zs:=by
 refine gm (lt:=fun x y:Zn=>x.f<y.f) (fun x y h1 h2=>by omega) (AP _) (IZ h) fun z=>⟨fun hz=>?_,fun hz=>?_⟩
 ·obtain⟨h1,h2,_⟩:=AQ hz;obtain⟨w,hw⟩:=List.exists_mem_of_ne_nil _ h1;rw[h2] at hw;obtain⟨y,h3,h4,h5⟩:=Ea hw;have:z=y:=by
   obtain⟨zf,zw⟩:=z;obtain⟨yf,yw⟩:=y;simp only at h2 h4 h5;rw[h4,h2,h5]
  rw[this];exact h3
 ·obtain⟨h1,h2,h3⟩:=Tv h hz;have e:=zg (IZ h) z hz;unfold kP;refine List.mem_flatMap.2 ⟨z.f,?_,?_⟩
  ·rcases (by omega:z.f=1∨z.f=2∨z.f=3∨z.f=4) with e|e|e|e<;>simp[e]
  ·rw[e,if_neg h1];simp
theorem zM (ws:List Wd)(w:Bs)(a:Int):a∈xu ws w↔(w,a)∈ws:=by
 unfold xu
 constructor
 ·intro h;obtain⟨x,hx,rfl⟩:=List.mem_map.1 h;obtain⟨h1,h2⟩:=List.mem_filter.1 hx;have e:x.1=w:=by simpa using h2
  rw[←e];exact h1
 ·intro h;exact List.mem_map.2 ⟨(w,a),List.mem_filter.2 ⟨h,by simp⟩,rfl⟩
theorem JV {L:List Dc}{d:Dc}(hd:d∈L){k:Ky}{a:Int}(h:a∈kC d k):k∈kK L:=by
 unfold kC at h;obtain⟨w,hw,_⟩:=List.mem_map.1 h;obtain⟨yD,NP⟩:=List.mem_filter.1 hw;have e3:w.1=k:=by simpa using NP
 exact(rR L k).2 ⟨d,hd,w.2,by rw[←e3];exact yD⟩
section
variable {L : List Dc} (hl : L.length ≤ 2000) (hs : L.Pairwise fun x y => x.id < y.id) (hv : ∀ d ∈ L, bG d = true)
include hl hs hv
theorem Db {d:Dc}(hd:d∈L)(f:Int):ui (occs (dK L) d.id f)=yA d.zs f:=by
 have aaT:∀t∈dK L,mW t.l:=fun t ht=>by
  obtain⟨k,_,rfl⟩:=List.mem_map.1 ht;exact lO k hs
 have h1:=CP (occs (dK L) d.id f);have dW:=M8 (eB.oq hs hv) d.id f;have sym:∀x y:Wd,x.2≠y.2→y.2≠x.2:=fun _ _ h e=>h e.symm;have bh:(ui (occs (dK L) d.id f)).Pairwise fun x y=>x.2<y.2:=(h1.2.and ((h1.1.pairwise_iff (fun {x y} h=>sym x y h)).2 dW)).imp fun⟨h1,h2⟩=>by omega
 refine gm (lt:=fun x y:Wd=>x.2<y.2) (fun x y h1 h2=>by omega) bh (List.pairwise_map.1 (Ck (hv d hd) f).1) fun x=>?_;rw[h1.1.mem_iff,zU aaT];obtain⟨w,a⟩:=x;rw[List.mem_flatMap]
 constructor
 ·rintro⟨t,ht,hx⟩;obtain⟨k,hk,rfl⟩:=List.mem_map.1 ht;unfold WK at hx;simp only at hx
  split at hx
  ·rename_i hf;rw[sy hl hs hv k hd] at hx;obtain⟨b,hb,e⟩:=List.mem_map.1 hx;obtain⟨e1,e2⟩:=Prod.mk.inj e;rw[oo (hv d hd),zM] at hb;rw[←hf,←e1,←e2];exact hb
  ·simp at hx
 ·intro hx;have hp:a∈kC d (f,w):=by rw[oo (hv d hd),zM];exact hx
  refine⟨⟨f,w,fT L (f,w)⟩,List.mem_map.2 ⟨(f,w),JV hd hp,rfl⟩,?_⟩;unfold WK;rw[if_pos rfl];simp only;rw[sy hl hs hv (f,w) hd];exact List.mem_map.2 ⟨a,hp,rfl⟩
theorem GL {d:Dc}(hd:d∈L):RI (eC L) d.id=d.ns:=by
 have Ra:∀d2∈L,d2.id=d.id→d2=d:=fun d2 jc e=>by
  obtain⟨i,hi,e1⟩:=List.mem_iff_getElem.1 hd;obtain⟨j,hj,e2⟩:=List.mem_iff_getElem.1 jc;rw[pairwise_iff_getElem] at hs;rcases Nat.lt_trichotomy i j with h3|h3|h3
  ·have:=hs i j hi hj h3;rw[e1,e2] at this;omega
  ·subst h3;rw[←e1,←e2]
  ·have:=hs j i hj hi h3;rw[e1,e2] at this;omega
 have lv:∀c∈eC L,∀y:Nm,y∈c.x↔y∈kX L c.f:=fun c hc y=>by
  rw[(rZ hc).2.2];exact(iZ _).mem_iff
 have asym:∀x y:Nm,dJ x y=true→dJ y x=true→False:=fun x y h1 h2=>by rw[pD h1] at h2;cases h2
 refine gm (lt:=fun x y=>dJ x y=true) asym ?_ (I4 (hv d hd)) fun x=>?_
 ·unfold RI;rw[pairwise_flatMap];refine⟨fun c hc=>?_,(xb L).imp fun {a b} jA x hx y hy=>?_⟩
  ·rw[pairwise_map];have hx:=(rZ hc).2.2;have h1:c.x.Pairwise fun x y=>dJ x y=true:=by rw[hx];exact wO (vb hs hv c.f)
   refine(h1.sublist (List.filter_sublist (p:=fun y=>y.2==d.id))).imp_of_mem fun {x y} hx hy NM=>?_;have e1:x.2=d.id:=by simpa using(List.mem_filter.1 hx).2
   have e2:y.2=d.id:=by simpa using(List.mem_filter.1 hy).2
   rw[lF] at NM;refine(lF _ _).2 (.inr ⟨rfl,?_⟩);show x.1<y.1;omega
  ·obtain⟨p,_,rfl⟩:=List.mem_map.1 hx;obtain⟨q,_,rfl⟩:=List.mem_map.1 hy;rw[lF];exact .inl jA
 ·unfold RI;rw[List.mem_flatMap]
  constructor
  ·rintro⟨c,hc,hx⟩;obtain⟨y,hy,rfl⟩:=List.mem_map.1 hx;obtain⟨h1,h2⟩:=List.mem_filter.1 hy;have e:y.2=d.id:=by simpa using h2
   obtain⟨d2,jc,e2,h3⟩:=z6 ((lv c hc y).1 h1);rw[Ra d2 jc (by omega)] at h3;exact h3
  ·intro hx;obtain⟨f,n⟩:=x;obtain⟨i,hi,e⟩:=bP n0 hx;have hf:=(dj (hv d hd)).2.2 i hi;unfold sP xw at hf;rw[e] at hf;simp only[Bool.and_eq_true,decide_eq_true_eq] at hf;have Lr:(n,d.id)∈kX L f:=List.mem_flatMap.2 ⟨d,hd,List.mem_map.2 ⟨(f,n),List.mem_filter.2 ⟨hx,by simp⟩,rfl⟩⟩;have dW:kX L f≠[]:=fun e=>by rw[e] at Lr;simp at Lr
   have pV:(⟨f,jj (kX L f)⟩:Cl)∈eC L:=by
    have:(⟨f,jj (kX L f)⟩:Cl)∈rk L f:=by unfold rk;rw[if_neg dW];simp
    unfold eC;rcases (by omega:f=5∨f=6∨f=7) with e|e|e<;>subst e<;>simp[this]
   refine⟨_,pV,List.mem_map.2 ⟨(n,d.id),List.mem_filter.2 ⟨?_,by simp⟩,rfl⟩⟩;exact(iZ _).mem_iff.2 Lr
theorem Bq:IW (Lh L)=L:=by
 unfold IW;show (L.map (·.id)).map _=L;rw[List.map_map]
 conv=>rhs;rw[←List.map_id L]
 refine List.map_congr_left fun d hd=>?_;show (⟨d.id,kP fun f=>ui (occs (dK L) d.id f),RI (eC L) d.id⟩:Dc)=d;have e:(fun f=>ui (occs (dK L) d.id f))=yA d.zs:=funext fun f=>Db hl hs hv hd f;rw[e,AO (hv d hd),GL hl hs hv hd]
theorem Bp:D2 (Lh L)=L:=by
 unfold D2;rw[if_pos (show aW (Lh L)=true from sr hl hs hv)];exact Bq hl hs hv
end
structure VD (L:List Dc):Prop where
 n:L.length≤2000
 lt:L.Pairwise fun x y=>x.id<y.id
 v:∀d∈L,bG d=true
theorem VD.valid {L:List Dc}(h:VD L):aW (Lh L)=true:=sr h.n h.lt h.v
theorem VD.aw {L:List Dc}(h:VD L):D2 (Lh L)=L:=Bp h.n h.lt h.v
theorem VD.filter {L:List Dc}(h:VD L)(p:Dc→Bool):VD (L.filter p):=
 ⟨Nat.le_trans (List.length_filter_le _ _) h.n,h.lt.sublist List.filter_sublist,fun d hd=>h.v d (List.mem_filter.1 hd).1⟩
theorem zz {l:List Dc}(hn:(l.map (·.id)).Nodup):(mF l).Pairwise fun x y=>x.id<y.id:=by
 have hp:=(iY l).perm;have h4:=(iY l).ord;have h5:((mF l).map (·.id)).Nodup:=(hp.map _).nodup_iff.2 hn;rw[List.Nodup,pairwise_map] at h5;exact(h4.and h5).imp fun {x y} ⟨a,b⟩=>by omega
theorem wm {l:List Dc}(x:Dc):x∈mF l↔x∈l:=(iY l).perm.mem_iff
theorem GV {a b:List Dc}(ha:a.Pairwise fun x y=>x.id<y.id)(hb:b.Pairwise fun x y=>x.id<y.id)(h:∀x,x∈a↔x∈b):a=b:=
 gm (lt:=fun x y:Dc=>x.id<y.id) (fun x y h1 h2=>by omega) ha hb h
theorem CS {L:List Dc}(h:L.Pairwise fun x y=>x.id<y.id):mF L=L:=
 GV (zz (uQ h)) h fun x=>wm x
structure y9 (l:List Dc):Prop where
 n:l.length≤2000
 nd:(l.map (·.id)).Nodup
 v:∀d∈l,bG d=true
theorem y9.vd {l:List Dc}(h:y9 l):VD (mF l):=⟨by rw[Gd];exact h.n,zz h.nd,fun d hd=>h.v d ((wm d).1 hd)⟩
theorem VD.ub {L:List Dc}(h:VD L):y9 L:=⟨h.n,uQ h.lt,h.v⟩
theorem y9.build {l:List Dc}(h:y9 l):gD l=(Lh (mF l),0):=by
 unfold gD Lh;rw[if_neg (by have:=h.n;omega),if_neg,if_neg (fun e=>e h.nd)];rw[Bool.not_eq_true,List.any_eq_false];intro d hd;simp[h.v d hd]
theorem VD.build {L:List Dc}(h:VD L):gD L=(Lh L,0):=by rw[h.ub.build,CS h.lt]
theorem Ke:re gh:=⟨by simp[gh],by simp[gh],fun t ht=>by simp[gh] at ht,by simp[gh],fun c hc=>by simp[gh] at hc⟩
def Oo (s:Sg)(ids:List Int):List Dc:=(D2 s).filter fun d=>!decide (d.id∈ids)
def OJ (s:Sg)(ids:List Int):Sg:=(gD (Oo s ids)).1
theorem VD.drop {L:List Dc}(h:VD L)(ids:List Int):OJ (Lh L) ids=Lh (L.filter fun d=>!decide (d.id∈ids)):=by
 unfold OJ Oo;rw[h.aw,(h.filter _).build]
end Go.Proofs.YtneohapkboaplaaGreat
