/- What Build returns is a valid segment (layer 39). What is found in what Build returns (layer 39). Sizes of the documents of a segment (layer 39, plain). The documents of what Build returns are the documents (layer 39, plain). What Build, Merge and Drop return, in plain lists (layer 39). Segments of two sets of documents and of both (layer 39, plain).
  Conditions: as the theorems say. -/
import Derived.Test.YtoejlmpbebjemaaGreatGZc
import Derived.Test.YtoejlmpbebjemaaGreatGV
import Derived.Test.YtoejlmpbebjemaaGreatPZ
import Derived.Test.YtoejlmpbebjemaaGreatGFA
import Derived.Test.YtoejlmpbebjemaaGreatGFB
import Derived.Test.YtoejlmpbebjemaaGreatGZb
set_option linter.all false
set_option maxRecDepth 100000
namespace Seg
open Sug Go.Am Go.Proofs.YtoejlmpbebjemaaGreat Post
theorem pw_adj {α:Type}{R:α→α→Prop}{l:List α}(h:l.Pairwise R)(d:α){i:Nat}(h0:0<i)(hi:i<l.length):R (l.getD (i-1) d) (l.getD i d):=by
 have:=List.pairwise_iff_getElem.1 h (i-1) i (by omega) hi (by omega);rw[List.getD_eq_getElem?_getD,List.getD_eq_getElem?_getD,List.getElem?_eq_getElem (by omega:i-1<l.length),List.getElem?_eq_getElem hi];exact this
theorem ws_pos {ws:List Wd}(h:∀k,k<ws.length→okWd ws k=true):(ws.map (·.2)).Pairwise (·<·):=by
 have key:∀j i,i<j→j<ws.length→(ws.getD i w0).2<(ws.getD j w0).2:=by
  intro j
  induction j with
  |zero=>intro i h1;omega
  |succ j ih=>
   intro i h1 h2;have h3:=(okWd_parts (h (j+1) h2)).2.1;unfold lastW at h3;rw[if_neg (by omega),Nat.add_sub_cancel] at h3;rcases Nat.lt_or_ge i j with h4|h4
   ·have:=ih i h4 (by omega);omega
   ·have:i=j:=by omega
    subst this;exact h3
 rw[List.pairwise_map,List.pairwise_iff_getElem];intro i j hi hj hij;have:=key j i hij hj;rw[List.getD_eq_getElem?_getD,List.getD_eq_getElem?_getD,List.getElem?_eq_getElem hi,List.getElem?_eq_getElem hj] at this;exact this
theorem wzf_mem {zs:List Zn}{f:Int}{w:Wd}(h:w∈wzf zs f):∃z∈zs,z.f=f∧wzf zs f=z.ws:=by
 induction zs with
 |nil=>simp[wzf] at h
 |cons z r ih=>
  unfold wzf at h ⊢
  by_cases hz:z.f=f
  ·rw[if_pos hz];exact⟨z,by simp,hz,rfl⟩
  ·rw[if_neg hz] at h ⊢;obtain⟨y,h1,h2,h3⟩:=ih h;exact⟨y,by simp[h1],h2,h3⟩
theorem wzf_ok {d:Dc}(h:validD d=true)(f:Int):((wzf d.zs f).map (·.2)).Pairwise (·<·)∧∀w∈wzf d.zs f,okW w.1=true∧0≤w.2∧w.2≤1000000∧1≤f∧f≤4:=by
 have hz:=(validD_parts h).2.1;rcases Classical.em (wzf d.zs f=[]) with he|he
 ·rw[he];exact⟨by simp,fun w hw=>by simp at hw⟩
 ·obtain⟨w1,hw1⟩:=List.exists_mem_of_ne_nil _ he;obtain⟨z,h1,h2,h3⟩:=wzf_mem hw1;obtain⟨i,hi,e⟩:=mem_getD z0 h1;have hk:=okZn_parts (hz i hi);rw[e] at hk;have hf:=valid_field hz i hi;rw[e] at hf;rw[h3];refine⟨ws_pos hk.2.2.2,fun w hw=>?_⟩;obtain⟨k,hk1,hk2⟩:=mem_getD w0 hw;have h5:=okWd_parts (hk.2.2.2 k hk1);have h6:=valid_pos hk.2.2.2 k hk1;rw[hk2] at h5 h6;exact⟨h5.1,by omega,h5.2.2,by omega,by omega⟩
theorem posD_posZ {d:Dc}(h:validD d=true)(k:Ky):posD d k=posZ (wzf d.zs k.1) k.2:=(posR_posD h k).symm
theorem posD_asc {d:Dc}(h:validD d=true)(k:Ky):(posD d k).Pairwise (·<·)∧∀p∈posD d k,0≤p∧p≤1000000∧okW k.2=true∧1≤k.1∧k.1≤4:=by
 rw[posD_posZ h];obtain⟨h1,h2⟩:=wzf_ok h k.1;unfold posZ;refine⟨h1.sublist (List.filter_sublist.map _),fun p hp=>?_⟩;obtain⟨w,hw,rfl⟩:=List.mem_map.1 hp;obtain⟨hw1,hw2⟩:=List.mem_filter.1 hw;have:=h2 w hw1;have e:w.1=k.2:=by simpa using hw2
 rw[←e];exact⟨this.2.1,this.2.2.1,this.1,this.2.2.2⟩
theorem posD_one {d:Dc}(h:validD d=true){k1 k2:Ky}(hf:k1.1=k2.1){p:Int}(h1:p∈posD d k1)(h2:p∈posD d k2):k1=k2:=by
 rw[posD_posZ h] at h1 h2;rw[hf] at h1;unfold posZ at h1 h2;obtain⟨w,hw,e1⟩:=List.mem_map.1 h1;obtain⟨v,hv,e2⟩:=List.mem_map.1 h2;obtain⟨hw1,hw2⟩:=List.mem_filter.1 hw;obtain⟨hv1,hv2⟩:=List.mem_filter.1 hv;obtain⟨hp,_⟩:=wzf_ok h k2.1;have hwv:w=v:=by
  obtain⟨i,hi,ei⟩:=List.mem_iff_getElem.1 hw1;obtain⟨j,hj,ej⟩:=List.mem_iff_getElem.1 hv1;rw[List.pairwise_map,List.pairwise_iff_getElem] at hp;rcases Nat.lt_trichotomy i j with h3|h3|h3
  ·have:=hp i j hi hj h3;rw[ei,ej] at this;omega
  ·subst h3;rw[←ei,←ej]
  ·have:=hp j i hj hi h3;rw[ei,ej] at this;omega
 subst hwv;have a1:w.1=k1.2:=by simpa using hw2
 have a2:w.1=k2.2:=by simpa using hv2
 exact Prod.ext hf (by rw[←a1,←a2])
theorem postF_mem {L:List Dc}{k:Ky}{p:Ps}(h:p∈postF L k):∃d∈L,p=(d.id,posD d k)∧posD d k≠[]:=by
 unfold postF at h;obtain⟨d,hd,h1⟩:=List.mem_flatMap.1 h;unfold pst at h1
 split at h1
 ·simp at h1
 ·rename_i hne;exact⟨d,hd,by simpa using h1,hne⟩
theorem postF_ids (k:Ky):∀{L:List Dc},(L.Pairwise fun x y=>x.id<y.id)→((postF L k).map (·.1)).Pairwise (·<·)
 |[],_=>by simp[postF]
 |d::r,h=>by
  have ⟨h1,h2⟩:=List.pairwise_cons.1 h;have e:postF (d::r) k=pst d k++postF r k:=by simp[postF]
  rw[e,List.map_append,List.pairwise_append];refine⟨?_,postF_ids k h2,fun x hx y hy=>?_⟩
  ·unfold pst;split<;>simp
  ·have ex:x=d.id:=by
    unfold pst at hx
    split at hx
    ·simp at hx
    ·simpa using hx
   obtain⟨p,hp,rfl⟩:=List.mem_map.1 hy;obtain⟨d2,h3,rfl,_⟩:=postF_mem hp;rw[ex];exact h1 d2 h3
theorem key_pos {L:List Dc}{k:Ky}(h:k∈keysF L):∃d∈L,posD d k≠[]:=by
 obtain⟨d,hd,p,hp⟩:=(keysF_mem L k).1 h;refine⟨d,hd,fun e=>?_⟩;have:p∈posD d k:=by
  unfold posD;exact List.mem_map.2 ⟨_,List.mem_filter.2 ⟨hp,by simp⟩,rfl⟩
 rw[e] at this;simp at this
theorem postF_ne {L:List Dc}{k:Ky}(h:k∈keysF L):postF L k≠[]:=by
 obtain⟨d,hd,hne⟩:=key_pos h;intro e;have:(d.id,posD d k)∈postF L k:=by
  unfold postF;refine List.mem_flatMap.2 ⟨d,hd,?_⟩;unfold pst;rw[if_neg hne];simp
 rw[e] at this;simp at this
theorem validL_post {L:List Dc}(hs:L.Pairwise fun x y=>x.id<y.id)(hv:∀d∈L,validD d=true)(k:Ky):validL (postF L k)=true:=by
 unfold validL;rw[Bool.and_eq_true]
 constructor
 ·refine asc_of (postF_ids k hs) fun q hq=>?_;obtain⟨p,hp,rfl⟩:=List.mem_map.1 hq;obtain⟨d,hd,rfl,_⟩:=postF_mem hp;exact(validD_parts (hv d hd)).1
 ·rw[Bool.not_eq_true',List.any_eq_false];intro p hp;obtain⟨d,hd,rfl,hne⟩:=postF_mem hp;obtain⟨h1,h2⟩:=posD_asc (hv d hd) k;unfold badP;rw[decide_eq_false (fun e=>hne (List.length_eq_zero_iff.1 e)),asc_of h1 fun q hq=>⟨(h2 q hq).1,(h2 q hq).2.1⟩];simp
theorem pls_nodup {L:List Dc}(hs:L.Pairwise fun x y=>x.id<y.id)(hv:∀d∈L,validD d=true):(pls (termsF L)).Nodup:=by
 have hinj:∀d∈L,∀e∈L,d.id=e.id→d=e:=by
  intro d hd e he h;obtain⟨i,hi,e1⟩:=List.mem_iff_getElem.1 hd;obtain⟨j,hj,e2⟩:=List.mem_iff_getElem.1 he;rw[List.pairwise_iff_getElem] at hs;rcases Nat.lt_trichotomy i j with h3|h3|h3
  ·have:=hs i j hi hj h3;rw[e1,e2] at this;omega
  ·subst h3;rw[←e1,←e2]
  ·have:=hs j i hj hi h3;rw[e1,e2] at this;omega
 unfold pls;rw[List.Nodup,List.pairwise_flatMap]
 constructor
 ·intro t ht;obtain⟨k,hk,rfl⟩:=List.mem_map.1 ht;unfold plsT;rw[List.pairwise_flatMap]
  constructor
  ·intro p hp;obtain⟨d,hd,rfl,_⟩:=postF_mem hp;unfold plsP;have:=(posD_asc (hv d hd) k).1;rw[List.pairwise_map];exact this.imp fun h e=>by
    have:=(Prod.mk.inj (Prod.mk.inj e).2).2;omega
  ·have:=postF_ids k hs;rw[List.pairwise_map] at this;refine this.imp fun {p q} hpq=>?_;intro x hx y hy e;obtain⟨a,_,rfl⟩:=List.mem_map.1 hx;obtain⟨b,_,rfl⟩:=List.mem_map.1 hy;have:=(Prod.mk.inj (Prod.mk.inj e).2).1;omega
 ·unfold termsF;rw[List.pairwise_map];refine(keysF_ord L).imp fun {k1 k2} hk=>?_;intro x hx y hy e;obtain⟨p,hp,hx2⟩:=List.mem_flatMap.1 hx;obtain⟨q,hq,hy2⟩:=List.mem_flatMap.1 hy;obtain⟨d,hd,rfl,_⟩:=postF_mem hp;obtain⟨d2,hd2,rfl,_⟩:=postF_mem hq;obtain⟨a,ha,rfl⟩:=List.mem_map.1 hx2;obtain⟨b,hb,rfl⟩:=List.mem_map.1 hy2;have e1:=(Prod.mk.inj e).1;have e2:=(Prod.mk.inj (Prod.mk.inj e).2).1;have e3:=(Prod.mk.inj (Prod.mk.inj e).2).2;simp only at e1 e2 e3;have hdd:=hinj d hd d2 hd2 e2;subst hdd;subst e3;have:=posD_one (hv d hd) e1 ha hb;rw[this,kylt_irrefl] at hk
  cases hk
theorem ns_ord {d:Dc}(h:validD d=true):d.ns.Pairwise fun x y=>nmlt x y=true:=by
 have h3:=(validD_parts h).2.2;have key:∀j i,i<j→j<d.ns.length→nmlt (d.ns.getD i n0) (d.ns.getD j n0)=true:=by
  intro j
  induction j with
  |zero=>intro i h1;omega
  |succ j ih=>
   intro i h1 h2;have h4:=h3 (j+1) h2;unfold okNm at h4;simp only[Bool.and_eq_true,Bool.or_eq_true,decide_eq_true_eq,Nat.add_sub_cancel] at h4;have h5:nmlt (d.ns.getD j n0) (d.ns.getD (j+1) n0)=true:=by
    rcases h4.2 with h6|h6
    ·omega
    ·exact h6
   rcases Nat.lt_or_ge i j with h7|h7
   ·exact nmlt_trans (ih i h7 (by omega)) h5
   ·have:i=j:=by omega
    subst this;exact h5
 rw[List.pairwise_iff_getElem];intro i j hi hj hij;have:=key j i hij hj;rw[List.getD_eq_getElem?_getD,List.getD_eq_getElem?_getD,List.getElem?_eq_getElem hi,List.getElem?_eq_getElem hj] at this;exact this
theorem itsF_mem {L:List Dc}{f:Int}{x:Nm}(h:x∈itsF L f):∃d∈L,x.2=d.id∧(f,x.1)∈d.ns:=by
 unfold itsF at h;obtain⟨d,hd,h1⟩:=List.mem_flatMap.1 h;obtain⟨y,hy,rfl⟩:=List.mem_map.1 h1;obtain⟨h2,h3⟩:=List.mem_filter.1 hy;have e:y.1=f:=by simpa using h3
 exact⟨d,hd,rfl,by rw[←e];exact h2⟩
theorem itsF_nodup {L:List Dc}(hs:L.Pairwise fun x y=>x.id<y.id)(hv:∀d∈L,validD d=true)(f:Int):(itsF L f).Nodup:=by
 unfold itsF;rw[List.Nodup,List.pairwise_flatMap]
 constructor
 ·intro d hd;rw[List.pairwise_map];have h1:=(ns_ord (hv d hd)).sublist (List.filter_sublist (p:=fun x=>x.1==f));have h2:∀x∈d.ns.filter (fun x=>x.1==f),x.1=f:=fun x hx=>by simpa using(List.mem_filter.1 hx).2
  refine h1.imp_of_mem fun {a b} ha hb hab e=>?_;have e1:=(Prod.mk.inj e).1;rcases (nmlt_iff a b).1 hab with h3|h3
  ·rw[h2 a ha,h2 b hb] at h3;omega
  ·omega
 ·refine hs.imp fun {d e} hde=>?_;intro x hx y hy exy;obtain⟨a,_,rfl⟩:=List.mem_map.1 hx;obtain⟨b,_,rfl⟩:=List.mem_map.1 hy;have:=(Prod.mk.inj exy).2;omega
theorem isortN_ord (l:List Nm):(isortN l).Pairwise fun x y=>nmlt y x=false:=by
 have key:∀(l a:List Nm),(a.Pairwise fun x y=>nmlt y x=false)→(l.foldl (fun a d=>insN d a) a).Pairwise fun x y=>nmlt y x=false:=by
  intro l
  induction l with
  |nil=>intro a h;exact h
  |cons d r ih=>intro a h;exact ih _ (insN_ord d h)
 exact key l [] .nil
theorem isortN_lt {l:List Nm}(h:l.Nodup):(isortN l).Pairwise fun x y=>nmlt x y=true:=by
 have h1:=isortN_ord l;have h2:(isortN l).Pairwise (·≠·):=(isortN_perm l).nodup_iff.2 h;refine(h1.and h2).imp fun {x y} ⟨a,b⟩=>?_
 cases hxy:nmlt x y with
 |true=>rfl
 |false=>exact absurd (nmlt_total hxy a) b
theorem colsF_mem {L:List Dc}{c:Cl}(h:c∈colsF L):(5≤c.f∧c.f≤7)∧itsF L c.f≠[]∧c.x=isortN (itsF L c.f):=by
 have key:∀f,c∈colF L f→c.f=f∧itsF L c.f≠[]∧c.x=isortN (itsF L c.f):=fun f hf=>by
  unfold colF at hf
  split at hf
  ·simp at hf
  ·rename_i hne;have:c=⟨f,isortN (itsF L f)⟩:=by simpa using hf
   subst this;exact⟨rfl,hne,rfl⟩
 unfold colsF at h;rcases List.mem_append.1 h with h|h
 ·rcases List.mem_append.1 h with h|h
  ·obtain⟨a,b⟩:=key 5 h;exact⟨by omega,b⟩
  ·obtain⟨a,b⟩:=key 6 h;exact⟨by omega,b⟩
 ·obtain⟨a,b⟩:=key 7 h;exact⟨by omega,b⟩
theorem colsF_ord (L:List Dc):(colsF L).Pairwise fun x y=>x.f<y.f:=by
 have one:∀f,(colF L f).Pairwise fun x y=>x.f<y.f:=fun f=>by unfold colF;split<;>simp
 have fld:∀f,∀c∈colF L f,c.f=f:=fun f c hc=>by
  unfold colF at hc
  split at hc
  ·simp at hc
  ·have:c=⟨f,isortN (itsF L f)⟩:=by simpa using hc
   rw[this]
 unfold colsF;rw[List.pairwise_append,List.pairwise_append];refine⟨⟨one 5,one 6,fun x hx y hy=>by rw[fld 5 x hx,fld 6 y hy];omega⟩,one 7,fun x hx y hy=>?_⟩;rw[fld 7 y hy];rcases List.mem_append.1 hx with h|h
 ·rw[fld 5 x h];omega
 ·rw[fld 6 x h];omega
theorem valid_built {L:List Dc}(hl:L.length≤2000)(hs:L.Pairwise fun x y=>x.id<y.id)(hv:∀d∈L,validD d=true):validS ⟨L.map (·.id),termsF L,colsF L⟩=true:=by
 have hids:(L.map (·.id)).Pairwise (·<·):=by rw[List.pairwise_map];exact hs
 refine validS_good ?_ (by simpa using hl) (fun i hi=>?_) (pls_nodup hs hv) (fun i hi=>?_)
 ·refine asc_of hids fun q hq=>?_;obtain⟨d,hd,rfl⟩:=List.mem_map.1 hq;exact(validD_parts (hv d hd)).1
 ·simp only at hi ⊢;have hkl:i<(keysF L).length:=by unfold termsF at hi;rwa [List.length_map] at hi
  have hget:∀j,j<(keysF L).length→(termsF L).getD j t0=⟨((keysF L).getD j ((0,[]):Ky)).1,((keysF L).getD j ((0,[]):Ky)).2,postF L ((keysF L).getD j ((0,[]):Ky))⟩:=fun j hj=>by
   unfold termsF;rw[List.getD_eq_getElem?_getD,List.getElem?_map,List.getD_eq_getElem?_getD,List.getElem?_eq_getElem hj];rfl
  have hmem:=getD_mem (keysF L) i ((0,[]):Ky) hkl;obtain⟨d,hd,hne⟩:=key_pos hmem;obtain⟨p,hp⟩:=List.exists_mem_of_ne_nil _ hne;have hok:=(posD_asc (hv d hd) _).2 p hp
  constructor
  ·unfold okTm;rw[hget i hkl];simp only[Bool.and_eq_true,Bool.or_eq_true,decide_eq_true_eq];refine⟨⟨hok.2.2.2,hok.2.2.1⟩,?_⟩;rcases Nat.eq_zero_or_pos i with h0|h0
   ·exact .inl h0
   ·right
    rw[hget (i-1) (by omega)];exact pw_adj (keysF_ord L) ((0,[]):Ky) h0 hkl
  ·unfold okL;rw[hget i hkl];simp only[Bool.and_eq_true,decide_eq_true_eq];refine⟨⟨postF_ne hmem,validL_post hs hv _⟩,fun q hq=>?_⟩;obtain⟨d2,hd2,rfl,_⟩:=postF_mem hq;exact List.mem_map.2 ⟨d2,hd2,rfl⟩
 ·simp only at hi ⊢;have hmem:=getD_mem (colsF L) i c0 hi;obtain⟨h1,h2,h3⟩:=colsF_mem hmem
  constructor
  ·unfold okCm;simp only[Bool.and_eq_true,Bool.or_eq_true,decide_eq_true_eq];refine⟨⟨h1,fun e=>h2 ?_⟩,?_⟩
   ·rw[h3] at e;have:=(isortN_perm (itsF L ((colsF L).getD i c0).f)).length_eq;rw[e] at this;exact List.length_eq_zero_iff.1 this.symm
   ·rcases Nat.eq_zero_or_pos i with h0|h0
    ·exact .inl h0
    ·exact .inr (pw_adj (colsF_ord L) c0 h0 hi)
  ·intro k hk;have hlt:=isortN_lt (itsF_nodup hs hv ((colsF L).getD i c0).f);rw[←h3] at hlt;have hk2:=getD_mem ((colsF L).getD i c0).x k n0 hk;have hk3:((colsF L).getD i c0).x.getD k n0∈itsF L ((colsF L).getD i c0).f:=(isortN_perm _).mem_iff.1 (by rw[←h3];exact hk2);obtain⟨d,hd,e1,e2⟩:=itsF_mem hk3;obtain⟨m,hm,e3⟩:=mem_getD n0 e2;have hnm:=(validD_parts (hv d hd)).2.2 m hm;unfold okNm at hnm;rw[e3] at hnm;unfold okNv at hnm;simp only[Bool.and_eq_true,decide_eq_true_eq] at hnm;unfold okIt;simp only[Bool.and_eq_true,Bool.or_eq_true,decide_eq_true_eq];refine⟨⟨by rw[e1];exact List.mem_map.2 ⟨d,hd,rfl⟩,hnm.1.2⟩,?_⟩;rcases Nat.eq_zero_or_pos k with h0|h0
   ·exact .inl h0
   ·exact .inr (pw_adj hlt n0 h0 hk)
theorem built_sz {L:List Dc}(hl:L.length≤40)(hk:(L.flatMap dkeys).length≤1000)(hv:∀d∈L,validD d=true)(hw:∀d∈L,∀z∈d.zs,z.ws.length≤1000)(hn:∀d∈L,d.ns.length≤20):SzS ⟨L.map (·.id),termsF L,colsF L⟩:=by
 have hm:1000≤Go.maxLen:=by decide
 refine⟨by simp;omega,?_,fun t ht=>?_,?_,fun c hc=>?_⟩
 ·show (termsF L).length≤1000;unfold termsF;rw[List.length_map,keysF_all];have:=insAll_len (L.flatMap dkeys) [];rw[List.length_nil,Nat.zero_add] at this;omega
 ·obtain⟨k,hkk,rfl⟩:=List.mem_map.1 ht;obtain⟨d,hd,hne⟩:=key_pos hkk;obtain⟨p,hp⟩:=List.exists_mem_of_ne_nil _ hne;have hok:=(posD_asc (hv d hd) k).2 p hp;refine⟨?_,?_,fun q hq=>?_⟩
  ·have:=hok.2.2.1;unfold okW at this;simp only[Bool.and_eq_true,decide_eq_true_eq] at this;show k.2.length≤_;omega
  ·show (postF L k).length≤1000;have:=pstR_len k L;rw[postF_R hv] at this;omega
  ·obtain⟨d2,hd2,rfl,_⟩:=postF_mem hq;show (posD d2 k).length≤1000;rw[posD_posZ (hv d2 hd2)];unfold posZ;rw[List.length_map];refine Nat.le_trans (List.length_filter_le _ _) ?_;rcases Classical.em (wzf d2.zs k.1=[]) with he|he
   ·rw[he];simp
   ·obtain⟨w,hw1⟩:=List.exists_mem_of_ne_nil _ he;obtain⟨z,h1,_,h3⟩:=wzf_mem hw1;rw[h3];exact hw d2 hd2 z h1
 ·show (colsF L).length≤1000;rw[←colN_F];have:=colN_len L 3;omega
 ·obtain⟨_,_,h3⟩:=colsF_mem hc;rw[h3,(isortN_perm _).length_eq];unfold itsF;have:=flat_len (fun d:Dc=>(d.ns.filter fun x=>x.1==c.f).map fun x=>(x.2,d.id)) 20 L fun d hd=>by
   rw[List.length_map];exact Nat.le_trans (List.length_filter_le _ _) (hn d hd)
  omega
end Seg
namespace Go.Proofs.YtoejlmpbebjemaaGreat
open Go Go.Am Sug Seg Post
def sgF (L:List Dc):Sg:=⟨L.map (·.id),termsF L,colsF L⟩
section
variable {L : List Dc} (hl : L.length ≤ 2000) (hs : L.Pairwise fun x y => x.id < y.id) (hv : ∀ d ∈ L, validD d = true)
include hl hs hv
theorem findS_built (k:Ky):findS (sgF L) k=postF L k:=by
 unfold findS;rw[if_pos (show validS (sgF L)=true from valid_built hl hs hv)];unfold postS;show (((termsF L).find? fun t=>decide (t.k=k)).map (·.l)).getD []=_;unfold termsF;rw[List.find?_map]
 cases hf:(keysF L).find? ((fun t:Tm=>decide (t.k=k)) ∘ fun k=>⟨k.1,k.2,postF L k⟩) with
 |none=>
  have hno:k∉keysF L:=fun hm=>by
   have:=List.find?_eq_none.1 hf k hm;simp[Tm.k] at this
  show []=_
  cases hp:postF L k with
  |nil=>rfl
  |cons p r=>
   exfalso;obtain⟨d,hd,e1,e2⟩:=postF_mem (L:=L) (k:=k) (p:=p) (by rw[hp];simp);obtain⟨q,hq⟩:=List.exists_mem_of_ne_nil _ e2;unfold posD at hq;obtain⟨w,hw,_⟩:=List.mem_map.1 hq;obtain⟨hw1,hw2⟩:=List.mem_filter.1 hw;have e3:w.1=k:=by simpa using hw2
   exact hno ((keysF_mem L k).2 ⟨d,hd,w.2,by rw[←e3];exact hw1⟩)
 |some k2=>
  have h1:=List.find?_some hf;have e:k2=k:=by
   have:((k2.1,k2.2):Ky)=k:=by simpa[Tm.k] using h1
   exact this
  subst e;rfl
theorem posOf_built (k:Ky){d:Dc}(hd:d∈L):posOf (postF L k) d.id=posD d k:=by
 rcases Classical.em (posD d k=[]) with he|he
 ·rw[he];refine posOf_none fun p hp e=>?_;obtain⟨d2,hd2,rfl,hne⟩:=postF_mem hp;have:d2=d:=by
   obtain⟨i,hi,e1⟩:=List.mem_iff_getElem.1 hd;obtain⟨j,hj,e2⟩:=List.mem_iff_getElem.1 hd2;rw[List.pairwise_iff_getElem] at hs;simp only at e;rcases Nat.lt_trichotomy i j with h3|h3|h3
   ·have:=hs i j hi hj h3;rw[e1,e2] at this;omega
   ·subst h3;rw[←e1,←e2]
   ·have:=hs j i hj hi h3;rw[e1,e2] at this;omega
  subst this;exact hne he
 ·have hm:(d.id,posD d k)∈postF L k:=by
   unfold postF;refine List.mem_flatMap.2 ⟨d,hd,?_⟩;unfold pst;rw[if_neg he];simp
  exact posOf_mem (show Asc' (postF L k) from postF_ids k hs) hm
end
theorem posOf_leP {P:Nat}:∀{l:List Ps},(∀p∈l,p.2.length≤P)→∀d:Int,(posOf l d).length≤P
 |[],_,d=>by simp[posOf]
 |p::l,h,d=>by
  unfold posOf
  split
  ·exact h p (by simp)
  ·exact posOf_leP (fun q hq=>h q (by simp[hq])) d
theorem valid_asc {s:Sg}(hv:validS s=true):∀t∈s.tms,Asc' t.l:=fun t ht=>(validL_iff (tm_ok hv ht).2.2.1).1
theorem occs_le {s:Sg}(hv:validS s=true){P:Nat}(hP:∀t∈s.tms,∀p∈t.l,p.2.length≤P)(id f:Int):(occs s.tms id f).length≤s.tms.length*P:=by
 rw[occs_wdT (valid_asc hv)];refine flat_len _ P _ fun t ht=>?_;unfold wdT
 split
 ·rw[List.length_map];exact posOf_leP (hP t ht) id
 ·simp
theorem occs_mem {s:Sg}(hv:validS s=true){id f a:Int}{w:Bs}:(w,a)∈occs s.tms id f↔∃t∈s.tms,t.f=f∧t.w=w∧a∈posOf t.l id:=by
 rw[occs_wdT (valid_asc hv),List.mem_flatMap]
 constructor
 ·rintro⟨t,ht,h⟩;unfold wdT at h
  split at h
  ·rename_i hf;obtain⟨b,hb,e⟩:=List.mem_map.1 h;obtain⟨e1,e2⟩:=Prod.mk.inj e;exact⟨t,ht,hf,e1,by rw[←e2];exact hb⟩
  ·simp at h
 ·rintro⟨t,ht,hf,hw,ha⟩;refine⟨t,ht,?_⟩;unfold wdT;rw[if_pos hf];exact List.mem_map.2 ⟨a,ha,by rw[hw]⟩
theorem zonesOf_len (g:Int→List Wd):(zonesOf g).length≤4:=by
 rw[←zT_four];exact zT_len g 4
theorem docsF_sz {s:Sg}(hv:validS s=true){T P C X:Nat}(hT:s.tms.length≤T)(hw:∀t∈s.tms,t.w.length≤maxLen∧∀p∈t.l,p.2.length≤P)(hC:s.cols.length≤C)(hX:∀c∈s.cols,c.x.length≤X) :
  ∀d∈docsF s,d.zs.length≤4∧(∀z∈d.zs,z.ws.length≤T*P∧∀w∈z.ws,w.1.length≤maxLen)∧d.ns.length≤C*X:=by
 intro d hd;unfold docsF at hd;obtain⟨id,_,rfl⟩:=List.mem_map.1 hd;refine⟨zonesOf_len (fun f=>sortW (occs s.tms id f)),fun z hz=>?_,?_⟩
 ·obtain⟨_,h2,_⟩:=zonesOf_mem (g:=fun f=>sortW (occs s.tms id f)) hz;rw[h2];refine⟨?_,fun w hw2=>?_⟩
  ·rw[(sortW_spec _).1.length_eq];exact Nat.le_trans (occs_le hv (fun t ht=>(hw t ht).2) id z.f) (Nat.mul_le_mul_right _ hT)
  ·obtain⟨w1,w2⟩:=w;obtain⟨t,ht,_,e,_⟩:=(occs_mem hv).1 ((sortW_spec _).1.mem_iff.1 hw2);rw[←e];exact(hw t ht).1
 ·show (nms s.cols id).length≤_;unfold nms;refine Nat.le_trans (flat_len _ X _ fun c hc=>?_) (Nat.mul_le_mul_right _ hC);rw[List.length_map];exact Nat.le_trans (List.length_filter_le _ _) (hX c hc)
theorem docsP_szd {s:Sg}(hs:SzS s):∀d∈docsP s,SzD d:=by
 intro d hd;unfold docsP at hd
 split at hd
 ·rename_i hv;obtain⟨h1,h2,h3⟩:=docsF_sz hv hs.t (fun t ht=>⟨(hs.w t ht).1,(hs.w t ht).2.2⟩) hs.c hs.x d hd;have hm:1000000≤maxLen:=by decide
  exact⟨by omega,fun z hz=>⟨by have:=(h2 z hz).1;omega,(h2 z hz).2⟩,by omega⟩
 ·simp at hd
theorem docsP_len {s:Sg}(hs:SzS s):(docsP s).length≤1000:=by
 unfold docsP
 split
 ·simp[docsF];exact hs.d
 ·simp
theorem strict_unique {α:Type}{lt:α→α→Prop}(asym:∀x y,lt x y→lt y x→False):∀{a b:List α},a.Pairwise lt→b.Pairwise lt→(∀x,x∈a↔x∈b)→a=b
 |[],[],_,_,_=>rfl
 |[],y::b,_,_,h=>by have:=(h y).2 (by simp);simp at this
 |x::a,[],_,_,h=>by have:=(h x).1 (by simp);simp at this
 |x::a,y::b,ha,hb,h=>by
  have ⟨a1,a2⟩:=List.pairwise_cons.1 ha;have ⟨b1,b2⟩:=List.pairwise_cons.1 hb;have e:x=y:=by
   rcases List.mem_cons.1 ((h x).1 (by simp)) with h1|h1
   ·exact h1
   rcases List.mem_cons.1 ((h y).2 (by simp)) with h2|h2
   ·exact h2.symm
   exact(asym _ _ (b1 x h1) (a1 y h2)).elim
  subst e;rw[strict_unique asym a2 b2 fun z=>⟨fun hz=>?_,fun hz=>?_⟩]
  ·rcases List.mem_cons.1 ((h z).1 (by simp[hz])) with e|h1
   ·subst e;exact(asym _ _ (a1 z hz) (a1 z hz)).elim
   ·exact h1
  ·rcases List.mem_cons.1 ((h z).2 (by simp[hz])) with e|h1
   ·subst e;exact(asym _ _ (b1 z hz) (b1 z hz)).elim
   ·exact h1
theorem zs_ord {d:Dc}(h:validD d=true):d.zs.Pairwise fun x y=>x.f<y.f:=by
 have h3:=(validD_parts h).2.1;have key:∀j i,i<j→j<d.zs.length→(d.zs.getD i z0).f<(d.zs.getD j z0).f:=by
  intro j
  induction j with
  |zero=>intro i h1;omega
  |succ j ih=>
   intro i h1 h2;have h4:=(okZn_parts (h3 (j+1) h2)).1;unfold lastZ at h4;rw[if_neg (by omega),Nat.add_sub_cancel] at h4;rcases Nat.lt_or_ge i j with h5|h5
   ·have:=ih i h5 (by omega);omega
   ·have:i=j:=by omega
    subst this;exact h4
 rw[List.pairwise_iff_getElem];intro i j hi hj hij;have:=key j i hij hj;rw[List.getD_eq_getElem?_getD,List.getD_eq_getElem?_getD,List.getElem?_eq_getElem hi,List.getElem?_eq_getElem hj] at this;exact this
theorem wzf_self:∀{zs:List Zn},(zs.Pairwise fun x y=>x.f<y.f)→∀z∈zs,wzf zs z.f=z.ws
 |[],_,z,h=>by simp at h
 |y::r,hp,z,h=>by
  have ⟨h1,h2⟩:=List.pairwise_cons.1 hp;unfold wzf;rcases List.mem_cons.1 h with e|h3
  ·subst e;rw[if_pos rfl]
  ·rw[if_neg (by have:=h1 z h3;omega)];exact wzf_self h2 z h3
theorem zn_ws {d:Dc}(h:validD d=true){z:Zn}(hz:z∈d.zs):z.ws≠[]∧1≤z.f∧z.f≤4:=by
 have h3:=(validD_parts h).2.1;obtain⟨i,hi,e⟩:=mem_getD z0 hz;have hk:=okZn_parts (h3 i hi);have hf:=valid_field h3 i hi;rw[e] at hk hf;exact⟨fun e=>hk.2.2.1 (by rw[e];rfl),by omega,hk.2.1⟩
theorem zonesOf_ord (g:Int→List Wd):(zonesOf g).Pairwise fun x y=>x.f<y.f:=by
 unfold zonesOf;rw[List.pairwise_flatMap];refine⟨fun f _=>by split<;>simp,?_⟩;have fld:∀f,∀z∈(if g f=[] then [] else [(⟨f,g f⟩:Zn)]),z.f=f:=fun f z hz=>by
  split at hz
  ·simp at hz
  ·rw[List.mem_singleton.1 hz]
 simp only[List.pairwise_cons,List.mem_cons,List.not_mem_nil,or_false];refine⟨?_,?_,?_,?_,List.Pairwise.nil⟩
 all_goals (intro f' hf' x hx y hy;rw[fld _ x hx,fld _ y hy])
 ·rcases hf' with rfl|rfl|rfl<;>decide
 ·rcases hf' with rfl|rfl<;>decide
 ·subst hf';decide
 ·exact hf'.elim
theorem zonesOf_wzf {d:Dc}(h:validD d=true):zonesOf (wzf d.zs)=d.zs:=by
 refine strict_unique (lt:=fun x y:Zn=>x.f<y.f) (fun x y h1 h2=>by omega) (zonesOf_ord _) (zs_ord h) fun z=>⟨fun hz=>?_,fun hz=>?_⟩
 ·obtain⟨h1,h2,_⟩:=zonesOf_mem hz;obtain⟨w,hw⟩:=List.exists_mem_of_ne_nil _ h1;rw[h2] at hw;obtain⟨y,h3,h4,h5⟩:=wzf_mem hw;have:z=y:=by
   obtain⟨zf,zw⟩:=z;obtain⟨yf,yw⟩:=y;simp only at h2 h4 h5;rw[h4,h2,h5]
  rw[this];exact h3
 ·obtain⟨h1,h2,h3⟩:=zn_ws h hz;have e:=wzf_self (zs_ord h) z hz;unfold zonesOf;refine List.mem_flatMap.2 ⟨z.f,?_,?_⟩
  ·rcases (by omega:z.f=1∨z.f=2∨z.f=3∨z.f=4) with e|e|e|e<;>simp[e]
  ·rw[e,if_neg h1];simp
theorem posZ_mem (ws:List Wd)(w:Bs)(a:Int):a∈posZ ws w↔(w,a)∈ws:=by
 unfold posZ
 constructor
 ·intro h;obtain⟨x,hx,rfl⟩:=List.mem_map.1 h;obtain⟨h1,h2⟩:=List.mem_filter.1 hx;have e:x.1=w:=by simpa using h2
  rw[←e];exact h1
 ·intro h;exact List.mem_map.2 ⟨(w,a),List.mem_filter.2 ⟨h,by simp⟩,rfl⟩
theorem posD_key {L:List Dc}{d:Dc}(hd:d∈L){k:Ky}{a:Int}(h:a∈posD d k):k∈keysF L:=by
 unfold posD at h;obtain⟨w,hw,_⟩:=List.mem_map.1 h;obtain⟨hw1,hw2⟩:=List.mem_filter.1 hw;have e3:w.1=k:=by simpa using hw2
 exact(keysF_mem L k).2 ⟨d,hd,w.2,by rw[←e3];exact hw1⟩
section
variable {L : List Dc} (hl : L.length ≤ 2000) (hs : L.Pairwise fun x y => x.id < y.id) (hv : ∀ d ∈ L, validD d = true)
include hl hs hv
theorem occs_built {d:Dc}(hd:d∈L)(f:Int):sortW (occs (termsF L) d.id f)=wzf d.zs f:=by
 have hasc:∀t∈termsF L,Asc' t.l:=fun t ht=>by
  obtain⟨k,_,rfl⟩:=List.mem_map.1 ht;exact postF_ids k hs
 have h1:=sortW_spec (occs (termsF L) d.id f);have hne:=occs_nd (Seg.pls_nodup hs hv) d.id f;have sym:∀x y:Wd,x.2≠y.2→y.2≠x.2:=fun _ _ h e=>h e.symm;have hlt:(sortW (occs (termsF L) d.id f)).Pairwise fun x y=>x.2<y.2:=(h1.2.and ((h1.1.pairwise_iff (fun {x y} h=>sym x y h)).2 hne)).imp fun⟨h1,h2⟩=>by omega
 refine strict_unique (lt:=fun x y:Wd=>x.2<y.2) (fun x y h1 h2=>by omega) hlt (List.pairwise_map.1 (wzf_ok (hv d hd) f).1) fun x=>?_;rw[h1.1.mem_iff,occs_wdT hasc];obtain⟨w,a⟩:=x;rw[List.mem_flatMap]
 constructor
 ·rintro⟨t,ht,hx⟩;obtain⟨k,hk,rfl⟩:=List.mem_map.1 ht;unfold wdT at hx;simp only at hx
  split at hx
  ·rename_i hf;rw[posOf_built hl hs hv k hd] at hx;obtain⟨b,hb,e⟩:=List.mem_map.1 hx;obtain⟨e1,e2⟩:=Prod.mk.inj e;rw[posD_posZ (hv d hd),posZ_mem] at hb;rw[←hf,←e1,←e2];exact hb
  ·simp at hx
 ·intro hx;have hp:a∈posD d (f,w):=by rw[posD_posZ (hv d hd),posZ_mem];exact hx
  refine⟨⟨f,w,postF L (f,w)⟩,List.mem_map.2 ⟨(f,w),posD_key hd hp,rfl⟩,?_⟩;unfold wdT;rw[if_pos rfl];simp only;rw[posOf_built hl hs hv (f,w) hd];exact List.mem_map.2 ⟨a,hp,rfl⟩
theorem nms_built {d:Dc}(hd:d∈L):nms (colsF L) d.id=d.ns:=by
 have hid:∀d2∈L,d2.id=d.id→d2=d:=fun d2 hd2 e=>by
  obtain⟨i,hi,e1⟩:=List.mem_iff_getElem.1 hd;obtain⟨j,hj,e2⟩:=List.mem_iff_getElem.1 hd2;rw[List.pairwise_iff_getElem] at hs;rcases Nat.lt_trichotomy i j with h3|h3|h3
  ·have:=hs i j hi hj h3;rw[e1,e2] at this;omega
  ·subst h3;rw[←e1,←e2]
  ·have:=hs j i hj hi h3;rw[e1,e2] at this;omega
 have hmem:∀c∈colsF L,∀y:Nm,y∈c.x↔y∈itsF L c.f:=fun c hc y=>by
  rw[(colsF_mem hc).2.2];exact(isortN_perm _).mem_iff
 have asym:∀x y:Nm,nmlt x y=true→nmlt y x=true→False:=fun x y h1 h2=>by rw[nmlt_asymm h1] at h2;cases h2
 refine strict_unique (lt:=fun x y=>nmlt x y=true) asym ?_ (ns_ord (hv d hd)) fun x=>?_
 ·unfold nms;rw[List.pairwise_flatMap];refine⟨fun c hc=>?_,(colsF_ord L).imp fun {a b} hab x hx y hy=>?_⟩
  ·rw[List.pairwise_map];have hx:=(colsF_mem hc).2.2;have h1:c.x.Pairwise fun x y=>nmlt x y=true:=by rw[hx];exact isortN_lt (itsF_nodup hs hv c.f)
   refine(h1.sublist (List.filter_sublist (p:=fun y=>y.2==d.id))).imp_of_mem fun {x y} hx hy hxy=>?_;have e1:x.2=d.id:=by simpa using(List.mem_filter.1 hx).2
   have e2:y.2=d.id:=by simpa using(List.mem_filter.1 hy).2
   rw[nmlt_iff] at hxy;refine(nmlt_iff _ _).2 (.inr ⟨rfl,?_⟩);show x.1<y.1;omega
  ·obtain⟨p,_,rfl⟩:=List.mem_map.1 hx;obtain⟨q,_,rfl⟩:=List.mem_map.1 hy;rw[nmlt_iff];exact .inl hab
 ·unfold nms;rw[List.mem_flatMap]
  constructor
  ·rintro⟨c,hc,hx⟩;obtain⟨y,hy,rfl⟩:=List.mem_map.1 hx;obtain⟨h1,h2⟩:=List.mem_filter.1 hy;have e:y.2=d.id:=by simpa using h2
   obtain⟨d2,hd2,e2,h3⟩:=itsF_mem ((hmem c hc y).1 h1);rw[hid d2 hd2 (by omega)] at h3;exact h3
  ·intro hx;obtain⟨f,n⟩:=x;obtain⟨i,hi,e⟩:=mem_getD n0 hx;have hf:=(validD_parts (hv d hd)).2.2 i hi;unfold okNm okNv at hf;rw[e] at hf;simp only[Bool.and_eq_true,decide_eq_true_eq] at hf;have hit:(n,d.id)∈itsF L f:=List.mem_flatMap.2 ⟨d,hd,List.mem_map.2 ⟨(f,n),List.mem_filter.2 ⟨hx,by simp⟩,rfl⟩⟩;have hne:itsF L f≠[]:=fun e=>by rw[e] at hit;simp at hit
   have hcol:(⟨f,isortN (itsF L f)⟩:Cl)∈colsF L:=by
    have:(⟨f,isortN (itsF L f)⟩:Cl)∈colF L f:=by unfold colF;rw[if_neg hne];simp
    unfold colsF;rcases (by omega:f=5∨f=6∨f=7) with e|e|e<;>subst e<;>simp[this]
   refine⟨_,hcol,List.mem_map.2 ⟨(n,d.id),List.mem_filter.2 ⟨?_,by simp⟩,rfl⟩⟩;exact(isortN_perm _).mem_iff.2 hit
theorem docsF_built:docsF (sgF L)=L:=by
 unfold docsF;show (L.map (·.id)).map _=L;rw[List.map_map]
 conv=>rhs;rw[←List.map_id L]
 refine List.map_congr_left fun d hd=>?_;show (⟨d.id,zonesOf fun f=>sortW (occs (termsF L) d.id f),nms (colsF L) d.id⟩:Dc)=d;have e:(fun f=>sortW (occs (termsF L) d.id f))=wzf d.zs:=funext fun f=>occs_built hl hs hv hd f;rw[e,zonesOf_wzf (hv d hd),nms_built hl hs hv hd]
theorem docsP_built:docsP (sgF L)=L:=by
 unfold docsP;rw[if_pos (show validS (sgF L)=true from valid_built hl hs hv)];exact docsF_built hl hs hv
end
structure VD (L:List Dc):Prop where
 n:L.length≤2000
 lt:L.Pairwise fun x y=>x.id<y.id
 v:∀d∈L,validD d=true
theorem VD.valid {L:List Dc}(h:VD L):validS (sgF L)=true:=valid_built h.n h.lt h.v
theorem VD.docs {L:List Dc}(h:VD L):docsP (sgF L)=L:=docsP_built h.n h.lt h.v
theorem VD.filter {L:List Dc}(h:VD L)(p:Dc→Bool):VD (L.filter p):=
 ⟨Nat.le_trans (List.length_filter_le _ _) h.n,h.lt.sublist List.filter_sublist,fun d hd=>h.v d (List.mem_filter.1 hd).1⟩
theorem sortD_lt {l:List Dc}(hn:(l.map (·.id)).Nodup):(sortD l).Pairwise fun x y=>x.id<y.id:=by
 have hp:=(sortD_inOrd l).perm;have h4:=(sortD_inOrd l).ord;have h5:((sortD l).map (·.id)).Nodup:=(hp.map _).nodup_iff.2 hn;rw[List.Nodup,List.pairwise_map] at h5;exact(h4.and h5).imp fun {x y} ⟨a,b⟩=>by omega
theorem sortD_mem {l:List Dc}(x:Dc):x∈sortD l↔x∈l:=(sortD_inOrd l).perm.mem_iff
theorem lt_unique {a b:List Dc}(ha:a.Pairwise fun x y=>x.id<y.id)(hb:b.Pairwise fun x y=>x.id<y.id)(h:∀x,x∈a↔x∈b):a=b:=
 strict_unique (lt:=fun x y:Dc=>x.id<y.id) (fun x y h1 h2=>by omega) ha hb h
theorem sortD_self {L:List Dc}(h:L.Pairwise fun x y=>x.id<y.id):sortD L=L:=
 lt_unique (sortD_lt (lt_nodup h)) h fun x=>sortD_mem x
structure GoodL (l:List Dc):Prop where
 n:l.length≤2000
 nd:(l.map (·.id)).Nodup
 v:∀d∈l,validD d=true
theorem GoodL.vd {l:List Dc}(h:GoodL l):VD (sortD l):=⟨by rw[sortD_len];exact h.n,sortD_lt h.nd,fun d hd=>h.v d ((sortD_mem d).1 hd)⟩
theorem VD.good {L:List Dc}(h:VD L):GoodL L:=⟨h.n,lt_nodup h.lt,h.v⟩
theorem GoodL.build {l:List Dc}(h:GoodL l):buildF l=(sgF (sortD l),0):=by
 unfold buildF sgF;rw[if_neg (by have:=h.n;omega),if_neg,if_neg (fun e=>e h.nd)];rw[Bool.not_eq_true,List.any_eq_false];intro d hd;simp[h.v d hd]
theorem VD.build {L:List Dc}(h:VD L):buildF L=(sgF L,0):=by rw[h.good.build,sortD_self h.lt]
def mergeF (s t:Sg):Sg×Int:=
 if validS s=true∧validS t=true then if comb (fun p q=>p&&q) s.docs t.docs=[] then buildF (docsP s++docsP t) else (noSeg,10) else (noSeg,1)
def leftF (s:Sg)(ids:List Int):List Dc:=(docsP s).filter fun d=>!decide (d.id∈ids)
def dropF (s:Sg)(ids:List Int):Sg:=(buildF (leftF s ids)).1
theorem VD.drop {L:List Dc}(h:VD L)(ids:List Int):dropF (sgF L) ids=sgF (L.filter fun d=>!decide (d.id∈ids)):=by
 unfold dropF leftF;rw[h.docs,(h.filter _).build]
theorem post_pos {L:List Dc}(hL:VD L)(k:Ky)(d z:Int):z∈posOf (postF L k) d↔∃x∈L,x.id=d∧z∈posD x k:=by
 constructor
 ·intro h;obtain⟨p,hp,e1,e2⟩:=pos_in h;obtain⟨x,hx,rfl,_⟩:=postF_mem hp;rw[e2] at h;exact⟨x,hx,e1,h⟩
 ·rintro⟨x,hx,rfl,h⟩;rw[posOf_built hL.n hL.lt hL.v k hx];exact h
theorem vd_id {L:List Dc}(hL:VD L){d:Dc}(hd:d∈L):1≤d.id∧d.id≤1000000000:=(validD_parts (hL.v d hd)).1
theorem ids_V {L:List Dc}(hL:VD L):V (L.map (·.id)):=
 asc_of (List.pairwise_map.2 hL.lt) fun q hq=>by
  obtain⟨d,hd,rfl⟩:=List.mem_map.1 hq;exact vd_id hL hd
section
variable {L M N : List Dc} (hL : VD L) (hM : VD M) (hN : VD N) (hmem : ∀ x, x ∈ N ↔ x ∈ L ∨ x ∈ M)
include hL hM hN hmem
theorem find_vd (k:Ky):unionL (postF L k) (postF M k)=postF N k:=by
 have hA:=validL_post hL.lt hL.v k;have hB:=validL_post hM.lt hM.v k;refine vext (un_V hA hB) (validL_post hN.lt hN.v k) fun d z=>?_;rw[un_mem hA hB,post_pos hL,post_pos hM,post_pos hN]
 constructor
 ·rintro (⟨x,hx,h⟩|⟨x,hx,h⟩)
  ·exact⟨x,(hmem x).2 (.inl hx),h⟩
  ·exact⟨x,(hmem x).2 (.inr hx),h⟩
 ·rintro⟨x,hx,h⟩;rcases (hmem x).1 hx with h1|h1
  ·exact .inl ⟨x,h1,h⟩
  ·exact .inr ⟨x,h1,h⟩
variable (hdis : ∀ x ∈ L, ∀ y ∈ M, x.id ≠ y.id)
include hdis
theorem merge_vd (hn:L.length+M.length≤2000):mergeF (sgF L) (sgF M)=(sgF N,0):=by
 have hc:comb (fun p q=>p&&q) (sgF L).docs (sgF M).docs=[]:=by
  obtain⟨_,h2⟩:=comb_spec (fun p q=>p&&q) (ids_V hL) (ids_V hM);rw[List.eq_nil_iff_forall_not_mem];intro z hz;have h3:=(h2 z).1 hz;have h4:z∈L.map (·.id)∧z∈M.map (·.id):=by
   by_cases ha:z∈L.map (·.id)<;>by_cases hb:z∈M.map (·.id)<;>simp[ha,hb] at h3 ⊢
  obtain⟨x,hx,e1⟩:=List.mem_map.1 h4.1;obtain⟨y,hy,e2⟩:=List.mem_map.1 h4.2;exact hdis x hx y hy (e1.trans e2.symm)
 have hg:GoodL (L++M):=by
  refine⟨by rw[List.length_append];exact hn,?_,fun d hd=>(List.mem_append.1 hd).elim (hL.v d) (hM.v d)⟩;rw[List.map_append,List.nodup_append];refine⟨lt_nodup hL.lt,lt_nodup hM.lt,?_⟩;intro a ha b hb e;obtain⟨x,hx,e1⟩:=List.mem_map.1 ha;obtain⟨y,hy,e2⟩:=List.mem_map.1 hb;exact hdis x hx y hy (by omega)
 unfold mergeF;rw[if_pos ⟨hL.valid,hM.valid⟩,if_pos hc,hL.docs,hM.docs,hg.build];rw[lt_unique (sortD_lt hg.nd) hN.lt fun x=>by rw[sortD_mem,List.mem_append,hmem]]
end
end Go.Proofs.YtoejlmpbebjemaaGreat
