/- What Build returns is a valid segment (layer 39).
  Conditions: none. -/
import Derived.Test.YtneohapkboaplaaGreatGTg
import Derived.Test.YtneohapkboaplaaGreatGV
import Derived.Test.YtneohapkboaplaaGreatPE
set_option linter.all false
namespace Seg
open Sug Go.Am Go.Proofs.YtneohapkboaplaaGreat Post
theorem pw_adj {α:Type}{R:α→α→Prop}{l:List α}(h:l.Pairwise R)(d:α){i:Nat}(h0:0<i)(hi:i<l.length):R (l.getD (i-1) d) (l.getD i d):=by
 have:=List.pairwise_iff_getElem.1 h (i-1) i (by omega) hi (by omega)
 rw[List.getD_eq_getElem?_getD,List.getD_eq_getElem?_getD,List.getElem?_eq_getElem (by omega:i-1<l.length),List.getElem?_eq_getElem hi]
 exact this
theorem ws_pos {ws:List Wd}(h:∀k,k<ws.length→okWd ws k=true):(ws.map (·.2)).Pairwise (·<·):=by
 have key:∀j i,i<j→j<ws.length→(ws.getD i w0).2<(ws.getD j w0).2:=by
  intro j
  induction j with
  |zero=>intro i h1;omega
  |succ j ih=>
   intro i h1 h2
   have h3:=(okWd_parts (h (j+1) h2)).2.1
   unfold lastW at h3
   rw[if_neg (by omega),Nat.add_sub_cancel] at h3
   rcases Nat.lt_or_ge i j with h4|h4
   ·have:=ih i h4 (by omega);omega
   ·have:i=j:=by omega
    subst this;exact h3
 rw[List.pairwise_map,List.pairwise_iff_getElem]
 intro i j hi hj hij
 have:=key j i hij hj
 rw[List.getD_eq_getElem?_getD,List.getD_eq_getElem?_getD,List.getElem?_eq_getElem hi,List.getElem?_eq_getElem hj] at this
 exact this
theorem wzf_mem {zs:List Zn}{f:Int}{w:Wd}(h:w∈wzf zs f):∃z∈zs,z.f=f∧wzf zs f=z.ws:=by
 induction zs with
 |nil=>simp[wzf] at h
 |cons z r ih=>
  unfold wzf at h ⊢
  by_cases hz:z.f=f
  ·rw[if_pos hz];exact⟨z,by simp,hz,rfl⟩
  ·rw[if_neg hz] at h ⊢
   obtain⟨y,h1,h2,h3⟩:=ih h
   exact⟨y,by simp[h1],h2,h3⟩
theorem wzf_ok {d:Dc}(h:validD d=true)(f:Int):((wzf d.zs f).map (·.2)).Pairwise (·<·)∧∀w∈wzf d.zs f,okW w.1=true∧0≤w.2∧w.2≤1000000∧1≤f∧f≤4:=by
 have hz:=(validD_parts h).2.1
 rcases Classical.em (wzf d.zs f=[]) with he|he
 ·rw[he];exact⟨by simp,fun w hw=>by simp at hw⟩
 ·obtain⟨w1,hw1⟩:=List.exists_mem_of_ne_nil _ he
  obtain⟨z,h1,h2,h3⟩:=wzf_mem hw1
  obtain⟨i,hi,e⟩:=mem_getD z0 h1
  have hk:=okZn_parts (hz i hi)
  rw[e] at hk
  have hf:=valid_field hz i hi
  rw[e] at hf
  rw[h3]
  refine⟨ws_pos hk.2.2.2,fun w hw=>?_⟩
  obtain⟨k,hk1,hk2⟩:=mem_getD w0 hw
  have h5:=okWd_parts (hk.2.2.2 k hk1)
  have h6:=valid_pos hk.2.2.2 k hk1
  rw[hk2] at h5 h6
  exact⟨h5.1,by omega,h5.2.2,by omega,by omega⟩
theorem posD_posZ {d:Dc}(h:validD d=true)(k:Ky):posD d k=posZ (wzf d.zs k.1) k.2:=(posR_posD h k).symm
theorem posD_asc {d:Dc}(h:validD d=true)(k:Ky):(posD d k).Pairwise (·<·)∧∀p∈posD d k,0≤p∧p≤1000000∧okW k.2=true∧1≤k.1∧k.1≤4:=by
 rw[posD_posZ h]
 obtain⟨h1,h2⟩:=wzf_ok h k.1
 unfold posZ
 refine⟨h1.sublist (List.filter_sublist.map _),fun p hp=>?_⟩
 obtain⟨w,hw,rfl⟩:=List.mem_map.1 hp
 obtain⟨hw1,hw2⟩:=List.mem_filter.1 hw
 have:=h2 w hw1
 have e:w.1=k.2:=by simpa using hw2
 rw[←e]
 exact⟨this.2.1,this.2.2.1,this.1,this.2.2.2⟩
theorem posD_one {d:Dc}(h:validD d=true){k1 k2:Ky}(hf:k1.1=k2.1){p:Int}(h1:p∈posD d k1)(h2:p∈posD d k2):k1=k2:=by
 rw[posD_posZ h] at h1 h2
 rw[hf] at h1
 unfold posZ at h1 h2
 obtain⟨w,hw,e1⟩:=List.mem_map.1 h1
 obtain⟨v,hv,e2⟩:=List.mem_map.1 h2
 obtain⟨hw1,hw2⟩:=List.mem_filter.1 hw
 obtain⟨hv1,hv2⟩:=List.mem_filter.1 hv
 obtain⟨hp,_⟩:=wzf_ok h k2.1
 have hwv:w=v:=by
  obtain⟨i,hi,ei⟩:=List.mem_iff_getElem.1 hw1
  obtain⟨j,hj,ej⟩:=List.mem_iff_getElem.1 hv1
  rw[List.pairwise_map,List.pairwise_iff_getElem] at hp
  rcases Nat.lt_trichotomy i j with h3|h3|h3
  ·have:=hp i j hi hj h3;rw[ei,ej] at this;omega
  ·subst h3;rw[←ei,←ej]
  ·have:=hp j i hj hi h3;rw[ei,ej] at this;omega
 subst hwv
 have a1:w.1=k1.2:=by simpa using hw2
 have a2:w.1=k2.2:=by simpa using hv2
 exact Prod.ext hf (by rw[←a1,←a2])
theorem postF_mem {L:List Dc}{k:Ky}{p:Ps}(h:p∈postF L k):∃d∈L,p=(d.id,posD d k)∧posD d k≠[]:=by
 unfold postF at h
 obtain⟨d,hd,h1⟩:=List.mem_flatMap.1 h
 unfold pst at h1
 split at h1
 ·simp at h1
 ·rename_i hne
  exact⟨d,hd,by simpa using h1,hne⟩
theorem postF_ids (k:Ky):∀{L:List Dc},(L.Pairwise fun x y=>x.id<y.id)→((postF L k).map (·.1)).Pairwise (·<·)
 |[],_=>by simp[postF]
 |d::r,h=>by
  have ⟨h1,h2⟩:=List.pairwise_cons.1 h
  have e:postF (d::r) k=pst d k++postF r k:=by simp[postF]
  rw[e,List.map_append,List.pairwise_append]
  refine⟨?_,postF_ids k h2,fun x hx y hy=>?_⟩
  ·unfold pst;split<;>simp
  ·have ex:x=d.id:=by
    unfold pst at hx
    split at hx
    ·simp at hx
    ·simpa using hx
   obtain⟨p,hp,rfl⟩:=List.mem_map.1 hy
   obtain⟨d2,h3,rfl,_⟩:=postF_mem hp
   rw[ex];exact h1 d2 h3
theorem key_pos {L:List Dc}{k:Ky}(h:k∈keysF L):∃d∈L,posD d k≠[]:=by
 obtain⟨d,hd,p,hp⟩:=(keysF_mem L k).1 h
 refine⟨d,hd,fun e=>?_⟩
 have:p∈posD d k:=by
  unfold posD
  exact List.mem_map.2 ⟨_,List.mem_filter.2 ⟨hp,by simp⟩,rfl⟩
 rw[e] at this;simp at this
theorem postF_ne {L:List Dc}{k:Ky}(h:k∈keysF L):postF L k≠[]:=by
 obtain⟨d,hd,hne⟩:=key_pos h
 intro e
 have:(d.id,posD d k)∈postF L k:=by
  unfold postF
  refine List.mem_flatMap.2 ⟨d,hd,?_⟩
  unfold pst
  rw[if_neg hne];simp
 rw[e] at this;simp at this
theorem validL_post {L:List Dc}(hs:L.Pairwise fun x y=>x.id<y.id)(hv:∀d∈L,validD d=true)(k:Ky):validL (postF L k)=true:=by
 unfold validL
 rw[Bool.and_eq_true]
 constructor
 ·refine asc_of (postF_ids k hs) fun q hq=>?_
  obtain⟨p,hp,rfl⟩:=List.mem_map.1 hq
  obtain⟨d,hd,rfl,_⟩:=postF_mem hp
  exact(validD_parts (hv d hd)).1
 ·rw[Bool.not_eq_true',List.any_eq_false]
  intro p hp
  obtain⟨d,hd,rfl,hne⟩:=postF_mem hp
  obtain⟨h1,h2⟩:=posD_asc (hv d hd) k
  unfold badP
  rw[decide_eq_false (fun e=>hne (List.length_eq_zero_iff.1 e)),asc_of h1 fun q hq=>⟨(h2 q hq).1,(h2 q hq).2.1⟩]
  simp
theorem pls_nodup {L:List Dc}(hs:L.Pairwise fun x y=>x.id<y.id)(hv:∀d∈L,validD d=true):(pls (termsF L)).Nodup:=by
 have hinj:∀d∈L,∀e∈L,d.id=e.id→d=e:=by
  intro d hd e he h
  obtain⟨i,hi,e1⟩:=List.mem_iff_getElem.1 hd
  obtain⟨j,hj,e2⟩:=List.mem_iff_getElem.1 he
  rw[List.pairwise_iff_getElem] at hs
  rcases Nat.lt_trichotomy i j with h3|h3|h3
  ·have:=hs i j hi hj h3;rw[e1,e2] at this;omega
  ·subst h3;rw[←e1,←e2]
  ·have:=hs j i hj hi h3;rw[e1,e2] at this;omega
 unfold pls
 rw[List.Nodup,List.pairwise_flatMap]
 constructor
 ·intro t ht
  obtain⟨k,hk,rfl⟩:=List.mem_map.1 ht
  unfold plsT
  rw[List.pairwise_flatMap]
  constructor
  ·intro p hp
   obtain⟨d,hd,rfl,_⟩:=postF_mem hp
   unfold plsP
   have:=(posD_asc (hv d hd) k).1
   rw[List.pairwise_map]
   exact this.imp fun h e=>by
    have:=(Prod.mk.inj (Prod.mk.inj e).2).2
    omega
  ·have:=postF_ids k hs
   rw[List.pairwise_map] at this
   refine this.imp fun {p q} hpq=>?_
   intro x hx y hy e
   obtain⟨a,_,rfl⟩:=List.mem_map.1 hx
   obtain⟨b,_,rfl⟩:=List.mem_map.1 hy
   have:=(Prod.mk.inj (Prod.mk.inj e).2).1
   omega
 ·unfold termsF
  rw[List.pairwise_map]
  refine(keysF_ord L).imp fun {k1 k2} hk=>?_
  intro x hx y hy e
  obtain⟨p,hp,hx2⟩:=List.mem_flatMap.1 hx
  obtain⟨q,hq,hy2⟩:=List.mem_flatMap.1 hy
  obtain⟨d,hd,rfl,_⟩:=postF_mem hp
  obtain⟨d2,hd2,rfl,_⟩:=postF_mem hq
  obtain⟨a,ha,rfl⟩:=List.mem_map.1 hx2
  obtain⟨b,hb,rfl⟩:=List.mem_map.1 hy2
  have e1:=(Prod.mk.inj e).1
  have e2:=(Prod.mk.inj (Prod.mk.inj e).2).1
  have e3:=(Prod.mk.inj (Prod.mk.inj e).2).2
  simp only at e1 e2 e3
  have hdd:=hinj d hd d2 hd2 e2
  subst hdd
  subst e3
  have:=posD_one (hv d hd) e1 ha hb
  rw[this,kylt_irrefl] at hk
  cases hk
theorem ns_ord {d:Dc}(h:validD d=true):d.ns.Pairwise fun x y=>nmlt x y=true:=by
 have h3:=(validD_parts h).2.2
 have key:∀j i,i<j→j<d.ns.length→nmlt (d.ns.getD i n0) (d.ns.getD j n0)=true:=by
  intro j
  induction j with
  |zero=>intro i h1;omega
  |succ j ih=>
   intro i h1 h2
   have h4:=h3 (j+1) h2
   unfold okNm at h4
   simp only[Bool.and_eq_true,Bool.or_eq_true,decide_eq_true_eq,Nat.add_sub_cancel] at h4
   have h5:nmlt (d.ns.getD j n0) (d.ns.getD (j+1) n0)=true:=by
    rcases h4.2 with h6|h6
    ·omega
    ·exact h6
   rcases Nat.lt_or_ge i j with h7|h7
   ·exact nmlt_trans (ih i h7 (by omega)) h5
   ·have:i=j:=by omega
    subst this;exact h5
 rw[List.pairwise_iff_getElem]
 intro i j hi hj hij
 have:=key j i hij hj
 rw[List.getD_eq_getElem?_getD,List.getD_eq_getElem?_getD,List.getElem?_eq_getElem hi,List.getElem?_eq_getElem hj] at this
 exact this
theorem itsF_mem {L:List Dc}{f:Int}{x:Nm}(h:x∈itsF L f):∃d∈L,x.2=d.id∧(f,x.1)∈d.ns:=by
 unfold itsF at h
 obtain⟨d,hd,h1⟩:=List.mem_flatMap.1 h
 obtain⟨y,hy,rfl⟩:=List.mem_map.1 h1
 obtain⟨h2,h3⟩:=List.mem_filter.1 hy
 have e:y.1=f:=by simpa using h3
 exact⟨d,hd,rfl,by rw[←e];exact h2⟩
theorem itsF_nodup {L:List Dc}(hs:L.Pairwise fun x y=>x.id<y.id)(hv:∀d∈L,validD d=true)(f:Int):(itsF L f).Nodup:=by
 unfold itsF
 rw[List.Nodup,List.pairwise_flatMap]
 constructor
 ·intro d hd
  rw[List.pairwise_map]
  have h1:=(ns_ord (hv d hd)).sublist (List.filter_sublist (p:=fun x=>x.1==f))
  have h2:∀x∈d.ns.filter (fun x=>x.1==f),x.1=f:=fun x hx=>by simpa using(List.mem_filter.1 hx).2
  refine h1.imp_of_mem fun {a b} ha hb hab e=>?_
  have e1:=(Prod.mk.inj e).1
  rcases (nmlt_iff a b).1 hab with h3|h3
  ·rw[h2 a ha,h2 b hb] at h3;omega
  ·omega
 ·refine hs.imp fun {d e} hde=>?_
  intro x hx y hy exy
  obtain⟨a,_,rfl⟩:=List.mem_map.1 hx
  obtain⟨b,_,rfl⟩:=List.mem_map.1 hy
  have:=(Prod.mk.inj exy).2
  omega
theorem isortN_ord (l:List Nm):(isortN l).Pairwise fun x y=>nmlt y x=false:=by
 have key:∀(l a:List Nm),(a.Pairwise fun x y=>nmlt y x=false)→(l.foldl (fun a d=>insN d a) a).Pairwise fun x y=>nmlt y x=false:=by
  intro l
  induction l with
  |nil=>intro a h;exact h
  |cons d r ih=>intro a h;exact ih _ (insN_ord d h)
 exact key l [] .nil
theorem isortN_lt {l:List Nm}(h:l.Nodup):(isortN l).Pairwise fun x y=>nmlt x y=true:=by
 have h1:=isortN_ord l
 have h2:(isortN l).Pairwise (·≠·):=(isortN_perm l).nodup_iff.2 h
 refine(h1.and h2).imp fun {x y} ⟨a,b⟩=>?_
 cases hxy:nmlt x y with
 |true=>rfl
 |false=>exact absurd (nmlt_total hxy a) b
theorem colsF_mem {L:List Dc}{c:Cl}(h:c∈colsF L):(5≤c.f∧c.f≤7)∧itsF L c.f≠[]∧c.x=isortN (itsF L c.f):=by
 have key:∀f,c∈colF L f→c.f=f∧itsF L c.f≠[]∧c.x=isortN (itsF L c.f):=fun f hf=>by
  unfold colF at hf
  split at hf
  ·simp at hf
  ·rename_i hne
   have:c=⟨f,isortN (itsF L f)⟩:=by simpa using hf
   subst this
   exact⟨rfl,hne,rfl⟩
 unfold colsF at h
 rcases List.mem_append.1 h with h|h
 ·rcases List.mem_append.1 h with h|h
  ·obtain⟨a,b⟩:=key 5 h;exact⟨by omega,b⟩
  ·obtain⟨a,b⟩:=key 6 h;exact⟨by omega,b⟩
 ·obtain⟨a,b⟩:=key 7 h;exact⟨by omega,b⟩
theorem colsF_ord (L:List Dc):(colsF L).Pairwise fun x y=>x.f<y.f:=by
 have one:∀f,(colF L f).Pairwise fun x y=>x.f<y.f:=fun f=>by unfold colF;split<;>simp
 have fld:∀f,∀c∈colF L f,c.f=f:=fun f c hc=>by
  unfold colF at hc
  split at hc
  ·simp at hc
  ·have:c=⟨f,isortN (itsF L f)⟩:=by simpa using hc
   rw[this]
 unfold colsF
 rw[List.pairwise_append,List.pairwise_append]
 refine⟨⟨one 5,one 6,fun x hx y hy=>by rw[fld 5 x hx,fld 6 y hy];omega⟩,one 7,fun x hx y hy=>?_⟩
 rw[fld 7 y hy]
 rcases List.mem_append.1 hx with h|h
 ·rw[fld 5 x h];omega
 ·rw[fld 6 x h];omega
theorem valid_built {L:List Dc}(hl:L.length≤2000)(hs:L.Pairwise fun x y=>x.id<y.id)(hv:∀d∈L,validD d=true):validS ⟨L.map (·.id),termsF L,colsF L⟩=true:=by
 have hids:(L.map (·.id)).Pairwise (·<·):=by rw[List.pairwise_map];exact hs
 refine validS_good ?_ (by simpa using hl) (fun i hi=>?_) (pls_nodup hs hv) (fun i hi=>?_)
 ·refine asc_of hids fun q hq=>?_
  obtain⟨d,hd,rfl⟩:=List.mem_map.1 hq
  exact(validD_parts (hv d hd)).1
 ·simp only at hi ⊢
  have hkl:i<(keysF L).length:=by unfold termsF at hi;rwa [List.length_map] at hi
  have hget:∀j,j<(keysF L).length→(termsF L).getD j t0=⟨((keysF L).getD j ((0,[]):Ky)).1,((keysF L).getD j ((0,[]):Ky)).2,postF L ((keysF L).getD j ((0,[]):Ky))⟩:=fun j hj=>by
   unfold termsF
   rw[List.getD_eq_getElem?_getD,List.getElem?_map,List.getD_eq_getElem?_getD,List.getElem?_eq_getElem hj];rfl
  have hmem:=getD_mem (keysF L) i ((0,[]):Ky) hkl
  obtain⟨d,hd,hne⟩:=key_pos hmem
  obtain⟨p,hp⟩:=List.exists_mem_of_ne_nil _ hne
  have hok:=(posD_asc (hv d hd) _).2 p hp
  constructor
  ·unfold okTm
   rw[hget i hkl]
   simp only[Bool.and_eq_true,Bool.or_eq_true,decide_eq_true_eq]
   refine⟨⟨hok.2.2.2,hok.2.2.1⟩,?_⟩
   rcases Nat.eq_zero_or_pos i with h0|h0
   ·exact .inl h0
   ·right
    rw[hget (i-1) (by omega)]
    exact pw_adj (keysF_ord L) ((0,[]):Ky) h0 hkl
  ·unfold okL
   rw[hget i hkl]
   simp only[Bool.and_eq_true,decide_eq_true_eq]
   refine⟨⟨postF_ne hmem,validL_post hs hv _⟩,fun q hq=>?_⟩
   obtain⟨d2,hd2,rfl,_⟩:=postF_mem hq
   exact List.mem_map.2 ⟨d2,hd2,rfl⟩
 ·simp only at hi ⊢
  have hmem:=getD_mem (colsF L) i c0 hi
  obtain⟨h1,h2,h3⟩:=colsF_mem hmem
  constructor
  ·unfold okCm
   simp only[Bool.and_eq_true,Bool.or_eq_true,decide_eq_true_eq]
   refine⟨⟨h1,fun e=>h2 ?_⟩,?_⟩
   ·rw[h3] at e
    have:=(isortN_perm (itsF L ((colsF L).getD i c0).f)).length_eq
    rw[e] at this
    exact List.length_eq_zero_iff.1 this.symm
   ·rcases Nat.eq_zero_or_pos i with h0|h0
    ·exact .inl h0
    ·exact .inr (pw_adj (colsF_ord L) c0 h0 hi)
  ·intro k hk
   have hlt:=isortN_lt (itsF_nodup hs hv ((colsF L).getD i c0).f)
   rw[←h3] at hlt
   have hk2:=getD_mem ((colsF L).getD i c0).x k n0 hk
   have hk3:((colsF L).getD i c0).x.getD k n0∈itsF L ((colsF L).getD i c0).f:=(isortN_perm _).mem_iff.1 (by rw[←h3];exact hk2)
   obtain⟨d,hd,e1,e2⟩:=itsF_mem hk3
   obtain⟨m,hm,e3⟩:=mem_getD n0 e2
   have hnm:=(validD_parts (hv d hd)).2.2 m hm
   unfold okNm at hnm
   rw[e3] at hnm
   unfold okNv at hnm
   simp only[Bool.and_eq_true,decide_eq_true_eq] at hnm
   unfold okIt
   simp only[Bool.and_eq_true,Bool.or_eq_true,decide_eq_true_eq]
   refine⟨⟨by rw[e1];exact List.mem_map.2 ⟨d,hd,rfl⟩,hnm.1.2⟩,?_⟩
   rcases Nat.eq_zero_or_pos k with h0|h0
   ·exact .inl h0
   ·exact .inr (pw_adj hlt n0 h0 hk)
theorem built_sz {L:List Dc}(hl:L.length≤40)(hk:(L.flatMap dkeys).length≤1000)(hv:∀d∈L,validD d=true)(hw:∀d∈L,∀z∈d.zs,z.ws.length≤400)(hn:∀d∈L,d.ns.length≤20):SzS ⟨L.map (·.id),termsF L,colsF L⟩:=by
 have hm:400≤Go.maxLen:=by decide
 refine⟨by simp;omega,?_,fun t ht=>?_,?_,fun c hc=>?_⟩
 ·show (termsF L).length≤1000
  unfold termsF
  rw[List.length_map,keysF_all]
  have:=insAll_len (L.flatMap dkeys) []
  rw[List.length_nil,Nat.zero_add] at this
  omega
 ·obtain⟨k,hkk,rfl⟩:=List.mem_map.1 ht
  obtain⟨d,hd,hne⟩:=key_pos hkk
  obtain⟨p,hp⟩:=List.exists_mem_of_ne_nil _ hne
  have hok:=(posD_asc (hv d hd) k).2 p hp
  refine⟨?_,?_,fun q hq=>?_⟩
  ·have:=hok.2.2.1
   unfold okW at this
   simp only[Bool.and_eq_true,decide_eq_true_eq] at this
   show k.2.length≤_
   omega
  ·show (postF L k).length≤400
   have:=pstR_len k L
   rw[postF_R hv] at this
   omega
  ·obtain⟨d2,hd2,rfl,_⟩:=postF_mem hq
   show (posD d2 k).length≤400
   rw[posD_posZ (hv d2 hd2)]
   unfold posZ
   rw[List.length_map]
   refine Nat.le_trans (List.length_filter_le _ _) ?_
   rcases Classical.em (wzf d2.zs k.1=[]) with he|he
   ·rw[he];simp
   ·obtain⟨w,hw1⟩:=List.exists_mem_of_ne_nil _ he
    obtain⟨z,h1,_,h3⟩:=wzf_mem hw1
    rw[h3];exact hw d2 hd2 z h1
 ·show (colsF L).length≤1000
  rw[←colN_F]
  have:=colN_len L 3
  omega
 ·obtain⟨_,_,h3⟩:=colsF_mem hc
  rw[h3,(isortN_perm _).length_eq]
  unfold itsF
  have:=flat_len (fun d:Dc=>(d.ns.filter fun x=>x.1==c.f).map fun x=>(x.2,d.id)) 20 L fun d hd=>by
   rw[List.length_map];exact Nat.le_trans (List.length_filter_le _ _) (hn d hd)
  omega
end Seg
