/- Indexes: segments with their dead documents (layer 40, plain). Putting and dropping in an index (layer 40, plain). What is found in an index is what is found in the segment of its live documents (layer 40, plain). Sizes of tidy indexes (layer 40, plain). When an index is valid (layer 40, plain). Puts and drops, one after the other, keep an index tidy (layer 40, plain). Indexes of documents with one word (layer 40, plain). Changes, one after the other (layer 40, plain). Sizes of the segments of an index (layer 40, plain). The example of the document, played (layer 40, plain). Indexes as cells (layer 40). The reference's Valid of indexes is the program's (layer 40, plain).
  Conditions: as the theorems say. -/
import Derived.Test.YtoejlmpbebjemaaGreatGZx
import Derived.Test.YtoejlmpbebjemaaGreatGZy
set_option linter.all false
set_option maxRecDepth 100000
namespace Go.Proofs.YtoejlmpbebjemaaGreat
open Go Go.Am Sug Post Seg
abbrev Sd:=List Dc×List Int
def e0:Sd:=([],[])
def lvD (p:Sd):List Dc:=p.1.filter fun d=>!decide (d.id∈p.2)
def alive (x:List Sd):List Dc:=x.flatMap lvD
structure GX (x:List Sd):Prop where
 vd:∀p∈x,VD p.1
 ne:∀p∈x,p.1≠[]
 da:∀p∈x,Asc p.2
 dd:∀p∈x,∀i∈p.2,i∈p.1.map (·.id)
 nd:((alive x).map (·.id)).Nodup
 n:(alive x).length≤2000
def segX (L:List Dc):List Sd:=if L=[] then [] else [(L,[])]
def replX (x:List Sd)(i j:Nat)(L:List Dc):List Sd:=x.take i++segX L++x.drop j
theorem lvD_nil (L:List Dc):lvD (L,[])=L:=by unfold lvD;simp
theorem alive_seg (L:List Dc):alive (segX L)=L:=by
 unfold segX alive
 split
 ·rename_i h;rw[h];rfl
 ·simp[lvD_nil]
theorem alive_app (x y:List Sd):alive (x++y)=alive x++alive y:=by unfold alive;rw[List.flatMap_append]
theorem alive_repl {x:List Sd}{i j:Nat}{L:List Dc}(hij:i≤j)(hL:L.Perm (alive ((x.take j).drop i))):(alive (replX x i j L)).Perm (alive x):=by
 have e:x=x.take i++(x.take j).drop i++x.drop j:=by
  have h1:x.take i=(x.take j).take i:=by rw[List.take_take,Nat.min_eq_left hij]
  rw[h1,List.take_append_drop,List.take_append_drop]
 unfold replX;rw[alive_app,alive_app,alive_seg]
 conv=>rhs;rw[e,alive_app,alive_app]
 exact(hL.append_left _).append_right _
theorem GX.repl {x:List Sd}(h:GX x){i j:Nat}{L:List Dc}(hij:i≤j)(hL:L.Perm (alive ((x.take j).drop i)))(hv:VD L):GX (replX x i j L):=by
 have hp:=alive_repl hij hL;have hm:∀p∈replX x i j L,p∈x∨(p=(L,[])∧L≠[]):=fun p hp=>by
  unfold replX at hp;rcases List.mem_append.1 hp with h1|h1
  ·rcases List.mem_append.1 h1 with h2|h2
   ·exact .inl (List.mem_of_mem_take h2)
   ·unfold segX at h2
    split at h2
    ·simp at h2
    ·rename_i hn;simp only[List.mem_singleton] at h2;exact .inr ⟨h2,hn⟩
  ·exact .inl (List.mem_of_mem_drop h1)
 refine⟨fun p hp=>?_,fun p hp=>?_,fun p hp=>?_,fun p hp=>?_,(hp.map _).nodup_iff.2 h.nd,by rw[hp.length_eq];exact h.n⟩
 ·rcases hm p hp with h1|⟨rfl,_⟩
  ·exact h.vd p h1
  ·exact hv
 ·rcases hm p hp with h1|⟨rfl,h2⟩
  ·exact h.ne p h1
  ·exact h2
 ·rcases hm p hp with h1|⟨rfl,_⟩
  ·exact h.da p h1
  ·exact List.Pairwise.nil
 ·rcases hm p hp with h1|⟨rfl,_⟩
  ·exact h.dd p h1
  ·intro i hi;simp at hi
def sizeX (x:List Sd):Nat:=(x.map fun p=>p.1.length).sum+x.length
theorem sizeX_app (x y:List Sd):sizeX (x++y)=sizeX x+sizeX y:=by unfold sizeX;simp only[List.map_append,List.sum_append,List.length_append];omega
theorem sizeX_seg (L:List Dc):sizeX (segX L)≤L.length+1∧(L=[]→sizeX (segX L)=0):=by
 unfold segX sizeX
 split
 ·rename_i h;simp[h]
 ·rename_i h;simp[h]
theorem sizeX_repl {x:List Sd}{i j:Nat}{L:List Dc}(hij:i≤j)(hL:sizeX (segX L)<sizeX ((x.take j).drop i)):sizeX (replX x i j L)<sizeX x:=by
 have e:x=x.take i++(x.take j).drop i++x.drop j:=by
  have h1:x.take i=(x.take j).take i:=by rw[List.take_take,Nat.min_eq_left hij]
  rw[h1,List.take_append_drop,List.take_append_drop]
 unfold replX;rw[sizeX_app,sizeX_app]
 conv=>rhs;rw[e,sizeX_app,sizeX_app]
 omega
def badX (x:List Sd)(i:Nat):Bool:=decide ((x.getD i e0).1.length<2*(x.getD i e0).2.length)
def nearX (x:List Sd)(i:Nat):Bool:=decide ((x.getD i e0).1.length<2*(x.getD (i+1) e0).1.length)
def both (x:List Sd)(i:Nat):List Dc:=sortD (lvD (x.getD i e0)++lvD (x.getD (i+1) e0))
def stepX (x:List Sd):Option (List Sd):=
 match (List.range x.length).find? (badX x) with
 |some i=>some (replX x i (i+1) (lvD (x.getD i e0)))
 |none=>((List.range (x.length-1)).reverse.find? (nearX x)).map fun i=>replX x i (i+2) (both x i)
def tidyX:Nat→List Sd→List Sd
 |0,x=>x
 |k+1,x=>match stepX x with
  |none=>x
  |some y=>tidyX k y
theorem drop_one {x:List Sd}{i:Nat}(h:i<x.length):(x.take (i+1)).drop i=[x.getD i e0]:=by
 rw[take_getD x i e0 h,List.drop_append_of_le_length (by rw[List.length_take];omega),List.drop_eq_nil_of_le (by rw[List.length_take];omega)];rfl
theorem drop_two {x:List Sd}{i:Nat}(h:i+1<x.length):(x.take (i+2)).drop i=[x.getD i e0,x.getD (i+1) e0]:=by
 rw[take_getD x (i+1) e0 h,List.drop_append_of_le_length (by rw[List.length_take];omega),drop_one (by omega)];rfl
theorem getX {x:List Sd}{i:Nat}(h:i<x.length):x.getD i e0∈x:=getD_mem x i e0 h
theorem lvD_len (p:Sd):(lvD p).length≤p.1.length:=List.length_filter_le _ _
theorem lvD_dead {p:Sd}(ha:Asc p.2)(hd:∀i∈p.2,i∈p.1.map (·.id)):(lvD p).length+p.2.length≤p.1.length:=by
 have h1:p.2.length≤(p.1.filter fun d=>decide (d.id∈p.2)).length:=by
  have hn:p.2.Nodup:=ha.imp fun h=>by omega
  have:=len_sub hn (m:=(p.1.filter fun d=>decide (d.id∈p.2)).map (·.id)) fun i hi=>by
   obtain⟨d,hd',rfl⟩:=List.mem_map.1 (hd i hi);exact List.mem_map.2 ⟨d,List.mem_filter.2 ⟨hd',by simpa using hi⟩,rfl⟩
  rwa [List.length_map] at this
 have h2:∀l:List Dc,(l.filter fun d=>!decide (d.id∈p.2)).length+(l.filter fun d=>decide (d.id∈p.2)).length=l.length:=by
  intro l
  induction l with
  |nil=>rfl
  |cons a l ih=>
   by_cases ha:a.id∈p.2<;>simp only[List.filter_cons,ha,decide_true,decide_false,Bool.not_true,Bool.not_false,if_true,if_false,List.length_cons,Bool.false_eq_true]<;>omega
 have:=h2 p.1;unfold lvD;omega
theorem perm_nodup {x:List Sd}(h:GX x){i:Nat}(hi:i+1<x.length):((lvD (x.getD i e0)++lvD (x.getD (i+1) e0)).map (·.id)).Nodup:=by
 have e:x=x.take i++(x.take (i+2)).drop i++x.drop (i+2):=by
  have h1:x.take i=(x.take (i+2)).take i:=by rw[List.take_take,Nat.min_eq_left (by omega)]
  rw[h1,List.take_append_drop,List.take_append_drop]
 have hn:=h.nd;rw[e,alive_app,alive_app,drop_two hi,List.map_append,List.map_append] at hn;have:=(List.nodup_append.1 (List.nodup_append.1 hn).1).2.1;simpa[alive] using this
theorem both_vd {x:List Sd}(h:GX x){i:Nat}(hi:i+1<x.length):VD (both x i):=by
 refine⟨?_,sortD_lt (perm_nodup h hi),fun d hd=>?_⟩
 ·unfold both;rw[sortD_len];have e:x=x.take i++(x.take (i+2)).drop i++x.drop (i+2):=by
   have h1:x.take i=(x.take (i+2)).take i:=by rw[List.take_take,Nat.min_eq_left (by omega)]
   rw[h1,List.take_append_drop,List.take_append_drop]
  have hn:=h.n;rw[e,alive_app,alive_app,drop_two hi,List.length_append,List.length_append] at hn;have e2:alive [x.getD i e0,x.getD (i+1) e0]=lvD (x.getD i e0)++lvD (x.getD (i+1) e0):=by simp[alive]
  rw[e2] at hn;omega
 ·rcases List.mem_append.1 ((sortD_mem d).1 hd) with h1|h1
  ·exact(h.vd _ (getX (by omega))).v d (List.mem_filter.1 h1).1
  ·exact(h.vd _ (getX hi)).v d (List.mem_filter.1 h1).1
theorem step_good {x y:List Sd}(h:GX x)(hs:stepX x=some y):GX y∧(alive y).Perm (alive x)∧sizeX y<sizeX x:=by
 unfold stepX at hs
 split at hs
 ·rename_i i hf;obtain rfl:=Option.some.inj hs;have hi:i<x.length:=List.mem_range.1 (List.mem_of_find?_eq_some hf);have hb:badX x i=true:=List.find?_some hf;unfold badX at hb;simp only[decide_eq_true_eq] at hb;have hpm:(lvD (x.getD i e0)).Perm (alive ((x.take (i+1)).drop i)):=by rw[drop_one hi];simp[alive]
  refine⟨h.repl (by omega) hpm ((h.vd _ (getX hi)).filter _),alive_repl (by omega) hpm,sizeX_repl (by omega) ?_⟩;rw[drop_one hi];have h1:=lvD_dead (h.da _ (getX hi)) (h.dd _ (getX hi));have h2:=(sizeX_seg (lvD (x.getD i e0))).1;have h3:sizeX [x.getD i e0]=(x.getD i e0).1.length+1:=by simp[sizeX]
  omega
 ·cases hf:(List.range (x.length-1)).reverse.find? (nearX x) with
  |none=>rw[hf] at hs;cases hs
  |some i=>
   rw[hf] at hs;obtain rfl:=Option.some.inj hs;have hi:i<x.length-1:=List.mem_range.1 (List.mem_reverse.1 (List.mem_of_find?_eq_some hf));have hpm:(both x i).Perm (alive ((x.take (i+2)).drop i)):=by
    rw[drop_two (by omega)];unfold both;simpa[alive] using(sortD_inOrd _).perm
   refine⟨h.repl (by omega) hpm (both_vd h (by omega)),alive_repl (by omega) hpm,sizeX_repl (by omega) ?_⟩;rw[drop_two (by omega)];have h2:=(sizeX_seg (both x i)).1;have h3:sizeX [x.getD i e0,x.getD (i+1) e0]=(x.getD i e0).1.length+(x.getD (i+1) e0).1.length+2:=by simp[sizeX]
   have h4:(both x i).length=(lvD (x.getD i e0)).length+(lvD (x.getD (i+1) e0)).length:=by unfold both;rw[sortD_len,List.length_append]
   have:=lvD_len (x.getD i e0);have:=lvD_len (x.getD (i+1) e0);omega
theorem tidy_good:∀(k:Nat) {x:List Sd},GX x→sizeX x≤k→GX (tidyX k x)∧(alive (tidyX k x)).Perm (alive x)∧stepX (tidyX k x)=none
 |0,x,h,hk=>by
  have:x=[]:=List.eq_nil_of_length_eq_zero (by unfold sizeX at hk;omega);subst this;exact⟨h,List.Perm.refl _,rfl⟩
 |k+1,x,h,hk=>by
  unfold tidyX
  cases hs:stepX x with
  |none=>exact⟨h,List.Perm.refl _,hs⟩
  |some y=>
   obtain⟨h1,h2,h3⟩:=step_good h hs;obtain⟨g1,g2,g3⟩:=tidy_good k h1 (by omega);exact⟨g1,g2.trans h2,g3⟩
theorem step_none {x:List Sd}(h:stepX x=none):(∀i,i<x.length→2*(x.getD i e0).2.length≤(x.getD i e0).1.length)∧∀i,i+1<x.length→2*(x.getD (i+1) e0).1.length≤(x.getD i e0).1.length:=by
 unfold stepX at h
 split at h
 ·cases h
 ·rename_i hf;have h1:∀i,i<x.length→badX x i=false:=fun i hi=>by
   have:=List.find?_eq_none.1 hf i (List.mem_range.2 hi);simpa using this
  have h2:=List.find?_eq_none.1 (Option.map_eq_none_iff.1 h);refine⟨fun i hi=>?_,fun i hi=>?_⟩
  ·have:=h1 i hi;unfold badX at this;simp only[decide_eq_false_iff_not] at this;omega
  ·have:=h2 i (List.mem_reverse.2 (List.mem_range.2 (by omega)));unfold nearX at this;simp only[decide_eq_true_eq] at this;omega
def hasX (p:Sd)(id:Int):Bool:=decide (id∈(lvD p).map (·.id))
def orD (d:List Int)(id:Int):List Int:=comb (fun _ _=>true) d [id]
def killX (x:List Sd)(id:Int):List Sd×Bool:=
 match (List.range x.length).find? fun i=>hasX (x.getD i e0) id with
 |some i=>(x.set i ((x.getD i e0).1,orD (x.getD i e0).2 id),true)
 |none=>(x,false)
theorem dead_V {x:List Sd}(h:GX x){p:Sd}(hp:p∈x):V p.2:=
 asc_of (h.da p hp) fun q hq=>by
  obtain⟨d,hd,rfl⟩:=List.mem_map.1 (h.dd p hp q hq);exact vd_id (h.vd p hp) hd
theorem one_V {id:Int}(h1:1≤id)(h2:id≤1000000000):V [id]:=asc_of (List.pairwise_singleton _ _) fun q hq=>by simp at hq;omega
theorem orD_spec {d:List Int}{id:Int}(hd:V d)(h1:1≤id)(h2:id≤1000000000):Asc (orD d id)∧∀z,z∈orD d id↔z∈d∨z=id:=by
 obtain⟨a,b⟩:=comb_spec (fun _ _=>true) hd (one_V h1 h2);refine⟨a,fun z=>?_⟩;unfold orD;rw[b]
 by_cases hb:z=id
 ·subst hb;by_cases ha:z∈d<;>simp[ha]
 ·by_cases ha:z∈d<;>simp[ha,hb]
theorem alive_mem {x:List Sd}{d:Dc}:d∈alive x↔∃p∈x,d∈lvD p:=by unfold alive;exact List.mem_flatMap
theorem cutX {x:List Sd}{i:Nat}(h:i<x.length):x=x.take i++x.getD i e0::x.drop (i+1):=by
 conv=>lhs;rw[←List.take_append_drop i x,List.drop_eq_getElem_cons h]
 rw[List.getD_eq_getElem?_getD,List.getElem?_eq_getElem h];rfl
theorem setX {x:List Sd}{i:Nat}(h:i<x.length)(p:Sd):x.set i p=x.take i++p::x.drop (i+1):=by
 rw[List.set_eq_take_append_cons_drop,if_pos h]
theorem filt_all {l:List Dc}{id:Int}(h:id∉l.map (·.id)):l.filter (fun d=>!decide (d.id=id))=l:=by
 rw[List.filter_eq_self];intro d hd;have:d.id≠id:=fun e=>h (List.mem_map.2 ⟨d,hd,e⟩);simp[this]
theorem kill_alive {x:List Sd}(h:GX x)(id:Int):alive (killX x id).1=(alive x).filter fun d=>!decide (d.id=id):=by
 unfold killX
 split
 ·rename_i i hf;have hi:i<x.length:=List.mem_range.1 (List.mem_of_find?_eq_some hf);have hh:hasX (x.getD i e0) id=true:=by simpa using List.find?_some hf
  unfold hasX at hh;simp only[decide_eq_true_eq] at hh;obtain⟨d0,hd0,e0'⟩:=List.mem_map.1 hh;have hd1:=(List.mem_filter.1 hd0).1;have hb:=vd_id (h.vd _ (getX hi)) hd1;rw[e0'] at hb;obtain⟨_,hor⟩:=orD_spec (dead_V h (getX hi)) hb.1 hb.2;have hn:=h.nd;rw[cutX hi,alive_app] at hn;have ec:alive (x.getD i e0::x.drop (i+1))=lvD (x.getD i e0)++alive (x.drop (i+1)):=by simp[alive]
  rw[ec,List.map_append,List.map_append] at hn;obtain⟨n1,n2,n3⟩:=List.nodup_append.1 hn;obtain⟨n4,n5,n6⟩:=List.nodup_append.1 n2;have k1:id∉(alive (x.take i)).map (·.id):=fun hm=>n3 id hm id (List.mem_append_left _ hh) rfl;have k2:id∉(alive (x.drop (i+1))).map (·.id):=fun hm=>n6 id hh id hm rfl;have e1:lvD ((x.getD i e0).1,orD (x.getD i e0).2 id)=(lvD (x.getD i e0)).filter fun d=>!decide (d.id=id):=by
   unfold lvD;rw[List.filter_filter];refine List.filter_congr fun d hd=>?_;simp only[hor]
   by_cases ha:d.id∈(x.getD i e0).2<;>by_cases hb:d.id=id<;>simp[ha,hb]
  show alive (x.set i _)=_;rw[setX hi,alive_app]
  conv=>rhs;rw[cutX hi,alive_app,ec,List.filter_append,List.filter_append,filt_all k1,filt_all k2]
  have ec2:alive (((x.getD i e0).1,orD (x.getD i e0).2 id)::x.drop (i+1))=lvD ((x.getD i e0).1,orD (x.getD i e0).2 id)++alive (x.drop (i+1)):=by simp[alive]
  rw[ec2,e1]
 ·rename_i hf;rw[filt_all];intro hm;obtain⟨d,hd,e⟩:=List.mem_map.1 hm;obtain⟨p,hp,hd2⟩:=alive_mem.1 hd;obtain⟨i,hi,rfl⟩:=mem_getD e0 hp;have:=List.find?_eq_none.1 hf i (List.mem_range.2 hi);unfold hasX at this;exact this (by simp only[decide_eq_true_eq];exact List.mem_map.2 ⟨d,hd2,e⟩)
theorem kill_was {x:List Sd}(id:Int):(killX x id).2=decide (id∈(alive x).map (·.id)):=by
 unfold killX
 split
 ·rename_i i hf;have hi:i<x.length:=List.mem_range.1 (List.mem_of_find?_eq_some hf);have hh:hasX (x.getD i e0) id=true:=by simpa using List.find?_some hf
  unfold hasX at hh;simp only[decide_eq_true_eq] at hh;obtain⟨d,hd,e⟩:=List.mem_map.1 hh;exact(decide_eq_true (List.mem_map.2 ⟨d,alive_mem.2 ⟨_,getX hi,hd⟩,e⟩)).symm
 ·rename_i hf;refine(decide_eq_false fun hm=>?_).symm;obtain⟨d,hd,e⟩:=List.mem_map.1 hm;obtain⟨p,hp,hd2⟩:=alive_mem.1 hd;obtain⟨i,hi,rfl⟩:=mem_getD e0 hp;have:=List.find?_eq_none.1 hf i (List.mem_range.2 hi);unfold hasX at this;exact this (by simp only[decide_eq_true_eq];exact List.mem_map.2 ⟨d,hd2,e⟩)
theorem kill_good {x:List Sd}(h:GX x)(id:Int):GX (killX x id).1:=by
 have ha:=kill_alive h id;have hs:(alive (killX x id).1).Sublist (alive x):=by rw[ha];exact List.filter_sublist
 have hm:∀p∈(killX x id).1,p∈x∨∃q∈x,p=(q.1,orD q.2 id)∧id∈q.1.map (·.id)∧1≤id∧id≤1000000000:=fun p hp=>by
  unfold killX at hp
  split at hp
  ·rename_i i hf;have hi:i<x.length:=List.mem_range.1 (List.mem_of_find?_eq_some hf);have hh:hasX (x.getD i e0) id=true:=by simpa using List.find?_some hf
   unfold hasX at hh;simp only[decide_eq_true_eq] at hh;obtain⟨d,hd,e⟩:=List.mem_map.1 hh;rcases List.mem_or_eq_of_mem_set hp with h1|h1
   ·exact .inl h1
   ·have hb:=vd_id (h.vd _ (getX hi)) (List.mem_filter.1 hd).1;rw[e] at hb;exact .inr ⟨_,getX hi,h1,List.mem_map.2 ⟨d,(List.mem_filter.1 hd).1,e⟩,hb.1,hb.2⟩
  ·exact .inl hp
 refine⟨fun p hp=>?_,fun p hp=>?_,fun p hp=>?_,fun p hp=>?_,(hs.map _).nodup h.nd,Nat.le_trans hs.length_le h.n⟩
 ·rcases hm p hp with h1|⟨q,hq,rfl,_⟩
  ·exact h.vd p h1
  ·exact h.vd q hq
 ·rcases hm p hp with h1|⟨q,hq,rfl,_⟩
  ·exact h.ne p h1
  ·exact h.ne q hq
 ·rcases hm p hp with h1|⟨q,hq,rfl,_,h2,h3⟩
  ·exact h.da p h1
  ·exact(orD_spec (dead_V h hq) h2 h3).1
 ·rcases hm p hp with h1|⟨q,hq,rfl,h4,h2,h3⟩
  ·exact h.dd p h1
  ·intro i hi;rcases ((orD_spec (dead_V h hq) h2 h3).2 i).1 hi with h5|h5
   ·exact h.dd q hq i h5
   ·rw[h5];exact h4
def plusX (x:List Sd)(d:Dc):List Sd:=(killX x d.id).1++[([d],[])]
theorem plus_alive {x:List Sd}(h:GX x)(d:Dc):alive (plusX x d)=((alive x).filter fun y=>!decide (y.id=d.id))++[d]:=by
 unfold plusX;rw[alive_app,kill_alive h]
 congr 1
theorem plus_good {x:List Sd}(h:GX x){d:Dc}(hv:validD d=true)(hn:(alive x).length<2000∨(killX x d.id).2=true):GX (plusX x d):=by
 have hk:=kill_good h d.id;have ha:=plus_alive h d;have hm:∀p∈plusX x d,p∈(killX x d.id).1∨p=([d],[]):=fun p hp=>by
  unfold plusX at hp;rcases List.mem_append.1 hp with h1|h1
  ·exact .inl h1
  ·exact .inr (by simpa using h1)
 refine⟨fun p hp=>?_,fun p hp=>?_,fun p hp=>?_,fun p hp=>?_,?_,?_⟩
 ·rcases hm p hp with h1|rfl
  ·exact hk.vd p h1
  ·exact⟨by simp,List.pairwise_singleton _ _,fun y hy=>by simp at hy;rw[hy];exact hv⟩
 ·rcases hm p hp with h1|rfl
  ·exact hk.ne p h1
  ·simp
 ·rcases hm p hp with h1|rfl
  ·exact hk.da p h1
  ·exact List.Pairwise.nil
 ·rcases hm p hp with h1|rfl
  ·exact hk.dd p h1
  ·intro i hi;simp at hi
 ·rw[ha,List.map_append,List.nodup_append];refine⟨(List.filter_sublist.map _).nodup h.nd,by simp,?_⟩;intro a h1 b h2 e;obtain⟨y,hy,e1⟩:=List.mem_map.1 h1;have h3:=(List.mem_filter.1 hy).2;simp at h2;rw[←e1,h2] at e;simp[e] at h3
 ·rw[ha,List.length_append];rcases hn with h1|h1
  ·have:=List.length_filter_le (fun y:Dc=>!decide (y.id=d.id)) (alive x);simp only[List.length_singleton];omega
  ·rw[kill_was] at h1;simp only[decide_eq_true_eq] at h1;obtain⟨y,hy,e⟩:=List.mem_map.1 h1;have h2:((alive x).filter fun y=>!decide (y.id=d.id)).length<(alive x).length:=by
    refine List.length_filter_lt_length_iff_exists.2 ⟨y,hy,?_⟩;simp[e]
   have:=h.n;simp only[List.length_singleton];omega
theorem GX.sub {x y:List Sd}(h:GX x)(hs:y.Sublist x):GX y:=by
 have ha:(alive y).Sublist (alive x):=by
  unfold alive
  induction hs with
  |slnil=>exact List.Sublist.refl _
  |cons a hs ih=>
   rw[List.flatMap_cons];refine(ih ⟨fun p hp=>h.vd p (List.mem_cons_of_mem _ hp),fun p hp=>h.ne p (List.mem_cons_of_mem _ hp),fun p hp=>h.da p (List.mem_cons_of_mem _ hp),fun p hp=>h.dd p (List.mem_cons_of_mem _ hp),?_,?_⟩).trans (List.sublist_append_right _ _)
   ·have:=h.nd;have e:∀l:List Sd,alive (a::l)=lvD a++alive l:=fun l=>by simp[alive]
    rw[e,List.map_append] at this;exact(List.nodup_append.1 this).2.1
   ·have:=h.n;have e:∀l:List Sd,alive (a::l)=lvD a++alive l:=fun l=>by simp[alive]
    rw[e,List.length_append] at this;omega
  |cons_cons a hs ih=>
   rw[List.flatMap_cons,List.flatMap_cons];refine List.Sublist.append (List.Sublist.refl _) (ih ⟨fun p hp=>h.vd p (List.mem_cons_of_mem _ hp),fun p hp=>h.ne p (List.mem_cons_of_mem _ hp),fun p hp=>h.da p (List.mem_cons_of_mem _ hp),fun p hp=>h.dd p (List.mem_cons_of_mem _ hp),?_,?_⟩)
   ·have:=h.nd;have e:∀l:List Sd,alive (a::l)=lvD a++alive l:=fun l=>by simp[alive]
    rw[e,List.map_append] at this;exact(List.nodup_append.1 this).2.1
   ·have:=h.n;have e:∀l:List Sd,alive (a::l)=lvD a++alive l:=fun l=>by simp[alive]
    rw[e,List.length_append] at this;omega
 exact⟨fun p hp=>h.vd p (hs.subset hp),fun p hp=>h.ne p (hs.subset hp),fun p hp=>h.da p (hs.subset hp),fun p hp=>h.dd p (hs.subset hp),(ha.map _).nodup h.nd,Nat.le_trans ha.length_le h.n⟩
def allX (x:List Sd):List Dc:=sortD (alive x)
theorem all_vd {x:List Sd}(h:GX x):VD (allX x):=by
 refine⟨by unfold allX;rw[sortD_len];exact h.n,sortD_lt h.nd,fun d hd=>?_⟩;obtain⟨p,hp,h2⟩:=alive_mem.1 ((sortD_mem d).1 hd);exact(h.vd p hp).v d (List.mem_filter.1 h2).1
theorem all_mem {x:List Sd}{d:Dc}:d∈allX x↔∃p∈x,d∈lvD p:=(sortD_mem d).trans alive_mem
theorem take_next {x:List Sd}{i:Nat}(hi:i<x.length)(d:Dc):d∈allX (x.take (i+1))↔d∈allX (x.take i)∨d∈lvD (x.getD i e0):=by
 rw[all_mem,all_mem,take_getD x i e0 hi]
 constructor
 ·rintro⟨p,hp,h⟩;rcases List.mem_append.1 hp with h1|h1
  ·exact .inl ⟨p,h1,h⟩
  ·simp only[List.mem_singleton] at h1;exact .inr (h1▸h)
 ·rintro (⟨p,hp,h⟩|h)
  ·exact⟨p,List.mem_append_left _ hp,h⟩
  ·exact⟨_,List.mem_append_right _ (List.mem_singleton.2 rfl),h⟩
theorem take_gx {x:List Sd}(h:GX x)(i:Nat):GX (x.take i):=h.sub (List.take_sublist _ _)
def liveX (p:Sd):List Int:=comb (fun _ q=>!q) (p.1.map (·.id)) p.2
theorem lv_vd {x:List Sd}(h:GX x){p:Sd}(hp:p∈x):VD (lvD p):=(h.vd p hp).filter _
theorem live_eq {x:List Sd}(h:GX x){p:Sd}(hp:p∈x):liveX p=(lvD p).map (·.id):=by
 obtain⟨a,b⟩:=comb_spec (fun _ q=>!q) (ids_V (h.vd p hp)) (dead_V h hp);refine asc_ext _ _ a (List.pairwise_map.2 (lv_vd h hp).lt) fun z=>?_;rw[show z∈liveX p↔_ from b z];simp only[Bool.not_true,Bool.not_false,Bool.false_eq_true,and_false,or_false,and_true]
 constructor
 ·rintro⟨h1,h2⟩;obtain⟨d,hd,rfl⟩:=List.mem_map.1 h1;exact List.mem_map.2 ⟨d,List.mem_filter.2 ⟨hd,by simpa using h2⟩,rfl⟩
 ·intro h1;obtain⟨d,hd,rfl⟩:=List.mem_map.1 h1;obtain⟨h2,h3⟩:=List.mem_filter.1 hd;exact⟨List.mem_map.2 ⟨d,h2,rfl⟩,by simpa using h3⟩
def orL (a b:List Int):List Int:=comb (fun _ _=>true) a b
theorem orL_spec {a b:List Int}(ha:V a)(hb:V b):Asc (orL a b)∧∀z,z∈orL a b↔z∈a∨z∈b:=by
 obtain⟨h1,h2⟩:=comb_spec (fun _ _=>true) ha hb;refine⟨h1,fun z=>?_⟩;rw[show z∈orL a b↔_ from h2 z]
 by_cases h3:z∈a<;>by_cases h4:z∈b<;>simp[h3,h4]
theorem V_asc {a:List Int}(h:V a):Asc a:=asc_pair h
theorem orL_nil {a:List Int}(ha:V a):orL [] a=a:=by
 obtain⟨h1,h2⟩:=orL_spec (show V [] from rfl) ha;exact asc_ext _ _ h1 (V_asc ha) fun z=>by rw[h2];simp
def docsQ (x:List Sd):Nat→List Int
 |0=>[]
 |i+1=>orL (orL [] (docsQ x i)) (liveX (x.getD i e0))
theorem docsQ_eq {x:List Sd}(h:GX x):∀i,i≤x.length→docsQ x i=(allX (x.take i)).map (·.id)
 |0,_=>rfl
 |i+1,hi=>by
  have hg:=all_vd (take_gx h i);have hg2:=all_vd (take_gx h (i+1));unfold docsQ;rw[docsQ_eq h i (by omega),orL_nil (ids_V hg),live_eq h (getX hi)];obtain⟨h1,h2⟩:=orL_spec (ids_V hg) (ids_V (lv_vd h (getX hi)));refine asc_ext _ _ h1 (List.pairwise_map.2 hg2.lt) fun z=>?_;rw[h2]
  constructor
  ·rintro (h3|h3)
   ·obtain⟨d,hd,rfl⟩:=List.mem_map.1 h3;exact List.mem_map.2 ⟨d,(take_next hi d).2 (.inl hd),rfl⟩
   ·obtain⟨d,hd,rfl⟩:=List.mem_map.1 h3;exact List.mem_map.2 ⟨d,(take_next hi d).2 (.inr hd),rfl⟩
  ·intro h3;obtain⟨d,hd,rfl⟩:=List.mem_map.1 h3;rcases (take_next hi d).1 hd with h4|h4
   ·exact .inl (List.mem_map.2 ⟨d,h4,rfl⟩)
   ·exact .inr (List.mem_map.2 ⟨d,h4,rfl⟩)
theorem only_post {L:List Dc}(hL:VD L)(k:Ky){ds:List Int}(hd:V ds):onlyL (postF L k) ds=postF (L.filter fun d=>decide (d.id∈ds)) k:=by
 unfold onlyL;rw[if_pos ⟨validL_post hL.lt hL.v k,hd⟩,←on_eq (validL_iff (validL_post hL.lt hL.v k)).1 (V_asc hd)];clear hL;unfold onR postF
 induction L with
 |nil=>rfl
 |cons a L ih=>
  rw[List.flatMap_cons,List.filter_append,ih]
  by_cases ha:a.id∈ds
  ·rw[List.filter_cons_of_pos (by simpa using ha),List.flatMap_cons]
   congr 1
   unfold pst
   split
   ·rfl
   ·simp[ha]
  ·rw[List.filter_cons_of_neg (by simpa using ha)];unfold pst
   split
   ·rfl
   ·simp[ha]
theorem lv_filter {x:List Sd}(h:GX x){p:Sd}(hp:p∈x):(p.1.filter fun d=>decide (d.id∈liveX p))=lvD p:=by
 rw[live_eq h hp];unfold lvD;refine List.filter_congr fun d hd=>?_
 by_cases hx:d.id∈p.2
 ·simp only[hx,decide_true,Bool.not_true,decide_eq_false_iff_not];intro hm;obtain⟨y,hy,e⟩:=List.mem_map.1 hm;have:=(List.mem_filter.1 hy).2;rw[e] at this;simp[hx] at this
 ·simp only[hx,decide_false,Bool.not_false,decide_eq_true_eq];exact List.mem_map.2 ⟨d,List.mem_filter.2 ⟨hd,by simp[hx]⟩,rfl⟩
def findQ (x:List Sd)(k:Ky):Nat→List Ps
 |0=>[]
 |i+1=>unionL (findQ x k i) (onlyL (findS (sgF (x.getD i e0).1) k) (liveX (x.getD i e0)))
theorem findQ_eq {x:List Sd}(h:GX x)(k:Ky):∀i,i≤x.length→findQ x k i=postF (allX (x.take i)) k
 |0,_=>rfl
 |i+1,hi=>by
  have hp:=getX (x:=x) hi;have hv:=h.vd _ hp;unfold findQ;rw[findQ_eq h k i (by omega),findS_built hv.n hv.lt hv.v,only_post hv k (by rw[live_eq h hp];exact ids_V (lv_vd h hp)),lv_filter h hp];exact find_vd (all_vd (take_gx h i)) (lv_vd h hp) (all_vd (take_gx h (i+1))) (take_next hi) k
theorem findQ_all {x:List Sd}(h:GX x)(k:Ky):findQ x k x.length=postF (allX x) k:=by rw[findQ_eq h k _ (Nat.le_refl _),List.take_length]
structure PX (P:Dc→Prop)(B:Nat)(x:List Sd):Prop where
 p:∀p∈x,∀d∈p.1,P d
 b:∀p∈x,p.1.length≤B
theorem lv_sub {p:Sd}{d:Dc}(h:d∈lvD p):d∈p.1:=(List.mem_filter.1 h).1
theorem PX.each {P:Dc→Prop}{B:Nat}{x:List Sd}(h:PX P B x):∀d∈alive x,P d:=fun d hd=>by
 obtain⟨p,hp,h2⟩:=alive_mem.1 hd;exact h.p p hp d (lv_sub h2)
theorem PX.repl {P:Dc→Prop}{B:Nat}{x:List Sd}(h:PX P B x){i j:Nat}{L:List Dc}(hL:∀d∈L,P d)(hb:L.length≤B):PX P B (replX x i j L):=by
 have hm:∀p∈replX x i j L,p∈x∨p=(L,[]):=fun p hp=>by
  unfold replX at hp;rcases List.mem_append.1 hp with h1|h1
  ·rcases List.mem_append.1 h1 with h2|h2
   ·exact .inl (List.mem_of_mem_take h2)
   ·unfold segX at h2
    split at h2
    ·simp at h2
    ·exact .inr (by simpa using h2)
  ·exact .inl (List.mem_of_mem_drop h1)
 refine⟨fun p hp=>?_,fun p hp=>?_⟩
 ·rcases hm p hp with h1|rfl
  ·exact h.p p h1
  ·exact hL
 ·rcases hm p hp with h1|rfl
  ·exact h.b p h1
  ·exact hb
theorem alive_part {x:List Sd}{p:Sd}(hp:p∈x):(lvD p).length≤(alive x).length:=by
 obtain⟨a,b,rfl⟩:=List.append_of_mem hp;rw[alive_app,List.length_append];have:alive (p::b)=lvD p++alive b:=by simp[alive]
 rw[this,List.length_append];omega
theorem both_len {x:List Sd}{i:Nat}(hi:i+1<x.length):(both x i).length≤(alive x).length:=by
 have e:x=x.take i++(x.take (i+2)).drop i++x.drop (i+2):=by
  have h1:x.take i=(x.take (i+2)).take i:=by rw[List.take_take,Nat.min_eq_left (by omega)]
  rw[h1,List.take_append_drop,List.take_append_drop]
 have h1:(alive x).length=(alive (x.take i++(x.take (i+2)).drop i++x.drop (i+2))).length:=by rw[←e]
 rw[alive_app,alive_app,drop_two hi,List.length_append,List.length_append] at h1;have e2:alive [x.getD i e0,x.getD (i+1) e0]=lvD (x.getD i e0)++lvD (x.getD (i+1) e0):=by simp[alive]
 rw[e2] at h1;unfold both;rw[sortD_len];omega
theorem both_mem {x:List Sd}{i:Nat}{d:Dc}(hd:d∈both x i):d∈(x.getD i e0).1∨d∈(x.getD (i+1) e0).1:=
 (List.mem_append.1 ((sortD_mem d).1 hd)).imp lv_sub lv_sub
theorem PX.step {P:Dc→Prop}{B:Nat}{x y:List Sd}(h:PX P B x)(hB:(alive x).length≤B)(hs:stepX x=some y):PX P B y:=by
 unfold stepX at hs
 split at hs
 ·rename_i i hf;obtain rfl:=Option.some.inj hs;have hi:i<x.length:=List.mem_range.1 (List.mem_of_find?_eq_some hf);exact h.repl (fun d hd=>h.p _ (getX hi) d (lv_sub hd)) (Nat.le_trans (alive_part (getX hi)) hB)
 ·cases hf:(List.range (x.length-1)).reverse.find? (nearX x) with
  |none=>rw[hf] at hs;cases hs
  |some i=>
   rw[hf] at hs;obtain rfl:=Option.some.inj hs;have hi:i<x.length-1:=List.mem_range.1 (List.mem_reverse.1 (List.mem_of_find?_eq_some hf));exact h.repl (fun d hd=>(both_mem hd).elim (h.p _ (getX (by omega)) d) (h.p _ (getX (by omega)) d)) (Nat.le_trans (both_len (by omega)) hB)
theorem PX.tidy {P:Dc→Prop}{B:Nat}:∀(k:Nat) {x:List Sd},GX x→PX P B x→(alive x).length≤B→PX P B (tidyX k x)
 |0,x,_,h,_=>h
 |k+1,x,hg,h,hB=>by
  unfold tidyX
  cases hs:stepX x with
  |none=>exact h
  |some y=>
   obtain⟨h1,h2,_⟩:=step_good hg hs;exact PX.tidy k h1 (h.step hB hs) (by rw[h2.length_eq];exact hB)
theorem PX.kill {P:Dc→Prop}{B:Nat}{x:List Sd}(h:PX P B x)(id:Int):PX P B (killX x id).1:=by
 have hm:∀p∈(killX x id).1,∃q∈x,p.1=q.1:=fun p hp=>by
  unfold killX at hp
  split at hp
  ·rename_i i hf;have hi:i<x.length:=List.mem_range.1 (List.mem_of_find?_eq_some hf);rcases List.mem_or_eq_of_mem_set hp with h1|h1
   ·exact⟨p,h1,rfl⟩
   ·exact⟨_,getX hi,by rw[h1]⟩
  ·exact⟨p,hp,rfl⟩
 refine⟨fun p hp=>?_,fun p hp=>?_⟩
 ·obtain⟨q,hq,e⟩:=hm p hp;rw[e];exact h.p q hq
 ·obtain⟨q,hq,e⟩:=hm p hp;rw[e];exact h.b q hq
theorem PX.plus {P:Dc→Prop}{B:Nat}{x:List Sd}(h:PX P B x){d:Dc}(hd:P d)(hB:1≤B):PX P B (plusX x d):=by
 have hk:=h.kill d.id;refine⟨fun p hp=>?_,fun p hp=>?_⟩
 ·rcases List.mem_append.1 hp with h1|h1
  ·exact hk.p p h1
  ·have:p=([d],[]):=by simpa using h1
   subst this;intro y hy;have:y=d:=by simpa using hy
   rw[this];exact hd
 ·rcases List.mem_append.1 hp with h1|h1
  ·exact hk.b p h1
  ·have:p=([d],[]):=by simpa using h1
   subst this;exact hB
def Tidy (x:List Sd):Prop:=(∀i,i<x.length→2*(x.getD i e0).2.length≤(x.getD i e0).1.length)∧∀i,i+1<x.length→2*(x.getD (i+1) e0).1.length≤(x.getD i e0).1.length
theorem lvD_half {x:List Sd}(h:GX x){p:Sd}(hp:p∈x):(lvD p).length+p.2.length=p.1.length:=by
 have h1:=lvD_dead (h.da p hp) (h.dd p hp);have h2:(p.1.filter fun d=>decide (d.id∈p.2)).length≤p.2.length:=by
  have hn:((p.1.filter fun d=>decide (d.id∈p.2)).map (·.id)).Nodup:=(List.filter_sublist.map _).nodup (lt_nodup (h.vd p hp).lt);have:=len_sub hn (m:=p.2) fun i hi=>by
   obtain⟨d,hd,rfl⟩:=List.mem_map.1 hi;exact of_decide_eq_true (List.mem_filter.1 hd).2
  rwa [List.length_map] at this
 have h3:∀l:List Dc,(l.filter fun d=>!decide (d.id∈p.2)).length+(l.filter fun d=>decide (d.id∈p.2)).length=l.length:=by
  intro l
  induction l with
  |nil=>rfl
  |cons a l ih=>
   by_cases ha:a.id∈p.2<;>simp only[List.filter_cons,ha,decide_true,decide_false,Bool.not_true,Bool.not_false,if_true,if_false,List.length_cons,Bool.false_eq_true]<;>omega
 have:=h3 p.1;unfold lvD at h1 ⊢;omega
theorem tidy_pow {x:List Sd}(h:GX x)(ht:Tidy x):∀i,i<x.length→∀j,j≤i→2 ^ j≤(x.getD (i-j) e0).1.length
 |i,hi,0,_=>by
  have:=List.length_pos_iff.2 (h.ne _ (getX hi));simp only[Nat.sub_zero];omega
 |i,hi,j+1,hj=>by
  have h1:=tidy_pow h ht i hi j (by omega);have h2:=ht.2 (i-(j+1)) (by omega);rw[show i-(j+1)+1=i-j by omega] at h2;rw[Nat.pow_succ];omega
theorem tidy_len {x:List Sd}(h:GX x)(ht:Tidy x){B:Nat}(hB:(alive x).length≤B):x≠[]→2 ^ (x.length-1)≤2*B:=fun hne=>by
 have hl:=List.length_pos_iff.2 hne;have h1:=tidy_pow h ht (x.length-1) (by omega) (x.length-1) (Nat.le_refl _);rw[Nat.sub_self] at h1;have h2:=ht.1 0 hl;have h3:=lvD_half h (getX hl);have h4:=alive_part (getX (x:=x) hl);omega
def lvS (s:Sg)(d:List Int):List Int:=comb (fun _ q=>!q) s.docs d
def allV (S:List Sg)(D:List (List Int)):Nat→List Int
 |0=>[]
 |i+1=>orL (allV S D i) (lvS (S.getD i noSeg) (D.getD i []))
def okV (S:List Sg)(D:List (List Int))(i:Nat):Bool:=
 ((validS (S.getD i noSeg)&&decide ((S.getD i noSeg).docs≠[]))&&decide (i=0∨2*(S.getD i noSeg).docs.length≤(S.getD (i-1) noSeg).docs.length)) &&
 ((asc (D.getD i []) 1 1000000000&&decide (comb (fun _ q=>!q) (D.getD i []) (S.getD i noSeg).docs=[]))&&decide (2*(D.getD i []).length≤(S.getD i noSeg).docs.length)) &&
 decide (comb (fun p q=>p&&q) (allV S D i) (lvS (S.getD i noSeg) (D.getD i []))=[])
def validX (S:List Sg)(D:List (List Int)):Bool:=decide (S.length=D.length)&&((List.range S.length).all (okV S D)&&decide ((allV S D S.length).length≤2000))
def segS (x:List Sd):List Sg:=x.map fun p=>sgF p.1
def segD (x:List Sd):List (List Int):=x.map (·.2)
theorem segS_get {x:List Sd}{i:Nat}(h:i<x.length):(segS x).getD i noSeg=sgF (x.getD i e0).1:=by
 unfold segS;simp[List.getD_eq_getElem?_getD,List.getElem?_map,List.getElem?_eq_getElem h]
theorem segD_get {x:List Sd}{i:Nat}(h:i<x.length):(segD x).getD i []=(x.getD i e0).2:=by
 unfold segD;simp[List.getD_eq_getElem?_getD,List.getElem?_map,List.getElem?_eq_getElem h]
theorem segS_len (x:List Sd):(segS x).length=x.length:=by unfold segS;rw[List.length_map]
theorem segD_len (x:List Sd):(segD x).length=x.length:=by unfold segD;rw[List.length_map]
theorem lvS_eq (p:Sd):lvS (sgF p.1) p.2=liveX p:=rfl
theorem allV_eq {x:List Sd}(h:GX x):∀i,i≤x.length→allV (segS x) (segD x) i=(allX (x.take i)).map (·.id)
 |0,_=>rfl
 |i+1,hi=>by
  rw[←docsQ_eq h (i+1) hi];unfold allV docsQ;rw[allV_eq h i (by omega),segS_get hi,segD_get hi,docsQ_eq h i (by omega),orL_nil (ids_V (all_vd (take_gx h i)))];rfl
theorem valid_x {x:List Sd}(h:GX x)(ht:Tidy x):validX (segS x) (segD x)=true:=by
 unfold validX;rw[segS_len,segD_len,decide_eq_true rfl,Bool.true_and,Bool.and_eq_true];refine⟨List.all_eq_true.2 fun i hi=>?_,?_⟩
 ·have hi:=List.mem_range.1 hi;have hp:=getX (x:=x) hi;have hv:=h.vd _ hp;have hd:(sgF (x.getD i e0).1).docs=(x.getD i e0).1.map (·.id):=rfl;unfold okV;rw[segS_get hi,segD_get hi,allV_eq h i (by omega),lvS_eq,live_eq h hp,hv.valid,dead_V h hp];have h1:(sgF (x.getD i e0).1).docs≠[]:=by
   rw[hd];intro e;exact h.ne _ hp (List.map_eq_nil_iff.1 e)
  have h2:i=0∨2*(sgF (x.getD i e0).1).docs.length≤((segS x).getD (i-1) noSeg).docs.length:=by
   rcases Nat.eq_zero_or_pos i with h0|h0
   ·exact .inl h0
   ·refine .inr ?_;rw[segS_get (by omega)];have:=ht.2 (i-1) (by omega);rw[show i-1+1=i by omega] at this;show 2*((x.getD i e0).1.map (·.id)).length≤((x.getD (i-1) e0).1.map (·.id)).length;rw[List.length_map,List.length_map];exact this
  have h3:comb (fun _ q=>!q) (x.getD i e0).2 (sgF (x.getD i e0).1).docs=[]:=by
   obtain⟨_,b⟩:=comb_spec (fun _ q=>!q) (dead_V h hp) (ids_V hv);rw[List.eq_nil_iff_forall_not_mem];intro z hz;have:=(b z).1 hz;simp only[Bool.not_true,Bool.not_false,Bool.false_eq_true,and_false,or_false,and_true] at this;exact this.2 (h.dd _ hp z this.1)
  have h4:2*(x.getD i e0).2.length≤(sgF (x.getD i e0).1).docs.length:=by
   show _≤((x.getD i e0).1.map (·.id)).length;rw[List.length_map];exact ht.1 i hi
  have h5:comb (fun p q=>p&&q) ((allX (x.take i)).map (·.id)) ((lvD (x.getD i e0)).map (·.id))=[]:=by
   obtain⟨_,b⟩:=comb_spec (fun p q=>p&&q) (ids_V (all_vd (take_gx h i))) (ids_V (lv_vd h hp));rw[List.eq_nil_iff_forall_not_mem];intro z hz;have:=(b z).1 hz;simp only[Bool.and_false,Bool.false_and,Bool.and_true,Bool.false_eq_true,and_false,false_or,and_true] at this;obtain⟨d,hd1,e1⟩:=List.mem_map.1 this.1;obtain⟨d2,hd2,e2⟩:=List.mem_map.1 this.2;have hn:=(take_gx h (i+1)).nd;rw[take_getD x i e0 hi,alive_app,List.map_append] at hn;have hm:z∈(alive (x.take i)).map (·.id):=List.mem_map.2 ⟨d,(sortD_mem d).1 hd1,e1⟩;have hm2:z∈(alive [x.getD i e0]).map (·.id):=List.mem_map.2 ⟨d2,by simpa[alive,-List.getD_eq_getElem?_getD] using hd2,e2⟩;exact(List.nodup_append.1 hn).2.2 z hm z hm2 rfl
  rw[decide_eq_true h1,decide_eq_true h2,decide_eq_true h3,decide_eq_true h4,decide_eq_true h5];rfl
 ·rw[allV_eq h _ (Nat.le_refl _),List.length_map,List.take_length];have:=(all_vd h).n;simpa using this
def putX (x:List Sd)(d:Dc):List Sd:=tidyX (sizeX (plusX x d)) (plusX x d)
def dropX (x:List Sd)(id:Int):List Sd:=if (killX x id).2=true then tidyX (sizeX (killX x id).1) (killX x id).1 else x
structure IX (P:Dc→Prop)(B:Nat)(x:List Sd):Prop where
 g:GX x
 t:Tidy x
 p:PX P B x
theorem IX.nil {P:Dc→Prop}{B:Nat}:IX P B []:=⟨⟨by simp,by simp,by simp,by simp,by simp[alive],by simp[alive]⟩,⟨by simp,by simp⟩,⟨by simp,by simp⟩⟩
theorem IX.valid {P:Dc→Prop}{B:Nat}{x:List Sd}(h:IX P B x):validX (segS x) (segD x)=true:=valid_x h.g h.t
theorem IX.put {P:Dc→Prop}{B:Nat}{x:List Sd}(h:IX P B x){d:Dc}(hv:validD d=true)(hd:P d)(hB:1≤B)(hn:(alive x).length<2000)(hl:(alive (plusX x d)).length≤B) :
  IX P B (putX x d)∧(alive (putX x d)).Perm (((alive x).filter fun y=>!decide (y.id=d.id))++[d]):=by
 have hg:=plus_good h.g hv (.inl hn);obtain⟨h1,h2,h3⟩:=tidy_good (sizeX (plusX x d)) hg (Nat.le_refl _);exact⟨⟨h1,step_none h3,PX.tidy _ hg (h.p.plus hd hB) hl⟩,h2.trans (by rw[plus_alive h.g])⟩
theorem IX.drop {P:Dc→Prop}{B:Nat}{x:List Sd}(h:IX P B x)(id:Int)(hl:(alive x).length≤B) :
  IX P B (dropX x id)∧(alive (dropX x id)).Perm ((alive x).filter fun y=>!decide (y.id=id)):=by
 unfold dropX
 split
 ·have hg:=kill_good h.g id;have hle:(alive (killX x id).1).length≤B:=by
   rw[kill_alive h.g];exact Nat.le_trans (List.length_filter_le _ _) hl
  obtain⟨h1,h2,h3⟩:=tidy_good (sizeX (killX x id).1) hg (Nat.le_refl _);exact⟨⟨h1,step_none h3,PX.tidy _ hg (h.p.kill id) hle⟩,h2.trans (by rw[kill_alive h.g])⟩
 ·rename_i hw;refine⟨h,?_⟩;rw[filt_all];intro hm;rw[kill_was] at hw;exact hw (decide_eq_true hm)
def tit (id:Int)(w:Bs):Dc:=⟨id,[⟨1,[(w,0)]⟩],[]⟩
abbrev Chg:=Bool×Dc
def chgX (x:List Sd)(o:Chg):List Sd:=if o.1=true then dropX x o.2.id else if validD o.2=true then putX x o.2 else x
def playX (l:List Chg):List Sd:=l.foldl chgX []
def ofL (l:List Chg)(d:Dc):Prop:=∃o∈l,o.2=d∧validD d=true
theorem pool_len {l:List Chg}{L:List Dc}(hn:(L.map (·.id)).Nodup)(h:∀d∈L,ofL l d):L.length≤l.length:=by
 have:=len_sub hn (m:=l.map (·.2.id)) fun i hi=>by
  obtain⟨d,hd,rfl⟩:=List.mem_map.1 hi;obtain⟨o,ho,rfl,_⟩:=h d hd;exact List.mem_map.2 ⟨o,ho,rfl⟩
 rwa [List.length_map,List.length_map] at this
theorem chg_ix {l:List Chg}{B:Nat}(hl:l.length≤B)(hB:B<2000){x:List Sd}(h:IX (ofL l) B x){o:Chg}(ho:o∈l):IX (ofL l) B (chgX x o):=by
 have ha:∀{y:List Sd},GX y→PX (ofL l) B y→(alive y).length≤B:=fun hg hp=>Nat.le_trans (pool_len hg.nd hp.each) hl;have hx:=ha h.g h.p;unfold chgX
 split
 ·exact(h.drop _ hx).1
 ·split
  ·rename_i hv;have hd:ofL l o.2:=⟨o,ho,rfl,hv⟩
   have hpos:1≤B:=by have:=List.length_pos_of_mem ho;omega
   exact(h.put hv hd hpos (by omega) (ha (plus_good h.g hv (.inl (by omega))) (h.p.plus hd hpos))).1
  ·exact h
theorem play_ix {l:List Chg}{B:Nat}(hl:l.length≤B)(hB:B<2000):∀m,m≤l.length→IX (ofL l) B (playX (l.take m))
 |0,_=>IX.nil
 |m+1,hm=>by
  have hlt:m<l.length:=hm;have e:playX (l.take (m+1))=chgX (playX (l.take m)) l[m]:=by
   unfold playX;rw[List.take_succ_eq_append_getElem hlt,List.foldl_append];rfl
  rw[e];exact chg_ix hl hB (play_ix hl hB m (by omega)) (List.getElem_mem hlt)
structure Wee (m:Nat)(d:Dc):Prop where
 k:(dkeys d).length≤m
 w:∀z∈d.zs,z.ws.length≤1000
 n:d.ns.length≤20
theorem vd_sz {L:List Dc}(hv:VD L){m:Nat}(h:∀d∈L,Wee m d)(h40:L.length≤40)(hm:L.length*m≤1000):SzS (sgF L):=
 built_sz h40 (Nat.le_trans (flat_len dkeys m L fun d hd=>(h d hd).k) hm) hv.v (fun d hd=>(h d hd).w) (fun d hd=>(h d hd).n)
theorem wee_tit (id:Int)(w:Bs):Wee 1 (tit id w):=⟨by simp[dkeys,zkeys,tit],fun z hz=>by simp[tit] at hz;subst hz;simp,by simp[tit]⟩
structure BX (m:Nat)(x:List Sd):Prop where
 g:GX x
 a:(alive x).length≤40
 b:∀p∈x,p.1.length≤40∧p.1.length*m≤1000
 c:(alive x).length*m≤1000
 w:∀p∈x,∀d∈p.1,Wee m d
theorem BX.sz {m:Nat}{x:List Sd}(h:BX m x){p:Sd}(hp:p∈x):SzS (sgF p.1):=vd_sz (h.g.vd p hp) (h.w p hp) (h.b p hp).1 (h.b p hp).2
theorem BX.lv {m:Nat}{x:List Sd}(h:BX m x){p:Sd}(hp:p∈x):SzS (sgF (lvD p)):=by
 refine vd_sz (lv_vd h.g hp) (fun d hd=>h.w p hp d (lv_sub hd)) (Nat.le_trans (lvD_len p) (h.b p hp).1) (Nat.le_trans (Nat.mul_le_mul_right _ (lvD_len p)) (h.b p hp).2)
theorem BX.both {m:Nat}{x:List Sd}(h:BX m x){i:Nat}(hi:i+1<x.length):SzS (sgF (both x i)):=by
 have hl:=both_len hi;refine vd_sz (both_vd h.g hi) (fun d hd=>?_) (Nat.le_trans hl h.a) (Nat.le_trans (Nat.mul_le_mul_right _ hl) h.c);exact(both_mem hd).elim (h.w _ (getX (by omega)) d) (h.w _ (getX (by omega)) d)
theorem BX.step {m:Nat}{x y:List Sd}(h:BX m x)(hs:stepX x=some y):BX m y:=by
 obtain⟨h1,h2,_⟩:=step_good h.g hs;have hp:PX (Wee m) 40 y:=PX.step ⟨h.w,fun p hp=>(h.b p hp).1⟩ h.a hs;refine⟨h1,by rw[h2.length_eq];exact h.a,fun p hp'=>⟨hp.b p hp',?_⟩,by rw[h2.length_eq];exact h.c,hp.p⟩;rcases Nat.eq_zero_or_pos m with h0|h0
 ·subst h0;omega
 ·have hq:PX (Wee m) (1000 / m) y:=PX.step ⟨h.w,fun p hp=>(Nat.le_div_iff_mul_le h0).2 (h.b p hp).2⟩ ((Nat.le_div_iff_mul_le h0).2 h.c) hs;exact(Nat.le_div_iff_mul_le h0).1 (hq.b p hp')
theorem IX.bx {P:Dc→Prop}{B m:Nat}{x:List Sd}(h:IX P B x)(hP:∀d,P d→Wee m d)(ha:(alive x).length≤B)(hB:B≤40)(hm:B*m≤1000):BX m x:=
 ⟨h.g,by omega,fun p hp=>⟨Nat.le_trans (h.p.b p hp) hB,Nat.le_trans (Nat.mul_le_mul_right _ (h.p.b p hp)) hm⟩,Nat.le_trans (Nat.mul_le_mul_right _ ha) hm,fun p hp d hd=>hP d (h.p.p p hp d hd)⟩
theorem BX.kill {m:Nat}{x:List Sd}(h:BX m x)(id:Int):BX m (killX x id).1:=by
 have hp:PX (Wee m) 40 (killX x id).1:=PX.kill ⟨h.w,fun p hp=>(h.b p hp).1⟩ id;have hl:(alive (killX x id).1).length≤(alive x).length:=by rw[kill_alive h.g];exact List.length_filter_le _ _
 refine⟨kill_good h.g id,Nat.le_trans hl h.a,fun p hp'=>⟨hp.b p hp',?_⟩,Nat.le_trans (Nat.mul_le_mul_right _ hl) h.c,hp.p⟩;rcases Nat.eq_zero_or_pos m with h0|h0
 ·subst h0;omega
 ·have hq:PX (Wee m) (1000 / m) (killX x id).1:=PX.kill ⟨h.w,fun p hp=>(Nat.le_div_iff_mul_le h0).2 (h.b p hp).2⟩ id;exact(Nat.le_div_iff_mul_le h0).1 (hq.b p hp')
theorem BX.plus {m:Nat}{x:List Sd}(h:BX m x){d:Dc}(hv:validD d=true)(hd:Wee m d)(ha:(alive (plusX x d)).length≤40)(hm:(alive (plusX x d)).length*m≤1000):BX m (plusX x d):=by
 have hk:=h.kill d.id;have hpos:1≤(alive (plusX x d)).length:=by rw[plus_alive h.g,List.length_append,List.length_singleton];omega
 have hm1:1*m≤1000:=Nat.le_trans (Nat.mul_le_mul_right _ hpos) hm;have hc:∀p∈plusX x d,p∈(killX x d.id).1∨p=([d],[]):=fun p hp=>by
  unfold plusX at hp;rcases List.mem_append.1 hp with h1|h1
  ·exact .inl h1
  ·exact .inr (by simpa using h1)
 refine⟨plus_good h.g hv (.inl (by have:=h.a;omega)),ha,fun p hp=>?_,hm,fun p hp=>?_⟩
 ·rcases hc p hp with h1|rfl
  ·exact hk.b p h1
  ·exact⟨by simp,by simpa using hm1⟩
 ·rcases hc p hp with h1|rfl
  ·exact hk.w p h1
  ·intro y hy;have:y=d:=by simpa using hy
   rw[this];exact hd
def exX:List Sd:=playX [(false,tit 1 [97]),(false,tit 2 [97]),(false,tit 3 [98])]
def exY:List Sd:=putX exX (tit 1 [99])
theorem ex_x:exX=[([tit 1 [97],tit 2 [97]],[]),([tit 3 [98]],[])]:=by decide +kernel
theorem ex_y:exY=[([tit 1 [99],tit 2 [97],tit 3 [98]],[])]:=by decide +kernel
theorem exY_find:docs (postF (allX exY) (1,[97]))=[2]:=by decide +kernel
def ssAV (l:List Sg):List AV:=l.flatMap sgC
theorem ss_rows:CellsK sgC 3:=fun _=>rfl
theorem ssAV_len (l:List Sg):(ssAV l).length=l.length*3:=rows_len ss_rows l
theorem ssAV_at (l:List Sg)(i:Nat)(h:i<l.length):(ssAV l).getD (i*3) .top=.sl (l.getD i noSeg).docs.length (ints (l.getD i noSeg).docs) .none∧(ssAV l).getD (i*3+1) .top=.sl (l.getD i noSeg).tms.length (tmAV (l.getD i noSeg).tms) .none∧(ssAV l).getD (i*3+2) .top=.sl (l.getD i noSeg).cols.length (clAV (l.getD i noSeg).cols) .none:=
 ⟨rows_at ss_rows l i 0 noSeg h (by omega),rows_at ss_rows l i 1 noSeg h (by omega),rows_at ss_rows l i 2 noSeg h (by omega)⟩
theorem ssAV_cut (l:List Sg)(i:Nat)(h:i<l.length):((ssAV l).drop (i*3)).take 3=sgC (l.getD i noSeg):=rows_cut ss_rows l i noSeg h
theorem ssAV_snoc (l:List Sg)(x:Sg):ssAV l++sgC x=ssAV (l++[x]):=rows_snoc (f:=sgC) l x
theorem ssAV_take (l:List Sg)(i:Nat)(h:i<l.length):ssAV (l.take i)++sgC (l.getD i noSeg)=ssAV (l.take (i+1)):=rows_next (f:=sgC) l i noSeg h
theorem ssAV_app (a b:List Sg):ssAV a++ssAV b=ssAV (a++b):=by simp[ssAV]
theorem ssAV_drop (l:List Sg)(i:Nat):(ssAV l).drop (i*3)=ssAV (l.drop i):=rows_drop ss_rows l i
theorem ssAV_tk (l:List Sg)(i:Nat):(ssAV l).take (i*3)=ssAV (l.take i):=rows_take ss_rows l i
@[simp] theorem below_ss (n t:Nat) (l:List Sg):BelowAll n t (ssAV l):=rows_below (f:=sgC) (fun x=>by simp) l
abbrev ddC (l:List Int):AV:=.sl l.length (ints l) .none
def ddAV (D:List (List Int)):List AV:=D.map ddC
theorem ddAV_len (D:List (List Int)):(ddAV D).length=D.length:=by unfold ddAV;rw[List.length_map]
theorem ddAV_at (D:List (List Int))(i:Nat)(h:i<D.length):(ddAV D).getD i .top=ddC (D.getD i []):=by
 unfold ddAV;simp[List.getD_eq_getElem?_getD,List.getElem?_map,List.getElem?_eq_getElem h]
theorem ddAV_app (a b:List (List Int)):ddAV a++ddAV b=ddAV (a++b):=by simp[ddAV]
theorem ddAV_snoc (a:List (List Int))(d:List Int):ddAV a++[ddC d]=ddAV (a++[d]):=by simp[ddAV]
theorem ddAV_drop (D:List (List Int))(i:Nat):(ddAV D).drop i=ddAV (D.drop i):=by simp[ddAV]
theorem ddAV_tk (D:List (List Int))(i:Nat):(ddAV D).take i=ddAV (D.take i):=by simp[ddAV]
theorem ddAV_set (D:List (List Int))(i:Nat)(d:List Int):(ddAV D).set i (ddC d)=ddAV (D.set i d):=by unfold ddAV;rw[List.map_set]
@[simp] theorem below_dd (n t:Nat) (D:List (List Int)):BelowAll n t (ddAV D):=by
 intro v hv;obtain⟨x,_,rfl⟩:=List.mem_map.1 hv;simp
abbrev ixC (S:List Sg)(D:List (List Int)):List AV:=[.sl S.length (ssAV S) .none,.sl D.length (ddAV D) .none]
abbrev ixAV (S:List Sg)(D:List (List Int)):AV:=.agg (ixC S D)
abbrev xAV (x:List Sd):AV:=ixAV (segS x) (segD x)
structure SzX (S:List Sg)(D:List (List Int)):Prop where
 n:S.length≤400
 s:∀s∈S,SzS s
 d:D.length≤400
 l:∀d∈D,d.length≤1000
def okR (S:List Sg)(D:List (List Int))(i:Nat):Bool:=
 ((validS (S.getD i noSeg)&&decide ((S.getD i noSeg).docs≠[]))&&decide (i=0∨2*(S.getD i noSeg).docs.length≤(S.getD (i-1) noSeg).docs.length)) &&
 ((asc (D.getD i []) 1 1000000000&&decide (comb (fun _ q=>!q) (D.getD i []) (S.getD i noSeg).docs=[]))&&decide (2*(D.getD i []).length≤(S.getD i noSeg).docs.length))
def cntV (S:List Sg)(D:List (List Int)):Nat→Nat
 |0=>0
 |i+1=>cntV S D i+(lvS (S.getD i noSeg) (D.getD i [])).length
def validR (S:List Sg)(D:List (List Int)):Bool:=
 decide (S.length=D.length)&&((List.range S.length).all (okR S D)&&(decide (cntV S D S.length=(allV S D S.length).length)&&decide (cntV S D S.length≤2000)))
theorem orL_len {a b:List Int}(ha:V a)(hb:V b):(orL a b).length+(comb (fun p q=>p&&q) a b).length=a.length+b.length:=by
 obtain⟨h1,h2⟩:=orL_spec ha hb;obtain⟨h3,h4⟩:=comb_spec (fun p q=>p&&q) ha hb;have n1:∀{l:List Int},Asc l→l.Nodup:=fun h=>h.imp fun h=>by omega
 have e1:(orL a b).length=a.length+(b.filter fun z=>!decide (z∈a)).length:=by
  have hp:(orL a b).Perm (a++b.filter fun z=>!decide (z∈a)):=by
   refine(List.perm_ext_iff_of_nodup (n1 h1) ?_).2 fun z=>?_
   ·rw[List.nodup_append];refine⟨n1 (V_asc ha),(n1 (V_asc hb)).sublist List.filter_sublist,?_⟩;intro x hx y hy e;have:=(List.mem_filter.1 hy).2;rw[←e] at this;simp[hx] at this
   ·rw[h2,List.mem_append,List.mem_filter]
    by_cases hz:z∈a<;>simp[hz]
  rw[hp.length_eq,List.length_append]
 have e2:(comb (fun p q=>p&&q) a b).length=(b.filter fun z=>decide (z∈a)).length:=by
  have hp:(comb (fun p q=>p&&q) a b).Perm (b.filter fun z=>decide (z∈a)):=by
   refine(List.perm_ext_iff_of_nodup (n1 h3) ((n1 (V_asc hb)).sublist List.filter_sublist)).2 fun z=>?_;rw[h4,List.mem_filter]
   by_cases hz:z∈a<;>by_cases hz2:z∈b<;>simp[hz,hz2]
  exact hp.length_eq
 have e3:∀l:List Int,(l.filter fun z=>!decide (z∈a)).length+(l.filter fun z=>decide (z∈a)).length=l.length:=by
  intro l
  induction l with
  |nil=>rfl
  |cons x l ih=>
   by_cases hx:x∈a<;>simp only[List.filter_cons,hx,decide_true,decide_false,Bool.not_true,Bool.not_false,if_true,if_false,List.length_cons,Bool.false_eq_true]<;>omega
 have:=e3 b;omega
theorem orL_V {a b:List Int}(ha:V a)(hb:V b):V (orL a b):=by
 obtain⟨h1,h2⟩:=orL_spec ha hb;refine asc_of h1 fun q hq=>?_;rcases (h2 q).1 hq with h|h
 ·exact asc_bounds ha q h
 ·exact asc_bounds hb q h
theorem okR_V {S:List Sg}{D:List (List Int)}{i:Nat}(h:okR S D i=true):V (S.getD i noSeg).docs∧V (D.getD i [])∧V (lvS (S.getD i noSeg) (D.getD i [])):=by
 unfold okR at h;simp only[Bool.and_eq_true] at h;have h1:=(validS_parts h.1.1.1).1.1;have h2:V (D.getD i []):=h.2.1.1;refine⟨h1,h2,?_⟩;obtain⟨a,b⟩:=comb_spec (fun _ q=>!q) (show V _ from h1) h2;refine asc_of a fun q hq=>?_;have:=(b q).1 hq;simp only[Bool.not_true,Bool.not_false,Bool.false_eq_true,and_false,or_false,and_true] at this;exact asc_bounds h1 q this.1
theorem okV_R {S:List Sg}{D:List (List Int)}{i:Nat}:okV S D i=(okR S D i&&decide (comb (fun p q=>p&&q) (allV S D i) (lvS (S.getD i noSeg) (D.getD i []))=[])):=rfl
theorem allV_V {S:List Sg}{D:List (List Int)}{n:Nat}(h:∀i,i<n→okR S D i=true):∀i,i≤n→V (allV S D i)
 |0,_=>rfl
 |i+1,hi=>orL_V (allV_V h i (by omega)) (okR_V (h i (by omega))).2.2
theorem cnt_all {S:List Sg}{D:List (List Int)}{n:Nat}(h:∀i,i<n→okR S D i=true):∀i,i≤n→(allV S D i).length≤cntV S D i∧(cntV S D i=(allV S D i).length↔∀j,j<i→okV S D j=true)
 |0,_=>⟨Nat.le_refl _,⟨fun _ j hj=>by omega,fun _=>rfl⟩⟩
 |i+1,hi=>by
  obtain⟨h1,h2⟩:=cnt_all h i (by omega);have h3:=orL_len (allV_V h i (by omega)) (okR_V (h i (by omega))).2.2;have e1:allV S D (i+1)=orL (allV S D i) (lvS (S.getD i noSeg) (D.getD i [])):=rfl;have e2:cntV S D (i+1)=cntV S D i+(lvS (S.getD i noSeg) (D.getD i [])).length:=rfl;have hok:okV S D i=true↔(comb (fun p q=>p&&q) (allV S D i) (lvS (S.getD i noSeg) (D.getD i []))).length=0:=by
   rw[okV_R,h i (by omega),Bool.true_and,decide_eq_true_eq,List.length_eq_zero_iff]
  rw[e1,e2];refine⟨by omega,?_⟩
  constructor
  ·intro h4 j hj;rcases Nat.lt_or_ge j i with h5|h5
   ·exact h2.1 (by omega) j h5
   ·have:j=i:=by omega
    subst this;exact hok.2 (by omega)
  ·intro h4;have h5:=h2.2 fun j hj=>h4 j (by omega);have h6:=hok.1 (h4 i (by omega));omega
theorem validR_eq (S:List Sg)(D:List (List Int)):validR S D=validX S D:=by
 rw[Bool.eq_iff_iff];unfold validR validX;simp only[Bool.and_eq_true,decide_eq_true_eq,List.all_eq_true,List.mem_range];refine and_congr Iff.rfl ?_
 constructor
 ·rintro⟨h1,h2,h3⟩;obtain⟨_,h5⟩:=cnt_all h1 S.length (Nat.le_refl _);exact⟨h5.1 h2,by omega⟩
 ·rintro⟨h1,h2⟩;have h3:∀i,i<S.length→okR S D i=true:=fun i hi=>by
   have:=h1 i hi;rw[okV_R,Bool.and_eq_true] at this;exact this.1
  obtain⟨h4,h5⟩:=cnt_all h3 S.length (Nat.le_refl _);have h6:=h5.2 h1;exact⟨h3,h6,by omega⟩
end Go.Proofs.YtoejlmpbebjemaaGreat
