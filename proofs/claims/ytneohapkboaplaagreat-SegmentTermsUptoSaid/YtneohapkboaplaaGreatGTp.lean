/- What is found in what Build returns (layer 39).
  Conditions: none. -/
import Derived.Test.YtneohapkboaplaaGreatGBv
import Derived.Test.YtneohapkboaplaaGreatGFA
import Derived.Test.YtneohapkboaplaaGreatGFB
import Derived.Test.YtneohapkboaplaaGreatPD
set_option linter.all false
set_option maxRecDepth 100000
namespace Go.Proofs.YtneohapkboaplaaGreat
open Go Go.Am Sug Seg Post
def sgF (L:List Dc):Sg:=⟨L.map (·.id),termsF L,colsF L⟩
section
variable {L : List Dc} (hl : L.length ≤ 2000) (hs : L.Pairwise fun x y => x.id < y.id) (hv : ∀ d ∈ L, validD d = true)
include hl hs hv
theorem findS_built (k:Ky):findS (sgF L) k=postF L k:=by
 unfold findS
 rw[if_pos (show validS (sgF L)=true from valid_built hl hs hv)]
 unfold postS
 show (((termsF L).find? fun t=>decide (t.k=k)).map (·.l)).getD []=_
 unfold termsF
 rw[List.find?_map]
 cases hf:(keysF L).find? ((fun t:Tm=>decide (t.k=k)) ∘ fun k=>⟨k.1,k.2,postF L k⟩) with
 |none=>
  have hno:k∉keysF L:=fun hm=>by
   have:=List.find?_eq_none.1 hf k hm
   simp[Tm.k] at this
  show []=_
  cases hp:postF L k with
  |nil=>rfl
  |cons p r=>
   exfalso
   obtain⟨d,hd,e1,e2⟩:=postF_mem (L:=L) (k:=k) (p:=p) (by rw[hp];simp)
   obtain⟨q,hq⟩:=List.exists_mem_of_ne_nil _ e2
   unfold posD at hq
   obtain⟨w,hw,_⟩:=List.mem_map.1 hq
   obtain⟨hw1,hw2⟩:=List.mem_filter.1 hw
   have e3:w.1=k:=by simpa using hw2
   exact hno ((keysF_mem L k).2 ⟨d,hd,w.2,by rw[←e3];exact hw1⟩)
 |some k2=>
  have h1:=List.find?_some hf
  have e:k2=k:=by
   have:((k2.1,k2.2):Ky)=k:=by simpa[Tm.k] using h1
   exact this
  subst e;rfl
theorem posOf_built (k:Ky){d:Dc}(hd:d∈L):posOf (postF L k) d.id=posD d k:=by
 rcases Classical.em (posD d k=[]) with he|he
 ·rw[he]
  refine posOf_none fun p hp e=>?_
  obtain⟨d2,hd2,rfl,hne⟩:=postF_mem hp
  have:d2=d:=by
   obtain⟨i,hi,e1⟩:=List.mem_iff_getElem.1 hd
   obtain⟨j,hj,e2⟩:=List.mem_iff_getElem.1 hd2
   rw[List.pairwise_iff_getElem] at hs
   simp only at e
   rcases Nat.lt_trichotomy i j with h3|h3|h3
   ·have:=hs i j hi hj h3;rw[e1,e2] at this;omega
   ·subst h3;rw[←e1,←e2]
   ·have:=hs j i hj hi h3;rw[e1,e2] at this;omega
  subst this;exact hne he
 ·have hm:(d.id,posD d k)∈postF L k:=by
   unfold postF
   refine List.mem_flatMap.2 ⟨d,hd,?_⟩
   unfold pst
   rw[if_neg he];simp
  exact posOf_mem (show Asc' (postF L k) from postF_ids k hs) hm
theorem betS_built (f lo hi x:Int):x∈betS (sgF L) f lo hi↔∃n,(n,x)∈itsF L f∧lo≤n∧n≤hi:=by
 unfold betS
 rw[if_pos (show validS (sgF L)=true from valid_built hl hs hv),ascL_mem]
 unfold hits
 rw[List.mem_flatMap]
 show (∃c∈colsF L,_)↔_
 constructor
 ·rintro⟨c,hc,hx⟩
  obtain⟨_,_,h3⟩:=colsF_mem hc
  unfold hitC at hx
  obtain⟨y,hy,hx2⟩:=List.mem_flatMap.1 hx
  unfold hitL at hx2
  split at hx2
  ·rename_i hc2
   unfold hitB at hc2
   simp only[Bool.and_eq_true,decide_eq_true_eq] at hc2
   rw[h3] at hy
   have:=(isortN_perm _).mem_iff.1 hy
   have ex:x=y.2:=by simpa using hx2
   exact⟨y.1,by rw[ex,←show c.f=f by simpa using hc2.1.1];exact this,hc2.1.2,hc2.2⟩
  ·simp at hx2
 ·rintro⟨n,hn,h1,h2⟩
  have hf:∃d∈L,(f,n)∈d.ns:=by
   obtain⟨d,hd,_,e⟩:=itsF_mem hn
   exact⟨d,hd,e⟩
  obtain⟨d,hd,hm⟩:=hf
  obtain⟨i,hi2,e⟩:=mem_getD n0 hm
  have hnm:=(validD_parts (hv d hd)).2.2 i hi2
  unfold okNm okNv at hnm
  rw[e] at hnm
  simp only[Bool.and_eq_true,decide_eq_true_eq] at hnm
  have hfr:=hnm.1.1
  have hne:itsF L f≠[]:=fun e=>by rw[e] at hn;simp at hn
  have hcl:(⟨f,isortN (itsF L f)⟩:Cl)∈colsF L:=by
   have h5:(⟨f,isortN (itsF L f)⟩:Cl)∈colF L f:=by unfold colF;rw[if_neg hne];simp
   unfold colsF
   have h6:f=5∨f=6∨f=7:=by omega
   rcases h6 with rfl|rfl|rfl<;>simp[h5]
  refine⟨_,hcl,?_⟩
  unfold hitC
  refine List.mem_flatMap.2 ⟨(n,x),(isortN_perm _).mem_iff.2 hn,?_⟩
  unfold hitL
  rw[if_pos (by unfold hitB;simp[h1,h2])]
  simp
theorem wordsS_built (f:Int)(p:Bs):wordsS (sgF L) f p=((keysF L).filter fun k=>decide (k.1=f)&&hasP p k.2).map (·.2):=by
 unfold wordsS
 rw[if_pos (show validS (sgF L)=true from valid_built hl hs hv)]
 unfold wordsL
 show ((termsF L).filter _).map _=_
 unfold termsF
 rw[List.filter_map,List.map_map]
 rfl
end
def wdsK (L:List Dc)(f:Int):List Bs:=((keysF L).filter fun k=>decide (k.1=f)).map (·.2)
theorem hasP_nil (w:Bs):hasP [] w=true:=by simp[hasP]
theorem words_all {L:List Dc}(hl:L.length≤2000)(hs:L.Pairwise fun x y=>x.id<y.id)(hv:∀d∈L,validD d=true)(f:Int):wordsS (sgF L) f []=wdsK L f:=by
 rw[wordsS_built hl hs hv]
 unfold wdsK
 congr 1
 exact List.filter_congr fun k _=>by rw[hasP_nil,Bool.and_true]
theorem words_some {L:List Dc}(hl:L.length≤2000)(hs:L.Pairwise fun x y=>x.id<y.id)(hv:∀d∈L,validD d=true)(f:Int)(p:Bs):wordsS (sgF L) f p=(wdsK L f).filter (hasP p):=by
 rw[wordsS_built hl hs hv]
 unfold wdsK
 rw[List.filter_map,List.filter_filter]
 congr 1
 exact List.filter_congr fun k _=>by rw[Bool.and_comm];rfl
theorem wdsK_ord (L:List Dc)(f:Int):(wdsK L f).Pairwise fun x y=>slt x y=true:=by
 unfold wdsK
 rw[List.pairwise_map]
 have h1:=(keysF_ord L).sublist (List.filter_sublist (p:=fun k=>decide (k.1=f)))
 have h2:∀k∈(keysF L).filter (fun k=>decide (k.1=f)),k.1=f:=fun k hk=>by simpa using(List.mem_filter.1 hk).2
 refine h1.imp_of_mem fun {a b} ha hb hab=>?_
 unfold kylt at hab
 simp only[Bool.or_eq_true,Bool.and_eq_true,decide_eq_true_eq] at hab
 rcases hab with h|h
 ·rw[h2 a ha,h2 b hb] at h;omega
 ·exact h.2
theorem wdsK_mem {L:List Dc}(f:Int)(w:Bs):w∈wdsK L f↔(f,w)∈keysF L:=by
 unfold wdsK
 rw[List.mem_map]
 constructor
 ·rintro⟨k,hk,rfl⟩
  obtain⟨h1,h2⟩:=List.mem_filter.1 hk
  have:k.1=f:=by simpa using h2
  rw[←this];exact h1
 ·intro h
  exact⟨(f,w),List.mem_filter.2 ⟨h,by simp⟩,rfl⟩
def cntW (l:List Dc)(k:Ky):Nat:=(l.map fun d=>(posD d k).length).sum
theorem cntW_perm {l m:List Dc}(h:l.Perm m)(k:Ky):cntW l k=cntW m k:=(h.map _).sum_nat
theorem cnt_post (k:Ky):∀L:List Dc,cnt (postF L k)=cntW L k
 |[]=>rfl
 |d::r=>by
  have e:postF (d::r) k=pst d k++postF r k:=by simp[postF]
  have h1:cnt (pst d k++postF r k)=cnt (pst d k)+cnt (postF r k):=by simp[cnt]
  rw[e,h1,cnt_post k r]
  unfold cntW
  rw[List.map_cons,List.sum_cons]
  congr 1
  unfold pst
  split
  ·rename_i he;rw[he];rfl
  ·simp[cnt]
theorem cntW_pos {L:List Dc}(k:Ky):0<cntW L k↔k∈keysF L:=by
 constructor
 ·intro h
  unfold cntW at h
  have:∃d∈L,posD d k≠[]:=by
   refine Classical.byContradiction fun hno=>?_
   have:(L.map fun d=>(posD d k).length).sum=0:=by
    have hz:∀d∈L,(posD d k).length=0:=fun d hd=>by
     rcases Classical.em (posD d k=[]) with he|he
     ·rw[he];rfl
     ·exact absurd ⟨d,hd,he⟩ hno
    clear h hno
    induction L with
    |nil=>rfl
    |cons d r ih=>rw[List.map_cons,List.sum_cons,hz d (by simp),ih fun x hx=>hz x (by simp[hx])]
   omega
  obtain⟨d,hd,hne⟩:=this
  obtain⟨q,hq⟩:=List.exists_mem_of_ne_nil _ hne
  unfold posD at hq
  obtain⟨w,hw,_⟩:=List.mem_map.1 hq
  obtain⟨hw1,hw2⟩:=List.mem_filter.1 hw
  have e3:w.1=k:=by simpa using hw2
  exact(keysF_mem L k).2 ⟨d,hd,w.2,by rw[←e3];exact hw1⟩
 ·intro h
  obtain⟨d,hd,hne⟩:=key_pos h
  unfold cntW
  obtain⟨A,B,rfl⟩:=List.append_of_mem hd
  rw[List.map_append,List.map_cons,List.sum_append,List.sum_cons]
  have:0<(posD d k).length:=by
   rcases Nat.eq_zero_or_pos (posD d k).length with h|h
   ·exact absurd (List.length_eq_zero_iff.1 h) hne
   ·exact h
  omega
end Go.Proofs.YtneohapkboaplaaGreat
