/- Sizes of the documents of a segment (layer 39, plain).
  Conditions: none. -/
import Derived.Test.YtneohapkboaplaaGreatGDl
import Derived.Test.YtneohapkboaplaaGreatGTg
set_option linter.all false
set_option maxRecDepth 100000
namespace Go.Proofs.YtneohapkboaplaaGreat
open Go Go.Am Sug Post Seg
theorem posOf_leP {P:Nat}:∀{l:List Ps},(∀p∈l,p.2.length≤P)→∀d:Int,(posOf l d).length≤P
 |[],_,d=>by simp[posOf]
 |p::l,h,d=>by
  unfold posOf
  split
  ·exact h p (by simp)
  ·exact posOf_leP (fun q hq=>h q (by simp[hq])) d
theorem valid_asc {s:Sg}(hv:validS s=true):∀t∈s.tms,Asc' t.l:=fun t ht=>(validL_iff (tm_ok hv ht).2.2.1).1
theorem occs_le {s:Sg}(hv:validS s=true){P:Nat}(hP:∀t∈s.tms,∀p∈t.l,p.2.length≤P)(id f:Int):(occs s.tms id f).length≤s.tms.length*P:=by
 rw[occs_wdT (valid_asc hv)]
 refine flat_len _ P _ fun t ht=>?_
 unfold wdT
 split
 ·rw[List.length_map];exact posOf_leP (hP t ht) id
 ·simp
theorem occs_mem {s:Sg}(hv:validS s=true){id f a:Int}{w:Bs}:(w,a)∈occs s.tms id f↔∃t∈s.tms,t.f=f∧t.w=w∧a∈posOf t.l id:=by
 rw[occs_wdT (valid_asc hv),List.mem_flatMap]
 constructor
 ·rintro⟨t,ht,h⟩
  unfold wdT at h
  split at h
  ·rename_i hf
   obtain⟨b,hb,e⟩:=List.mem_map.1 h
   obtain⟨e1,e2⟩:=Prod.mk.inj e
   exact⟨t,ht,hf,e1,by rw[←e2];exact hb⟩
  ·simp at h
 ·rintro⟨t,ht,hf,hw,ha⟩
  refine⟨t,ht,?_⟩
  unfold wdT
  rw[if_pos hf]
  exact List.mem_map.2 ⟨a,ha,by rw[hw]⟩
theorem zonesOf_len (g:Int→List Wd):(zonesOf g).length≤4:=by
 rw[←zT_four];exact zT_len g 4
theorem docsF_sz {s:Sg}(hv:validS s=true){T P C X:Nat}(hT:s.tms.length≤T)(hw:∀t∈s.tms,t.w.length≤maxLen∧∀p∈t.l,p.2.length≤P)(hC:s.cols.length≤C)(hX:∀c∈s.cols,c.x.length≤X) :
  ∀d∈docsF s,d.zs.length≤4∧(∀z∈d.zs,z.ws.length≤T*P∧∀w∈z.ws,w.1.length≤maxLen)∧d.ns.length≤C*X:=by
 intro d hd
 unfold docsF at hd
 obtain⟨id,_,rfl⟩:=List.mem_map.1 hd
 refine⟨zonesOf_len (fun f=>sortW (occs s.tms id f)),fun z hz=>?_,?_⟩
 ·obtain⟨_,h2,_⟩:=zonesOf_mem (g:=fun f=>sortW (occs s.tms id f)) hz
  rw[h2]
  refine⟨?_,fun w hw2=>?_⟩
  ·rw[(sortW_spec _).1.length_eq]
   exact Nat.le_trans (occs_le hv (fun t ht=>(hw t ht).2) id z.f) (Nat.mul_le_mul_right _ hT)
  ·obtain⟨w1,w2⟩:=w
   obtain⟨t,ht,_,e,_⟩:=(occs_mem hv).1 ((sortW_spec _).1.mem_iff.1 hw2)
   rw[←e];exact(hw t ht).1
 ·show (nms s.cols id).length≤_
  unfold nms
  refine Nat.le_trans (flat_len _ X _ fun c hc=>?_) (Nat.mul_le_mul_right _ hC)
  rw[List.length_map]
  exact Nat.le_trans (List.length_filter_le _ _) (hX c hc)
theorem docsP_szd {s:Sg}(hs:SzS s):∀d∈docsP s,SzD d:=by
 intro d hd
 unfold docsP at hd
 split at hd
 ·rename_i hv
  obtain⟨h1,h2,h3⟩:=docsF_sz hv hs.t (fun t ht=>⟨(hs.w t ht).1,(hs.w t ht).2.2⟩) hs.c hs.x d hd
  have hm:1000000≤maxLen:=by decide
  exact⟨by omega,fun z hz=>⟨by have:=(h2 z hz).1;omega,(h2 z hz).2⟩,by omega⟩
 ·simp at hd
theorem docsP_len {s:Sg}(hs:SzS s):(docsP s).length≤400:=by
 unfold docsP
 split
 ·simp[docsF];exact hs.d
 ·simp
end Go.Proofs.YtneohapkboaplaaGreat
