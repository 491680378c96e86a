/- Both Documents are one (layer 39).
  Conditions: none. -/
import Derived.Test.YtneohapkboaplaaGreatGRe
set_option linter.all false
set_option maxRecDepth 100000
namespace Go.Proofs.YtneohapkboaplaaGreat
open Go Go.Am Sug Post Seg
theorem occE_app (a b:List (Int×List Wd))(f:Int):occE (a++b) f=occE a f++occE b f:=by
 unfold occE;rw[List.filter_append,List.flatMap_append]
theorem posOf_flt:∀{l:List Ps},Asc' l→∀d:Int,posOf l d=(l.filter fun p=>p.1==d).flatMap (·.2)
 |[],_,d=>rfl
 |p::l,h,d=>by
  have hp:=asc'_tail h
  by_cases e:p.1=d
  ·subst e
   have h0:l.filter (fun q=>q.1==p.1)=[]:=by
    rw[List.filter_eq_nil_iff]
    intro q hq
    have:=hp.2 q hq
    simp;omega
   rw[posOf_cons_eq,List.filter_cons_of_pos (by simp),h0]
   simp
  ·rw[posOf_cons_ne e,List.filter_cons_of_neg (by simpa using e)]
   exact posOf_flt hp.1 d
theorem occs_wdT:∀{ts:List Tm},(∀t∈ts,Asc' t.l)→∀id f:Int,occs ts id f=ts.flatMap (wdT id f)
 |[],_,_,_=>rfl
 |t::ts,h,id,f=>by
  have h1:occs (t::ts) id f=occE ((t.l.filter fun p=>p.1==id).map fun p=>(t.f,p.2.map fun a=>(t.w,a))) f++occs ts id f:=by
   unfold occs evs;rw[List.flatMap_cons,occE_app]
  rw[h1,List.flatMap_cons,occs_wdT (fun t ht=>h t (by simp[ht]))]
  congr 1
  unfold wdT occE
  rw[posOf_flt (h t (by simp))]
  by_cases e:t.f=f
  ·rw[if_pos e,List.filter_eq_self.2 (fun x hx=>by obtain⟨p,_,rfl⟩:=List.mem_map.1 hx;simpa using e),List.flatMap_map,List.map_flatMap]
  ·rw[if_neg e,List.filter_eq_nil_iff.2 (fun x hx=>by obtain⟨p,_,rfl⟩:=List.mem_map.1 hx;simpa using e)];rfl
theorem docsR_eq (s:Sg):docsR s=docsP s:=by
 unfold docsR docsP
 by_cases hv:validS s=true
 ·rw[if_pos hv,if_pos hv]
  unfold docsF
  refine List.map_congr_left fun id hid=>?_
  have hz:refW s id=fun f=>sortW (occs s.tms id f):=by
   funext f
   unfold refW
   rw[←occs_wdT (fun t ht=>(validL_iff (tm_ok hv ht).2.2.1).1),isortW_eq (occs_nd (validS_parts hv).2.1.2 id f)]
  show (⟨id,zonesOf (refW s id),_⟩:Dc)=_
  rw[hz]
  rfl
 ·rw[if_neg hv,if_neg hv]
end Go.Proofs.YtneohapkboaplaaGreat
