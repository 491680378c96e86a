/- segment.Documents (layer 39). The reference's words and Documents (layer 39). Documents of the reference (layer 39). Both Documents are one (layer 39).
  Conditions: as the theorems say. -/
import Derived.Test.YtneohapkboaplaaGreatGZa
import Derived.Test.YtneohapkboaplaaGreatGRA
import Derived.Test.YtneohapkboaplaaGreatAmC
import Derived.Test.YtneohapkboaplaaGreatPZ
set_option linter.all false
set_option maxRecDepth 100000
namespace Go.Proofs.YtneohapkboaplaaGreat
open Go Go.Am gH eB
theorem zV (id f:Int):∀ts:List Tm,(occs ts id f).map (·.2)=((mX ts).filter fun k=>k.1==f&&k.2.1==id).map (·.2.2)
 |[]=>rfl
 |t::ts=>by
  have h1:occs (t::ts) id f=vD (((t.l.filter fun p=>p.1==id).map fun p=>(t.f,p.2.map fun a=>(t.w,a)))) f++occs ts id f:=by
   unfold occs evs vD;rw[List.flatMap_cons,List.filter_append,List.flatMap_append]
  have h2:mX (t::ts)=np t++mX ts:=by simp[mX]
  rw[h1,h2,List.map_append,List.filter_append,List.map_append,zV id f ts]
  congr 1
  unfold vD np;have key:∀l:List Ps,(((((l.filter fun p=>p.1==id).map fun p=>(t.f,p.2.map fun a=>(t.w,a)))).filter fun e=>e.1==f).flatMap (·.2)).map (·.2)=((l.flatMap (eg t.f)).filter fun k=>k.1==f&&k.2.1==id).map (·.2.2):=by
   intro l
   induction l with
   |nil=>rfl
   |cons p l ih=>
    rw[List.flatMap_cons,List.filter_append,List.map_append,←ih];have e:(eg t.f p).filter (fun k=>k.1==f&&k.2.1==id)=if t.f=f∧p.1=id then eg t.f p else []:=by
     unfold eg
     by_cases h:t.f=f∧p.1=id
     ·rw[if_pos h,List.filter_eq_self];intro k hk;obtain⟨a,_,rfl⟩:=List.mem_map.1 hk;simpa using h
     ·rw[if_neg h,List.filter_eq_nil_iff];intro k hk;obtain⟨a,_,rfl⟩:=List.mem_map.1 hk;simpa using h
    rw[e]
    by_cases hp:p.1=id
    ·rw[List.filter_cons_of_pos (by simp[hp]),List.map_cons]
     by_cases hf:t.f=f
     ·rw[List.filter_cons_of_pos (by simp[hf]),if_pos ⟨hf,hp⟩,List.flatMap_cons,List.map_append]
      congr 1
      simp[eg]
     ·rw[List.filter_cons_of_neg (by simp[hf]),if_neg fun h=>hf h.1];rfl
    ·rw[List.filter_cons_of_neg (by simp[hp]),if_neg fun h=>hp h.2];rfl
  exact key t.l
theorem M8 {ts:List Tm}(h:(mX ts).Nodup)(id f:Int):(occs ts id f).Pairwise fun x y=>x.2≠y.2:=by
 rw[←List.pairwise_map (R:=fun a b:Int=>a≠b),zV];rw[List.pairwise_map];refine((h.filter _).imp_of_mem fun {a b} ha hb jA he=>jA ?_);rw[List.mem_filter] at ha hb;obtain⟨a1,a2,a3⟩:=a;obtain⟨b1,b2,b3⟩:=b;simp at ha hb he;simp[ha.2,hb.2,he]
def D2 (s:Sg):List Dc:=if aW s=true then IW s else []
theorem AQ {g:Int→List Wd}{z:Zn}(h:z∈kP g):z.ws≠[]∧z.ws=g z.f∧1≤z.f∧z.f≤4:=by
 unfold kP at h;obtain⟨f,hf,hz⟩:=List.mem_flatMap.1 h
 by_cases hg:g f=[]
 ·rw[if_pos hg] at hz;cases hz
 ·rw[if_neg hg] at hz;obtain rfl:=List.mem_singleton.1 hz;refine⟨hg,rfl,?_⟩;simp at hf;show 1≤f∧f≤4;omega
end Go.Proofs.YtneohapkboaplaaGreat
namespace eB
open gH
theorem CP (l:List Wd):(ui l).Perm l∧(ui l).Pairwise fun x y=>x.2≤y.2:=by
 refine⟨List.mergeSort_perm _ _,?_⟩;have:=List.pairwise_mergeSort (le:=fun x y:Wd=>!(decide (y.2<x.2))) (fun a b c h1 h2=>by simp at *;omega) (fun a b=>by simp;omega) l;exact this.imp fun h=>by simpa using h
end eB
namespace Go.Proofs.YtneohapkboaplaaGreat
open Go Go.Am gH dc eB
def WK (d f:Int)(t:Tm):List Wd:=if t.f=f then (posOf t.l d).map fun a=>(t.w,a) else []
theorem Ka (a b:List (Int×List Wd))(f:Int):vD (a++b) f=vD a f++vD b f:=by
 unfold vD;rw[List.filter_append,List.flatMap_append]
theorem wF:∀{l:List Ps},mW l→∀d:Int,posOf l d=(l.filter fun p=>p.1==d).flatMap (·.2)
 |[],_,d=>rfl
 |p::l,h,d=>by
  have hp:=gK h
  by_cases e:p.1=d
  ·subst e;have h0:l.filter (fun q=>q.1==p.1)=[]:=by
    rw[List.filter_eq_nil_iff];intro q hq;have:=hp.2 q hq;simp;omega
   rw[cH,List.filter_cons_of_pos (by simp),h0];simp
  ·rw[cp e,List.filter_cons_of_neg (by simpa using e)];exact wF hp.1 d
theorem zU:∀{ts:List Tm},(∀t∈ts,mW t.l)→∀id f:Int,occs ts id f=ts.flatMap (WK id f)
 |[],_,_,_=>rfl
 |t::ts,h,id,f=>by
  have h1:occs (t::ts) id f=vD ((t.l.filter fun p=>p.1==id).map fun p=>(t.f,p.2.map fun a=>(t.w,a))) f++occs ts id f:=by
   unfold occs evs;rw[List.flatMap_cons,Ka]
  rw[h1,List.flatMap_cons,zU (fun t ht=>h t (by simp[ht]))]
  congr 1
  unfold WK vD;rw[wF (h t (by simp))]
  by_cases e:t.f=f
  ·rw[if_pos e,List.filter_eq_self.2 (fun x hx=>by obtain⟨p,_,rfl⟩:=List.mem_map.1 hx;simpa using e),List.flatMap_map,List.map_flatMap]
  ·rw[if_neg e,List.filter_eq_nil_iff.2 (fun x hx=>by obtain⟨p,_,rfl⟩:=List.mem_map.1 hx;simpa using e)];rfl
end Go.Proofs.YtneohapkboaplaaGreat
