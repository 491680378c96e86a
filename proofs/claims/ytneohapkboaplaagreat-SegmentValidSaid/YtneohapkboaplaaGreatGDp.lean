/- The documents of a segment (layer 39), in plain lists.
  Conditions: none. -/
import Derived.Test.YtneohapkboaplaaGreatGDc
set_option linter.all false
set_option maxRecDepth 100000
namespace Go.Proofs.YtneohapkboaplaaGreat
open Go Go.Am Sug Seg
def evs (ts:List Tm)(id:Int):List (Int×List Wd):=ts.flatMap fun t=>(t.l.filter fun p=>p.1==id).map fun p=>(t.f,p.2.map fun a=>(t.w,a))
def zfold (zs:List Zn)(es:List (Int×List Wd)):List Zn:=es.foldl (fun zs e=>addZ zs e.1 e.2) zs
def nms (cs:List Cl)(id:Int):List Nm:=cs.flatMap fun c=>(c.x.filter fun y=>y.2==id).map fun y=>(c.f,y.1)
theorem zfold_app (zs:List Zn)(a b:List (Int×List Wd)):zfold zs (a++b)=zfold (zfold zs a) b:=List.foldl_append ..
theorem foldP (f:Int)(w:Bs):∀(l:List Ps)(L:List Dc),l.foldl (stepP f w) L=L.map fun d=>⟨d.id,zfold d.zs ((l.filter fun p=>p.1==d.id).map fun p=>(f,p.2.map fun a=>(w,a))),d.ns⟩
 |[],L=>by simp[zfold]
 |p::l,L=>by
  rw[List.foldl_cons,foldP f w l]
  unfold stepP updD
  rw[List.map_map]
  refine List.map_congr_left fun d hd=>?_
  simp only[Function.comp]
  by_cases h:d.id=p.1
  ·rw[if_pos h,List.filter_cons_of_pos (by simp[h])]
   rfl
  ·rw[if_neg h,List.filter_cons_of_neg (by simpa using fun e=>h e.symm)]
theorem foldT:∀(ts:List Tm)(L:List Dc),ts.foldl stepT L=L.map fun d=>⟨d.id,zfold d.zs (evs ts d.id),d.ns⟩
 |[],L=>by simp[zfold,evs]
 |t::ts,L=>by
  rw[List.foldl_cons,foldT ts]
  unfold stepT
  rw[foldP,List.map_map]
  refine List.map_congr_left fun d hd=>?_
  simp only[Function.comp,evs,List.flatMap_cons,zfold_app]
theorem foldI (f:Int):∀(l:List Nm)(L:List Dc),l.foldl (stepI f) L=L.map fun d=>⟨d.id,d.zs,d.ns++(l.filter fun y=>y.2==d.id).map fun y=>(f,y.1)⟩
 |[],L=>by simp
 |p::l,L=>by
  rw[List.foldl_cons,foldI f l]
  unfold stepI updD
  rw[List.map_map]
  refine List.map_congr_left fun d hd=>?_
  simp only[Function.comp]
  by_cases h:d.id=p.2
  ·rw[if_pos h,List.filter_cons_of_pos (by simp[h])]
   simp[addN]
  ·rw[if_neg h,List.filter_cons_of_neg (by simpa using fun e=>h e.symm)]
theorem foldC:∀(cs:List Cl)(L:List Dc),cs.foldl stepC L=L.map fun d=>⟨d.id,d.zs,d.ns++nms cs d.id⟩
 |[],L=>by simp[nms]
 |c::cs,L=>by
  rw[List.foldl_cons,foldC cs]
  unfold stepC
  rw[foldI,List.map_map]
  refine List.map_congr_left fun d hd=>?_
  simp only[Function.comp,nms,List.flatMap_cons,List.append_assoc]
def zonesOf (g:Int→List Wd):List Zn:=[1,2,3,4].flatMap fun f=>if g f=[] then [] else [⟨f,g f⟩]
theorem zonesOf_congr {g h:Int→List Wd}(e:∀f,1≤f→f≤4→g f=h f):zonesOf g=zonesOf h:=by
 simp only[zonesOf,List.flatMap_cons,List.flatMap_nil,e 1 (by omega) (by omega),e 2 (by omega) (by omega),e 3 (by omega) (by omega),e 4 (by omega) (by omega)]
theorem addZ_zones {g : Int → List Wd} {f : Int} {ws : List Wd} (h1 : 1 ≤ f) (h4 : f ≤ 4) (hw : ws ≠ []) (hg : ∀ f', f < f' → g f' = []) : addZ (zonesOf g) f ws = zonesOf (fun f' => if f' = f then g f' ++ ws else g f') := by
 rcases (by omega : f = 1 ∨ f = 2 ∨ f = 3 ∨ f = 4) with rfl | rfl | rfl | rfl
 ·have a2 := hg 2 (by omega); have a3 := hg 3 (by omega); have a4 := hg 4 (by omega)
  by_cases b1 : g 1 = [] <;> simp [zonesOf, addZ, opn, *]
 ·have a3 := hg 3 (by omega); have a4 := hg 4 (by omega)
  by_cases b1 : g 1 = [] <;> by_cases b2 : g 2 = [] <;> simp [zonesOf, addZ, opn, *]
 ·have a4 := hg 4 (by omega)
  by_cases b1 : g 1 = [] <;> by_cases b2 : g 2 = [] <;> by_cases b3 : g 3 = [] <;> simp [zonesOf, addZ, opn, *]
 ·by_cases b1 : g 1 = [] <;> by_cases b2 : g 2 = [] <;> by_cases b3 : g 3 = [] <;> by_cases b4 : g 4 = [] <;> simp [zonesOf, addZ, opn, *]
def occE (es:List (Int×List Wd))(f:Int):List Wd:=(es.filter fun e=>e.1==f).flatMap (·.2)
theorem occE_snoc (es:List (Int×List Wd))(e:Int×List Wd)(f:Int):occE (es++[e]) f=if f=e.1 then occE es f++e.2 else occE es f:=by
 unfold occE
 rw[List.filter_append]
 by_cases h:f=e.1
 ·rw[if_pos h,List.filter_cons_of_pos (by simp[h])];simp
 ·rw[if_neg h,List.filter_cons_of_neg (by simpa using fun x=>h x.symm)];simp
theorem zfold_zones (es:List (Int×List Wd))(hs:es.Pairwise fun a b=>a.1≤b.1)(h14:∀e∈es,1≤e.1∧e.1≤4∧e.2≠[]):zfold [] es=zonesOf (occE es):=by
 have key:∀r:List (Int×List Wd),(r.reverse.Pairwise fun a b=>a.1≤b.1)→(∀e∈r,1≤e.1∧e.1≤4∧e.2≠[])→zfold [] r.reverse=zonesOf (occE r.reverse):=by
  intro r
  induction r with
  |nil=>intro _ _;rfl
  |cons e r ih=>
   intro hp hm
   rw[List.reverse_cons] at hp ⊢
   rw[List.pairwise_append] at hp
   obtain⟨p1,_,p3⟩:=hp
   obtain⟨q1,q2,q3⟩:=hm e (by simp)
   rw[zfold_app,ih p1 fun x hx=>hm x (by simp[hx])]
   show addZ _ e.1 e.2=_
   rw[addZ_zones q1 q2 q3 fun f' hf=>?_]
   ·refine zonesOf_congr fun f _ _=>?_
    exact(occE_snoc _ e f).symm
   ·unfold occE
    rw[List.flatMap_eq_nil_iff]
    intro x hx
    rw[List.mem_filter] at hx
    have:=p3 x hx.1 e (by simp)
    simp at hx
    omega
 have:=key es.reverse (by rwa [List.reverse_reverse]) fun e he=>h14 e (by simpa using he)
 rwa [List.reverse_reverse] at this
def occs (ts:List Tm)(id f:Int):List Wd:=occE (evs ts id) f
def docsF (s:Sg):List Dc:=s.docs.map fun id=>⟨id,zonesOf fun f=>sortW (occs s.tms id f),nms s.cols id⟩
theorem sortW_nil:sortW []=[]:=by unfold sortW;simp
theorem sortW_nil_iff (l:List Wd):sortW l=[]↔l=[]:=by
 constructor
 ·intro h
  have:=congrArg List.length h
  unfold sortW at this
  rw[List.length_mergeSort] at this
  exact List.length_eq_zero_iff.1 this
 ·rintro rfl;exact sortW_nil
def srtZ (z:Zn):Zn:=⟨z.f,sortW z.ws⟩
theorem zonesOf_srt (g:Int→List Wd):(zonesOf g).map srtZ=zonesOf fun f=>sortW (g f):=by
 unfold zonesOf
 rw[List.map_flatMap]
 congr 1
 funext f
 by_cases h:g f=[]
 ·rw[if_pos h,if_pos ((sortW_nil_iff _).2 h)];rfl
 ·rw[if_neg h,if_neg (fun e=>h ((sortW_nil_iff _).1 e))];rfl
section
variable {s : Sg}
theorem tms_fields (hv:validS s=true):s.tms.Pairwise fun a b=>a.f≤b.f:=by
 obtain⟨_,⟨ht,_⟩,_⟩:=validS_parts hv
 rw[List.pairwise_iff_getElem]
 have key:∀(n i:Nat)(h1:i<s.tms.length)(h2:i+n<s.tms.length),(s.tms[i]'h1).f≤(s.tms[i+n]'h2).f:=by
  intro n
  induction n with
  |zero=>intro i _ _;exact Int.le_refl _
  |succ n ih=>
   intro i h1 h2
   refine Int.le_trans (ih i h1 (by omega)) ?_
   have:=(ht (i+n+1) (by omega)).1
   unfold okTm at this
   simp only[Bool.and_eq_true,Bool.or_eq_true,decide_eq_true_eq] at this
   have h3:=this.2.resolve_left (by omega)
   rw[Nat.add_sub_cancel,List.getD_eq_getElem?_getD,List.getD_eq_getElem?_getD,List.getElem?_eq_getElem (by omega),List.getElem?_eq_getElem (by omega)] at h3
   simp only[Option.getD_some,kylt] at h3
   have e:i+(n+1)=i+n+1:=by omega
   simp only[e]
   simp only[Bool.or_eq_true,Bool.and_eq_true,decide_eq_true_eq] at h3
   omega
 intro i j h1 h2 hij
 have:=key (j-i) i h1 (by omega)
 have e:i+(j-i)=j:=by omega
 simpa only[e] using this
theorem tm_ok (hv:validS s=true){t:Tm}(ht:t∈s.tms):(1≤t.f∧t.f≤4)∧t.l≠[]∧validL t.l=true∧∀p∈t.l,p.1∈s.docs:=by
 obtain⟨_,⟨h,_⟩,_⟩:=validS_parts hv
 obtain⟨i,hi,rfl⟩:=mem_getD t0 ht
 obtain⟨a,b⟩:=h i hi
 unfold okTm at a
 unfold okL at b
 simp only[Bool.and_eq_true,decide_eq_true_eq] at a b
 exact⟨a.1.1,b.1.1,b.1.2,b.2⟩
theorem cl_ok (hv:validS s=true){c:Cl}(hc:c∈s.cols):(5≤c.f∧c.f≤7)∧∀y∈c.x,y.2∈s.docs:=by
 obtain⟨_,_,h⟩:=validS_parts hv
 obtain⟨i,hi,rfl⟩:=mem_getD c0 hc
 obtain⟨a,b⟩:=h i hi
 unfold okCm at a
 simp only[Bool.and_eq_true,decide_eq_true_eq] at a
 refine⟨a.1.1,fun y hy=>?_⟩
 obtain⟨k,hk,rfl⟩:=mem_getD n0 hy
 have:=b k hk
 unfold okIt at this
 simp only[Bool.and_eq_true,decide_eq_true_eq] at this
 exact this.1.1
theorem evs_zones (hv:validS s=true)(id:Int):zfold [] (evs s.tms id)=zonesOf (occs s.tms id):=by
 refine zfold_zones _ ?_ fun e he=>?_
 ·unfold evs
  rw[List.pairwise_flatMap]
  refine⟨fun t ht=>?_,(tms_fields hv).imp fun {a b} hab x hx y hy=>?_⟩
  ·rw[List.pairwise_map]
   exact List.pairwise_of_forall fun _ _=>Int.le_refl _
  ·obtain⟨_,_,rfl⟩:=List.mem_map.1 hx
   obtain⟨_,_,rfl⟩:=List.mem_map.1 hy
   exact hab
 ·unfold evs at he
  obtain⟨t,ht,he⟩:=List.mem_flatMap.1 he
  obtain⟨p,hp,rfl⟩:=List.mem_map.1 he
  obtain⟨a,b,c,d⟩:=tm_ok hv ht
  obtain⟨v1,v2,v3⟩:=validL_iff c
  have:=(v3 p (List.mem_filter.1 hp).1).1
  refine⟨a.1,a.2,?_⟩
  intro h
  rw[List.map_eq_nil_iff] at h
  exact absurd h (by simpa using this)
end
end Go.Proofs.YtneohapkboaplaaGreat
