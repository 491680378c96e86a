/- Docs, Seek and Count of layer 38 and of its reference. seek of layer 38: by doubling steps, which are halved again. Posting lists: which of them are equal; the postings of some documents. Only of layer 38 and of its reference.
  Conditions: lengths below 400 or 1000, as each theorem says. -/
import Derived.Test.YtneohapkboaplaaGreatPB
import Derived.Test.YtneohapkboaplaaGreatPC
import Derived.Test.YtneohapkboaplaaGreatPD
import Derived.Test.YtneohapkboaplaaGreatPE
set_option linter.all false
set_option maxRecDepth 100000
namespace Go.Proofs.YtneohapkboaplaaGreat
open Go Go.Am Post
def docsL (l:PL):List Int:=if validL l=true then docs l else []
attribute [-simp] List.getD_eq_getElem?_getD in
theorem docsP_ok (l:PL)(hl:l.length≤1000)(hp:∀p∈l,p.2.length≤maxLen)(H:List Blk)(T:Toks)(tg:Tag) :
  ACall Tryz.prog 75 [.sl l.length (psAV l) tg] H T (Is (.sl (docsL l).length (ints (docsL l)) .none) H T):=by
 refine ACall.untag1 ?_
 refine ACall.drop' ?_ (by simp)
 have c1:=valid_ok l hl hp H T .none
 have c2:=documents_ok l hl H T .none
 refine acall_enter 3 [] Tryz.ntmps75 Tryz.func75 rfl (fun _ _=>Tryz.call75 _ _) (by simp) (fun HO=>?_)
 refine aw_reg fun K hK=>?_;simp(disch:=omega) ;refine hK _ ?_;clear hK K
 refine aw_then fun K1 hK1=>?_
 cases hv:validL l with
 |false=>
  rw[hv] at c1
  refine aw_reg fun K hK=>?_;simp(disch:=omega) 
  refine acall_is (c1) ?_;simp(disch:=omega) 
  refine hK _ ?_;clear hK K
  refine aw_ift rfl ?_
  refine aw_reg fun K hK=>?_;simp(disch:=omega) ;refine hK _ ?_;clear hK K
  refine aw_ret ?_;simp(disch:=omega) 
  simp[docsL,hv,ints]
 |true=>
  rw[hv] at c1
  have hd:(docsL l)=docs l:=by unfold docsL;rw[if_pos hv]
  refine aw_reg fun K hK=>?_;simp(disch:=omega) 
  refine acall_is (c1) ?_;simp(disch:=omega) 
  refine hK _ ?_;clear hK K
  refine aw_iff rfl ?_
  refine aw_skip ?_;simp(disch:=omega) 
  refine hK1 _ ?_;clear hK1
  refine aw_reg fun K hK=>?_;simp(disch:=omega) 
  refine acall_is (c2) ?_;simp(disch:=omega) 
  refine hK _ ?_;clear hK K
  refine aw_ret ?_;simp(disch:=omega) 
  rw[hd]
  simp[docs]
attribute [-simp] List.getD_eq_getElem?_getD in
theorem docsRR_ok (l:PL)(hl:l.length≤1000)(hp:∀p∈l,p.2.length≤maxLen)(H:List Blk)(T:Toks)(tg:Tag) :
  ACall Tryz.prog 89 [.sl l.length (psAV l) tg] H T (Is (.sl (docsL l).length (ints (docsL l)) .none) H T):=by
 refine ACall.untag1 ?_
 refine ACall.drop' ?_ (by simp)
 have c1:=validR_ok l hl hp H T .none
 have c2:=docsR_ok l hl H T .none
 refine acall_enter 3 [] Tryz.ntmps89 Tryz.func89 rfl (fun _ _=>Tryz.call89 _ _) (by simp) (fun HO=>?_)
 refine aw_reg fun K hK=>?_;simp(disch:=omega) ;refine hK _ ?_;clear hK K
 refine aw_then fun K1 hK1=>?_
 cases hv:validL l with
 |false=>
  rw[hv] at c1
  refine aw_reg fun K hK=>?_;simp(disch:=omega) 
  refine acall_is (c1) ?_;simp(disch:=omega) 
  refine hK _ ?_;clear hK K
  refine aw_ift rfl ?_
  refine aw_reg fun K hK=>?_;simp(disch:=omega) ;refine hK _ ?_;clear hK K
  refine aw_ret ?_;simp(disch:=omega) 
  simp[docsL,hv,ints]
 |true=>
  rw[hv] at c1
  have hd:(docsL l)=docs l:=by unfold docsL;rw[if_pos hv]
  refine aw_reg fun K hK=>?_;simp(disch:=omega) 
  refine acall_is (c1) ?_;simp(disch:=omega) 
  refine hK _ ?_;clear hK K
  refine aw_iff rfl ?_
  refine aw_skip ?_;simp(disch:=omega) 
  refine hK1 _ ?_;clear hK1
  refine aw_reg fun K hK=>?_;simp(disch:=omega) 
  refine acall_is (c2) ?_;simp(disch:=omega) 
  refine hK _ ?_;clear hK K
  refine aw_ret ?_;simp(disch:=omega) 
  rw[hd]
  simp[docs]
theorem recon {a:PL}(h:Asc' a):a=(docs a).map (fun d=>(d,posOf a d)):=by
 induction a with
 |nil=>rfl
 |cons p a ih=>
  obtain⟨h1,h2⟩:=asc'_tail h
  have e:(docs a).map (fun d=>(d,posOf (p::a) d))=(docs a).map (fun d=>(d,posOf a d)):=List.map_congr_left fun d hd=>by
   obtain⟨q,hq,e⟩:=List.mem_map.1 hd
   have:=h2 q hq
   rw[posOf_cons_ne (by omega)]
  show p::a=(p.1,posOf (p::a) p.1)::(docs a).map (fun d=>(d,posOf (p::a) d))
  rw[e,←ih h1,posOf_cons_eq]
theorem ascP_ext {a b:PL}(ha:Asc' a)(hb:Asc' b)(h1:∀d,d∈docs a↔d∈docs b)(h2:∀d,d∈docs a→posOf a d=posOf b d):a=b:=by
 have e:docs a=docs b:=asc_ext _ _ ha hb h1
 rw[recon ha,recon hb,←e]
 exact List.map_congr_left fun d hd=>by rw[h2 d hd]
theorem posOf_map (g:Int→List Int)(ds:List Int)(d:Int)(h:d∈ds):posOf (ds.map (fun d=>(d,g d))) d=g d:=by
 induction ds with
 |nil=>simp at h
 |cons x ds ih=>
  show (if x=d then g x else posOf (ds.map (fun d=>(d,g d))) d)=g d
  by_cases e:x=d
  ·rw[if_pos e,e]
  ·rw[if_neg e]
   rcases List.mem_cons.1 h with h|h
   ·exact absurd h.symm e
   ·exact ih h
theorem docs_map (g:Int→List Int)(ds:List Int):docs (ds.map (fun d=>(d,g d)))=ds:=by
 unfold docs
 rw[List.map_map]
 exact List.map_id ds
end Go.Proofs.YtneohapkboaplaaGreat
