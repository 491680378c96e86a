/- Valid posting lists: they are their documents and positions; the laws of Union, Phrase, Near.
  Conditions: none. -/
import Derived.Test.YtneohapkboaplaaGreatPE
import Derived.Test.YtneohapkboaplaaGreatPF
set_option linter.all false
set_option maxRecDepth 100000
namespace Go.Proofs.YtneohapkboaplaaGreat
open Go Go.Am Post
def VL (l:PL):Prop:=validL l=true
theorem validL_of {l:PL}(h1:Asc' l)(h2:∀p∈l,1≤p.1∧p.1≤1000000000)(h3:∀p∈l,p.2≠[]∧Asc p.2∧∀q∈p.2,0≤q∧q≤1000000):VL l:=by
 unfold VL validL
 rw[Bool.and_eq_true]
 refine⟨asc_of h1 fun q hq=>?_,?_⟩
 ·obtain⟨p,hp,rfl⟩:=List.mem_map.1 hq
  exact h2 p hp
 ·have:l.any badP=false:=by
   rw[List.any_eq_false]
   intro p hp
   obtain⟨g1,g2,g3⟩:=h3 p hp
   have e:asc p.2 0 1000000=true:=asc_of g2 g3
   simp[badP,e,g1]
  rw[this]
  rfl
theorem pos_in {l:PL}{d z:Int}(h:z∈posOf l d):∃p∈l,p.1=d∧posOf l d=p.2:=by
 induction l with
 |nil=>simp[posOf] at h
 |cons p l ih=>
  by_cases e:p.1=d
  ·subst e
   exact⟨p,by simp,rfl,posOf_cons_eq⟩
  ·rw[posOf_cons_ne e] at h ⊢
   obtain⟨q,g1,g2,g3⟩:=ih h
   exact⟨q,by simp[g1],g2,g3⟩
theorem posOf_asc {l:PL}(h:VL l)(d:Int):Asc (posOf l d):=by
 cases e:posOf l d with
 |nil=>exact List.Pairwise.nil
 |cons z r=>
  obtain⟨p,h1,_,h3⟩:=pos_in (l:=l) (d:=d) (z:=z) (by rw[e];simp)
  rw[←e,h3]
  exact((validL_iff h).2.2 p h1).2.1
theorem doc_pos {l:PL}(h:VL l)(d:Int):d∈docs l↔∃z,z∈posOf l d:=by
 obtain⟨a1,a2,a3⟩:=validL_iff h
 constructor
 ·intro hd
  obtain⟨p,hp,rfl⟩:=List.mem_map.1 hd
  rw[posOf_mem a1 hp]
  exact List.exists_mem_of_ne_nil _ (a3 p hp).1
 ·rintro⟨z,hz⟩
  obtain⟨p,h1,h2,_⟩:=pos_in hz
  exact List.mem_map.2 ⟨p,h1,h2⟩
theorem vext {a b:PL}(ha:VL a)(hb:VL b)(h:∀d z,z∈posOf a d↔z∈posOf b d):a=b:=by
 refine ascP_ext (validL_iff ha).1 (validL_iff hb).1 (fun d=>?_) fun d _=>asc_ext _ _ (posOf_asc ha d) (posOf_asc hb d) (h d)
 rw[doc_pos ha,doc_pos hb]
 exact exists_congr (h d)
theorem unionL_eq {a b:PL}(ha:VL a)(hb:VL b):unionL a b=unL a b:=by unfold unionL;rw[if_pos ⟨ha,hb⟩]
theorem docs_unL (a b:PL):docs (unL a b)=jn (docs a) (docs b):=docs_map (fun d=>jn (posOf a d) (posOf b d)) _
theorem posOf_unL {a b:PL}(ha:VL a)(hb:VL b)(d:Int):posOf (unL a b) d=jn (posOf a d) (posOf b d):=by
 by_cases h:d∈jn (docs a) (docs b)
 ·exact posOf_map (fun d=>jn (posOf a d) (posOf b d)) _ d h
 ·have e:posOf (unL a b) d=[]:=posOf_no (by rw[show (unL a b).map (·.1)=docs (unL a b) from rfl,docs_unL];exact h)
  rw[jn_mem (a:=docs a) (b:=docs b) (validL_iff ha).1 (validL_iff hb).1] at h
  have e1:posOf a d=[]:=posOf_no (fun hh=>h (.inl hh))
  have e2:posOf b d=[]:=posOf_no (fun hh=>h (.inr hh))
  rw[e,e1,e2]
  rfl
theorem un_mem {a b:PL}(ha:VL a)(hb:VL b)(d z:Int):z∈posOf (unionL a b) d↔z∈posOf a d∨z∈posOf b d:=by
 rw[unionL_eq ha hb,posOf_unL ha hb,jn_mem (posOf_asc ha d) (posOf_asc hb d)]
theorem un_V {a b:PL}(ha:VL a)(hb:VL b):VL (unionL a b):=by
 obtain⟨a1,a2,a3⟩:=validL_iff ha
 obtain⟨b1,b2,b3⟩:=validL_iff hb
 rw[unionL_eq ha hb]
 have key:∀d,d∈jn (docs a) (docs b)→d∈docs a∨d∈docs b:=fun d hd=>(jn_mem a1 b1 d).1 hd
 refine validL_of ?_ (fun p hp=>?_) fun p hp=>?_
 ·show Asc (docs (unL a b))
  rw[docs_unL]
  exact jn_asc a1 b1
 ·obtain⟨d,hd,rfl⟩:=List.mem_map.1 hp
  rcases key d hd with h|h
  ·obtain⟨q,hq,e⟩:=List.mem_map.1 h
   have:=a2 q hq
   rw[e] at this
   exact this
  ·obtain⟨q,hq,e⟩:=List.mem_map.1 h
   have:=b2 q hq
   rw[e] at this
   exact this
 ·obtain⟨d,hd,rfl⟩:=List.mem_map.1 hp
  refine⟨fun e=>?_,jn_asc (posOf_asc ha d) (posOf_asc hb d),fun q hq=>?_⟩
  ·have e':jn (posOf a d) (posOf b d)=[]:=e
   have hno:∀z,¬(z∈posOf a d∨z∈posOf b d):=fun z hz=>by
    rw[←jn_mem (posOf_asc ha d) (posOf_asc hb d),e'] at hz
    simp at hz
   rcases key d hd with h|h
   ·obtain⟨z,hz⟩:=(doc_pos ha d).1 h
    exact hno z (.inl hz)
   ·obtain⟨z,hz⟩:=(doc_pos hb d).1 h
    exact hno z (.inr hz)
  ·rcases (jn_mem (posOf_asc ha d) (posOf_asc hb d) q).1 hq with h|h
   ·obtain⟨p,h1,_,h3⟩:=pos_in h
    rw[h3] at h
    exact(a3 p h1).2.2 q h
   ·obtain⟨p,h1,_,h3⟩:=pos_in h
    rw[h3] at h
    exact(b3 p h1).2.2 q h
section
variable {a b c : PL} (ha : VL a) (hb : VL b) (hc : VL c)
include ha
include hb
include hc
end
end Go.Proofs.YtneohapkboaplaaGreat
