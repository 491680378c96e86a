/- A box of several cells, one of which is an empty end, gets a token for it.
  Conditions: none; it speaks of every program. -/
import Derived.Test.YtneohapkboaplaaGreatAmBox
import Derived.Test.YtneohapkboaplaaGreatAmTup
set_option linter.unusedVariables false
namespace Go.Am
open Go
section
variable {H : List Blk} {T : Toks} {L : Lay} {w : World}
theorem Con.ownC {n z k : Nat} {cs vs : List AV} (h : Con L (H ++ [.cells vs]) T w) (hk : vs[k]? = some (.sl n cs .full)) (hz : 0 < z) :
  Con (L.withTok T.length ⟨0, 0, 0⟩) (H ++ [.cells (vs.set k (.sl n cs (.own T.length)))]) (T ++ [(cs.length, z)]) w := by
 have h1 := h.own cs.length hz
 have ev := Ev.own (H := H ++ [.cells vs]) (T := T) (L := L) (w := w) cs.length z
 have el : (H ++ [Blk.cells vs]).length = (H ++ [Blk.cells (vs.set k (.sl n cs (.own T.length)))]).length := by simp
 refine ⟨fun i b hi => ?_, fun i j hi hj => h1.inj i j (by rw [el]; exact hi) (by rw [el]; exact hj), h1.tok, h1.tinj, fun t u z' i ht hu hi => h1.tbox t u z' i ht hu (by rw [el]; exact hi), h1.mz, h1.gl⟩
 rw [← el]
 rcases Nat.lt_or_ge i H.length with hl | hl
 ·rw [List.getElem?_append_left hl] at hi
  exact h1.box i b (by rw [List.getElem?_append_left hl]; exact hi)
 ·have hi' := (List.getElem?_eq_some_iff.1 hi).1
  have : i = H.length := by simp at hi'; omega
  subst this
  rw [new_at0] at hi
  simp at hi
  subst hi
  obtain ⟨c, t, fr, g1, g2, g3, g3', g4, g5⟩ := h.box H.length (.cells vs) (by simp)
  refine ⟨c, t, fr, g1, g2, by simpa using g3, g3', fun j hj hj' => ?_, g5⟩
  by_cases e : k = j
  ·subst e
   have hj2 : k < vs.length := by simpa using hj
   rw [List.getElem?_eq_getElem hj2] at hk
   have := g4 k hj2 hj'
   rw [Option.some.inj hk] at this
   rw [List.getElem_set_self]
   exact this.own
  ·rw [List.getElem_set_ne e]
   exact (g4 j (by simpa using hj) hj').keep ev.keeps
theorem aw_ownC {C : Cx} {c : Code} {Q : Exit → St → Prop} {s : St} (z k : Nat) (H : List Blk) (vs : List AV) (n : Nat) (cs : List AV) (hz : 0 < z) (hk : vs[k]? = some (.sl n cs .full)) (hH : s.H = H ++ [.cells vs])
  (h : AW C c Q ⟨s.e, H ++ [.cells (vs.set k (.sl n cs (.own s.T.length)))], s.T ++ [(cs.length, z)]⟩) : AW C c Q s := by
 obtain ⟨e, H0, T⟩ := s
 simp only at hH h
 subst hH
 intro L w a hc
 have el : (H ++ [Blk.cells vs]).length = (H ++ [Blk.cells (vs.set k (.sl n cs (.own T.length)))]).length := by simp
 have ev := Ev.own (H := H ++ [.cells vs]) (T := T) (L := L) (w := w) cs.length z
 have ev' := ev.mono hc.nb hc.tb
 have ek : Keeps L (H ++ [Blk.cells vs]).length T w (L.withTok T.length ⟨0, 0, 0⟩) (H ++ [Blk.cells (vs.set k (.sl n cs (.own T.length)))]).length (T ++ [(cs.length, z)]) w := by
  rw [← el]; exact ev.keeps
 refine wp_mono (h (L.withTok T.length ⟨0, 0, 0⟩) w a ⟨by rw [← el]; exact hc.nb, by simp; have := hc.tb; simp at this; omega, hc.con.ownC hk hz, hc.size, hc.defers, fun t => (hc.env t).keep ek⟩) fun _ _ _ kk =>
  Post.step (s1 := ⟨e, H ++ [.cells (vs.set k (.sl n cs (.own T.length)))], T ++ [(cs.length, z)]⟩) (by rw [← el]; exact ev') kk
end
end Go.Am
