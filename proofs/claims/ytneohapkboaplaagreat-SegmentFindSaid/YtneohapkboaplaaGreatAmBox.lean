/- A box whose cell is an empty end gets a token for it: only the abstract state takes the step.
  Conditions: none; it speaks of every program. -/
import Derived.Test.YtneohapkboaplaaGreatAmGhost
set_option linter.unusedVariables false
namespace Go.Am
open Go
section
variable {H : List Blk} {T : Toks} {L : Lay} {w : World}
theorem Con.ownB {n z : Nat} {cs : List AV} (h : Con L (H ++ [.cells [.sl n cs .full]]) T w) (hz : 0 < z) :
  Con (L.withTok T.length ⟨0, 0, 0⟩) (H ++ [.cells [.sl n cs (.own T.length)]]) (T ++ [(cs.length, z)]) w := by
 have h1 := h.own cs.length hz
 have el : (H ++ [Blk.cells [.sl n cs .full]]).length = (H ++ [Blk.cells [.sl n cs (.own T.length)]]).length := by simp
 refine ⟨fun i b hi => ?_, fun i j hi hj => h1.inj i j (by rw [el]; exact hi) (by rw [el]; exact hj), h1.tok, h1.tinj, fun t u z' i ht hu hi => h1.tbox t u z' i ht hu (by rw [el]; exact hi), h1.mz, h1.gl⟩
 rw [← el]
 rcases Nat.lt_or_ge i H.length with hl | hl
 ·rw [List.getElem?_append_left hl] at hi
  exact h1.box i b (by rw [List.getElem?_append_left hl]; exact hi)
 ·have hi' := (List.getElem?_eq_some_iff.1 hi).1
  have : i = H.length := by simp at hi'; omega
  subst this
  rw [new_at0] at hi
  simp at hi
  subst hi
  obtain ⟨c, t, fr, g1, g2, g3, g3', g4, g5⟩ := h.box H.length (.cells [.sl n cs .full]) (by simp)
  refine ⟨c, t, fr, g1, g2, by simpa using g3, g3', fun j hj hj' => ?_, g5⟩
  have : j = 0 := by simp at hj; omega
  subst this
  exact (g4 0 (by simp) hj').own
theorem aw_ownB {C : Cx} {c : Code} {Q : Exit → St → Prop} {s : St} (z : Nat) (H : List Blk) (n : Nat) (cs : List AV) (hz : 0 < z) (hH : s.H = H ++ [.cells [.sl n cs .full]])
  (h : AW C c Q ⟨s.e, H ++ [.cells [.sl n cs (.own s.T.length)]], s.T ++ [(cs.length, z)]⟩) : AW C c Q s := by
 obtain ⟨e, H0, T⟩ := s
 simp only at hH h
 subst hH
 intro L w a hc
 have el : (H ++ [Blk.cells [.sl n cs .full]]).length = (H ++ [Blk.cells [.sl n cs (.own T.length)]]).length := by simp
 have ev := Ev.own (H := H ++ [.cells [.sl n cs .full]]) (T := T) (L := L) (w := w) cs.length z
 have ev' := ev.mono hc.nb hc.tb
 have ek : Keeps L (H ++ [Blk.cells [.sl n cs .full]]).length T w (L.withTok T.length ⟨0, 0, 0⟩) (H ++ [Blk.cells [.sl n cs (.own T.length)]]).length (T ++ [(cs.length, z)]) w := by
  rw [← el]; exact ev.keeps
 refine wp_mono (h (L.withTok T.length ⟨0, 0, 0⟩) w a ⟨by rw [← el]; exact hc.nb, by simp; have := hc.tb; simp at this; omega, hc.con.ownB hz, hc.size, hc.defers, fun t => (hc.env t).keep ek⟩) fun _ _ _ k =>
  Post.step (s1 := ⟨e, H ++ [.cells [.sl n cs (.own T.length)]], T ++ [(cs.length, z)]⟩) (by rw [← el]; exact ev') k
end
end Go.Am
