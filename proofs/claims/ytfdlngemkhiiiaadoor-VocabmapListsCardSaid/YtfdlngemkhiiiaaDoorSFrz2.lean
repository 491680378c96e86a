/- A slice of a box that a call has made becomes immutable.
   Conditions: none; it speaks of every program. -/
import Derived.Test.YtfdlngemkhiiiaaDoorAmSrt
namespace Go.Am
open Go
set_option linter.unusedVariables false
section
variable {P : Program} {f : FuncId} {args : List AV} {H : List Blk} {T : Toks}
/-- A slice that a call has made in a box becomes immutable; the rest of what it made is forgotten. -/
theorem ACall.freezeM {n : Nat} {cs : List AV} (hb : BelowAll H.length T.length cs)
    (h : ACall P f args H T (fun r H' T' => (∃ G, H' = H ++ G) ∧ (∃ rT, T' = T ++ rT) ∧ ((n = 0 ∧ cs = [] ∧ ∃ tg, r = .sl 0 [] tg) ∨ ∃ i rest, r = .msl i 0 n ∧ H.length ≤ i ∧ H'[i]? = some (.cells (cs ++ rest))))) :
    ACall P f args H T (Is (.sl n cs .none) H T) := by
  refine ⟨h.1, fun L w ca hc hl hr => (h.2 L w ca hc hl hr).mono ?_⟩
  rintro e w' ⟨r', H', T', L', cv, ⟨⟨G, e1⟩, ⟨rT, e2⟩, hor⟩, rfl, hcon, hrep, hev⟩
  subst e1; subst e2
  have hc1 : Con L' H T w' := Con.front P hcon hc.hok
  have e1 := hev.front (Nat.le_refl _) (Nat.le_refl _)
  rcases hor with ⟨rfl, rfl, tg, rfl⟩ | ⟨i, rest, rfl, hi, hbi⟩
  · have := (hrep.untag).drop (n := H.length) (t := T.length) (by simp)
    exact ⟨_, H, T, L', cv, ⟨rfl, rfl, rfl⟩, rfl, hc1, by simpa using this, e1⟩
  · obtain ⟨cap, rfl, hcap, hlt⟩ := hrep.msl_inv
    have hbox := hcon.box i _ hbi
    have hblt := hbox.lt
    obtain ⟨c, t, fr, g1, g2, g3, g3', g4, g5⟩ := hbox
    have hnw : ¬ Wr L' H.length T (L'.phi i) := by
      rintro (⟨j, hj, e⟩ | ⟨t, u, z, ht, hs, e⟩)
      · have := hcon.inj j i (by rw [List.length_append]; omega) hlt e
        omega
      · exact hcon.tbox t u z i (by rw [List.getElem?_append_left (List.getElem?_eq_some_iff.1 ht).1]; exact ht) hs hlt e
    have hc2 := hc1.commitAt (k := cs.length) hblt hnw (by omega)
    have kp : Keeps L' H.length T w' (L'.commit (L'.phi i) cs.length) H.length T w' := by
      refine ⟨Nat.le_refl _, fun _ _ => rfl, fun t u z h => ⟨u, h, Nat.le_refl _, fun _ => rfl⟩, fun x => ?_, fun _ _ _ => rfl, rfl⟩
      show L'.m x ≤ if x = L'.phi i then cs.length else L'.m x
      split
      · rename_i e; rw [e, g5]; exact Nat.zero_le _
      · exact Nat.le_refl _
    rw [List.length_append] at g3
    refine ⟨_, H, T, L'.commit (L'.phi i) cs.length, _, ⟨rfl, rfl, rfl⟩, rfl, hc2, ?_, ?_⟩
    · have hrc : RepC L' H.length T w' cs (c.toList.take cs.length) := by
        refine ⟨by simp; omega, fun j hj => ?_, fun j hj hj' => ?_⟩
        · have hjc : j < c.size := by simp at hj; omega
          have := g3' j hjc
          rw [List.getElem_take, Array.getElem_toList]; exact this
        · have hjc : j < c.size := by omega
          have := (g4 j (by rw [List.length_append]; omega) hjc)
          rw [List.getElem_append_left hj] at this
          have := this.drop (n := H.length) (t := T.length) (hb _ (List.getElem_mem hj))
          rw [List.getElem_take, Array.getElem_toList]
          simpa using this
      refine Rep.sl_mk hcap ?_ (hrc.keep kp) (fun j hj => ?_) trivial
      · show 0 + cs.length ≤ if L'.phi i = L'.phi i then cs.length else _
        rw [if_pos rfl]; omega
      · rw [cell_row g1, Nat.zero_add, List.getElem?_take, if_pos hj]; simp
    · exact ⟨e1.n, e1.phi, e1.tok, e1.t, fun b => Nat.le_trans (e1.m b) (kp.m b), e1.com, e1.size, e1.frame, e1.wr, e1.os, e1.tape, e1.output, e1.drawn, e1.dr⟩
end
end Go.Am
