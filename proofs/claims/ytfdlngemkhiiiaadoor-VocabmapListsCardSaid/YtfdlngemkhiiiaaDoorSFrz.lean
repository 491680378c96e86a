/- A slice that a call with two results has made in a box becomes immutable.
   Conditions: none; it speaks of every program. -/
import Derived.Test.YtfdlngemkhiiiaaDoorAmSrt
namespace Go.Am
open Go
set_option linter.unusedVariables false
section
variable {P : Program} {f : FuncId} {args : List AV} {H : List Blk} {T : Toks}
theorem ACall.freezeT {n : Nat} {cs : List AV} {v : AV} (hb : BelowAll H.length T.length cs) (hv : Below H.length T.length v)
    (h : ACall P f args H T (fun r H' T' => (∃ G, H' = H ++ G) ∧ (∃ rT, T' = T ++ rT) ∧ ∃ i rest, r = .tup [.msl i 0 n, v] ∧ H.length ≤ i ∧ H'[i]? = some (.cells (cs ++ rest)))) :
    ACall P f args H T (Is (.tup [.sl n cs .none, v]) H T) := by
  refine ⟨h.1, fun L w ca hc hl hr => (h.2 L w ca hc hl hr).mono ?_⟩
  rintro e w' ⟨r', H', T', L', cv, ⟨⟨G, e1⟩, ⟨rT, e2⟩, i, rest, e3, hi, hbi⟩, rfl, hcon, hrep, hev⟩
  subst e1; subst e2; subst e3
  have hc1 : Con L' H T w' := Con.front P hcon hc.hok
  have e1 := hev.front (Nat.le_refl _) (Nat.le_refl _)
  cases hrep with
  | tup _ arr h1 hrr =>
  have h2 : arr.size = 2 := by simpa using h1
  have r0 := hrr 0 (by simp) (by omega)
  have r1 := hrr 1 (by simp) (by omega)
  simp only [List.getElem_cons_zero, List.getElem_cons_succ] at r0 r1
  obtain ⟨cap, ea, hcap, hlt⟩ := r0.msl_inv
  have hbox := hcon.box i _ hbi
  have hblt := hbox.lt
  obtain ⟨c, t, fr, g1, g2, g3, g3', g4, g5⟩ := hbox
  have hnw : ¬ Wr L' H.length T (L'.phi i) := by
    rintro (⟨j, hj, e⟩ | ⟨t, u, z, ht, hs, e⟩)
    · have := hcon.inj j i (by rw [List.length_append]; omega) hlt e
      omega
    · exact hcon.tbox t u z i (by rw [List.getElem?_append_left (List.getElem?_eq_some_iff.1 ht).1]; exact ht) hs hlt e
  have hc2 := hc1.commitAt (k := cs.length) hblt hnw (by omega)
  have kp : Keeps L' H.length T w' (L'.commit (L'.phi i) cs.length) H.length T w' := by
    refine ⟨Nat.le_refl _, fun _ _ => rfl, fun t u z h => ⟨u, h, Nat.le_refl _, fun _ => rfl⟩, fun x => ?_, fun _ _ _ => rfl, rfl⟩
    show L'.m x ≤ if x = L'.phi i then cs.length else L'.m x
    split
    · rename_i e; rw [e, g5]; exact Nat.zero_le _
    · exact Nat.le_refl _
  rw [List.length_append] at g3
  refine ⟨_, H, T, L'.commit (L'.phi i) cs.length, _, ⟨rfl, rfl, rfl⟩, rfl, hc2, ?_, ?_⟩
  · have hrc : RepC L' H.length T w' cs (c.toList.take cs.length) := by
      refine ⟨by simp; omega, fun j hj => ?_, fun j hj hj' => ?_⟩
      · have hjc : j < c.size := by simp at hj; omega
        have := g3' j hjc
        rw [List.getElem_take, Array.getElem_toList]; exact this
      · have hjc : j < c.size := by omega
        have := (g4 j (by rw [List.length_append]; omega) hjc)
        rw [List.getElem_append_left hj] at this
        have := this.drop (n := H.length) (t := T.length) (hb _ (List.getElem_mem hj))
        rw [List.getElem_take, Array.getElem_toList]
        simpa using this
    have hsl : Rep (L'.commit (L'.phi i) cs.length) H.length T w' (.sl n cs .none) (.slice (some ⟨L'.phi i, 0, none⟩) n cap) := by
      refine Rep.sl_mk hcap ?_ (hrc.keep kp) (fun j hj => ?_) trivial
      · show 0 + cs.length ≤ if L'.phi i = L'.phi i then cs.length else _
        rw [if_pos rfl]; omega
      · rw [cell_row g1, Nat.zero_add, List.getElem?_take, if_pos hj]; simp
    have hvv : Rep (L'.commit (L'.phi i) cs.length) H.length T w' v arr[1] := by
      have := r1.drop (n := H.length) (t := T.length) hv
      have h3 : Rep L' H.length T w' v arr[1] := by simpa using this
      exact h3.keep kp
    refine .tup _ arr (by simpa using h1) (fun j hj hj' => ?_)
    match j, hj with
    | 0, _ => rw [List.getElem_cons_zero, ea]; exact hsl
    | 1, _ => exact hvv
  · exact ⟨e1.n, e1.phi, e1.tok, e1.t, fun b => Nat.le_trans (e1.m b) (kp.m b), e1.com, e1.size, e1.frame, e1.wr, e1.os, e1.tape, e1.output, e1.drawn, e1.dr⟩
end
end Go.Am
