/- VocabmapInverse: the given statement.
   Conditions: none. -/
import Derived.Test.YtfdlngemkhiiiaaVWk3
import Derived.Test.YtfdlngemkhiiiaaAmArg
namespace Go.Proofs.Ytfdlngemkhiiiaa.vocabmapInverse
open Go Go.Am Go.ChangeShapes Go.WideShapes Go.ChangeAt Go.RowKit
set_option linter.unusedVariables false

theorem own : ownKnob Try.prog.godebug = none := by kernel_rfl

set_option maxRecDepth 100000 in
theorem contract (H : Type) (enc : TypeId × Value → H) (W : World) (base : Nat) (args : Array Value) (ds gs : List (DataW H)) (before : List MemPlace)
    (hval : ∀ (j : Nat) t v, Try.f5.params[j]? = some t → args[j]? = some v → Value.okWide Try.prog W .any base t v)
    (hW : DataW.Whole enc Try.prog Try.f5.params.toList Rows.vocabmapInverseSpec.vars false W args.toList ds gs before) :
    Calls Try.prog 5 args W fun e W' => ∃ v, e = .returned v ∧ Rows.vocabmapInverseSpec.post enc Try.prog Try.f5 false true false false W args v W' := by
  have hW' := hW
  obtain ⟨p, q, hA0, hV, rfl, hfz, hnd⟩ := hW
  have hA : DataW.TrodAll enc Try.prog W 0 (fun _ => true) true Try.f5.params.toList args.toList ds p := hA0
  rw [Try.params5] at hA hval
  obtain ⟨v0, vs0, d0, ds0, p0, q0, hargs, rfl, rfl, h0, r0⟩ := trodAll_cons hA
  obtain ⟨v1, vs1, d1, ds1, p1, q1, rfl, rfl, rfl, h1, r1⟩ := trodAll_cons r0
  obtain ⟨v2, vs2, d2, ds2, p2, q2, rfl, rfl, rfl, h2, r2⟩ := trodAll_cons r1
  obtain ⟨rfl, rfl, rfl⟩ := trodAll_nil r2
  obtain rfl : args = #[v0, v1, v2] := by cases args; simp_all
  obtain ⟨a0, w0, g0⟩ := av_maps Try.underlying22 Try.underlying32 rfl rfl rfl rfl rfl rfl Try.underlying3 Try.underlying3 Try.underlying3 (by kernel_rfl) (by kernel_rfl) (by kernel_rfl) (by kernel_rfl) (hval 0 22 v0 rfl rfl) h0
  obtain ⟨a1, w1, g1⟩ := av_maps Try.underlying22 Try.underlying32 rfl rfl rfl rfl rfl rfl Try.underlying3 Try.underlying3 Try.underlying3 (by kernel_rfl) (by kernel_rfl) (by kernel_rfl) (by kernel_rfl) (hval 1 22 v1 rfl rfl) h1
  obtain ⟨a2, w2, g2⟩ := av_int Try.underlying5 (hval 2 5 v2 rfl rfl) h2
  refine ((inverse_law a0 a1 a2 w0 w1 (u8_range w2)).law (w := W) (args := #[v0, v1, v2]) (by intro x hx; cases hx) rfl fun j hj hj' => ?_).mono fun e W' ⟨he, hg⟩ => ?_
  · match j, hj with
    | 0, _ => exact g0
    | 1, _ => exact g1
    | 2, _ => exact g2
  · exact ⟨_, he, law_close hW' rfl rfl (by kernel_rfl) Try.underlying4 (by kernel_rfl) (by rw [Try.params5]; intro t ht; simp at ht; rcases ht with rfl | rfl <;> exact ⟨by kernel_rfl, of_decide_eq_true (by kernel_rfl)⟩) hg⟩

set_option maxRecDepth 100000 in
theorem lifted (os : Os) (started : os.Started) (H : Type) (enc : TypeId × Value → H) :
    ReturnsInHanded {} Try.checked os 5 .any (Rows.vocabmapInverseSpec.pre6 enc Try.prog Try.f5 Rows.vocabmapInverseRow.domain false) (Rows.vocabmapInverseSpec.post enc Try.prog Try.f5 false true false false) := by
  refine returnsInHanded_of_change (C := Try.checked) (s := Rows.vocabmapInverseSpec) own started (by kernel_rfl) Try.func5
    (ChangeSpec.witness6 (enc := enc) (C := Try.checked) (s := Rows.vocabmapInverseSpec) false ⟨#[], #[.slice none 0 0, .slice none 0 0, .int .u8 0], []⟩ 8 (by kernel_rfl) (by kernel_rfl) (by kernel_rfl) (by kernel_rfl) (by kernel_rfl)) ?_
  intro W base args ds gs before hval hW _ _
  exact contract H enc W base args ds gs before hval hW

theorem over : Rows.vocabmapInverseRow.holds Try.pinned (OpenSpec.ofChange Rows.vocabmapInverseSpec) :=
  OpenClaim.holds_of_wide 5 Try.f5 rfl rfl rfl rfl rfl rfl rfl ⟨rfl, rfl, rfl, rfl, rfl⟩ rfl rfl rfl rfl rfl (by kernel_rfl) Try.func5 (by kernel_rfl)
    (of_decide_eq_true (by kernel_rfl)) (by unfold Func.isWrapper; first | (rw [if_pos (by decide +kernel)]; kernel_rfl) | (rw [if_neg (by decide +kernel)]; exact ⟨rfl, rfl⟩))
    (fun os started H enc _ => lifted os started H enc)
end Go.Proofs.Ytfdlngemkhiiiaa.vocabmapInverse
namespace Go.Proofs.Ytfdlngemkhiiiaa
theorem vocabmapInverse_said : Rows.VocabmapInverseSaid := vocabmapInverse.over
end Go.Proofs.Ytfdlngemkhiiiaa
