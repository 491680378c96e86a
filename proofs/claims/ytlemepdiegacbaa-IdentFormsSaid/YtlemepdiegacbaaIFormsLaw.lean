/- IdentForms: the given statement.
   Conditions: none. -/
import Derived.Test.YtlemepdiegacbaaIWk5
import Derived.Test.YtlemepdiegacbaaAmArg
import Derived.HandedShaped
import Derived.Shelf.Vars
namespace Go.Proofs.Ytlemepdiegacbaa.identForms
open Go Go.Am Go.ChangeShapes Go.WideShapes Go.ChangeAt Go.RowKit
set_option linter.unusedVariables false

theorem own : ownKnob Try.prog.godebug = none := by kernel_rfl

theorem shapes (W : World) (hsh : W.ShapedOpen Try.prog) : ∀ x ∈ gints, ∃ m, W.cell? ⟨x.1, x.2, none⟩ = some (.int .i64 m) := by
  intro x hx
  obtain rfl : x = (0, 0) := by simpa [gints] using hx
  exact cell_of_shapedOpen_int (t := 3) (zero := #[.int .i64 0]) hsh (of_decide_eq_true (by kernel_rfl)) (by kernel_rfl) rfl (by kernel_rfl) (by kernel_rfl) Try.underlying3

set_option maxRecDepth 100000 in
theorem contract (H : Type) (enc : TypeId × Value → H) (W : World) (base : Nat) (args : Array Value) (ds gs : List (DataW H)) (before : List MemPlace)
    (hsh : W.ShapedOpen Try.prog)
    (hval : ∀ (j : Nat) t v, Try.f7.params[j]? = some t → args[j]? = some v → Value.okWide Try.prog W .any base t v)
    (hW : DataW.Whole enc Try.prog Try.f7.params.toList Rows.identFormsSpec.vars false W args.toList ds gs before) :
    Calls Try.prog 7 args W fun e W' => ∃ v, e = .returned v ∧ Rows.identFormsSpec.post enc Try.prog Try.f7 false true false false W args v W' := by
  have hW' := hW
  obtain ⟨p, q, hA0, hV, rfl, hfz, hnd⟩ := hW
  have hA : DataW.TrodAll enc Try.prog W 0 (fun _ => true) true Try.f7.params.toList args.toList ds p := hA0
  rw [Try.params7] at hA hval
  obtain ⟨v0, vs0, d0, ds0, p0, q0, hargs, rfl, rfl, h0, r0⟩ := trodAll_cons hA
  obtain ⟨v1, vs1, d1, ds1, p1, q1, rfl, rfl, rfl, h1, r1⟩ := trodAll_cons r0
  obtain ⟨v2, vs2, d2, ds2, p2, q2, rfl, rfl, rfl, h2, r2⟩ := trodAll_cons r1
  obtain ⟨rfl, rfl, rfl⟩ := trodAll_nil r2
  obtain rfl : args = #[v0, v1, v2] := by cases args; simp_all
  obtain ⟨a0, w0, g0⟩ := av_int Try.underlying29 (hval 0 29 v0 rfl rfl) h0
  obtain ⟨a1, w1, g1⟩ := av_int Try.underlying34 (hval 1 34 v1 rfl rfl) h1
  obtain ⟨a2, w2, g2⟩ := av_str Try.underlying9 (hval 2 9 v2 rfl rfl) h2
  refine ((iforms_ok a0 a1 a2 w0 w1).law (w := W) (args := #[v0, v1, v2]) (shapes W hsh) rfl fun j hj hj' => ?_).mono fun e W' ⟨he, hg⟩ => ?_
  · match j, hj with
    | 0, _ => exact g0
    | 1, _ => exact g1
    | 2, _ => exact g2
  · exact ⟨_, he, law_close hW' rfl rfl (by kernel_rfl) Try.underlying4 (by kernel_rfl) (by rw [Try.params7]; intro t ht; simp at ht; rcases ht with rfl | rfl | rfl <;> exact ⟨by kernel_rfl, of_decide_eq_true (by kernel_rfl)⟩) hg⟩

set_option maxRecDepth 100000 in
theorem lifted (os : Os) (started : os.Started) (H : Type) (enc : TypeId × Value → H) :
    ReturnsInHanded {} Try.checked os 7 .any (Rows.identFormsSpec.pre6 enc Try.prog Try.f7 Rows.identFormsRow.domain false) (Rows.identFormsSpec.post enc Try.prog Try.f7 false true false false) := by
  refine returnsInHanded_of_change_shaped (C := Try.checked) (s := Rows.identFormsSpec) own started (by kernel_rfl) Try.func7
    (ChangeSpec.witness6 (enc := enc) (C := Try.checked) (s := Rows.identFormsSpec) false ⟨#[], #[.int .u32 0, .int .u16 0, .string ⟨#[]⟩], []⟩ 8 (by kernel_rfl) (by kernel_rfl) (by kernel_rfl) (by kernel_rfl) (by kernel_rfl)) ?_
  intro W base args ds gs before hval hW _ _ hsh _
  exact contract H enc W base args ds gs before hsh hval hW

theorem over : Rows.identFormsRow.holds Try.pinned (OpenSpec.ofChange Rows.identFormsSpec) :=
  OpenClaim.holds_of_wide 7 Try.f7 rfl rfl rfl rfl rfl rfl rfl ⟨rfl, rfl, rfl, rfl, rfl⟩ rfl rfl rfl rfl rfl (by kernel_rfl) Try.func7 (by kernel_rfl)
    (of_decide_eq_true (by kernel_rfl)) (by unfold Func.isWrapper; first | (rw [if_pos (by decide +kernel)]; kernel_rfl) | (rw [if_neg (by decide +kernel)]; exact ⟨rfl, rfl⟩))
    (fun os started H enc _ => lifted os started H enc)
end Go.Proofs.Ytlemepdiegacbaa.identForms
namespace Go.Proofs.Ytlemepdiegacbaa
theorem identForms_said : Rows.IdentFormsSaid := identForms.over
end Go.Proofs.Ytlemepdiegacbaa
