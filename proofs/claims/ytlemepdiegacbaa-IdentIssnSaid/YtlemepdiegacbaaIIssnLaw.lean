/- IdentIssn: the given statement.
   Conditions: none. -/
import Derived.Test.YtlemepdiegacbaaIWk7
import Derived.Test.YtlemepdiegacbaaAmArg
import Derived.HandedShaped
import Derived.Shelf.Vars
namespace Go.Proofs.Ytlemepdiegacbaa.identIssn
open Go Go.Am Go.ChangeShapes Go.WideShapes Go.ChangeAt Go.RowKit
set_option linter.unusedVariables false

theorem own : ownKnob Try.prog.godebug = none := by kernel_rfl

theorem shapes (W : World) (hsh : W.ShapedOpen Try.prog) : ∀ x ∈ gints, ∃ m, W.cell? ⟨x.1, x.2, none⟩ = some (.int .i64 m) := by
  intro x hx
  obtain rfl : x = (0, 0) := by simpa [gints] using hx
  exact cell_of_shapedOpen_int (t := 3) (zero := #[.int .i64 0]) hsh (of_decide_eq_true (by kernel_rfl)) (by kernel_rfl) rfl (by kernel_rfl) (by kernel_rfl) Try.underlying3

set_option maxRecDepth 100000 in
theorem contract (H : Type) (enc : TypeId × Value → H) (W : World) (base : Nat) (args : Array Value) (ds gs : List (DataW H)) (before : List MemPlace)
    (hsh : W.ShapedOpen Try.prog)
    (hval : ∀ (j : Nat) t v, Try.f3.params[j]? = some t → args[j]? = some v → Value.okWide Try.prog W .any base t v)
    (hW : DataW.Whole enc Try.prog Try.f3.params.toList Rows.identIssnSpec.vars false W args.toList ds gs before) :
    Calls Try.prog 3 args W fun e W' => ∃ v, e = .returned v ∧ Rows.identIssnSpec.post enc Try.prog Try.f3 false true false false W args v W' := by
  have hW' := hW
  obtain ⟨p, q, hA0, hV, rfl, hfz, hnd⟩ := hW
  have hA : DataW.TrodAll enc Try.prog W 0 (fun _ => true) true Try.f3.params.toList args.toList ds p := hA0
  rw [Try.params3] at hA hval
  obtain ⟨v0, vs0, d0, ds0, p0, q0, hargs, rfl, rfl, h0, r0⟩ := trodAll_cons hA
  obtain ⟨v1, vs1, d1, ds1, p1, q1, rfl, rfl, rfl, h1, r1⟩ := trodAll_cons r0
  obtain ⟨rfl, rfl, rfl⟩ := trodAll_nil r1
  obtain rfl : args = #[v0, v1] := by cases args; simp_all
  obtain ⟨a0, w0, g0⟩ := av_str Try.underlying9 (hval 0 9 v0 rfl rfl) h0
  obtain ⟨a1, w1, g1⟩ := av_str Try.underlying9 (hval 1 9 v1 rfl rfl) h1
  refine ((iissn_ok a0 a1).law (w := W) (args := #[v0, v1]) (shapes W hsh) rfl fun j hj hj' => ?_).mono fun e W' ⟨he, hg⟩ => ?_
  · match j, hj with
    | 0, _ => exact g0
    | 1, _ => exact g1
  · exact ⟨_, he, law_close hW' rfl rfl (by kernel_rfl) Try.underlying4 (by kernel_rfl) (by rw [Try.params3]; intro t ht; simp at ht; subst ht; exact ⟨by kernel_rfl, of_decide_eq_true (by kernel_rfl)⟩) hg⟩

set_option maxRecDepth 100000 in
theorem lifted (os : Os) (started : os.Started) (H : Type) (enc : TypeId × Value → H) :
    ReturnsInHanded {} Try.checked os 3 .any (Rows.identIssnSpec.pre6 enc Try.prog Try.f3 Rows.identIssnRow.domain false) (Rows.identIssnSpec.post enc Try.prog Try.f3 false true false false) := by
  refine returnsInHanded_of_change_shaped (C := Try.checked) (s := Rows.identIssnSpec) own started (by kernel_rfl) Try.func3
    (ChangeSpec.witness6 (enc := enc) (C := Try.checked) (s := Rows.identIssnSpec) false ⟨#[], #[.string ⟨#[]⟩, .string ⟨#[]⟩], []⟩ 8 (by kernel_rfl) (by kernel_rfl) (by kernel_rfl) (by kernel_rfl) (by kernel_rfl)) ?_
  intro W base args ds gs before hval hW _ _ hsh _
  exact contract H enc W base args ds gs before hsh hval hW

theorem over : Rows.identIssnRow.holds Try.pinned (OpenSpec.ofChange Rows.identIssnSpec) :=
  OpenClaim.holds_of_wide 3 Try.f3 rfl rfl rfl rfl rfl rfl rfl ⟨rfl, rfl, rfl, rfl, rfl⟩ rfl rfl rfl rfl rfl (by kernel_rfl) Try.func3 (by kernel_rfl)
    (of_decide_eq_true (by kernel_rfl)) (by unfold Func.isWrapper; first | (rw [if_pos (by decide +kernel)]; kernel_rfl) | (rw [if_neg (by decide +kernel)]; exact ⟨rfl, rfl⟩))
    (fun os started H enc _ => lifted os started H enc)
end Go.Proofs.Ytlemepdiegacbaa.identIssn
namespace Go.Proofs.Ytlemepdiegacbaa
theorem identIssn_said : Rows.IdentIssnSaid := identIssn.over
end Go.Proofs.Ytlemepdiegacbaa
