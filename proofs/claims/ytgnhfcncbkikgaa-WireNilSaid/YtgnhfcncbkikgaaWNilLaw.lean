/- WireNil: the given statement.
   Conditions: none. -/
import Derived.Test.YtgnhfcncbkikgaaWNil
import Derived.Test.YtgnhfcncbkikgaaAmLaw
namespace Go.Proofs.Ytgnhfcncbkikgaa.wireNil
open Go Go.Am Go.ChangeShapes Go.WideShapes Go.ChangeAt Go.RowKit Wire
set_option linter.unusedVariables false

theorem own : ownKnob Try.prog.godebug = none := by kernel_rfl

theorem arr4 {cs : Array Value} (h : cs.size = 4) : ∃ a b c d, cs = #[a, b, c, d] := by
  obtain ⟨l⟩ := cs
  match l, h with
  | [a, b, c, d], _ => exact ⟨a, b, c, d, rfl⟩

theorem contract (H : Type) (enc : TypeId × Value → H) (W : World) (base : Nat) (args : Array Value) (ds gs : List (DataW H)) (before : List MemPlace)
    (hval : ∀ (j : Nat) t v, Try.f5.params[j]? = some t → args[j]? = some v → Value.okWide Try.prog W .any base t v)
    (hW : DataW.Whole enc Try.prog Try.f5.params.toList Rows.wireNilSpec.vars false W args.toList ds gs before) :
    Calls Try.prog 5 args W fun e W' => ∃ v, e = .returned v ∧ Rows.wireNilSpec.post enc Try.prog Try.f5 false true false false W args v W' := by
  have hW' := hW
  obtain ⟨p, q, hA0, hV, rfl, hfz, hnd⟩ := hW
  have hA : DataW.TrodAll enc Try.prog W 0 (fun _ => true) true Try.f5.params.toList args.toList ds p := hA0
  rw [Try.params5] at hA hval
  obtain ⟨v0, vs0, d0, ds0, p0, q0, hargs, rfl, rfl, h0, r0⟩ := trodAll_cons hA
  obtain ⟨rfl, rfl, rfl⟩ := trodAll_nil r0
  obtain rfl : args = #[v0] := by cases args; simp_all
  obtain ⟨cs, rfl, hsz⟩ := okWide_struct Try.underlying38 (hval 0 38 v0 rfl rfl)
  obtain ⟨fuel, hfu⟩ := h0
  obtain ⟨hl, hf⟩ := rc_fields Try.underlying38 hfu
  rw [cells38] at hsz
  obtain ⟨c0, c1, c2, c3, rfl⟩ := arr4 hsz
  obtain ⟨n0, y0, g0⟩ := hf 0 _ rfl
  obtain ⟨n1, y1, g1⟩ := hf 1 _ rfl
  obtain ⟨n2, y2, g2⟩ := hf 2 _ rfl
  obtain ⟨n3, y3, g3⟩ := hf 3 _ rfl
  simp [Value.cells] at g0 g1 g2 g3
  obtain ⟨a0, _, b0⟩ := rc_int Try.underlying3 g0
  obtain ⟨a1, _, b1⟩ := rc_int Try.underlying3 g1
  obtain ⟨a2, _, b2⟩ := rc_int Try.underlying3 g2
  obtain ⟨a3, _, b3⟩ := rc_int Try.underlying3 g3
  have hrc : RC W [.int .i64 a0, .int .i64 a1, .int .i64 a2, .int .i64 a3] [c0, c1, c2, c3] := ((b0.append b1).append b2).append b3
  refine ((nil_ok a0 a1 a2 a3).law (w := W) (args := #[.agg #[c0, c1, c2, c3]]) rfl fun j hj hj' => ?_).mono fun e W' ⟨he, hg⟩ => ?_
  · match j, hj with
    | 0, _ => exact hrc.agg
  · exact ⟨_, he, law_close hW' rfl rfl (by kernel_rfl) Try.underlying4 (by kernel_rfl) (by rw [Try.params5]; intro t ht; simp at ht; subst ht; exact ⟨by kernel_rfl, of_decide_eq_true (by kernel_rfl)⟩) hg⟩

set_option maxRecDepth 100000 in
theorem lifted (os : Os) (started : os.Started) (H : Type) (enc : TypeId × Value → H) :
    ReturnsInHanded {} Try.checked os 5 .any (Rows.wireNilSpec.pre6 enc Try.prog Try.f5 Rows.wireNilRow.domain false) (Rows.wireNilSpec.post enc Try.prog Try.f5 false true false false) := by
  refine returnsInHanded_of_change (C := Try.checked) (s := Rows.wireNilSpec) own started (by kernel_rfl) Try.func5
    (ChangeSpec.witness6 (enc := enc) (C := Try.checked) (s := Rows.wireNilSpec) false ⟨#[], #[.agg #[.int .i64 0, .int .i64 0, .int .i64 0, .int .i64 0]], []⟩ 8 (by kernel_rfl) (by kernel_rfl) (by kernel_rfl) (by kernel_rfl) (by kernel_rfl)) ?_
  intro W base args ds gs before hval hW _ _
  exact contract H enc W base args ds gs before hval hW

theorem over : Rows.wireNilRow.holds Try.pinned (OpenSpec.ofChange Rows.wireNilSpec) :=
  OpenClaim.holds_of_wide 5 Try.f5 rfl rfl rfl rfl rfl rfl rfl ⟨rfl, rfl, rfl, rfl, rfl⟩ rfl rfl rfl rfl rfl (by kernel_rfl) Try.func5 (by kernel_rfl)
    (of_decide_eq_true (by kernel_rfl)) (by unfold Func.isWrapper; first | (rw [if_pos (by decide +kernel)]; kernel_rfl) | (rw [if_neg (by decide +kernel)]; exact ⟨rfl, rfl⟩))
    (fun os started H enc _ => lifted os started H enc)
end Go.Proofs.Ytgnhfcncbkikgaa.wireNil
namespace Go.Proofs.Ytgnhfcncbkikgaa
theorem wireNil_said : Rows.WireNilSaid := wireNil.over
end Go.Proofs.Ytgnhfcncbkikgaa
