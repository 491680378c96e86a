/- Ways as the entries of a map (layer 26).
   Conditions: numbers below 2^63, as the theorem says. -/
import Derived.Test.YtfdlngemkhiiiaaGreatDoorVFn3
namespace Go.Proofs.YtfdlngemkhiiiaaGreatDoor
open Go Go.Am Voc
set_option linter.unusedVariables false

def keyE (e : Pr) : MKey := .agg [.int .i64 e.1, .int .i64 e.2]
def ksAV (ks : List Bool) : AV := .agg (ks.map .bool)
def encW (w : Wy) : List (MKey × AV) := w.map fun x => (keyE x.1, ksAV x.2)

theorem keyE_inj {a b : Pr} : keyE a = keyE b ↔ a = b := by
  obtain ⟨a1, a2⟩ := a
  obtain ⟨b1, b2⟩ := b
  simp [keyE]

theorem encW_get (w : Wy) (e : Pr) : (mget (encW w) (keyE e)).getD (ksAV zs4) = ksAV (wget w e) := by
  induction w with
  | nil => rfl
  | cons x r ih =>
    obtain ⟨e', ks⟩ := x
    simp only [encW, List.map_cons, mget, keyE_inj, wget] at ih ⊢
    split
    · rfl
    · exact ih
theorem encW_put (w : Wy) (e : Pr) (n : Nat) : mput (encW w) (keyE e) (ksAV ((wget w e).set n true)) = encW (wadd w e n) := by
  induction w with
  | nil => rfl
  | cons x r ih =>
    obtain ⟨e', ks⟩ := x
    simp only [encW, List.map_cons, mput, keyE_inj, wget, wadd] at ih ⊢
    split
    · rename_i h; subst h; rfl
    · simp only [List.map_cons]; rw [← ih]
theorem wadd_len (w : Wy) (e : Pr) (n : Nat) : (wadd w e n).length ≤ w.length + 1 := by
  induction w with
  | nil => simp [wadd]
  | cons x r ih =>
    obtain ⟨e', ks⟩ := x
    simp only [wadd]
    split
    · simp
    · simp only [List.length_cons]; omega
theorem encW_len (w : Wy) : (encW w).length = w.length := List.length_map _
theorem below_encW (n t : Nat) (w : Wy) : BelowAll n t ((encW w).map (·.2)) := by
  intro v hv
  simp only [encW, List.map_map, List.mem_map, Function.comp] at hv
  obtain ⟨x, _, rfl⟩ := hv
  refine .agg _ fun c hc => ?_
  obtain ⟨b, _, rfl⟩ := List.mem_map.1 hc
  exact .bool _

theorem fits39 (a b : Int) (ha : -9223372036854775808 ≤ a ∧ a ≤ 9223372036854775807) (hb : -9223372036854775808 ≤ b ∧ b ≤ 9223372036854775807) : fitsB Tryz.prog 59 (keyE (a, b)) = true := by
  have hu : Tryz.prog.underlying 59 = some (.array 2 3) := by kernel_rfl
  have h3 : Tryz.prog.underlying 3 = some (.int .i64) := by kernel_rfl
  have hk : Tryz.prog.keyType 59 = true := by kernel_rfl
  have hs : Tryz.prog.types.size = 155 := by kernel_rfl
  have hwf : ∀ x : Int, -9223372036854775808 ≤ x ∧ x ≤ 9223372036854775807 → (Lit.int .i64 x).wf = true := fun x hx => by
    simp only [Lit.wf, Bool.and_eq_true, decide_eq_true_eq]
    exact hx
  have hl : Tryz.prog.keyLits (155 + 1) 59 [.int .i64 a, .int .i64 b] = some [.int .i64 a, .int .i64 b] := by
    show Tryz.prog.keyLits (155 + 1) 59 _ = _
    unfold Program.keyLits
    rw [hu]
    simp only [cells59, cells3, List.length_cons, List.length_nil, if_true]
    have e : ∀ x : Int, -9223372036854775808 ≤ x ∧ x ≤ 9223372036854775807 → Tryz.prog.keyLits 155 3 [.int .i64 x] = some [.int .i64 x] := fun x hx => by
      show Tryz.prog.keyLits (154 + 1) 3 _ = _
      unfold Program.keyLits
      rw [h3]
      simp only [hwf x hx, and_self, if_true]
    simp [List.range, List.range.loop, e a ha, e b hb]
  unfold fitsB keyOf
  rw [hu]
  have hf : (MKey.val (keyE (a, b))).formed Tryz.prog 59 = true := by
    simp [keyE, MKey.val, KC.val, Value.formed, hu, cells59]
  simp only [hk, hf, Bool.and_self, if_true, hs]
  have : (MKey.val (keyE (a, b))).cells.toList = [.int .i64 a, .int .i64 b] := rfl
  rw [this, hl]
  rfl
end Go.Proofs.YtfdlngemkhiiiaaGreatDoor
