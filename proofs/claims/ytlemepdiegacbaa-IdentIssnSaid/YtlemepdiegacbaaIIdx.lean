/- strings.Index over this program, by the library's contract.
   Conditions: none. -/
import Derived.Shelf.Strings.Search3
import Derived.Test.YtlemepdiegacbaaAmFacts
import Derived.Test.YtlemepdiegacbaaIPl
namespace Go.Proofs.Ytlemepdiegacbaa
open Go Go.Am Go.Shelf Ident
set_option linter.unusedVariables false

def ren : Ren := ⟨fun | 143 => 40 | 217 => 47 | 219 => 46 | 224 => 49 | 225 => 48 | 266 => 51 | 267 => 50 | 314 => 52 | x => x, fun | 46 => 54 | 51 => 29 | 146 => 55 | x => x, fun | 1 => 0 | x => x⟩
theorem lays : Lays.n143 Try.prog ren :=
  { mixed := by kernel_rfl
    f143 := Try.func40.trans (congrArg some (by kernel_rfl))
    f217 := Try.func47.trans (congrArg some (by kernel_rfl))
    f219 := Try.func46.trans (congrArg some (by kernel_rfl))
    f224 := Try.func49.trans (congrArg some (by kernel_rfl))
    f225 := Try.func48.trans (congrArg some (by kernel_rfl))
    f266 := Try.func51.trans (congrArg some (by kernel_rfl))
    f267 := Try.func50.trans (congrArg some (by kernel_rfl))
    f314 := Try.func52.trans (congrArg some (by kernel_rfl))
    t3 := Try.underlying3, a3 := Try.isAgg3, z3 := Try.sizeOf3, v3 := Try.zeroValue3
    t4 := Try.underlying4, a4 := Try.isAgg4, z4 := Try.sizeOf4, v4 := Try.zeroValue4
    t5 := Try.underlying5, a5 := Try.isAgg5, z5 := Try.sizeOf5, v5 := Try.zeroValue5
    t9 := Try.underlying9, a9 := Try.isAgg9, z9 := Try.sizeOf9, v9 := Try.zeroValue9
    t46 := Try.underlying54, a46 := Try.isAgg54, z46 := Try.sizeOf54, v46 := Try.zeroValue54
    t51 := Try.underlying29, a51 := Try.isAgg29, z51 := Try.sizeOf29, v51 := Try.zeroValue29
    t146 := Try.underlying55, a146 := Try.isAgg55, z146 := Try.sizeOf55, v146 := Try.zeroValue55
    g1 := by kernel_rfl }

theorem sIndex_ok (s sub : List UInt8) (hs : s.length ≤ 1000) (H : List Blk) (T : Toks) : ACall Try.prog 40 [.str s, .str sub] H T (Is (.int .i64 (Go.Lib.index s sub)) H T) := by
  refine ⟨fun _ _ => Try.call40 _ _, fun L w ca hc hl hr => ?_⟩
  obtain ⟨_, m, hm⟩ := hc.gl (0, 0) (by simp [gints])
  have e0 : ca = #[.string ⟨s.toArray⟩, .string ⟨sub.toArray⟩] := by
    obtain ⟨l⟩ := ca
    have hl2 : l.length = 2 := by simpa using hl
    match l, hl2 with
    | [a, b], _ =>
      have r0 := hr 0 (by simp) (by simp)
      have r1 := hr 1 (by simp) (by simp)
      simp at r0 r1
      cases r0
      cases r1
      rfl
  subst e0
  have hc1 := Go.Proofs.Any.strings_Index lays ⟨s.toArray⟩ ⟨sub.toArray⟩ m w (by show s.toArray.size < _; simp; omega) hm
  refine Calls.mono hc1 ?_
  rintro e w' ⟨rfl, rfl⟩
  exact ⟨_, H, T, L, _, ⟨rfl, rfl, rfl⟩, rfl, hc, .int _ _, Ev.refl (Nat.le_refl _) (Nat.le_refl _)⟩

theorem index_cut : ∀ s : List UInt8, (Go.Lib.index s [32, 40] = -1 ∧ cut s = s) ∨ (∃ i : Nat, Go.Lib.index s [32, 40] = i ∧ i ≤ s.length ∧ cut s = s.take i)
  | [] => .inl ⟨rfl, rfl⟩
  | [c] => .inl ⟨by simp [Go.Lib.index], rfl⟩
  | c :: d :: r => by
    by_cases h : c = 32 ∧ d = 40
    · obtain ⟨rfl, rfl⟩ := h
      exact .inr ⟨0, by simp [Go.Lib.index], by simp, by simp [cut]⟩
    · have hp : ([32, 40] : List UInt8).isPrefixOf (c :: d :: r) = false := by
        cases hb : ([32, 40] : List UInt8).isPrefixOf (c :: d :: r) with
        | false => rfl
        | true =>
          simp [List.isPrefixOf] at hb
          exact absurd ⟨hb.1.symm, hb.2.symm⟩ h
      have hcut : cut (c :: d :: r) = c :: cut (d :: r) := by rw [cut, if_neg h]
      have hi : Go.Lib.index (c :: d :: r) [32, 40] = if Go.Lib.index (d :: r) [32, 40] == -1 then -1 else Go.Lib.index (d :: r) [32, 40] + 1 := by
        rw [Go.Lib.index, hp]
        rfl
      rcases index_cut (d :: r) with ⟨h1, h2⟩ | ⟨i, h1, h2, h3⟩
      · exact .inl ⟨by rw [hi, h1]; rfl, by rw [hcut, h2]⟩
      · refine .inr ⟨i + 1, ?_, by simp at h2 ⊢; omega, by rw [hcut, h3]; rfl⟩
        rw [hi, h1]
        have : ((i : Int) == -1) = false := by rw [beq_eq_false_iff_ne]; omega
        rw [this]
        rfl
end Go.Proofs.Ytlemepdiegacbaa
