/- Chars and Distance of layer 11.
   Conditions: lengths below 1000. -/
import Derived.Test.YtgndlhfnenlhkaaAmFacts
import Derived.Test.YtgndlhfnenlhkaaAmGhost
import Derived.Test.YtgndlhfnenlhkaaEPl
namespace Go.Proofs.Ytgndlhfnenlhkaa
open Go Go.Am Edit
set_option linter.unusedVariables false

theorem drawMixed : Try.prog.follows .mixedOrders = true := by kernel_rfl

theorem decode_facts (s : ByteArray) (i : Nat) : (Utf8.decode s i).1 < 2097152 ∧ 1 ≤ (Utf8.decode s i).2 := by
  unfold Utf8.decode
  simp only [Utf8.runeError]
  split
  · constructor <;> omega
  · split
    · split
      · constructor <;> omega
      · constructor <;> omega
    · split
      · split
        · constructor <;> omega
        · constructor <;> omega
      · split
        · split
          · constructor <;> omega
          · constructor <;> omega
        · constructor <;> omega

/-- The characters from a place on. -/
def chN (s : List UInt8) : Nat → Nat → List Int
  | 0, _ => []
  | n + 1, p => if p < s.length then ((Utf8.decode ⟨s.toArray⟩ p).1 : Int) :: chN s n (p + (Utf8.decode ⟨s.toArray⟩ p).2) else []
def chars (s : List UInt8) : List Int := chN s s.length 0

theorem chN_end (s : List UInt8) (n p : Nat) (h : ¬ p < s.length) : chN s n p = [] := by
  cases n with
  | zero => rfl
  | succ n => simp [chN, h]
theorem chN_step (s : List UInt8) (n p : Nat) (h : p < s.length) (hn : s.length ≤ p + n) : chN s n p = ((Utf8.decode ⟨s.toArray⟩ p).1 : Int) :: chN s (n - 1) (p + (Utf8.decode ⟨s.toArray⟩ p).2) := by
  cases n with
  | zero => omega
  | succ n => simp [chN, h]
theorem chN_len (s : List UInt8) : ∀ n p, (chN s n p).length ≤ n := by
  intro n
  induction n with
  | zero => intro p; simp [chN]
  | succ n ih =>
    intro p
    unfold chN
    split
    · simp; exact ih _
    · simp
theorem chars_len (s : List UInt8) : (chars s).length ≤ s.length := chN_len s _ _

theorem ints_snoc (l : List Int) (x : Int) : ints l ++ [.int .i64 x] = ints (l ++ [x]) := by simp [ints]

theorem chars_ok (s : List UInt8) (hs : s.length ≤ 1099511627776) (H : List Blk) (T : Toks) : ACall Try.prog 13 [.str s] H T (Is (.sl (chars s).length (ints (chars s)) .none) H T) := by
  refine ACall.drop' ?_ (by simp)
  refine acall_enter 10 [] Try.ntmps13 Try.func13 rfl (fun _ _ => Try.call13 _ _) (by simp) (fun HO => ?_)
  refine aw_reg fun K hK => ?_; simp (maxSteps := 200000) (disch := omega) [-List.getD_eq_getElem?_getD]; refine hK _ ?_; clear hK K
  refine aw_reg fun K hK => ?_; simp (maxSteps := 200000) (disch := omega) [-List.getD_eq_getElem?_getD]; refine hK _ ?_; clear hK K
  refine aw_then fun K1 hK1 => ?_
  refine aw_reg fun K hK => ?_; simp (maxSteps := 200000) (disch := omega) [-List.getD_eq_getElem?_getD]; refine hK _ ?_; clear hK K
  refine aw_block ?_
  refine aw_own 3 0 1 [] (by omega) (by simp) ?_
  refine aw_loop (X := Nat × Nat × List Int) (fun x => ⟨[(3, .sl x.2.2.length (ints x.2.2) (.own T.length)), (7, .ptr H.length 0)], H ++ [.iter s x.2.1], T ++ [(x.2.2.length, 1)]⟩)
    (fun x => s.length ≤ x.2.1 + x.1 ∧ chars s = x.2.2 ++ chN s x.1 x.2.1 ∧ x.2.2.length + x.1 ≤ s.length) (fun x => x.1) (s.length, 0, []) ?_ ?_ ?_
  · exact ⟨by simp, rfl, by simp⟩
  · refine weak_to [] [] ?_ ?_ ?_ ?_ (HO.snocIter.toks (by simp)) ?_
    all_goals simp
  · rintro ⟨n, p, out⟩ ⟨h1, h2, h3⟩
    simp only at h1 h2 h3
    obtain ⟨d1, d2⟩ := decode_facts ⟨s.toArray⟩ p
    by_cases hp : p < s.length
    · have hst := chN_step s n p hp h1
      have hn : 0 < n := by
        rcases Nat.eq_zero_or_pos n with h0 | h0
        · omega
        · exact h0
      have hw : IntKind.i64.wrap ((Utf8.decode ⟨s.toArray⟩ p).1 : Int) = ((Utf8.decode ⟨s.toArray⟩ p).1 : Int) := by rw [IntKind.wrap_i64]; omega
      refine aw_reg fun K hK => ?_; simp (maxSteps := 200000) (disch := omega) [-List.getD_eq_getElem?_getD, hp]; refine hK _ ?_; clear hK K
      refine aw_then fun K2 hK2 => ?_
      refine aw_if rfl (fun h => ?_) (fun h => absurd h (by simp))
      refine aw_skip ?_; simp (maxSteps := 200000) (disch := omega) [-List.getD_eq_getElem?_getD]
      refine hK2 _ ?_; clear hK2
      refine aw_block ?_
      refine aw_reg fun K hK => ?_; simp (maxSteps := 200000) (disch := omega) [-List.getD_eq_getElem?_getD]; refine hK _ ?_; clear hK K
      refine aw_reg0 fun K hK => ?_; simp (maxSteps := 200000) (disch := omega) [-List.getD_eq_getElem?_getD, hw]
      refine hK _ ?_; clear hK K
      refine ⟨(n - 1, p + (Utf8.decode ⟨s.toArray⟩ p).2, out ++ [((Utf8.decode ⟨s.toArray⟩ p).1 : Int)]), ⟨by show s.length ≤ (p + (Utf8.decode ⟨s.toArray⟩ p).2) + (n - 1); omega, by rw [h2, hst]; simp, by simp; omega⟩, by show n - 1 < n; omega, ?_⟩
      refine weak_to [] [] ?_ ?_ ?_ ?_ (HO.snocIter.toks (by simp)) ?_
      · simp
      · simp
      · simp
      · simp
      · simp [ints_snoc]
    · have he := chN_end s n p hp
      refine aw_reg fun K hK => ?_; simp (maxSteps := 200000) (disch := omega) [-List.getD_eq_getElem?_getD, hp]; refine hK _ ?_; clear hK K
      refine aw_then fun K2 hK2 => ?_
      refine aw_if rfl (fun h => absurd h (by simp)) (fun h => ?_)
      refine aw_exit ?_; simp (maxSteps := 200000) (disch := omega) [-List.getD_eq_getElem?_getD]
      refine hK1 _ ?_; clear hK1
      refine aw_reg fun K hK => ?_; simp (maxSteps := 200000) (disch := omega) [-List.getD_eq_getElem?_getD]; refine hK _ ?_; clear hK K
      refine aw_ret ?_; simp (maxSteps := 200000) (disch := omega) [-List.getD_eq_getElem?_getD]
      rw [h2, he]
      simp
end Go.Proofs.Ytgndlhfnenlhkaa
