/- Check digits and ISBNs of layer 14.
   Conditions: lengths below 90. -/
import Derived.Test.YtlemepdiegacbaaIFn2
import Derived.Test.YtlemepdiegacbaaAmTup
namespace Go.Proofs.Ytlemepdiegacbaa
open Go Go.Am Ident
set_option linter.unusedVariables false

theorem drun_prop {s : List UInt8} : ∀ k out, k ≤ s.length → drun s k = some out → (∀ i, i < out.length → dig (out.getD i 0) = true) ∨ (k = s.length ∧ ∀ i, i < out.length → dig (out.getD i 0) = true ∨ (out.getD i 0 = 88 ∧ i + 1 = out.length)) := by
  intro k
  induction k with
  | zero => intro out _ h; simp [drun] at h; subst h; exact .inl (fun i hi => by simp at hi)
  | succ k ih =>
    intro out hk h
    rw [drun] at h
    obtain ⟨o, h1, h2⟩ := Option.bind_eq_some_iff.1 h
    have ho : ∀ i, i < o.length → dig (o.getD i 0) = true := by
      rcases ih o (by omega) h1 with g | ⟨g, _⟩
      · exact g
      · omega
    have app : ∀ c i, i < (o ++ [c]).length → (i < o.length ∧ (o ++ [c]).getD i 0 = o.getD i 0) ∨ (i = o.length ∧ (o ++ [c]).getD i 0 = c) := by
      intro c i hi
      rw [List.length_append, List.length_singleton] at hi
      rcases Nat.lt_or_ge i o.length with hl | hl
      · exact .inl ⟨hl, by rw [List.getD_eq_getElem?_getD, List.getD_eq_getElem?_getD, List.getElem?_append_left hl]⟩
      · have : i = o.length := by omega
        subst this
        exact .inr ⟨rfl, by simp [List.getD_eq_getElem?_getD]⟩
    unfold dstep at h2
    split at h2
    · rename_i hd
      simp only [Option.some.injEq] at h2
      subst h2
      refine .inl fun i hi => ?_
      rcases app _ i hi with ⟨g1, g2⟩ | ⟨g1, g2⟩
      · rw [g2]; exact ho i g1
      · rw [g2]; exact hd
    · split at h2
      · rename_i hx
        simp only [Option.some.injEq] at h2
        subst h2
        refine .inr ⟨hx.2.1, fun i hi => ?_⟩
        rcases app _ i hi with ⟨g1, g2⟩ | ⟨g1, g2⟩
        · rw [g2]; exact .inl (ho i g1)
        · rw [g2]; exact .inr ⟨rfl, by simp [g1]⟩
      · split at h2
        · simp only [Option.some.injEq] at h2
          subst h2
          exact .inl ho
        · cases h2
theorem digs_prop (s : List UInt8) : ∀ i, i < (digs s).length → dig ((digs s).getD i 0) = true ∨ ((digs s).getD i 0 = 88 ∧ i + 1 = (digs s).length) := by
  intro i hi
  cases h : drun (cut s) (cut s).length with
  | none =>
    have : digs s = [] := by unfold digs; rw [h]; rfl
    rw [this] at hi
    simp at hi
  | some out =>
    have e : digs s = out := by unfold digs; rw [h]; rfl
    rw [e] at hi ⊢
    rcases drun_prop _ _ (Nat.le_refl _) h with g | ⟨_, g⟩
    · exact .inl (g i hi)
    · exact g i hi
theorem digs_okD (s : List UInt8) : okD (digs s) := fun i hi => (digs_prop s i hi).elim .inl (fun h => .inr h.1)

def allDig (s : List UInt8) : Prop := ∀ i, i < s.length → dig (s.getD i 0) = true
theorem allDig_ok {s : List UInt8} (h : allDig s) : okD s := fun i hi => .inl (h i hi)
theorem plainB_iff {s : List UInt8} {n : Nat} : plainB s n = true ↔ s.length = n ∧ allDig s := by
  unfold plainB
  rw [Bool.and_eq_true, decide_eq_true_eq, Bool.not_eq_true', List.any_eq_false]
  refine and_congr_right fun _ => ⟨fun h i hi => ?_, fun h c hc => ?_⟩
  · have := h _ (memD s i 0 hi)
    simpa using this
  · obtain ⟨i, hi, e⟩ := memI hc
    have := h i hi
    rw [e] at this
    simp [this]

def tabX : List UInt8 := [48, 49, 50, 51, 52, 53, 54, 55, 56, 57, 88]
def ck13 (s : List UInt8) : UInt8 := UInt8.ofNat (48 + ((10 - altn s % 10) % 10).toNat)
def ck10 (s : List UInt8) : UInt8 := tabX.getD ((11 - fall (s ++ [48]) % 11) % 11).toNat 0
def check13R (s : List UInt8) : UInt8 × Bool := if plainB s 12 = true then (ck13 s, true) else (0, false)
def check10R (s : List UInt8) : UInt8 × Bool := if plainB s 9 = true then (ck10 s, true) else (0, false)

theorem tmod_pos {a b : Int} (h : 0 ≤ a) : a.tmod b = a % b := Int.tmod_eq_emod_of_nonneg h
theorem altn_pos {s : List UInt8} (h : okD s) (hl : s.length ≤ 100) : 0 ≤ altn s ∧ altn s ≤ 3000 := by
  have := altn_part h hl s.length (Nat.le_refl _)
  unfold altn
  omega
theorem fall_pos {s : List UInt8} (h : okD s) (hl : s.length ≤ 100) : 0 ≤ fall s ∧ fall s ≤ 100000 := by
  have := fall_part h hl s.length (Nat.le_refl _)
  unfold fall
  omega

theorem check13_ok (s : List UInt8) (hs : s.length ≤ 1000) (H : List Blk) (T : Toks) : ACall Try.prog 13 [.str s] H T (Is (.tup [.int .u8 ((check13R s).1.toNat : Int), .bool (check13R s).2]) H T) := by
  have c1 := plain_ok s 12 hs (by omega) H T
  refine acall_enter 4 [] Try.ntmps13 Try.func13 rfl (fun _ _ => Try.call13 _ _) (by simp) (fun HO => ?_)
  refine aw_reg fun K hK => ?_; simp (maxSteps := 1000000) (disch := omega) [-List.getD_eq_getElem?_getD]; refine hK _ ?_; clear hK K
  refine aw_then fun K1 hK1 => ?_
  cases hp : plainB s 12 with
  | false =>
    rw [hp] at c1
    have hr : check13R s = (0, false) := by unfold check13R; rw [hp]; rfl
    refine aw_reg fun K hK => ?_; simp (maxSteps := 1000000) (disch := omega) [-List.getD_eq_getElem?_getD]
    refine acall_is (c1) ?_; simp (maxSteps := 1000000) (disch := omega) [-List.getD_eq_getElem?_getD]
    refine hK _ ?_; clear hK K
    refine aw_if rfl (fun h => ?_) (fun h => absurd h (by simp))
    refine aw_reg fun K hK => ?_; simp (maxSteps := 1000000) (disch := omega) [-List.getD_eq_getElem?_getD]; refine hK _ ?_; clear hK K
    refine aw_ret ?_; simp (maxSteps := 1000000) (disch := omega) [-List.getD_eq_getElem?_getD]
    rw [hr]
    exact ⟨rfl, rfl, rfl⟩
  | true =>
    rw [hp] at c1
    obtain ⟨hl, hd⟩ := plainB_iff.1 hp
    have hr : check13R s = (ck13 s, true) := by unfold check13R; rw [hp]; rfl
    have c2 := alternating_ok s (allDig_ok hd) (by omega) H T
    have hA := altn_pos (allDig_ok hd) (by omega : s.length ≤ 100)
    have hck : ck13 s = UInt8.ofNat (48 + ((10 - altn s % 10) % 10).toNat) := rfl
    generalize altn s = A at *
    obtain ⟨a, ha⟩ : ∃ a : Nat, A % 10 = (a : Int) := ⟨(A % 10).toNat, by omega⟩
    obtain ⟨r, hr1⟩ : ∃ r : Nat, (10 - A % 10) % 10 = (r : Int) := ⟨((10 - A % 10) % 10).toNat, by omega⟩
    have m1 : A.tmod 10 = (a : Int) := by rw [tmod_pos hA.1]; exact ha
    have m2 : (10 - (a : Int)).tmod 10 = (r : Int) := by rw [tmod_pos (by omega), ← ha]; exact hr1
    have hr2 : r < 10 := by omega
    rw [hr1, Int.toNat_natCast] at hck
    refine aw_reg fun K hK => ?_; simp (maxSteps := 1000000) (disch := omega) [-List.getD_eq_getElem?_getD]
    refine acall_is (c1) ?_; simp (maxSteps := 1000000) (disch := omega) [-List.getD_eq_getElem?_getD]
    refine hK _ ?_; clear hK K
    refine aw_if rfl (fun h => absurd h (by simp)) (fun h => ?_)
    refine aw_skip ?_; simp (maxSteps := 1000000) (disch := omega) [-List.getD_eq_getElem?_getD]
    refine hK1 _ ?_; clear hK1
    refine aw_reg fun K hK => ?_; simp (maxSteps := 1000000) (disch := omega) [-List.getD_eq_getElem?_getD]
    refine acall_is (c2) ?_; simp (maxSteps := 1000000) (disch := omega) [-List.getD_eq_getElem?_getD, m1, m2]
    refine hK _ ?_; clear hK K
    refine aw_ret ?_; simp (maxSteps := 1000000) (disch := omega) [-List.getD_eq_getElem?_getD]
    rw [hr, hck]
    have : ((UInt8.ofNat (48 + r)).toNat : Int) = 48 + r := by simp [UInt8.toNat_ofNat']; omega
    rw [this]
    exact ⟨rfl, rfl, rfl⟩

theorem okD_zero {s : List UInt8} (h : allDig s) : okD (s ++ [48]) := by
  intro i hi
  rw [List.length_append, List.length_singleton] at hi
  rcases Nat.lt_or_ge i s.length with hl | hl
  · rw [List.getD_eq_getElem?_getD, List.getElem?_append_left hl, ← List.getD_eq_getElem?_getD]
    exact .inl (h i hl)
  · have : i = s.length := by omega
    subst this
    exact .inl (by simp [List.getD_eq_getElem?_getD]; decide)

theorem check10_ok (s : List UInt8) (hs : s.length ≤ 1000) (H : List Blk) (T : Toks) : ACall Try.prog 15 [.str s] H T (Is (.tup [.int .u8 ((check10R s).1.toNat : Int), .bool (check10R s).2]) H T) := by
  have c1 := plain_ok s 9 hs (by omega) H T
  refine acall_enter 5 [] Try.ntmps15 Try.func15 rfl (fun _ _ => Try.call15 _ _) (by simp) (fun HO => ?_)
  refine aw_reg fun K hK => ?_; simp (maxSteps := 1000000) (disch := omega) [-List.getD_eq_getElem?_getD]; refine hK _ ?_; clear hK K
  refine aw_then fun K1 hK1 => ?_
  cases hp : plainB s 9 with
  | false =>
    rw [hp] at c1
    have hr : check10R s = (0, false) := by unfold check10R; rw [hp]; rfl
    refine aw_reg fun K hK => ?_; simp (maxSteps := 1000000) (disch := omega) [-List.getD_eq_getElem?_getD]
    refine acall_is (c1) ?_; simp (maxSteps := 1000000) (disch := omega) [-List.getD_eq_getElem?_getD]
    refine hK _ ?_; clear hK K
    refine aw_if rfl (fun h => ?_) (fun h => absurd h (by simp))
    refine aw_reg fun K hK => ?_; simp (maxSteps := 1000000) (disch := omega) [-List.getD_eq_getElem?_getD]; refine hK _ ?_; clear hK K
    refine aw_ret ?_; simp (maxSteps := 1000000) (disch := omega) [-List.getD_eq_getElem?_getD]
    rw [hr]
    exact ⟨rfl, rfl, rfl⟩
  | true =>
    rw [hp] at c1
    obtain ⟨hl, hd⟩ := plainB_iff.1 hp
    have hr : check10R s = (ck10 s, true) := by unfold check10R; rw [hp]; rfl
    have c2 := falling_ok (s ++ [48]) (okD_zero hd) (by simp; omega) H T
    have hA := fall_pos (okD_zero hd) (by simp; omega : (s ++ [48]).length ≤ 100)
    have hck : ck10 s = tabX.getD ((11 - fall (s ++ [48]) % 11) % 11).toNat 0 := rfl
    generalize fall (s ++ [48]) = A at *
    obtain ⟨a, ha⟩ : ∃ a : Nat, A % 11 = (a : Int) := ⟨(A % 11).toNat, by omega⟩
    obtain ⟨r, hr1⟩ : ∃ r : Nat, (11 - A % 11) % 11 = (r : Int) := ⟨((11 - A % 11) % 11).toNat, by omega⟩
    have m1 : A.tmod 11 = (a : Int) := by rw [tmod_pos hA.1]; exact ha
    have m2 : (11 - (a : Int)).tmod 11 = (r : Int) := by rw [tmod_pos (by omega), ← ha]; exact hr1
    have hr2 : r < 11 := by omega
    rw [hr1, Int.toNat_natCast] at hck
    refine aw_reg fun K hK => ?_; simp (maxSteps := 1000000) (disch := omega) [-List.getD_eq_getElem?_getD]
    refine acall_is (c1) ?_; simp (maxSteps := 1000000) (disch := omega) [-List.getD_eq_getElem?_getD]
    refine hK _ ?_; clear hK K
    refine aw_if rfl (fun h => absurd h (by simp)) (fun h => ?_)
    refine aw_skip ?_; simp (maxSteps := 1000000) (disch := omega) [-List.getD_eq_getElem?_getD]
    refine hK1 _ ?_; clear hK1
    refine aw_reg fun K hK => ?_; simp (maxSteps := 1000000) (disch := omega) [-List.getD_eq_getElem?_getD]
    refine acall_is (c2) ?_; simp (maxSteps := 1000000) (disch := omega) [-List.getD_eq_getElem?_getD, m1, m2]
    refine hK _ ?_; clear hK K
    refine aw_reg fun K hK => ?_; simp (maxSteps := 1000000) (disch := omega) [-List.getD_eq_getElem?_getD]; refine hK _ ?_; clear hK K
    refine aw_ret ?_; simp (maxSteps := 1000000) (disch := omega) [-List.getD_eq_getElem?_getD]
    rw [hr, hck]
    exact ⟨rfl, rfl, rfl⟩
end Go.Proofs.Ytlemepdiegacbaa
