/- filtered of layer 38, and Near.
   Conditions: lengths below 400. -/
import Derived.Test.YtlijaamjcpefoaaPFn19
import Derived.Test.YtlijaamjcpefoaaPFn18
namespace Go.Proofs.Ytlijaamjcpefoaa
open Go Go.Am Post
set_option linter.unusedVariables false

theorem filtered_ok (g : Nat) (caps : List AV) (kf : Int → List Int → Bool) (a b : PL) (ha : a.length ≤ 400) (hb : b.length ≤ 400) (hpa : ∀ p ∈ a, p.2.length ≤ 400) (hva : Asc' a) (hvb : Asc' b) (H : List Blk) (T : Toks) (hcaps : BelowAll H.length T.length caps)
    (hg : ∀ x, x ∈ a → ∀ y, y ∈ b → ∀ p, p ∈ x.2 → ∀ R T', ACall Try.prog g ([.int .i64 p, .sl y.2.length (ints y.2) .none] ++ caps) (H ++ R) T' (Is (.bool (kf p y.2)) (H ++ R) T')) (ta tb : Tag) :
    ACall Try.prog 53 [.sl a.length (psAV a) ta, .sl b.length (psAV b) tb, .fn g [] caps] H T (Is (.sl (flt (fltB kf b) a).length (psAV (flt (fltB kf b) a)) .none) H T) := by
  refine ACall.untag1 (ACall.untag2 ?_)
  refine ACall.drop' ?_ (by simp)
  have hfv : Below H.length T.length (.fn g [] caps) := .fn _ _ _ (fun v hv => by simp at hv) hcaps
  have hres : MP (fun o _ => o) (fun o _ => o) (fun o x y => o ++ fl1 (fun _ z => kf z y.2) x) a b (a.length + b.length) 0 0 [] = flt (fltB kf b) a := by
    have := mgP_flt kf (a.length + b.length) a b [] (Nat.le_refl _) hva hvb
    rw [List.nil_append] at this
    exact this
  have c := fun HO : HOk H T => mergeP_ok (β := PL) 86 [.ptr H.length 0, .ptr (H.length + 1) 0] (fun o _ => o) (fun o _ => o) (fun o x y => o ++ fl1 (fun _ z => kf z y.2) x)
    (fun o => SP H (.fn g [] caps) o T.length) (fun o => STp T o) (fun n o => o.length ≤ n) (H.length + 2) (T.length + 1) [] a b ha hb (fun o => SP_len _ _ _ _) (fun o => STp_len _ _) (by simp)
    (fun n o _ => hok_SP HO _ hfv o) (Nat.zero_le _)
    (fun n i o hi hn h => filtA_ok _ _ _ _ _ _) (fun n j o hj hn h => filtB_ok _ _ _ _ _ _)
    (fun n i j o hi hj hn h => filtAB_ok g caps kf H T o (by omega) a b i j hi hj (Nat.le_trans (hpa _ (memD a i _ hi)) (by decide)) (fun p hp T' => hg _ (memD a i _ hi) _ (memD b j _ hj) p hp _ T'))
    (fun n i o _ h => Nat.le_succ_of_le h) (fun n j o _ h => Nat.le_succ_of_le h)
    (fun n i j o _ _ h => by
      have : (fl1 (fun _ z => kf z (b.getD j (0, [])).2) (a.getD i (0, []))).length ≤ 1 := by unfold fl1; split <;> simp
      simp only [List.length_append]
      omega)
  rw [hres] at c
  generalize flt (fltB kf b) a = r at *
  have k1 : (SP H (.fn g [] caps) r T.length)[H.length + 1]? = some (.cells [.sl r.length (psAV r) (.own T.length)]) := by simp [SP]
  have hH : ∃ rH, SP H (.fn g [] caps) r T.length = H ++ rH := ⟨_, rfl⟩
  have hT : ∃ rT, STp T r = T ++ rT := ⟨_, rfl⟩
  refine acall_enter 8 [] Try.ntmps53 Try.func53 rfl (fun _ _ => Try.call53 _ _) (by simp) (fun HO => ?_)
  have c1 := c HO
  refine aw_reg fun K hK => ?_; simp (maxSteps := 200000) (disch := omega) [-List.getD_eq_getElem?_getD]; refine hK _ ?_; clear hK K
  refine aw_reg fun K hK => ?_; simp (maxSteps := 200000) (disch := omega) [-List.getD_eq_getElem?_getD]; refine hK _ ?_; clear hK K
  refine aw_ownB 2 (H ++ [.cells [.fn g [] caps]]) 0 [] (by omega) (by simp) ?_
  refine aw_reg fun K hK => ?_; simp (maxSteps := 200000) (disch := omega) [-List.getD_eq_getElem?_getD]
  refine acall_is (c1) ?_; simp (maxSteps := 200000) (disch := omega) [-List.getD_eq_getElem?_getD]
  refine hK _ ?_; clear hK K
  refine aw_reg fun K hK => ?_; simp (maxSteps := 200000) (disch := omega) [-List.getD_eq_getElem?_getD, k1]; refine hK _ ?_; clear hK K
  refine aw_ret ?_; simp (maxSteps := 200000) (disch := omega) [-List.getD_eq_getElem?_getD]
  exact ⟨hH, hT⟩

/-- The place of a document is in the list. -/
theorem posOf_mem {b : PL} {y : Int × List Int} (hs : Asc' b) (h : y ∈ b) : posOf b y.1 = y.2 := by
  induction b with
  | nil => simp at h
  | cons z b ih =>
    obtain ⟨h1, h2⟩ := asc'_tail hs
    rcases List.mem_cons.1 h with rfl | h
    · exact posOf_cons_eq
    · have := h2 y h
      rw [posOf_cons_ne (by omega)]
      exact ih h1 h

theorem validL_iff {l : PL} (h : validL l = true) : Asc' l ∧ (∀ p ∈ l, 1 ≤ p.1 ∧ p.1 ≤ 1000000000) ∧ ∀ p ∈ l, p.2 ≠ [] ∧ Asc p.2 ∧ ∀ q ∈ p.2, 0 ≤ q ∧ q ≤ 1000000 := by
  have bounds : ∀ (l : List Int) (lo hi : Int), asc l lo hi = true → ∀ q ∈ l, lo ≤ q ∧ q ≤ hi := fun l lo hi h q hq => by
    obtain ⟨j, hj, e⟩ := memD_inv 0 hq
    unfold asc at h
    rw [List.all_eq_true] at h
    have := h j (by simpa using hj)
    unfold ascAt at this
    simp only [Bool.and_eq_true, decide_eq_true_eq] at this
    rw [e] at this
    exact this.1
  unfold validL at h
  rw [Bool.and_eq_true] at h
  obtain ⟨h1, h2⟩ := h
  refine ⟨asc_pair h1, fun p hp => bounds _ _ _ h1 _ (List.mem_map.2 ⟨p, hp, rfl⟩), fun p hp => ?_⟩
  have h3 : badP p = false := by
    cases hb : badP p with
    | false => rfl
    | true =>
      have : l.any badP = true := List.any_eq_true.2 ⟨p, hp, hb⟩
      rw [this] at h2
      simp at h2
  unfold badP at h3
  rw [Bool.or_eq_false_iff] at h3
  have h4 : asc p.2 0 1000000 = true := by simpa using h3.2
  refine ⟨fun e => ?_, asc_pair h4, bounds _ _ _ h4⟩
  have := h3.1
  rw [e] at this
  simp at this

def nearL (a b : PL) (n : Int) : PL := if validL a = true ∧ validL b = true ∧ 1 ≤ n then flt (fltB (fun p at_ => at_.any (nearQ p n)) b) a else []

theorem near_ok (a b : PL) (n : Int) (ha : a.length ≤ 400) (hb : b.length ≤ 400) (hpa : ∀ p ∈ a, p.2.length ≤ 400) (hpb : ∀ p ∈ b, p.2.length ≤ 400) (H : List Blk) (T : Toks) (ta tb : Tag) :
    ACall Try.prog 29 [.sl a.length (psAV a) ta, .sl b.length (psAV b) tb, .int .i64 n] H T (Is (.sl (nearL a b n).length (psAV (nearL a b n)) .none) H T) := by
  refine ACall.untag1 (ACall.untag2 ?_)
  refine ACall.drop' ?_ (by simp)
  have hml : 400 ≤ maxLen := by decide
  have c1 := valid_ok a (by omega) (fun p h => Nat.le_trans (hpa p h) hml) (H ++ [.cells [.int .i64 n]]) T .none
  have c2 := valid_ok b (by omega) (fun p h => Nat.le_trans (hpb p h) hml) (H ++ [.cells [.int .i64 n]]) T .none
  refine acall_enter 7 [] Try.ntmps29 Try.func29 rfl (fun _ _ => Try.call29 _ _) (by simp) (fun HO => ?_)
  refine aw_reg fun K hK => ?_; simp (maxSteps := 200000) (disch := omega) [-List.getD_eq_getElem?_getD]; refine hK _ ?_; clear hK K
  refine aw_then fun K1 hK1 => ?_
  cases hva : validL a with
  | false =>
    rw [hva] at c1
    refine aw_reg fun K hK => ?_; simp (maxSteps := 200000) (disch := omega) [-List.getD_eq_getElem?_getD]
    refine acall_is (c1) ?_; simp (maxSteps := 200000) (disch := omega) [-List.getD_eq_getElem?_getD]
    refine hK _ ?_; clear hK K
    refine aw_if rfl (fun h => ?_) (fun h => absurd h (by simp))
    refine aw_reg fun K hK => ?_; simp (maxSteps := 200000) (disch := omega) [-List.getD_eq_getElem?_getD]; refine hK _ ?_; clear hK K
    refine aw_ret ?_; simp (maxSteps := 200000) (disch := omega) [-List.getD_eq_getElem?_getD]
    simp [nearL, hva, psAV]
  | true =>
    rw [hva] at c1
    cases hvb : validL b with
    | false =>
      rw [hvb] at c2
      refine aw_reg fun K hK => ?_; simp (maxSteps := 200000) (disch := omega) [-List.getD_eq_getElem?_getD]
      refine acall_is (c1) ?_; simp (maxSteps := 200000) (disch := omega) [-List.getD_eq_getElem?_getD]
      refine acall_is (c2) ?_; simp (maxSteps := 200000) (disch := omega) [-List.getD_eq_getElem?_getD]
      refine hK _ ?_; clear hK K
      refine aw_if rfl (fun h => ?_) (fun h => absurd h (by simp))
      refine aw_reg fun K hK => ?_; simp (maxSteps := 200000) (disch := omega) [-List.getD_eq_getElem?_getD]; refine hK _ ?_; clear hK K
      refine aw_ret ?_; simp (maxSteps := 200000) (disch := omega) [-List.getD_eq_getElem?_getD]
      simp [nearL, hvb, psAV]
    | true =>
      rw [hvb] at c2
      by_cases hn : n < 1
      · have b1 : decide (n < 1) = true := by simpa using hn
        have hn2 : ¬ 1 ≤ n := by omega
        refine aw_reg fun K hK => ?_; simp (maxSteps := 200000) (disch := omega) [-List.getD_eq_getElem?_getD]
        refine acall_is (c1) ?_; simp (maxSteps := 200000) (disch := omega) [-List.getD_eq_getElem?_getD]
        refine acall_is (c2) ?_; simp (maxSteps := 200000) (disch := omega) [-List.getD_eq_getElem?_getD]
        (try simp (maxSteps := 200000) (disch := omega) [-List.getD_eq_getElem?_getD, b1, hn])
        refine hK _ ?_; clear hK K
        refine aw_if rfl (fun h => ?_) (fun h => absurd h (by simp))
        refine aw_reg fun K hK => ?_; simp (maxSteps := 200000) (disch := omega) [-List.getD_eq_getElem?_getD]; refine hK _ ?_; clear hK K
        refine aw_ret ?_; simp (maxSteps := 200000) (disch := omega) [-List.getD_eq_getElem?_getD]
        simp [nearL, hn2, psAV]
      · have b1 : decide (n < 1) = false := by simpa using hn
        have hn2 : 1 ≤ n := by omega
        obtain ⟨a1, a2, a3⟩ := validL_iff hva
        obtain ⟨e1, e2, e3⟩ := validL_iff hvb
        have hr : nearL a b n = flt (fltB (fun p at_ => at_.any (nearQ p n)) b) a := by unfold nearL; rw [if_pos ⟨hva, hvb, hn2⟩]
        have c3 := filtered_ok 70 [.ptr H.length 0] (fun p at_ => at_.any (nearQ p n)) a b ha hb hpa a1 e1 (H ++ [.cells [.int .i64 n]]) T (by simp)
          (fun x hx y hy p hp R T' => near1_ok p n y.2 (by have := (a3 x hx).2.2 p hp; omega) (fun q hq => by have := (e3 y hy).2.2 q hq; omega) (Nat.le_trans (hpb y hy) hml) _ T' H.length (by simp) .none) .none .none
        rw [← hr] at c3
        generalize nearL a b n = r at *
        refine aw_reg fun K hK => ?_; simp (maxSteps := 200000) (disch := omega) [-List.getD_eq_getElem?_getD]
        refine acall_is (c1) ?_; simp (maxSteps := 200000) (disch := omega) [-List.getD_eq_getElem?_getD]
        refine acall_is (c2) ?_; simp (maxSteps := 200000) (disch := omega) [-List.getD_eq_getElem?_getD]
        (try simp (maxSteps := 200000) (disch := omega) [-List.getD_eq_getElem?_getD, b1, hn])
        refine hK _ ?_; clear hK K
        refine aw_if rfl (fun h => absurd h (by simp)) (fun h => ?_)
        refine aw_skip ?_; simp (maxSteps := 200000) (disch := omega) [-List.getD_eq_getElem?_getD]
        refine hK1 _ ?_; clear hK1
        refine aw_reg fun K hK => ?_; simp (maxSteps := 200000) (disch := omega) [-List.getD_eq_getElem?_getD]
        refine acall_is (c3) ?_; simp (maxSteps := 200000) (disch := omega) [-List.getD_eq_getElem?_getD]
        refine hK _ ?_; clear hK K
        refine aw_ret ?_; simp (maxSteps := 200000) (disch := omega) [-List.getD_eq_getElem?_getD]
end Go.Proofs.Ytlijaamjcpefoaa
