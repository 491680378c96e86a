/- The program's Print and number (layer 52). The program's Parse (layer 52).
   Conditions: small parts, as each theorem says; the library's variables hold values of their types. -/
import Derived.Test.YtnmlpohhommagaaGreatDoorCPl2
import Derived.Test.YtnmlpohhommagaaGreatDoorLStr
import Derived.Test.YtnmlpohhommagaaGreatDoorAmBox2

/- The program's Print and number (layer 52). -/
namespace Cn
open Go.Lib
theorem capSet (x : UInt8) : ([65, 66, 67, 68, 69, 70, 71, 72, 73, 74, 75, 76, 77, 78, 79, 80, 81, 82, 83, 84, 85, 86, 87, 88, 89, 90] : List UInt8).contains x = isC x := by
  rw [Bool.eq_iff_iff, isC_iff]
  simp only [List.contains_cons, Bool.or_eq_true, beq_iff_eq, List.contains_nil, ← UInt8.toNat_inj]
  constructor
  · intro h
    simp at h
    omega
  · intro h
    simp
    omega
theorem dropWhile_len (p : UInt8 → Bool) (l : List UInt8) : (l.dropWhile p).length ≤ l.length := by
  induction l with
  | nil => simp
  | cons a r ih =>
    rw [List.dropWhile_cons]
    split
    · simp; omega
    · simp
theorem numP_le (s : List UInt8) : -1 ≤ numP s ∧ numP s ≤ 9223372036854775807 := by
  unfold numP
  cases h : atoiAll s with
  | ok n =>
    have := Go.Lib.atoiAll_bounds h
    simp only
    split
    · rename_i h2
      rcases s with _ | ⟨c, r⟩
      · simp [atoiAll] at h
      · have h3 := atoi_all (l := c :: r) (by simp) (by omega) fun x hx => isD_iff.1 (List.all_eq_true.1 h2.2 x hx)
        rw [h3] at h
        injection h with h
        omega
    · omega
  | «syntax» => simp only; omega
  | range => simp only; omega
end Cn
namespace Go.Proofs.YtnmlpohhommagaaGreatDoor
open Go Go.Am Cn Lst
set_option linter.unusedVariables false
set_option maxRecDepth 100000
/-- What is asked of the library's variables. -/
structure Lb (H : List Blk) : Prop where
  most : Gl H 0 isOne
  syn : Gl H 3 isErr
  rng : Gl H 4 isErr
  pow : Gl H 5 isPow
theorem Lb.app {H : List Blk} (h : Lb H) (G : List Blk) : Lb (H ++ G) := ⟨h.most.app G, h.syn.app G, h.rng.app G, h.pow.app G⟩

set_option maxRecDepth 100000 in
set_option maxHeartbeats 4000000 in
theorem printP_ok (c : Cl) (tg : Tag) (hc : Sm c) (H : List Blk) (T : Toks) (hb : Lb H) :
    ACall Tryz.prog 19 [.agg (clAV c tg)] H T (Is (.tup [.str (printF c).1, .int .i64 (printF c).2]) H T) := by
  refine callCl1 tg ?_
  refine ACall.dropT ?_ (by simp)
  have cv := validP_ok c .none hc (H ++ [.cells (clAV c .none)]) T
  have ct := fun hv => textP_ok c .none hv (H ++ [.cells (clAV c .none)]) T (hb.pow.app _)
  have hbS : ∀ n t, BelowAll n t (strs c.cut) := fun n t => by simp
  unfold printF
  cases hv : validF c with
  | false =>
    rw [hv] at cv
    rw [if_neg (by simp)]
    obtain ⟨sch, cls, num, dec, cut, yr, rest⟩ := c
    simp only [clAV] at *
    generalize strs cut = S at *
    refine acall_enter 4 [] Tryz.ntmps19 Tryz.func19 rfl (fun _ _ => Tryz.call19 _ _) (by simp) (fun HO => ?_)
    refine aw_reg fun K hK => ?_; simp (maxSteps := 1000000) (disch := omega) [-List.getD_eq_getElem?_getD]; refine hK _ ?_; clear hK K
    refine aw_then fun K1 hK1 => ?_
    refine aw_reg fun K hK => ?_; simp (maxSteps := 1000000) (disch := omega) [-List.getD_eq_getElem?_getD]
    refine acall_is (cv) ?_; simp (maxSteps := 1000000) (disch := omega) [-List.getD_eq_getElem?_getD]
    refine hK _ ?_; clear hK K
    refine aw_if rfl (fun h => ?_) (fun h => absurd h (by simp))
    refine aw_reg fun K hK => ?_; simp (maxSteps := 1000000) (disch := omega) [-List.getD_eq_getElem?_getD]; refine hK _ ?_; clear hK K
    refine aw_ret ?_; simp (maxSteps := 1000000) (disch := omega) [-List.getD_eq_getElem?_getD]
  | true =>
    rw [hv] at cv
    rw [if_pos rfl]
    have ct := ct hv
    generalize textF c = t at *
    obtain ⟨sch, cls, num, dec, cut, yr, rest⟩ := c
    simp only [clAV] at *
    generalize strs cut = S at *
    refine acall_enter 4 [] Tryz.ntmps19 Tryz.func19 rfl (fun _ _ => Tryz.call19 _ _) (by simp) (fun HO => ?_)
    refine aw_reg fun K hK => ?_; simp (maxSteps := 1000000) (disch := omega) [-List.getD_eq_getElem?_getD]; refine hK _ ?_; clear hK K
    refine aw_then fun K1 hK1 => ?_
    refine aw_reg fun K hK => ?_; simp (maxSteps := 1000000) (disch := omega) [-List.getD_eq_getElem?_getD]
    refine acall_is (cv) ?_; simp (maxSteps := 1000000) (disch := omega) [-List.getD_eq_getElem?_getD]
    refine hK _ ?_; clear hK K
    refine aw_if rfl (fun h => absurd h (by simp)) (fun h => ?_)
    refine aw_skip ?_; simp (maxSteps := 1000000) (disch := omega) [-List.getD_eq_getElem?_getD]
    refine hK1 _ ?_; clear hK1
    refine aw_reg fun K hK => ?_; simp (maxSteps := 1000000) (disch := omega) [-List.getD_eq_getElem?_getD]
    refine acall_is (ct) ?_; simp (maxSteps := 1000000) (disch := omega) [-List.getD_eq_getElem?_getD]
    refine hK _ ?_; clear hK K
    refine aw_ret ?_; simp (maxSteps := 1000000) (disch := omega) [-List.getD_eq_getElem?_getD]

set_option maxRecDepth 100000 in
set_option maxHeartbeats 4000000 in
theorem numberP_ok (s : List UInt8) (hs : s.length ≤ 1000000) (H : List Blk) (T : Toks) (hb : Lb H) :
    ACall Tryz.prog 54 [.str s] H T (Is (.int .i64 (numP s)) H T) := by
  have c0 := atoi_ok s (by omega) H T hb.syn hb.rng
  have c1 := made_ok 49 isD digP_ok s hs H T
  unfold atoiR at c0
  unfold numP
  cases h : Lib.atoiAll s with
  | «syntax» =>
    rw [h] at c0
    simp only at c0
    refine acall_enter 5 [] Tryz.ntmps54 Tryz.func54 rfl (fun _ _ => Tryz.call54 _ _) (by simp) (fun HO => ?_)
    refine aw_reg fun K hK => ?_; simp (maxSteps := 1000000) (disch := omega) [-List.getD_eq_getElem?_getD]; refine hK _ ?_; clear hK K
    refine aw_reg fun K hK => ?_; simp (maxSteps := 1000000) (disch := omega) [-List.getD_eq_getElem?_getD]
    refine acall_is (c0) ?_; simp (maxSteps := 1000000) (disch := omega) [-List.getD_eq_getElem?_getD]
    refine hK _ ?_; clear hK K
    refine aw_then fun K1 hK1 => ?_
    refine aw_reg fun K hK => ?_; simp (maxSteps := 1000000) (disch := omega) [-List.getD_eq_getElem?_getD]; refine hK _ ?_; clear hK K
    refine aw_if rfl (fun h => ?_) (fun h => absurd h (by simp))
    refine aw_reg fun K hK => ?_; simp (maxSteps := 1000000) (disch := omega) [-List.getD_eq_getElem?_getD]; refine hK _ ?_; clear hK K
    refine aw_ret ?_; simp (maxSteps := 1000000) (disch := omega) [-List.getD_eq_getElem?_getD]
    exact ⟨rfl, rfl, rfl⟩
  | range =>
    rw [h] at c0
    simp only at c0
    refine acall_enter 5 [] Tryz.ntmps54 Tryz.func54 rfl (fun _ _ => Tryz.call54 _ _) (by simp) (fun HO => ?_)
    refine aw_reg fun K hK => ?_; simp (maxSteps := 1000000) (disch := omega) [-List.getD_eq_getElem?_getD]; refine hK _ ?_; clear hK K
    refine aw_reg fun K hK => ?_; simp (maxSteps := 1000000) (disch := omega) [-List.getD_eq_getElem?_getD]
    refine acall_is (c0) ?_; simp (maxSteps := 1000000) (disch := omega) [-List.getD_eq_getElem?_getD]
    refine hK _ ?_; clear hK K
    refine aw_then fun K1 hK1 => ?_
    refine aw_reg fun K hK => ?_; simp (maxSteps := 1000000) (disch := omega) [-List.getD_eq_getElem?_getD]; refine hK _ ?_; clear hK K
    refine aw_if rfl (fun h => ?_) (fun h => absurd h (by simp))
    refine aw_reg fun K hK => ?_; simp (maxSteps := 1000000) (disch := omega) [-List.getD_eq_getElem?_getD]; refine hK _ ?_; clear hK K
    refine aw_ret ?_; simp (maxSteps := 1000000) (disch := omega) [-List.getD_eq_getElem?_getD]
    exact ⟨rfl, rfl, rfl⟩
  | ok v =>
    rw [h] at c0
    simp only at c0
    dsimp only
    by_cases h4 : s.length ≤ 4
    · have b1 : decide ((s.length : Int) > 4) = false := decide_eq_false (by omega)
      have b1' : decide ((4 : Int) < (s.length : Nat)) = false := decide_eq_false (by omega)
      have n1 : ¬ 4 < s.length := by omega
      cases hd : s.all isD with
      | false =>
        rw [hd] at c1
        rw [if_neg (by simp)]
        refine acall_enter 5 [] Tryz.ntmps54 Tryz.func54 rfl (fun _ _ => Tryz.call54 _ _) (by simp) (fun HO => ?_)
        refine aw_reg fun K hK => ?_; simp (maxSteps := 1000000) (disch := omega) [-List.getD_eq_getElem?_getD]; refine hK _ ?_; clear hK K
        refine aw_reg fun K hK => ?_; simp (maxSteps := 1000000) (disch := omega) [-List.getD_eq_getElem?_getD]
        refine acall_is (c0) ?_; simp (maxSteps := 1000000) (disch := omega) [-List.getD_eq_getElem?_getD]
        refine hK _ ?_; clear hK K
        refine aw_then fun K1 hK1 => ?_
        refine aw_reg fun K hK => ?_; simp (maxSteps := 1000000) (disch := omega) [-List.getD_eq_getElem?_getD, b1]
        refine acall_is (c1) ?_; simp (maxSteps := 1000000) (disch := omega) [-List.getD_eq_getElem?_getD]
        refine hK _ ?_; clear hK K
        refine aw_if rfl (fun h => ?_) (fun h => absurd h (by simp))
        refine aw_reg fun K hK => ?_; simp (maxSteps := 1000000) (disch := omega) [-List.getD_eq_getElem?_getD]; refine hK _ ?_; clear hK K
        refine aw_ret ?_; simp (maxSteps := 1000000) (disch := omega) [-List.getD_eq_getElem?_getD]
        exact ⟨rfl, rfl, rfl⟩
      | true =>
        rw [hd] at c1
        rw [if_pos ⟨h4, rfl⟩]
        refine acall_enter 5 [] Tryz.ntmps54 Tryz.func54 rfl (fun _ _ => Tryz.call54 _ _) (by simp) (fun HO => ?_)
        refine aw_reg fun K hK => ?_; simp (maxSteps := 1000000) (disch := omega) [-List.getD_eq_getElem?_getD]; refine hK _ ?_; clear hK K
        refine aw_reg fun K hK => ?_; simp (maxSteps := 1000000) (disch := omega) [-List.getD_eq_getElem?_getD]
        refine acall_is (c0) ?_; simp (maxSteps := 1000000) (disch := omega) [-List.getD_eq_getElem?_getD]
        refine hK _ ?_; clear hK K
        refine aw_then fun K1 hK1 => ?_
        refine aw_reg fun K hK => ?_; simp (maxSteps := 1000000) (disch := omega) [-List.getD_eq_getElem?_getD, b1]
        refine acall_is (c1) ?_; simp (maxSteps := 1000000) (disch := omega) [-List.getD_eq_getElem?_getD]
        refine hK _ ?_; clear hK K
        refine aw_if rfl (fun h => absurd h (by simp)) (fun h => ?_)
        refine aw_skip ?_; simp (maxSteps := 1000000) (disch := omega) [-List.getD_eq_getElem?_getD]
        refine hK1 _ ?_; clear hK1
        refine aw_reg fun K hK => ?_; simp (maxSteps := 1000000) (disch := omega) [-List.getD_eq_getElem?_getD]; refine hK _ ?_; clear hK K
        refine aw_ret ?_; simp (maxSteps := 1000000) (disch := omega) [-List.getD_eq_getElem?_getD]
        exact ⟨rfl, rfl, rfl⟩
    · have b1 : decide ((s.length : Int) > 4) = true := decide_eq_true (by omega)
      have b1' : decide ((4 : Int) < (s.length : Nat)) = true := decide_eq_true (by omega)
      have n1 : 4 < s.length := by omega
      rw [if_neg (fun h => h4 h.1)]
      refine acall_enter 5 [] Tryz.ntmps54 Tryz.func54 rfl (fun _ _ => Tryz.call54 _ _) (by simp) (fun HO => ?_)
      refine aw_reg fun K hK => ?_; simp (maxSteps := 1000000) (disch := omega) [-List.getD_eq_getElem?_getD]; refine hK _ ?_; clear hK K
      refine aw_reg fun K hK => ?_; simp (maxSteps := 1000000) (disch := omega) [-List.getD_eq_getElem?_getD]
      refine acall_is (c0) ?_; simp (maxSteps := 1000000) (disch := omega) [-List.getD_eq_getElem?_getD]
      refine hK _ ?_; clear hK K
      refine aw_then fun K1 hK1 => ?_
      refine aw_reg fun K hK => ?_; simp (maxSteps := 1000000) (disch := omega) [-List.getD_eq_getElem?_getD, b1]; refine hK _ ?_; clear hK K
      refine aw_if rfl (fun h => ?_) (fun h => absurd h (by simp))
      refine aw_reg fun K hK => ?_; simp (maxSteps := 1000000) (disch := omega) [-List.getD_eq_getElem?_getD]; refine hK _ ?_; clear hK K
      refine aw_ret ?_; simp (maxSteps := 1000000) (disch := omega) [-List.getD_eq_getElem?_getD]
      exact ⟨rfl, rfl, rfl⟩
end Go.Proofs.YtnmlpohhommagaaGreatDoor

/- The program's Parse (layer 52). -/
namespace Cn
open Go.Lib Lst
theorem cutT_len (c : UInt8) (s : List UInt8) : (Lst.cutT c s).1.length ≤ s.length ∧ (Lst.cutT c s).2.1.length ≤ s.length := by
  unfold Lst.cutT
  cases h : cutL c s with
  | none => simp
  | some p =>
    have := congrArg List.length (index_some h).2
    rw [List.length_append, List.length_cons] at this
    simp only
    omega
theorem splitL_count (c : UInt8) : ∀ (s : List UInt8), (splitL c s).length ≤ s.length + 1
  | [] => by simp [splitL]
  | b :: l => by
    have ih := splitL_count c l
    rw [splitL]
    split
    · simp; omega
    · cases h : splitL c l with
      | nil => simp
      | cons x r => rw [h] at ih; simp at ih ⊢; omega
theorem trim_len (x p : List UInt8) : (trimPrefix x p).length ≤ x.length := by
  unfold trimPrefix
  split
  · rw [List.length_drop]; omega
  · exact Nat.le_refl _
/-- What is gathered stays small. -/
def SmT (n m : Nat) (p : List (List UInt8) × Int × List UInt8) : Prop := p.1.length ≤ n ∧ (∀ x ∈ p.1, x.length ≤ m) ∧ p.2.2.length ≤ m ∧ -9223372036854775808 ≤ p.2.1 ∧ p.2.1 ≤ 9223372036854775807
theorem stepP_sm {n m : Nat} {p : List (List UInt8) × Int × List UInt8} (h : SmT n m p) {x : List UInt8} (hx : x.length ≤ m) : SmT (n + 1) m (stepP p x) := by
  obtain ⟨h1, h2, h3, h4, h5⟩ := h
  have ht := trim_len x [46]
  have hn := numP_le (trimPrefix x [46])
  unfold stepP
  dsimp only
  split
  · refine ⟨by simp; omega, fun y hy => ?_, h3, h4, h5⟩
    rcases List.mem_append.1 hy with hy | hy
    · exact h2 y hy
    · rw [List.mem_singleton] at hy; subst hy; omega
  · split
    · exact ⟨by show p.1.length ≤ n + 1; omega, h2, h3, by show -9223372036854775808 ≤ numP _; omega, by show numP _ ≤ _; omega⟩
    · exact ⟨by show p.1.length ≤ n + 1; omega, h2, hx, h4, h5⟩
theorem foldP_sm {m : Nat} (P : List (List UInt8)) (hP : ∀ x ∈ P, x.length ≤ m) : ∀ k, k ≤ P.length → SmT k m ((P.take k).foldl stepP ([], 0, [])) := by
  intro k
  induction k with
  | zero => intro _; exact ⟨by simp, fun x hx => by simp at hx, by simp, by simp, by simp⟩
  | succ k ih =>
    intro hk
    rw [List.take_add_one, List.foldl_append, List.getElem?_eq_getElem (by omega)]
    exact stepP_sm (ih (by omega)) (hP _ (List.getElem_mem _))
theorem candP_sm {s : List UInt8} (hs : s.length ≤ 900) : Sm (candP s) := by
  have h1 := splitL_ne 32 s
  have h2 := fun x (hx : x ∈ splitL 32 s) => splitL_len hx
  have h3 := splitL_count 32 s
  have h4 := foldP_sm (m := 900) ((splitL 32 s).drop 1) (fun x hx => by have := h2 x (List.mem_of_mem_drop hx); omega) _ (Nat.le_refl _)
  rw [List.take_length, List.length_drop] at h4
  obtain ⟨g1, g2, g3, _, _⟩ := h4
  have h5 : ((splitL 32 s).getD 0 []).length ≤ s.length := h2 _ (memL (List.length_pos_iff.2 h1))
  have h6 := cutT_len 46 ((splitL 32 s).getD 0 [])
  unfold candP
  refine ⟨?_, ?_, ?_, fun x hx => ?_, ?_⟩
  · show (List.take _ _).length ≤ 1000
    rw [List.length_take]; omega
  · show (Lst.cutT 46 _).2.1.length ≤ 1000
    omega
  · show (((splitL 32 s).drop 1).foldl stepP ([], 0, [])).1.length ≤ 1000
    omega
  · have := g2 x hx
    omega
  · show (((splitL 32 s).drop 1).foldl stepP ([], 0, [])).2.2.length ≤ 1000
    omega
theorem drop_strs (l : List (List UInt8)) (k : Nat) : (Go.Am.strs l).drop k = Go.Am.strs (l.drop k) := by simp [Go.Am.strs, List.map_drop]
end Cn
namespace Go.Proofs.YtnmlpohhommagaaGreatDoor
open Go Go.Am Cn Lst
set_option linter.unusedVariables false
set_option maxRecDepth 100000

set_option maxRecDepth 100000 in
set_option maxHeartbeats 8000000 in
theorem parseP_ok (s : List UInt8) (hs : s.length ≤ 900) (H : List Blk) (T : Toks) (hb : Lb H) :
    ACall Tryz.prog 22 [.str s] H T (Is (.tup [.agg (clAV (parseF s).1 .none), .int .i64 (parseF s).2]) H T) := by
  refine ACall.dropTA ?_ (by simp [clAV])
  have hsm := candP_sm hs
  have cv := fun G T tg => validP_ok (candP s) tg hsm (H ++ G) T
  have ct := fun hv G T tg => textP_ok (candP s) tg hv (H ++ G) T (hb.app G).pow
  generalize hF : parseF s = F
  unfold parseF at hF
  generalize hc : candP s = c at *
  unfold candP at hc
  have h1 := splitL_ne 32 s
  have h2 := fun x (hx : x ∈ splitL 32 s) => splitL_len hx
  have h3 := splitL_count 32 s
  have c0 := fun G T => split_ok 32 s (by omega) (H ++ G) T (hb.app G).most
  generalize splitL 32 s = P at *
  have hp0 : 0 < P.length := List.length_pos_iff.2 h1
  have hl0 : (P.getD 0 []).length ≤ 900 := by have := h2 _ (memL hp0); omega
  have c1 := fun G T => cut_ok 46 (P.getD 0 []) (by omega) (H ++ G) T (hb.app G).most
  have h6 := cutT_len 46 (P.getD 0 [])
  have ha0 := strs_at hp0
  have hSl := strs_len P
  generalize hp0e : P.getD 0 [] = p0 at *
  generalize hcu : Lst.cutT 46 p0 = f at *
  obtain ⟨f1, f2, f3⟩ := f
  simp only at hc h6 c1
  have c2 := fun G T => trimLeft_ok f1 [65, 66, 67, 68, 69, 70, 71, 72, 73, 74, 75, 76, 77, 78, 79, 80, 81, 82, 83, 84, 85, 86, 87, 88, 89, 90] (by simp) (by decide) (H ++ G) T ⟨_, _, (hb.app G).most⟩
  simp only [capSet] at c2
  have hdl := dropWhile_len isC f1
  generalize f1.dropWhile isC = dg at *
  have c3 := fun G T => numberP_ok dg (by omega) (H ++ G) T (hb.app G)
  have hnp := numP_le dg
  generalize numP dg = nn at *
  generalize hcl : f1.take (f1.length - dg.length) = cls at *
  have hsub : (f1.length : Int) - dg.length = ((f1.length - dg.length : Nat) : Int) := by omega
  have hsl : f1.length - dg.length ≤ f1.length := by omega
  have hdS := drop_strs P 1
  have hQl : (P.drop 1).length = P.length - 1 := by simp
  have hQm : ∀ x ∈ P.drop 1, x.length ≤ 900 := fun x hx => by have := h2 x (List.mem_of_mem_drop hx); omega
  have hq1 : (P.length : Int) - 1 = ((P.drop 1).length : Nat) := by omega
  have hsmt := fun j (hj : j ≤ (P.drop 1).length) => foldP_sm (m := 900) (P.drop 1) hQm j hj
  have hQs := strs_len (P.drop 1)
  have hQa := fun j (hj : j < (P.drop 1).length) => strs_at hj
  generalize hQ : P.drop 1 = Q at *
  have hbQ : ∀ n t, BelowAll n t (strs Q) := fun n t => by simp
  have hQx : ∀ j, j < Q.length → (Q.getD j []).length ≤ 900 := fun j hj => hQm _ (memL hj)
  clear h2 hQm
  have hQ90 : Q.length ≤ 901 := by omega
  have hst : ∀ j, j < Q.length → (Q.take (j + 1)).foldl stepP ([], 0, []) = stepP ((Q.take j).foldl stepP ([], 0, [])) (Q.getD j []) := fun j hj => by
    rw [List.take_add_one, List.foldl_append, List.getElem?_eq_getElem hj, List.getD_eq_getElem?_getD, List.getElem?_eq_getElem hj]
    rfl
  generalize hsc : (if cls = [] then (2 : Int) else 1) = sc at *
  refine acall_enter 44 [] Tryz.ntmps22 Tryz.func22 rfl (fun _ _ => Tryz.call22 _ _) (by simp) (fun HO => ?_)
  refine aw_reg fun K hK => ?_; simp (maxSteps := 1000000) (disch := omega) [-List.getD_eq_getElem?_getD]; refine hK _ ?_; clear hK K
  refine aw_reg fun K hK => ?_; simp (maxSteps := 1000000) (disch := omega) [-List.getD_eq_getElem?_getD]
  refine acall_is (c0 _ _) ?_; simp (maxSteps := 1000000) (disch := omega) [-List.getD_eq_getElem?_getD]
  refine hK _ ?_; clear hK K
  refine aw_reg fun K hK => ?_; simp (maxSteps := 1000000) (disch := omega) [-List.getD_eq_getElem?_getD, ha0, hSl, hp0]
  refine acall_is (c1 _ _) ?_; simp (maxSteps := 1000000) (disch := omega) [-List.getD_eq_getElem?_getD]
  refine hK _ ?_; clear hK K
  refine aw_reg fun K hK => ?_; simp (maxSteps := 1000000) (disch := omega) [-List.getD_eq_getElem?_getD]
  refine acall_is (c2 _ _) ?_; simp (maxSteps := 1000000) (disch := omega) [-List.getD_eq_getElem?_getD]
  refine hK _ ?_; clear hK K
  refine aw_draw [11, 12] [0, 0, 0, 0, 0, 0, 0, 0, 0, 0, 0, 0, 1] [[0, 1, 2, 3, 4, 5, 6, 7, 8, 9, 10], []] drawMixed (by kernel_rfl) (by kernel_rfl) fun K hK => ?_; simp (maxSteps := 1000000) (disch := omega) [-List.getD_eq_getElem?_getD, hsub, hsl, hcl]
  refine dcall_is (c3 _ _) rfl ?_; simp (maxSteps := 1000000) (disch := omega) [-List.getD_eq_getElem?_getD, hsub, hsl, hcl, c3]
  refine hK _ ?_; clear hK K
  refine aw_ownC 1 4 (H ++ [.cells [.int .i64 0, .str [], .int .i64 0, .str [], .sl 0 [] .full, .int .i64 0, .str []]]) [.int .i64 1, .str cls, .int .i64 nn, .str f2, .sl 0 [] .full, .int .i64 0, .str []] 0 [] (by omega) rfl (by simp) ?_
  simp only [List.set_cons_succ, List.set_cons_zero]
  clear c0 c1 c2 c3
  refine aw_then fun K1 hK1 => ?_
  have HO2 : ∀ (sch : Int) (cut : List (List UInt8)) (yr : Int) (rest : List UInt8) (n : Nat), HOk (H ++ [.cells [.int .i64 0, .str [], .int .i64 0, .str [], .sl 0 [] .full, .int .i64 0, .str []], .cells [.int .i64 sch, .str cls, .int .i64 nn, .str f2, .sl cut.length (strs cut) (.own T.length), .int .i64 yr, .str rest]]) (T ++ [(n, 1)]) := fun sch cut yr rest n => by
    rw [show H ++ [.cells [.int .i64 0, .str [], .int .i64 0, .str [], .sl 0 [] .full, .int .i64 0, .str []], .cells [.int .i64 sch, .str cls, .int .i64 nn, .str f2, .sl cut.length (strs cut) (.own T.length), .int .i64 yr, .str rest]] = (H ++ [.cells [.int .i64 0, .str [], .int .i64 0, .str [], .sl 0 [] .full, .int .i64 0, .str []]]) ++ [.cells [.int .i64 sch, .str cls, .int .i64 nn, .str f2, .sl cut.length (strs cut) (.own T.length), .int .i64 yr, .str rest]] by simp]
    exact HOk.snoc (HOk.snoc (HO.toks (by simp)) (by simp)) (by simp)
  have fin : ∀ e, envLe (H.length + 2) (T.length + 1) e [(0, .str s), (2, .ptr H.length 0), (3, .int .i64 0), (4, .sl P.length (strs P) .none), (9, .ptr (H.length + 1) 0)] → K1 ⟨e, H ++ [.cells [.int .i64 0, .str [], .int .i64 0, .str [], .sl 0 [] .full, .int .i64 0, .str []], .cells [.int .i64 sc, .str cls, .int .i64 nn, .str f2, .sl ([] : List (List UInt8)).length (strs ([] : List (List UInt8))) (.own T.length), .int .i64 0, .str []]], T ++ [(0, 1)]⟩ := by
    intro e he
    refine hK1 _ (aw_weak ⟨[(0, .str s), (2, .ptr H.length 0), (3, .int .i64 0), (4, .sl P.length (strs P) .none), (9, .ptr (H.length + 1) 0)], H ++ [.cells [.int .i64 0, .str [], .int .i64 0, .str [], .sl 0 [] .full, .int .i64 0, .str []], .cells [.int .i64 sc, .str cls, .int .i64 nn, .str f2, .sl ([] : List (List UInt8)).length (strs ([] : List (List UInt8))) (.own T.length), .int .i64 0, .str []]], T ++ [(0, 1)]⟩ (weak_to [] [] (by simp) (by simp) (by simp) (by simp) (HO2 _ _ _ _ _) (by simpa using he)) ?_)
    clear hK1 he hsc
    refine aw_then fun K2 hK2 => ?_
    have hQl2 : P.length - 1 = Q.length := hQl.symm
    have htk : List.take Q.length (strs Q) = strs Q := List.take_of_length_le (by omega)
    refine aw_reg fun K hK => ?_; simp (maxSteps := 1000000) (disch := omega) [-List.getD_eq_getElem?_getD, hdS, hQl2, htk]; refine hK _ ?_; clear hK K
    clear hQl hQl2 htk hq1 hdS hSl ha0 hp0
    refine aw_block ?_
    refine aw_loop (X := Nat) (fun j => ⟨[(0, .str s), (2, .ptr H.length 0), (3, .int .i64 0), (9, .ptr (H.length + 1) 0), (41, .sl Q.length (strs Q) .none), (42, .int .i64 (Q.length : Nat)), (43, .int .i64 (j : Nat))], H ++ [.cells [.int .i64 0, .str [], .int .i64 0, .str [], .sl 0 [] .full, .int .i64 0, .str []], .cells [.int .i64 sc, .str cls, .int .i64 nn, .str f2, .sl ((Q.take j).foldl stepP ([], 0, [])).1.length (strs ((Q.take j).foldl stepP ([], 0, [])).1) (.own T.length), .int .i64 ((Q.take j).foldl stepP ([], 0, [])).2.1, .str ((Q.take j).foldl stepP ([], 0, [])).2.2]], T ++ [(((Q.take j).foldl stepP ([], 0, [])).1.length, 1)]⟩) (fun j => j ≤ Q.length) (fun j => Q.length - j) 0 ?_ ?_ ?_
    · exact Nat.zero_le _
    · refine weak_to [] [] ?_ ?_ ?_ ?_ (HO2 _ _ _ _ _) ?_
      all_goals simp [hbQ]
    · rintro j h1
      refine aw_reg fun K hK => ?_; simp (maxSteps := 1000000) (disch := omega) [-List.getD_eq_getElem?_getD]; refine hK _ ?_; clear hK K
      refine aw_then fun K3 hK3 => ?_
      refine aw_if rfl (fun hk => ?_) (fun hk => ?_)
      · simp [-List.getD_eq_getElem?_getD] at hk
        have ha := hQa j hk
        have hjQ : j < (strs Q).length := by omega
        have hxl := hQx j hk
        have hst := hst j hk
        have hsm0 := hsmt j h1
        clear hQa hQx hsmt
        generalize Q.getD j [] = x at *
        generalize hT1 : (Q.take (j + 1)).foldl stepP ([], 0, []) = t1 at *
        generalize (Q.take j).foldl stepP ([], 0, []) = t at *
        obtain ⟨cut, yr, rest⟩ := t
        obtain ⟨hm1, hm2, hm3, hm4, hm5⟩ := hsm0
        simp only at hm1 hm2 hm3 hm4 hm5
        refine aw_skip ?_; simp (maxSteps := 1000000) (disch := omega) [-List.getD_eq_getElem?_getD]
        refine hK3 _ ?_; clear hK3
        refine aw_then fun K4 hK4 => ?_
        have fin2 : ∀ e (t' : List (List UInt8) × Int × List UInt8), t' = stepP (cut, yr, rest) x → envLe (H.length + 2) (T.length + 1) e [(0, .str s), (2, .ptr H.length 0), (3, .int .i64 0), (9, .ptr (H.length + 1) 0), (41, .sl Q.length (strs Q) .none), (42, .int .i64 (Q.length : Nat)), (43, .int .i64 (j : Nat))] → K4 ⟨e, H ++ [.cells [.int .i64 0, .str [], .int .i64 0, .str [], .sl 0 [] .full, .int .i64 0, .str []], .cells [.int .i64 sc, .str cls, .int .i64 nn, .str f2, .sl t'.1.length (strs t'.1) (.own T.length), .int .i64 t'.2.1, .str t'.2.2]], T ++ [(t'.1.length, 1)]⟩ := by
          intro e t' ht he
          rw [← hst] at ht
          subst ht
          refine hK4 _ (aw_weak ⟨[(0, .str s), (2, .ptr H.length 0), (3, .int .i64 0), (9, .ptr (H.length + 1) 0), (41, .sl Q.length (strs Q) .none), (42, .int .i64 (Q.length : Nat)), (43, .int .i64 (j : Nat))], H ++ [.cells [.int .i64 0, .str [], .int .i64 0, .str [], .sl 0 [] .full, .int .i64 0, .str []], .cells [.int .i64 sc, .str cls, .int .i64 nn, .str f2, .sl t'.1.length (strs t'.1) (.own T.length), .int .i64 t'.2.1, .str t'.2.2]], T ++ [(t'.1.length, 1)]⟩ (weak_to [] [] (by simp) (by simp) (by simp) (by simp) (HO2 _ _ _ _ _) (by simpa using he)) ?_)
          refine aw_reg0 fun K hK => ?_; simp (maxSteps := 1000000) (disch := omega) [-List.getD_eq_getElem?_getD]
          refine hK _ ?_; clear hK K
          refine ⟨j + 1, by show j + 1 ≤ _; omega, by show Q.length - (j + 1) < Q.length - j; omega, ?_⟩
          refine weak_to [] [] ?_ ?_ ?_ ?_ (HO2 _ _ _ _ _) ?_
          all_goals simp [hbQ, hT1]
        clear hK4 hst hT1
        have cp := fun G T => trimPrefix_ok x [46] (H ++ G) T
        have htl := trim_len x [46]
        have hsp : stepP (cut, yr, rest) x = (if Lib.trimPrefix x [46] ≠ [] ∧ isC ((Lib.trimPrefix x [46]).getD 0 0) = true then (cut ++ [Lib.trimPrefix x [46]], yr, rest) else if Lib.trimPrefix x [46] ≠ [] ∧ isD ((Lib.trimPrefix x [46]).getD 0 0) = true then (cut, numP (Lib.trimPrefix x [46]), rest) else (cut, yr, x)) := rfl
        rw [hsp] at fin2
        clear hsp
        generalize Lib.trimPrefix x [46] = name at *
        refine aw_block ?_
        refine aw_reg fun K hK => ?_; simp (maxSteps := 1000000) (disch := omega) [-List.getD_eq_getElem?_getD, ha, hQs]; refine hK _ ?_; clear hK K
        refine aw_reg fun K hK => ?_; simp (maxSteps := 1000000) (disch := omega) [-List.getD_eq_getElem?_getD]
        refine acall_is (cp _ _) ?_; simp (maxSteps := 1000000) (disch := omega) [-List.getD_eq_getElem?_getD]
        refine hK _ ?_; clear hK K
        clear cp
        refine aw_block ?_
        have hcl := strs_len cut
        have hsn : strs cut ++ [.str name] = strs (cut ++ [name]) := by simp [strs]
        have hln : cut.length + 1 = (cut ++ [name]).length := by simp
        by_cases hn : name = []
        · subst hn
          refine aw_reg fun K hK => ?_; simp (maxSteps := 1000000) (disch := omega) [-List.getD_eq_getElem?_getD]; refine hK _ ?_; clear hK K
          refine aw_if rfl (fun h => absurd h (by simp)) (fun h => ?_)
          refine aw_reg fun K hK => ?_; simp (maxSteps := 1000000) (disch := omega) [-List.getD_eq_getElem?_getD]; refine hK _ ?_; clear hK K
          refine aw_if rfl (fun h => absurd h (by simp)) (fun h => ?_)
          refine aw_reg0 fun K hK => ?_; simp (maxSteps := 1000000) (disch := omega) [-List.getD_eq_getElem?_getD]
          refine hK _ ?_; clear hK K
          refine fin2 _ (cut, yr, x) (by simp) ?_
          simp [hbQ]
        · have bn : (name != []) = true := bne_iff_ne.2 hn
          have hnp : 0 < name.length := List.length_pos_iff.2 hn
          have cc := fun G T => capP_ok (name.getD 0 0) (H ++ G) T
          have cd := fun G T => digP_ok (name.getD 0 0) (H ++ G) T
          have c3 := fun G T => numberP_ok name (by omega) (H ++ G) T (hb.app G)
          generalize hgc : name.getD 0 0 = ch at *
          cases h5 : isC ch with
          | true =>
            rw [h5] at cc
            refine aw_reg fun K hK => ?_; simp (maxSteps := 1000000) (disch := omega) [-List.getD_eq_getElem?_getD, hn, hnp, hgc]
            refine acall_is (cc _ _) ?_; simp (maxSteps := 1000000) (disch := omega) [-List.getD_eq_getElem?_getD, hn]
            refine hK _ ?_; clear hK K
            refine aw_if rfl (fun h => ?_) (fun h => absurd h (by simp))
            refine aw_reg0 fun K hK => ?_; simp (maxSteps := 1000000) (disch := omega) [-List.getD_eq_getElem?_getD, hcl, hsn]
            refine hK _ ?_; clear hK K
            rw [hln]
            refine fin2 _ (cut ++ [name], yr, rest) (by rw [if_pos ⟨hn, h5⟩]) ?_
            simp [hbQ]
          | false =>
            rw [h5] at cc
            cases h6 : isD ch with
            | true =>
              rw [h6] at cd
              refine aw_reg fun K hK => ?_; simp (maxSteps := 1000000) (disch := omega) [-List.getD_eq_getElem?_getD, hn, hnp, hgc]
              refine acall_is (cc _ _) ?_; simp (maxSteps := 1000000) (disch := omega) [-List.getD_eq_getElem?_getD, hn]
              refine hK _ ?_; clear hK K
              refine aw_if rfl (fun h => absurd h (by simp)) (fun h => ?_)
              refine aw_reg fun K hK => ?_; simp (maxSteps := 1000000) (disch := omega) [-List.getD_eq_getElem?_getD, hn, hnp, hgc]
              refine acall_is (cd _ _) ?_; simp (maxSteps := 1000000) (disch := omega) [-List.getD_eq_getElem?_getD, hn]
              refine hK _ ?_; clear hK K
              refine aw_if rfl (fun h => ?_) (fun h => absurd h (by simp))
              refine aw_reg0 fun K hK => ?_; simp (maxSteps := 1000000) (disch := omega) [-List.getD_eq_getElem?_getD]
              refine acall_is (c3 _ _) ?_; simp (maxSteps := 1000000) (disch := omega) [-List.getD_eq_getElem?_getD]
              refine hK _ ?_; clear hK K
              refine fin2 _ (cut, numP name, rest) (by rw [if_neg (by rw [h5]; simp), if_pos ⟨hn, h6⟩]) ?_
              simp [hbQ]
            | false =>
              rw [h6] at cd
              refine aw_reg fun K hK => ?_; simp (maxSteps := 1000000) (disch := omega) [-List.getD_eq_getElem?_getD, hn, hnp, hgc]
              refine acall_is (cc _ _) ?_; simp (maxSteps := 1000000) (disch := omega) [-List.getD_eq_getElem?_getD, hn]
              refine hK _ ?_; clear hK K
              refine aw_if rfl (fun h => absurd h (by simp)) (fun h => ?_)
              refine aw_reg fun K hK => ?_; simp (maxSteps := 1000000) (disch := omega) [-List.getD_eq_getElem?_getD, hn, hnp, hgc]
              refine acall_is (cd _ _) ?_; simp (maxSteps := 1000000) (disch := omega) [-List.getD_eq_getElem?_getD, hn]
              refine hK _ ?_; clear hK K
              refine aw_if rfl (fun h => absurd h (by simp)) (fun h => ?_)
              refine aw_reg0 fun K hK => ?_; simp (maxSteps := 1000000) (disch := omega) [-List.getD_eq_getElem?_getD]
              refine hK _ ?_; clear hK K
              refine fin2 _ (cut, yr, x) (by rw [if_neg (by rw [h5]; simp), if_neg (by rw [h6]; simp)]) ?_
              simp [hbQ]
      · simp [-List.getD_eq_getElem?_getD] at hk
        have e : j = Q.length := by omega
        subst e
        rw [List.take_length]
        clear hst hsmt hQa hQx
        generalize Q.foldl stepP ([], 0, []) = t at *
        obtain ⟨cut, yr, rest⟩ := t
        simp only at hc
        subst hc
        refine aw_exit ?_; simp (maxSteps := 1000000) (disch := omega) [-List.getD_eq_getElem?_getD]
        refine hK2 _ ?_; clear hK2
        refine aw_untagB (H ++ [.cells [.int .i64 0, .str [], .int .i64 0, .str [], .sl 0 [] .full, .int .i64 0, .str []]]) [.int .i64 sc, .str cls, .int .i64 nn, .str f2, .sl cut.length (strs cut) (.own T.length), .int .i64 yr, .str rest] (by simp) ?_
        simp only [List.map_cons, List.map_nil, Am.untag]
        refine aw_then fun K5 hK5 => ?_
        have cv := fun G T => cv G T .none
        have ct := fun hv G T => ct hv G T .none
        simp only [clAV] at cv ct
        cases hv : validF ⟨sc, cls, nn, f2, cut, yr, rest⟩ with
        | false =>
          rw [hv] at cv
          rw [if_neg (fun h => by rw [hv] at h; cases h.1)] at hF
          subst hF
          refine aw_reg fun K hK => ?_; simp (maxSteps := 1000000) (disch := omega) [-List.getD_eq_getElem?_getD]
          refine acall_is (cv _ _) ?_; simp (maxSteps := 1000000) (disch := omega) [-List.getD_eq_getElem?_getD]
          refine hK _ ?_; clear hK K
          refine aw_if rfl (fun h => ?_) (fun h => absurd h (by simp))
          refine aw_reg fun K hK => ?_; simp (maxSteps := 1000000) (disch := omega) [-List.getD_eq_getElem?_getD]; refine hK _ ?_; clear hK K
          refine aw_ret ?_; simp (maxSteps := 1000000) (disch := omega) [-List.getD_eq_getElem?_getD]
          simp [clAV, strs, untagA, untag]
        | true =>
          rw [hv] at cv
          have ct := ct hv
          generalize textF ⟨sc, cls, nn, f2, cut, yr, rest⟩ = tx at *
          by_cases he : tx = s
          · rw [if_pos ⟨hv, he⟩] at hF
            subst hF
            subst he
            refine aw_reg fun K hK => ?_; simp (maxSteps := 1000000) (disch := omega) [-List.getD_eq_getElem?_getD]
            refine acall_is (cv _ _) ?_; simp (maxSteps := 1000000) (disch := omega) [-List.getD_eq_getElem?_getD]
            refine acall_is (ct _ _) ?_; simp (maxSteps := 1000000) (disch := omega) [-List.getD_eq_getElem?_getD]
            refine hK _ ?_; clear hK K
            refine aw_if rfl (fun h => absurd h (by simp)) (fun h => ?_)
            refine aw_skip ?_; simp (maxSteps := 1000000) (disch := omega) [-List.getD_eq_getElem?_getD]
            refine hK5 _ ?_; clear hK5
            refine aw_reg fun K hK => ?_; simp (maxSteps := 1000000) (disch := omega) [-List.getD_eq_getElem?_getD]; refine hK _ ?_; clear hK K
            refine aw_ret ?_; simp (maxSteps := 1000000) (disch := omega) [-List.getD_eq_getElem?_getD]
            simp [clAV, untagA, untag]
          · have b1 : (tx == s) = false := beq_eq_false_iff_ne.2 he
            have b2 : (tx != s) = true := bne_iff_ne.2 he
            rw [if_neg (fun h => he h.2)] at hF
            subst hF
            refine aw_reg fun K hK => ?_; simp (maxSteps := 1000000) (disch := omega) [-List.getD_eq_getElem?_getD]
            refine acall_is (cv _ _) ?_; simp (maxSteps := 1000000) (disch := omega) [-List.getD_eq_getElem?_getD]
            refine acall_is (ct _ _) ?_; simp (maxSteps := 1000000) (disch := omega) [-List.getD_eq_getElem?_getD, b1]
            refine hK _ ?_; clear hK K
            refine aw_if rfl (fun h => ?_) (fun h => absurd h (by simp))
            refine aw_reg fun K hK => ?_; simp (maxSteps := 1000000) (disch := omega) [-List.getD_eq_getElem?_getD]; refine hK _ ?_; clear hK K
            refine aw_ret ?_; simp (maxSteps := 1000000) (disch := omega) [-List.getD_eq_getElem?_getD]
            simp [clAV, strs, untagA, untag]
  by_cases g : cls = []
  · subst g
    obtain rfl : sc = 2 := by rw [← hsc]; rfl
    refine aw_reg fun K hK => ?_; simp (maxSteps := 1000000) (disch := omega) [-List.getD_eq_getElem?_getD]; refine hK _ ?_; clear hK K
    refine aw_if rfl (fun h => ?_) (fun h => absurd h (by simp))
    refine aw_reg0 fun K hK => ?_; simp (maxSteps := 1000000) (disch := omega) [-List.getD_eq_getElem?_getD]
    refine hK _ ?_; clear hK K
    refine fin _ ?_
    simp
  · have b : (cls == []) = false := beq_eq_false_iff_ne.2 g
    obtain rfl : sc = 1 := by rw [← hsc, if_neg g]
    refine aw_reg fun K hK => ?_; simp (maxSteps := 1000000) (disch := omega) [-List.getD_eq_getElem?_getD, b]; refine hK _ ?_; clear hK K
    refine aw_if rfl (fun h => absurd h (by simp)) (fun h => ?_)
    refine aw_skip ?_; simp (maxSteps := 1000000) (disch := omega) [-List.getD_eq_getElem?_getD]
    refine fin _ ?_
    simp
end Go.Proofs.YtnmlpohhommagaaGreatDoor
