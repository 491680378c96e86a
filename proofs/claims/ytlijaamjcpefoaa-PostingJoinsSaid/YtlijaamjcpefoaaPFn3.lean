/- Merging in layer 38: what is done with an element.
   Conditions: lengths below 1000. -/
import Derived.Test.YtlijaamjcpefoaaPFn2
import Derived.Test.YtlijaamjcpefoaaPPl
namespace Go.Proofs.Ytlijaamjcpefoaa
open Go Go.Am
set_option linter.unusedVariables false

/-- The list that is being made: nothing yet, or a row of its own. -/
def outB (out : List Int) (tk : Nat) : AV := if out = [] then .sl 0 [] .full else .sl out.length (ints out) (.own tk)
def SH (H : List Blk) (g : Nat) (out : List Int) (tk : Nat) : List Blk := H ++ [.cells [.fn g [] []], .cells [outB out tk]]
def ST (T : Toks) (out : List Int) : Toks := if out = [] then T else T ++ [(out.length, 1)]

theorem ints_snoc (l : List Int) (x : Int) : ints l ++ [.int .i64 x] = ints (l ++ [x]) := by simp [ints]

theorem itself_ok (n : Int) (H : List Blk) (T : Toks) : ACall Try.prog 90 [.int .i64 n] H T (Is (.int .i64 n) H T) := by
  refine acall_enter 3 [] Try.ntmps90 Try.func90 rfl (fun _ _ => Try.call90 _ _) (by simp) (fun HO => ?_)
  refine aw_reg fun K hK => ?_; simp (maxSteps := 200000) (disch := omega) [-List.getD_eq_getElem?_getD]; refine hK _ ?_; clear hK K
  refine aw_reg fun K hK => ?_; simp (maxSteps := 200000) (disch := omega) [-List.getD_eq_getElem?_getD]; refine hK _ ?_; clear hK K
  refine aw_ret ?_; simp (maxSteps := 200000) (disch := omega) [-List.getD_eq_getElem?_getD]
  exact ⟨rfl, rfl, rfl⟩

theorem and1_ok (p q : Bool) (H : List Blk) (T : Toks) : ACall Try.prog 60 [.bool p, .bool q] H T (Is (.bool (p && q)) H T) := by
  refine acall_enter 5 [] Try.ntmps60 Try.func60 rfl (fun _ _ => Try.call60 _ _) (by simp) (fun HO => ?_)
  refine aw_reg fun K hK => ?_; simp (maxSteps := 200000) (disch := omega) [-List.getD_eq_getElem?_getD]; refine hK _ ?_; clear hK K
  cases p
  · refine aw_reg fun K hK => ?_; simp (maxSteps := 200000) (disch := omega) [-List.getD_eq_getElem?_getD]; refine hK _ ?_; clear hK K
    refine aw_ret ?_; simp (maxSteps := 200000) (disch := omega) [-List.getD_eq_getElem?_getD]
    exact ⟨rfl, rfl, rfl⟩
  · refine aw_reg fun K hK => ?_; simp (maxSteps := 200000) (disch := omega) [-List.getD_eq_getElem?_getD]; refine hK _ ?_; clear hK K
    refine aw_ret ?_; simp (maxSteps := 200000) (disch := omega) [-List.getD_eq_getElem?_getD]
    exact ⟨rfl, rfl, rfl⟩

theorem or1_ok (p q : Bool) (H : List Blk) (T : Toks) : ACall Try.prog 61 [.bool p, .bool q] H T (Is (.bool true) H T) := by
  refine acall_enter 5 [] Try.ntmps61 Try.func61 rfl (fun _ _ => Try.call61 _ _) (by simp) (fun HO => ?_)
  refine aw_reg fun K hK => ?_; simp (maxSteps := 200000) (disch := omega) [-List.getD_eq_getElem?_getD]; refine hK _ ?_; clear hK K
  refine aw_reg fun K hK => ?_; simp (maxSteps := 200000) (disch := omega) [-List.getD_eq_getElem?_getD]; refine hK _ ?_; clear hK K
  refine aw_ret ?_; simp (maxSteps := 200000) (disch := omega) [-List.getD_eq_getElem?_getD]
  exact ⟨rfl, rfl, rfl⟩

theorem without1_ok (p q : Bool) (H : List Blk) (T : Toks) : ACall Try.prog 63 [.bool p, .bool q] H T (Is (.bool (!q)) H T) := by
  refine acall_enter 5 [] Try.ntmps63 Try.func63 rfl (fun _ _ => Try.call63 _ _) (by simp) (fun HO => ?_)
  refine aw_reg fun K hK => ?_; simp (maxSteps := 200000) (disch := omega) [-List.getD_eq_getElem?_getD]; refine hK _ ?_; clear hK K
  refine aw_reg fun K hK => ?_; simp (maxSteps := 200000) (disch := omega) [-List.getD_eq_getElem?_getD]; refine hK _ ?_; clear hK K
  refine aw_ret ?_; simp (maxSteps := 200000) (disch := omega) [-List.getD_eq_getElem?_getD]
  exact ⟨rfl, rfl, rfl⟩

set_option maxRecDepth 100000 in
theorem combA_ok (g : Nat) (kf : Bool → Bool → Bool) (hg : ∀ p q H T, ACall Try.prog g [.bool p, .bool q] H T (Is (.bool (kf p q)) H T)) (out : List Int) (ho : out.length ≤ 1000) (a : List Int) (i : Nat) (hi : i < a.length) (ha : a.length ≤ 1000) (H : List Blk) (T : Toks) :
    ACall Try.prog 91 [.vptr (ints a) i, .nilp, .ptr H.length 0, .ptr (H.length + 1) 0] (SH H g out T.length) (ST T out) (Is (.tup []) (SH H g (if kf true false then out ++ [a.getD i 0] else out) T.length) (ST T (if kf true false then out ++ [a.getD i 0] else out))) := by
  have hgp := getD_ints (xs := a) (k := i) (by omega)
  have hne : out ++ [a.getD i 0] ≠ [] := by simp
  have hsn := ints_snoc out (a.getD i 0)
  cases hkf : kf true false
  · rw [if_neg (by decide)]
    have hc := fun H T => hg true false H T
    rw [hkf] at hc
    simp only [SH]
    generalize outB out T.length = ob
    generalize ST T out = TT
    refine acall_enter 7 [] Try.ntmps91 Try.func91 rfl (fun _ _ => Try.call91 _ _) (by simp) (fun HO => ?_)
    refine aw_reg fun K hK => ?_; simp (maxSteps := 200000) (disch := omega) [-List.getD_eq_getElem?_getD]; refine hK _ ?_; clear hK K
    refine aw_then fun K1 hK1 => ?_
    refine aw_reg fun K hK => ?_; simp (maxSteps := 200000) (disch := omega) [-List.getD_eq_getElem?_getD]; refine hK _ ?_; clear hK K
    refine aw_if rfl (fun h => absurd h (by simp)) (fun h => ?_)
    refine aw_skip ?_; simp (maxSteps := 200000) (disch := omega) [-List.getD_eq_getElem?_getD]
    refine hK1 _ ?_; clear hK1
    refine aw_reg fun K hK => ?_; simp (maxSteps := 200000) (disch := omega) [-List.getD_eq_getElem?_getD]
    refine acall_is (hc _ _) ?_; simp (maxSteps := 200000) (disch := omega) [-List.getD_eq_getElem?_getD]
    refine hK _ ?_; clear hK K
    refine aw_if rfl (fun h => absurd h (by simp)) (fun h => ?_)
    refine aw_skip ?_; simp (maxSteps := 200000) (disch := omega) [-List.getD_eq_getElem?_getD]
    exact ⟨rfl, rfl, rfl⟩
  · rw [if_pos rfl]
    have hc := fun H T => hg true false H T
    rw [hkf] at hc
    by_cases h0 : out = []
    · subst h0
      have e1 : SH H g [] T.length = H ++ [.cells [.fn g [] []], .cells [.sl 0 [] .full]] := rfl
      have e2 : SH H g ([] ++ [a.getD i 0]) T.length = H ++ [.cells [.fn g [] []], .cells [.sl 1 [.int .i64 (a.getD i 0)] (.own T.length)]] := rfl
      have e3 : ST T [] = T := rfl
      have e4 : ST T ([] ++ [a.getD i 0]) = T ++ [(1, 1)] := rfl
      rw [e1, e2, e3, e4]
      refine acall_enter 7 [] Try.ntmps91 Try.func91 rfl (fun _ _ => Try.call91 _ _) (by simp) (fun HO => ?_)
      refine aw_reg fun K hK => ?_; simp (maxSteps := 200000) (disch := omega) [-List.getD_eq_getElem?_getD]; refine hK _ ?_; clear hK K
      refine aw_then fun K1 hK1 => ?_
      refine aw_reg fun K hK => ?_; simp (maxSteps := 200000) (disch := omega) [-List.getD_eq_getElem?_getD]; refine hK _ ?_; clear hK K
      refine aw_if rfl (fun h => absurd h (by simp)) (fun h => ?_)
      refine aw_skip ?_; simp (maxSteps := 200000) (disch := omega) [-List.getD_eq_getElem?_getD]
      refine hK1 _ ?_; clear hK1
      refine aw_reg fun K hK => ?_; simp (maxSteps := 200000) (disch := omega) [-List.getD_eq_getElem?_getD]
      refine acall_is (hc _ _) ?_; simp (maxSteps := 200000) (disch := omega) [-List.getD_eq_getElem?_getD]
      refine hK _ ?_; clear hK K
      refine aw_if rfl (fun h => ?_) (fun h => absurd h (by simp))
      refine aw_draw0 [5, 6] [0, 0, 0, 0, 0, 0, 1] [[], []] drawMixed (by kernel_rfl) (by kernel_rfl) fun K hK => ?_; simp (maxSteps := 200000) (disch := omega) [-List.getD_eq_getElem?_getD, hgp]
      refine hK _ ?_; clear hK K
      exact ⟨rfl, rfl, rfl⟩
    · have e1 : SH H g out T.length = H ++ [.cells [.fn g [] []], .cells [.sl out.length (ints out) (.own T.length)]] := by simp [SH, outB, h0]
      have e2 : SH H g (out ++ [a.getD i 0]) T.length = H ++ [.cells [.fn g [] []], .cells [.sl (out.length + 1) (ints (out ++ [a.getD i 0])) (.own T.length)]] := by simp [SH, outB]
      have e3 : ST T out = T ++ [(out.length, 1)] := by simp [ST, h0]
      have e4 : ST T (out ++ [a.getD i 0]) = T ++ [(out.length + 1, 1)] := by simp [ST]
      rw [e1, e2, e3, e4]
      refine acall_enter 7 [] Try.ntmps91 Try.func91 rfl (fun _ _ => Try.call91 _ _) (by simp) (fun HO => ?_)
      refine aw_reg fun K hK => ?_; simp (maxSteps := 200000) (disch := omega) [-List.getD_eq_getElem?_getD]; refine hK _ ?_; clear hK K
      refine aw_then fun K1 hK1 => ?_
      refine aw_reg fun K hK => ?_; simp (maxSteps := 200000) (disch := omega) [-List.getD_eq_getElem?_getD]; refine hK _ ?_; clear hK K
      refine aw_if rfl (fun h => absurd h (by simp)) (fun h => ?_)
      refine aw_skip ?_; simp (maxSteps := 200000) (disch := omega) [-List.getD_eq_getElem?_getD]
      refine hK1 _ ?_; clear hK1
      refine aw_reg fun K hK => ?_; simp (maxSteps := 200000) (disch := omega) [-List.getD_eq_getElem?_getD]
      refine acall_is (hc _ _) ?_; simp (maxSteps := 200000) (disch := omega) [-List.getD_eq_getElem?_getD]
      refine hK _ ?_; clear hK K
      refine aw_if rfl (fun h => ?_) (fun h => absurd h (by simp))
      refine aw_draw0 [5, 6] [0, 0, 0, 0, 0, 0, 1] [[], []] drawMixed (by kernel_rfl) (by kernel_rfl) fun K hK => ?_; simp (maxSteps := 200000) (disch := omega) [-List.getD_eq_getElem?_getD, hgp, hsn]
      refine hK _ ?_; clear hK K
      exact ⟨rfl, rfl, rfl⟩

set_option maxRecDepth 100000 in
theorem combB_ok (g : Nat) (kf : Bool → Bool → Bool) (hg : ∀ p q H T, ACall Try.prog g [.bool p, .bool q] H T (Is (.bool (kf p q)) H T)) (out : List Int) (ho : out.length ≤ 1000) (b : List Int) (j : Nat) (hj : j < b.length) (hb : b.length ≤ 1000) (H : List Blk) (T : Toks) :
    ACall Try.prog 91 [.nilp, .vptr (ints b) j, .ptr H.length 0, .ptr (H.length + 1) 0] (SH H g out T.length) (ST T out) (Is (.tup []) (SH H g (if kf false true then out ++ [b.getD j 0] else out) T.length) (ST T (if kf false true then out ++ [b.getD j 0] else out))) := by
  have hgp := getD_ints (xs := b) (k := j) (by omega)
  have hne : out ++ [b.getD j 0] ≠ [] := by simp
  have hsn := ints_snoc out (b.getD j 0)
  cases hkf : kf false true
  · rw [if_neg (by decide)]
    have hc := fun H T => hg false true H T
    rw [hkf] at hc
    simp only [SH]
    generalize outB out T.length = ob
    generalize ST T out = TT
    refine acall_enter 7 [] Try.ntmps91 Try.func91 rfl (fun _ _ => Try.call91 _ _) (by simp) (fun HO => ?_)
    refine aw_reg fun K hK => ?_; simp (maxSteps := 200000) (disch := omega) [-List.getD_eq_getElem?_getD]; refine hK _ ?_; clear hK K
    refine aw_then fun K1 hK1 => ?_
    refine aw_reg fun K hK => ?_; simp (maxSteps := 200000) (disch := omega) [-List.getD_eq_getElem?_getD]; refine hK _ ?_; clear hK K
    refine aw_if rfl (fun h => ?_) (fun h => absurd h (by simp))
    refine aw_reg0 fun K hK => ?_; simp (maxSteps := 200000) (disch := omega) [-List.getD_eq_getElem?_getD]
    refine hK _ ?_; clear hK K
    refine hK1 _ ?_; clear hK1
    refine aw_reg fun K hK => ?_; simp (maxSteps := 200000) (disch := omega) [-List.getD_eq_getElem?_getD]
    refine acall_is (hc _ _) ?_; simp (maxSteps := 200000) (disch := omega) [-List.getD_eq_getElem?_getD]
    refine hK _ ?_; clear hK K
    refine aw_if rfl (fun h => absurd h (by simp)) (fun h => ?_)
    refine aw_skip ?_; simp (maxSteps := 200000) (disch := omega) [-List.getD_eq_getElem?_getD]
    exact ⟨rfl, rfl, rfl⟩
  · rw [if_pos rfl]
    have hc := fun H T => hg false true H T
    rw [hkf] at hc
    by_cases h0 : out = []
    · subst h0
      have e1 : SH H g [] T.length = H ++ [.cells [.fn g [] []], .cells [.sl 0 [] .full]] := rfl
      have e2 : SH H g ([] ++ [b.getD j 0]) T.length = H ++ [.cells [.fn g [] []], .cells [.sl 1 [.int .i64 (b.getD j 0)] (.own T.length)]] := rfl
      have e3 : ST T [] = T := rfl
      have e4 : ST T ([] ++ [b.getD j 0]) = T ++ [(1, 1)] := rfl
      rw [e1, e2, e3, e4]
      refine acall_enter 7 [] Try.ntmps91 Try.func91 rfl (fun _ _ => Try.call91 _ _) (by simp) (fun HO => ?_)
      refine aw_reg fun K hK => ?_; simp (maxSteps := 200000) (disch := omega) [-List.getD_eq_getElem?_getD]; refine hK _ ?_; clear hK K
      refine aw_then fun K1 hK1 => ?_
      refine aw_reg fun K hK => ?_; simp (maxSteps := 200000) (disch := omega) [-List.getD_eq_getElem?_getD]; refine hK _ ?_; clear hK K
      refine aw_if rfl (fun h => ?_) (fun h => absurd h (by simp))
      refine aw_reg0 fun K hK => ?_; simp (maxSteps := 200000) (disch := omega) [-List.getD_eq_getElem?_getD]
      refine hK _ ?_; clear hK K
      refine hK1 _ ?_; clear hK1
      refine aw_reg fun K hK => ?_; simp (maxSteps := 200000) (disch := omega) [-List.getD_eq_getElem?_getD]
      refine acall_is (hc _ _) ?_; simp (maxSteps := 200000) (disch := omega) [-List.getD_eq_getElem?_getD]
      refine hK _ ?_; clear hK K
      refine aw_if rfl (fun h => ?_) (fun h => absurd h (by simp))
      refine aw_draw0 [5, 6] [0, 0, 0, 0, 0, 0, 1] [[], []] drawMixed (by kernel_rfl) (by kernel_rfl) fun K hK => ?_; simp (maxSteps := 200000) (disch := omega) [-List.getD_eq_getElem?_getD, hgp]
      refine hK _ ?_; clear hK K
      exact ⟨rfl, rfl, rfl⟩
    · have e1 : SH H g out T.length = H ++ [.cells [.fn g [] []], .cells [.sl out.length (ints out) (.own T.length)]] := by simp [SH, outB, h0]
      have e2 : SH H g (out ++ [b.getD j 0]) T.length = H ++ [.cells [.fn g [] []], .cells [.sl (out.length + 1) (ints (out ++ [b.getD j 0])) (.own T.length)]] := by simp [SH, outB]
      have e3 : ST T out = T ++ [(out.length, 1)] := by simp [ST, h0]
      have e4 : ST T (out ++ [b.getD j 0]) = T ++ [(out.length + 1, 1)] := by simp [ST]
      rw [e1, e2, e3, e4]
      refine acall_enter 7 [] Try.ntmps91 Try.func91 rfl (fun _ _ => Try.call91 _ _) (by simp) (fun HO => ?_)
      refine aw_reg fun K hK => ?_; simp (maxSteps := 200000) (disch := omega) [-List.getD_eq_getElem?_getD]; refine hK _ ?_; clear hK K
      refine aw_then fun K1 hK1 => ?_
      refine aw_reg fun K hK => ?_; simp (maxSteps := 200000) (disch := omega) [-List.getD_eq_getElem?_getD]; refine hK _ ?_; clear hK K
      refine aw_if rfl (fun h => ?_) (fun h => absurd h (by simp))
      refine aw_reg0 fun K hK => ?_; simp (maxSteps := 200000) (disch := omega) [-List.getD_eq_getElem?_getD]
      refine hK _ ?_; clear hK K
      refine hK1 _ ?_; clear hK1
      refine aw_reg fun K hK => ?_; simp (maxSteps := 200000) (disch := omega) [-List.getD_eq_getElem?_getD]
      refine acall_is (hc _ _) ?_; simp (maxSteps := 200000) (disch := omega) [-List.getD_eq_getElem?_getD]
      refine hK _ ?_; clear hK K
      refine aw_if rfl (fun h => ?_) (fun h => absurd h (by simp))
      refine aw_draw0 [5, 6] [0, 0, 0, 0, 0, 0, 1] [[], []] drawMixed (by kernel_rfl) (by kernel_rfl) fun K hK => ?_; simp (maxSteps := 200000) (disch := omega) [-List.getD_eq_getElem?_getD, hgp, hsn]
      refine hK _ ?_; clear hK K
      exact ⟨rfl, rfl, rfl⟩

set_option maxRecDepth 100000 in
theorem combAB_ok (g : Nat) (kf : Bool → Bool → Bool) (hg : ∀ p q H T, ACall Try.prog g [.bool p, .bool q] H T (Is (.bool (kf p q)) H T)) (out : List Int) (ho : out.length ≤ 1000) (a : List Int) (i : Nat) (hi : i < a.length) (ha : a.length ≤ 1000) (b : List Int) (j : Nat) (H : List Blk) (T : Toks) :
    ACall Try.prog 91 [.vptr (ints a) i, .vptr (ints b) j, .ptr H.length 0, .ptr (H.length + 1) 0] (SH H g out T.length) (ST T out) (Is (.tup []) (SH H g (if kf true true then out ++ [a.getD i 0] else out) T.length) (ST T (if kf true true then out ++ [a.getD i 0] else out))) := by
  have hgp := getD_ints (xs := a) (k := i) (by omega)
  have hne : out ++ [a.getD i 0] ≠ [] := by simp
  have hsn := ints_snoc out (a.getD i 0)
  cases hkf : kf true true
  · rw [if_neg (by decide)]
    have hc := fun H T => hg true true H T
    rw [hkf] at hc
    simp only [SH]
    generalize outB out T.length = ob
    generalize ST T out = TT
    refine acall_enter 7 [] Try.ntmps91 Try.func91 rfl (fun _ _ => Try.call91 _ _) (by simp) (fun HO => ?_)
    refine aw_reg fun K hK => ?_; simp (maxSteps := 200000) (disch := omega) [-List.getD_eq_getElem?_getD]; refine hK _ ?_; clear hK K
    refine aw_then fun K1 hK1 => ?_
    refine aw_reg fun K hK => ?_; simp (maxSteps := 200000) (disch := omega) [-List.getD_eq_getElem?_getD]; refine hK _ ?_; clear hK K
    refine aw_if rfl (fun h => absurd h (by simp)) (fun h => ?_)
    refine aw_skip ?_; simp (maxSteps := 200000) (disch := omega) [-List.getD_eq_getElem?_getD]
    refine hK1 _ ?_; clear hK1
    refine aw_reg fun K hK => ?_; simp (maxSteps := 200000) (disch := omega) [-List.getD_eq_getElem?_getD]
    refine acall_is (hc _ _) ?_; simp (maxSteps := 200000) (disch := omega) [-List.getD_eq_getElem?_getD]
    refine hK _ ?_; clear hK K
    refine aw_if rfl (fun h => absurd h (by simp)) (fun h => ?_)
    refine aw_skip ?_; simp (maxSteps := 200000) (disch := omega) [-List.getD_eq_getElem?_getD]
    exact ⟨rfl, rfl, rfl⟩
  · rw [if_pos rfl]
    have hc := fun H T => hg true true H T
    rw [hkf] at hc
    by_cases h0 : out = []
    · subst h0
      have e1 : SH H g [] T.length = H ++ [.cells [.fn g [] []], .cells [.sl 0 [] .full]] := rfl
      have e2 : SH H g ([] ++ [a.getD i 0]) T.length = H ++ [.cells [.fn g [] []], .cells [.sl 1 [.int .i64 (a.getD i 0)] (.own T.length)]] := rfl
      have e3 : ST T [] = T := rfl
      have e4 : ST T ([] ++ [a.getD i 0]) = T ++ [(1, 1)] := rfl
      rw [e1, e2, e3, e4]
      refine acall_enter 7 [] Try.ntmps91 Try.func91 rfl (fun _ _ => Try.call91 _ _) (by simp) (fun HO => ?_)
      refine aw_reg fun K hK => ?_; simp (maxSteps := 200000) (disch := omega) [-List.getD_eq_getElem?_getD]; refine hK _ ?_; clear hK K
      refine aw_then fun K1 hK1 => ?_
      refine aw_reg fun K hK => ?_; simp (maxSteps := 200000) (disch := omega) [-List.getD_eq_getElem?_getD]; refine hK _ ?_; clear hK K
      refine aw_if rfl (fun h => absurd h (by simp)) (fun h => ?_)
      refine aw_skip ?_; simp (maxSteps := 200000) (disch := omega) [-List.getD_eq_getElem?_getD]
      refine hK1 _ ?_; clear hK1
      refine aw_reg fun K hK => ?_; simp (maxSteps := 200000) (disch := omega) [-List.getD_eq_getElem?_getD]
      refine acall_is (hc _ _) ?_; simp (maxSteps := 200000) (disch := omega) [-List.getD_eq_getElem?_getD]
      refine hK _ ?_; clear hK K
      refine aw_if rfl (fun h => ?_) (fun h => absurd h (by simp))
      refine aw_draw0 [5, 6] [0, 0, 0, 0, 0, 0, 1] [[], []] drawMixed (by kernel_rfl) (by kernel_rfl) fun K hK => ?_; simp (maxSteps := 200000) (disch := omega) [-List.getD_eq_getElem?_getD, hgp]
      refine hK _ ?_; clear hK K
      exact ⟨rfl, rfl, rfl⟩
    · have e1 : SH H g out T.length = H ++ [.cells [.fn g [] []], .cells [.sl out.length (ints out) (.own T.length)]] := by simp [SH, outB, h0]
      have e2 : SH H g (out ++ [a.getD i 0]) T.length = H ++ [.cells [.fn g [] []], .cells [.sl (out.length + 1) (ints (out ++ [a.getD i 0])) (.own T.length)]] := by simp [SH, outB]
      have e3 : ST T out = T ++ [(out.length, 1)] := by simp [ST, h0]
      have e4 : ST T (out ++ [a.getD i 0]) = T ++ [(out.length + 1, 1)] := by simp [ST]
      rw [e1, e2, e3, e4]
      refine acall_enter 7 [] Try.ntmps91 Try.func91 rfl (fun _ _ => Try.call91 _ _) (by simp) (fun HO => ?_)
      refine aw_reg fun K hK => ?_; simp (maxSteps := 200000) (disch := omega) [-List.getD_eq_getElem?_getD]; refine hK _ ?_; clear hK K
      refine aw_then fun K1 hK1 => ?_
      refine aw_reg fun K hK => ?_; simp (maxSteps := 200000) (disch := omega) [-List.getD_eq_getElem?_getD]; refine hK _ ?_; clear hK K
      refine aw_if rfl (fun h => absurd h (by simp)) (fun h => ?_)
      refine aw_skip ?_; simp (maxSteps := 200000) (disch := omega) [-List.getD_eq_getElem?_getD]
      refine hK1 _ ?_; clear hK1
      refine aw_reg fun K hK => ?_; simp (maxSteps := 200000) (disch := omega) [-List.getD_eq_getElem?_getD]
      refine acall_is (hc _ _) ?_; simp (maxSteps := 200000) (disch := omega) [-List.getD_eq_getElem?_getD]
      refine hK _ ?_; clear hK K
      refine aw_if rfl (fun h => ?_) (fun h => absurd h (by simp))
      refine aw_draw0 [5, 6] [0, 0, 0, 0, 0, 0, 1] [[], []] drawMixed (by kernel_rfl) (by kernel_rfl) fun K hK => ?_; simp (maxSteps := 200000) (disch := omega) [-List.getD_eq_getElem?_getD, hgp, hsn]
      refine hK _ ?_; clear hK K
      exact ⟨rfl, rfl, rfl⟩
end Go.Proofs.Ytlijaamjcpefoaa
