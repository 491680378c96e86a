/- Encode of layer 38.
   Conditions: lengths below 400. -/
import Derived.Test.YtlijaamjcpefoaaPW
import Derived.Test.YtlijaamjcpefoaaPF
import Derived.Test.YtlijaamjcpefoaaAmTup
namespace Go.Proofs.Ytlijaamjcpefoaa
open Go Go.Am Post Wire
set_option linter.unusedVariables false

/-- One position behind the last one. -/
def stP (s : List UInt8 × Int) (x : Int) : List UInt8 × Int := (s.1 ++ enc (x - s.2), x)
/-- One posting behind the last one. -/
def stL (s : List UInt8 × Int) (p : Int × List Int) : List UInt8 × Int := ((p.2.foldl stP (s.1 ++ enc (p.1 - s.2) ++ enc p.2.length, -1)).1, p.1)
/-- The encoding of a posting list. -/
def eL (l : PL) : List UInt8 := (l.foldl stL (enc l.length, 0)).1
def encR (l : PL) : List UInt8 × Int := if validL l = true then (eL l, 0) else ([], 1)

theorem foldl_take {α β : Type} (f : β → α → β) (s : β) (l : List α) (k : Nat) (d : α) (h : k < l.length) : (l.take (k + 1)).foldl f s = f ((l.take k).foldl f s) (l.getD k d) := by
  rw [take_succD l k d h, List.foldl_append]
  rfl
/-- The last position. -/
theorem stP_last (l : List Int) (b : List UInt8) (k : Nat) (hk : k < l.length) : ((l.take (k + 1)).foldl stP (b, -1)).2 = l.getD k 0 := by
  rw [foldl_take stP _ l k 0 hk]
  rfl
theorem enc_small {n : Int} (h1 : -2000000000 ≤ n) (h2 : n ≤ 2000000000) : (enc n).length ≤ 10 := (enc_len (by omega) (by omega)).2
theorem stP_len (l : List Int) (hl : ∀ q ∈ l, 0 ≤ q ∧ q ≤ 1000000) : ∀ (b : List UInt8) (d : Int), -1 ≤ d ∧ d ≤ 1000000 → (l.foldl stP (b, d)).1.length ≤ b.length + 10 * l.length ∧ -1 ≤ (l.foldl stP (b, d)).2 ∧ (l.foldl stP (b, d)).2 ≤ 1000000 := by
  induction l with
  | nil => intro b d hd; exact ⟨by simp, hd⟩
  | cons x l ih =>
    intro b d hd
    have hx := hl x (by simp)
    obtain ⟨g1, g2⟩ := ih (fun q hq => hl q (by simp [hq])) (b ++ enc (x - d)) x (by omega)
    have := enc_small (n := x - d) (by omega) (by omega)
    refine ⟨?_, g2⟩
    simp only [List.foldl_cons, List.length_cons]
    rw [List.length_append] at g1
    show ((l.foldl stP (b ++ enc (x - d), x)).1).length ≤ _
    omega
theorem stL_len (l : PL) (hl : ∀ p ∈ l, (0 ≤ p.1 ∧ p.1 ≤ 1000000000) ∧ p.2.length ≤ 400 ∧ ∀ q ∈ p.2, 0 ≤ q ∧ q ≤ 1000000) : ∀ (b : List UInt8) (d : Int), 0 ≤ d ∧ d ≤ 1000000000 → (l.foldl stL (b, d)).1.length ≤ b.length + 5000 * l.length ∧ 0 ≤ (l.foldl stL (b, d)).2 ∧ (l.foldl stL (b, d)).2 ≤ 1000000000 := by
  induction l with
  | nil => intro b d hd; exact ⟨by simp, hd⟩
  | cons p l ih =>
    intro b d hd
    obtain ⟨h1, h2, h3⟩ := hl p (by simp)
    have e1 := enc_small (n := p.1 - d) (by omega) (by omega)
    have e2 := enc_small (n := (p.2.length : Int)) (by omega) (by omega)
    have e3 := (stP_len p.2 h3 (b ++ enc (p.1 - d) ++ enc p.2.length) (-1) (by omega)).1
    rw [List.length_append, List.length_append] at e3
    obtain ⟨g1, g2⟩ := ih (fun q hq => hl q (by simp [hq])) (p.2.foldl stP (b ++ enc (p.1 - d) ++ enc p.2.length, -1)).1 p.1 (by omega)
    refine ⟨?_, g2⟩
    simp only [List.foldl_cons, List.length_cons]
    show ((l.foldl stL ((p.2.foldl stP (b ++ enc (p.1 - d) ++ enc p.2.length, -1)).1, p.1)).1).length ≤ _
    omega

theorem int_own (b : List UInt8) (n : Int) (h1 : -2000000000 ≤ n) (h2 : n ≤ 2000000000) (H : List Blk) (T : Toks) (hb : b.length ≤ 1099511627776) :
    ACall Try.prog 77 [.sl b.length (encB b) (.own T.length), .int .i64 n] H (T ++ [(b.length, 1)]) (Is (.sl (b ++ enc n).length (encB (b ++ enc n)) (.own T.length)) H (T ++ [((b ++ enc n).length, 1)])) := by
  have := int_ok b T.length n (by omega) (by omega) H (T ++ [(b.length, 1)]) (by simp) hb
  rw [new_set0] at this
  exact this

set_option maxRecDepth 100000 in
set_option maxHeartbeats 2000000 in
theorem encode_ok (l : PL) (hl : l.length ≤ 400) (hp : ∀ p ∈ l, p.2.length ≤ 400) (H : List Blk) (T : Toks) (tg : Tag) :
    ACall Try.prog 44 [.sl l.length (psAV l) tg] H T (Is (.tup [.sl (encR l).1.length (encB (encR l).1) .none, .int .i64 (encR l).2]) H T) := by
  refine ACall.untag1 ?_
  refine ACall.dropT ?_ (by simp)
  have hml : 400 ≤ maxLen := by decide
  have c1 := valid_ok l (by omega) (fun p h => Nat.le_trans (hp p h) hml) H T .none
  refine acall_enter 39 [] Try.ntmps44 Try.func44 rfl (fun _ _ => Try.call44 _ _) (by simp) (fun HO => ?_)
  refine aw_reg fun K hK => ?_; simp (maxSteps := 1000000) (disch := omega) [-List.getD_eq_getElem?_getD]; refine hK _ ?_; clear hK K
  refine aw_then fun K1 hK1 => ?_
  cases hv : validL l with
  | false =>
    rw [hv] at c1
    have hr : encR l = ([], 1) := by unfold encR; rw [hv]; rfl
    refine aw_reg fun K hK => ?_; simp (maxSteps := 1000000) (disch := omega) [-List.getD_eq_getElem?_getD]
    refine acall_is (c1) ?_; simp (maxSteps := 1000000) (disch := omega) [-List.getD_eq_getElem?_getD]
    refine hK _ ?_; clear hK K
    refine aw_if rfl (fun h => ?_) (fun h => absurd h (by simp))
    refine aw_reg fun K hK => ?_; simp (maxSteps := 1000000) (disch := omega) [-List.getD_eq_getElem?_getD]; refine hK _ ?_; clear hK K
    refine aw_ret ?_; simp (maxSteps := 1000000) (disch := omega) [-List.getD_eq_getElem?_getD]
    rw [hr]
    simp
  | true =>
    rw [hv] at c1
    have hr : encR l = (eL l, 0) := by unfold encR; rw [hv]; rfl
    obtain ⟨a1, a2, a3⟩ := validL_iff hv
    have hok : ∀ p ∈ l, (0 ≤ p.1 ∧ p.1 ≤ 1000000000) ∧ p.2.length ≤ 400 ∧ ∀ q ∈ p.2, 0 ≤ q ∧ q ≤ 1000000 := fun p h => ⟨by have := a2 p h; omega, hp p h, (a3 p h).2.2⟩
    have c2 := int_full [] (l.length : Int) (by omega) (by omega) H T (by simp)
    rw [List.nil_append] at c2
    have hel : (enc (l.length : Int)).length ≤ 10 := enc_small (by omega) (by omega)
    generalize he0 : enc (l.length : Int) = e0 at *
    refine aw_reg fun K hK => ?_; simp (maxSteps := 1000000) (disch := omega) [-List.getD_eq_getElem?_getD]
    refine acall_is (c1) ?_; simp (maxSteps := 1000000) (disch := omega) [-List.getD_eq_getElem?_getD]
    refine hK _ ?_; clear hK K
    refine aw_if rfl (fun h => absurd h (by simp)) (fun h => ?_)
    refine aw_skip ?_; simp (maxSteps := 1000000) (disch := omega) [-List.getD_eq_getElem?_getD]
    refine hK1 _ ?_; clear hK1
    refine aw_reg fun K hK => ?_; simp (maxSteps := 1000000) (disch := omega) [-List.getD_eq_getElem?_getD]
    refine acall_is (c2) ?_; simp (maxSteps := 1000000) (disch := omega) [-List.getD_eq_getElem?_getD]
    refine hK _ ?_; clear hK K
    refine aw_reg fun K hK => ?_; simp (maxSteps := 1000000) (disch := omega) [-List.getD_eq_getElem?_getD]; refine hK _ ?_; clear hK K
    refine aw_then fun K1 hK1 => ?_
    refine aw_reg fun K hK => ?_; simp (maxSteps := 1000000) (disch := omega) [-List.getD_eq_getElem?_getD]; refine hK _ ?_; clear hK K
    refine aw_block ?_
    refine aw_loop (X := Nat) (fun k => ⟨[(4, .sl ((l.take k).foldl stL (e0, 0)).1.length (encB ((l.take k).foldl stL (e0, 0)).1) (.own T.length)), (5, .int .i64 ((l.take k).foldl stL (e0, 0)).2), (17, .sl l.length (psAV l) .none), (18, .int .i64 (l.length : Nat)), (19, .int .i64 (k : Nat))], H, T ++ [(((l.take k).foldl stL (e0, 0)).1.length, 1)]⟩) (fun k => k ≤ l.length) (fun k => l.length - k) 0 ?_ ?_ ?_
    · exact Nat.zero_le _
    · refine weak_to [] [] ?_ ?_ ?_ ?_ (HO.toks (by simp)) ?_
      all_goals simp
    · intro k hk0
      have hS := stL_len (l.take k) (fun p h => hok p (List.mem_of_mem_take h)) e0 0 (by omega)
      rw [List.length_take] at hS
      refine aw_reg fun K hK => ?_; simp (maxSteps := 1000000) (disch := omega) [-List.getD_eq_getElem?_getD]; refine hK _ ?_; clear hK K
      refine aw_then fun K2 hK2 => ?_
      refine aw_if rfl (fun hk => ?_) (fun hk => ?_)
      · simp [-List.getD_eq_getElem?_getD] at hk
        have hcut := psAV_cut l k hk
        have hst := foldl_take stL (e0, 0) l k (0, []) hk
        have hpk := hok _ (memD l k (0, []) hk)
        generalize (l.take k).foldl stL (e0, 0) = S at *
        generalize l.getD k (0, []) = p at *
        obtain ⟨B, d⟩ := S
        simp only at hS
        obtain ⟨s1, s2, s3⟩ := hS
        obtain ⟨p1, p2, p3⟩ := hpk
        have n1 : (enc (p.1 - d)).length ≤ 10 := enc_small (by omega) (by omega)
        have n2 : (enc (p.2.length : Int)).length ≤ 10 := enc_small (by omega) (by omega)
        have c3 := int_own B (p.1 - d) (by omega) (by omega) (H ++ [.cells [.int .i64 p.1, .sl p.2.length (ints p.2) .none]]) T (by omega)
        have c4 := int_own (B ++ enc (p.1 - d)) (p.2.length : Int) (by omega) (by omega) (H ++ [.cells [.int .i64 p.1, .sl p.2.length (ints p.2) .none]]) T (by rw [List.length_append]; omega)
        have hst' : (l.take (k + 1)).foldl stL (e0, 0) = ((p.2.foldl stP (B ++ enc (p.1 - d) ++ enc (p.2.length : Int), -1)).1, p.1) := hst
        have hB1 : (B ++ enc (p.1 - d) ++ enc (p.2.length : Int)).length ≤ 3000000 := by rw [List.length_append, List.length_append]; omega
        generalize B ++ enc (p.1 - d) ++ enc (p.2.length : Int) = B2 at *
        generalize B ++ enc (p.1 - d) = B1 at *
        refine aw_skip ?_; simp (maxSteps := 1000000) (disch := omega) [-List.getD_eq_getElem?_getD]
        refine hK2 _ ?_; clear hK2
        refine aw_then fun K3 hK3 => ?_
        refine aw_block ?_
        refine aw_reg fun K hK => ?_; simp (maxSteps := 1000000) (disch := omega) [-List.getD_eq_getElem?_getD, hcut, psAV_len]; refine hK _ ?_; clear hK K
        refine aw_draw [5, 9] [0, 0, 0, 0, 0, 0, 0, 0, 0, 1, 2] [[], []] drawMixed (by kernel_rfl) (by kernel_rfl) fun K hK => ?_; simp (maxSteps := 1000000) (disch := omega) [-List.getD_eq_getElem?_getD]
        refine dcall_eff (c3) rfl ?_; simp (maxSteps := 1000000) (disch := omega) [-List.getD_eq_getElem?_getD]
        refine dcall_eff (c4) rfl ?_; simp (maxSteps := 1000000) (disch := omega) [-List.getD_eq_getElem?_getD]
        refine hK _ ?_; clear hK K
        refine aw_reg fun K hK => ?_; simp (maxSteps := 1000000) (disch := omega) [-List.getD_eq_getElem?_getD]; refine hK _ ?_; clear hK K
        refine aw_reg fun K hK => ?_; simp (maxSteps := 1000000) (disch := omega) [-List.getD_eq_getElem?_getD]; refine hK _ ?_; clear hK K
        refine aw_reg fun K hK => ?_; simp (maxSteps := 1000000) (disch := omega) [-List.getD_eq_getElem?_getD]; refine hK _ ?_; clear hK K
        refine aw_block ?_
        refine aw_loop (X := Nat) (fun j => ⟨[(4, .sl ((p.2.take j).foldl stP (B2, -1)).1.length (encB ((p.2.take j).foldl stP (B2, -1)).1) (.own T.length)), (5, .int .i64 p.1), (8, .int .i64 ((p.2.take j).foldl stP (B2, -1)).2), (17, .sl l.length (psAV l) .none), (18, .int .i64 (l.length : Nat)), (19, .int .i64 (k : Nat)), (36, .sl p.2.length (ints p.2) .none), (37, .int .i64 (p.2.length : Nat)), (38, .int .i64 (j : Nat))], H, T ++ [(((p.2.take j).foldl stP (B2, -1)).1.length, 1)]⟩) (fun j => j ≤ p.2.length) (fun j => p.2.length - j) 0 ?_ ?_ ?_
        · exact Nat.zero_le _
        · refine weak_to [.cells [.int .i64 p.1, .sl p.2.length (ints p.2) .none]] [] ?_ ?_ ?_ ?_ (HO.toks (by simp)) ?_
          all_goals simp
        · intro j hj0
          have hS2 := stP_len (p.2.take j) (fun q h => p3 q (List.mem_of_mem_take h)) B2 (-1) (by omega)
          rw [List.length_take] at hS2
          refine aw_reg fun K hK => ?_; simp (maxSteps := 1000000) (disch := omega) [-List.getD_eq_getElem?_getD]; refine hK _ ?_; clear hK K
          refine aw_then fun K4 hK4 => ?_
          refine aw_if rfl (fun hj => ?_) (fun hj => ?_)
          · simp [-List.getD_eq_getElem?_getD] at hj
            have hgj := getD_ints (xs := p.2) (k := j) hj
            have hst2 := foldl_take stP (B2, -1) p.2 j 0 hj
            have hq := p3 _ (memD p.2 j 0 hj)
            generalize (p.2.take j).foldl stP (B2, -1) = S2 at *
            generalize p.2.getD j 0 = q at *
            obtain ⟨C, e⟩ := S2
            simp only at hS2
            obtain ⟨t1, t2, t3⟩ := hS2
            have c5 := int_own C (q - e) (by omega) (by omega) H T (by omega)
            have hst2' : (p.2.take (j + 1)).foldl stP (B2, -1) = (C ++ enc (q - e), q) := hst2
            generalize C ++ enc (q - e) = C2 at *
            refine aw_skip ?_; simp (maxSteps := 1000000) (disch := omega) [-List.getD_eq_getElem?_getD]
            refine hK4 _ ?_; clear hK4
            refine aw_then fun K5 hK5 => ?_
            refine aw_block ?_
            refine aw_reg fun K hK => ?_; simp (maxSteps := 1000000) (disch := omega) [-List.getD_eq_getElem?_getD, hgj, hj]; refine hK _ ?_; clear hK K
            refine aw_reg fun K hK => ?_; simp (maxSteps := 1000000) (disch := omega) [-List.getD_eq_getElem?_getD]
            refine acall_is (c5) ?_; simp (maxSteps := 1000000) (disch := omega) [-List.getD_eq_getElem?_getD]
            refine hK _ ?_; clear hK K
            refine aw_reg0 fun K hK => ?_; simp (maxSteps := 1000000) (disch := omega) [-List.getD_eq_getElem?_getD]
            refine hK _ ?_; clear hK K
            refine hK5 _ ?_; clear hK5
            refine aw_reg0 fun K hK => ?_; simp (maxSteps := 1000000) (disch := omega) [-List.getD_eq_getElem?_getD]
            refine hK _ ?_; clear hK K
            refine ⟨j + 1, by show j + 1 ≤ _; omega, by show p.2.length - (j + 1) < p.2.length - j; omega, ?_⟩
            simp only [hst2']
            refine weak_to [] [] ?_ ?_ ?_ ?_ (HO.toks (by simp)) ?_
            all_goals simp
          · simp at hj
            have : j = p.2.length := by omega
            subst this
            rw [List.take_length] at hS2 ⊢
            refine aw_exit ?_; simp (maxSteps := 1000000) (disch := omega) [-List.getD_eq_getElem?_getD]
            refine hK3 _ ?_; clear hK3
            refine aw_reg0 fun K hK => ?_; simp (maxSteps := 1000000) (disch := omega) [-List.getD_eq_getElem?_getD]
            refine hK _ ?_; clear hK K
            refine ⟨k + 1, by show k + 1 ≤ _; omega, by show l.length - (k + 1) < l.length - k; omega, ?_⟩
            simp only [hst']
            refine weak_to [] [] ?_ ?_ ?_ ?_ (HO.toks (by simp)) ?_
            all_goals simp
      · simp at hk
        have : k = l.length := by omega
        subst this
        rw [List.take_length]
        refine aw_exit ?_; simp (maxSteps := 1000000) (disch := omega) [-List.getD_eq_getElem?_getD]
        refine hK1 _ ?_; clear hK1
        refine aw_reg fun K hK => ?_; simp (maxSteps := 1000000) (disch := omega) [-List.getD_eq_getElem?_getD]; refine hK _ ?_; clear hK K
        refine aw_ret ?_; simp (maxSteps := 1000000) (disch := omega) [-List.getD_eq_getElem?_getD]
        rw [hr]
        unfold eL
        rw [he0]
        simp
end Go.Proofs.Ytlijaamjcpefoaa
