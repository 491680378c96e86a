/- Phrase of layer 38.
   Conditions: lengths below 400, at most 100 lists. -/
import Derived.Test.YtlijaamjcpefoaaPFn21
namespace Go.Proofs.Ytlijaamjcpefoaa
open Go Go.Am Post
set_option linter.unusedVariables false

/-- Whether the position p of the document d goes on in the first k of some lists. -/
def goesOn (r : List PL) (k : Nat) (d p : Int) : Bool := (List.range k).all fun i => decide (p + i + 1 ∈ posOf (r.getD i []) d)
/-- The phrase of a list and k others. -/
def phK (l0 : PL) (r : List PL) (k : Nat) : PL := flt (goesOn r k) l0
def phraseL (l : List PL) : PL := if l.length = 0 ∨ 100 < l.length ∨ l.any (fun x => !validL x) = true then [] else phK (l.getD 0 []) (l.drop 1) (l.length - 1)

theorem posOf_no {l : PL} {d : Int} (h : ¬ d ∈ l.map (·.1)) : posOf l d = [] := posOf_none fun p hp e => h (List.mem_map.2 ⟨p, hp, e⟩)

theorem phK_zero (l0 : PL) (r : List PL) : flt (fltB (fun _ _ => true) l0) l0 = phK l0 r 0 := by
  refine flt_congr fun p hp x _ => ?_
  have : p.1 ∈ l0.map (·.1) := List.mem_map.2 ⟨p, hp, rfl⟩
  unfold fltB
  rw [decide_eq_true this]
  rfl
theorem phK_succ (l0 : PL) (r : List PL) (k : Nat) : flt (fltB (fun p at_ => decide (p + k + 1 ∈ at_)) (r.getD k [])) (phK l0 r k) = phK l0 r (k + 1) := by
  unfold phK
  rw [flt_flt]
  refine flt_congr fun p hp x _ => ?_
  unfold goesOn
  rw [List.range_succ, List.all_append]
  congr 1
  have e : [k].all (fun i => decide (x + i + 1 ∈ posOf (r.getD i []) p.1)) = decide (x + k + 1 ∈ posOf (r.getD k []) p.1) := by
    rw [List.all_cons, List.all_nil, Bool.and_true]
  rw [e]
  generalize r.getD k [] = b
  by_cases h : p.1 ∈ b.map (·.1)
  · unfold fltB
    rw [decide_eq_true h, Bool.true_and]
  · unfold fltB
    rw [decide_eq_false h, posOf_no h]
    simp
theorem phK_len (l0 : PL) (r : List PL) (k : Nat) : (phK l0 r k).length ≤ l0.length := flt_len l0
theorem flt_asc {f : Int → Int → Bool} {l : PL} (h : Asc' l) : Asc' (flt f l) := List.Pairwise.sublist (flt_docs l) h

set_option maxRecDepth 100000 in
theorem phrase_ok (l : List PL) (hl : l.length ≤ 400) (hl2 : ∀ x ∈ l, x.length ≤ 400) (hp : ∀ x ∈ l, ∀ p ∈ x, p.2.length ≤ 400) (H : List Blk) (T : Toks) (tg : Tag) :
    ACall Try.prog 15 [.sl l.length (plsAV l) tg] H T (Is (.sl (phraseL l).length (psAV (phraseL l)) .none) H T) := by
  refine ACall.untag1 ?_
  refine ACall.drop' ?_ (by simp)
  have hml : 400 ≤ maxLen := by decide
  have c1 := containsL_ok l (by omega) (fun x hx => Nat.le_trans (hl2 x hx) (by decide)) (fun x hx p h => Nat.le_trans (hp x hx p h) hml) H T
  refine acall_enter 29 [] Try.ntmps15 Try.func15 rfl (fun _ _ => Try.call15 _ _) (by simp) (fun HO => ?_)
  refine aw_reg fun K hK => ?_; simp (maxSteps := 200000) (disch := omega) [-List.getD_eq_getElem?_getD]; refine hK _ ?_; clear hK K
  refine aw_then fun K1 hK1 => ?_
  by_cases h0 : l.length = 0
  · have b : ((l.length : Int) == 0) = true := by simp [h0]
    have hn : l = [] := List.eq_nil_of_length_eq_zero h0
    refine aw_reg fun K hK => ?_; simp (maxSteps := 200000) (disch := omega) [-List.getD_eq_getElem?_getD, b, h0, hn]; refine hK _ ?_; clear hK K
    refine aw_if rfl (fun h => ?_) (fun h => absurd h (by simp))
    refine aw_reg fun K hK => ?_; simp (maxSteps := 200000) (disch := omega) [-List.getD_eq_getElem?_getD]; refine hK _ ?_; clear hK K
    refine aw_ret ?_; simp (maxSteps := 200000) (disch := omega) [-List.getD_eq_getElem?_getD]
    simp [phraseL, h0, psAV]
  · have b : ((l.length : Int) == 0) = false := by rw [beq_eq_false_iff_ne]; omega
    have hn : ¬ l = [] := fun e => h0 (by rw [e]; rfl)
    by_cases h1 : 100 < l.length
    · have b1 : decide ((100 : Int) < (l.length : Int)) = true := by simp; omega
      refine aw_reg fun K hK => ?_; simp (maxSteps := 200000) (disch := omega) [-List.getD_eq_getElem?_getD, b, b1, hn, h1]; refine hK _ ?_; clear hK K
      refine aw_if rfl (fun h => ?_) (fun h => absurd h (by simp))
      refine aw_reg fun K hK => ?_; simp (maxSteps := 200000) (disch := omega) [-List.getD_eq_getElem?_getD]; refine hK _ ?_; clear hK K
      refine aw_ret ?_; simp (maxSteps := 200000) (disch := omega) [-List.getD_eq_getElem?_getD]
      simp [phraseL, h1, psAV]
    · have b1 : decide ((100 : Int) < (l.length : Int)) = false := by simp; omega
      cases hv : l.any (fun x => !validL x) with
      | true =>
        rw [hv] at c1
        refine aw_reg fun K hK => ?_; simp (maxSteps := 200000) (disch := omega) [-List.getD_eq_getElem?_getD, b, b1, hn, h1]
        refine acall_is (c1) ?_; simp (maxSteps := 200000) (disch := omega) [-List.getD_eq_getElem?_getD]
        refine hK _ ?_; clear hK K
        refine aw_if rfl (fun h => ?_) (fun h => absurd h (by simp))
        refine aw_reg fun K hK => ?_; simp (maxSteps := 200000) (disch := omega) [-List.getD_eq_getElem?_getD]; refine hK _ ?_; clear hK K
        refine aw_ret ?_; simp (maxSteps := 200000) (disch := omega) [-List.getD_eq_getElem?_getD]
        simp [phraseL, hv, psAV]
      | false =>
        rw [hv] at c1
        have hr : phraseL l = phK (l.getD 0 []) (l.drop 1) (l.length - 1) := by unfold phraseL; rw [if_neg (by rintro (h | h | h); exact h0 h; exact h1 h; rw [hv] at h; cases h)]
        have hvl : ∀ x ∈ l, validL x = true := fun x hx => by
          rw [List.any_eq_false] at hv
          simpa using hv x hx
        obtain ⟨a, r, rfl⟩ := List.exists_cons_of_ne_nil hn
        have hcons : plsAV (a :: r) = .sl a.length (psAV a) .none :: plsAV r := rfl
        have htk : (plsAV r).take r.length = plsAV r := List.take_of_length_le (by rw [plsAV_len]; exact Nat.le_refl _)
        have ma : a ∈ a :: r := by simp
        obtain ⟨a1, a2, a3⟩ := validL_iff (hvl _ ma)
        have c2 := filtered_ok 54 [] (fun _ _ => true) a a (hl2 _ ma) (hl2 _ ma) (hp _ ma) a1 a1 H T (by simp) (fun x hx y hy p hp R T' => phrase2_ok p _ _ _) .none .none
        rw [phK_zero _ r] at c2
        have hr' : phraseL (a :: r) = phK a r r.length := hr
        simp only [List.length_cons] at b b1 h0 h1 hl
        clear hr hn hv
        rw [hcons] at c1 ⊢
        refine aw_reg fun K hK => ?_; simp (maxSteps := 200000) (disch := omega) [-List.getD_eq_getElem?_getD, b, b1, h1, plsAV_len]
        refine acall_is (c1) ?_; simp (maxSteps := 200000) (disch := omega) [-List.getD_eq_getElem?_getD]
        refine hK _ ?_; clear hK K
        refine aw_if rfl (fun h => absurd h (by simp)) (fun h => ?_)
        refine aw_skip ?_; simp (maxSteps := 200000) (disch := omega) [-List.getD_eq_getElem?_getD]
        refine hK1 _ ?_; clear hK1
        refine aw_draw [] [] [] drawMixed (by kernel_rfl) (by kernel_rfl) fun K hK => ?_; simp (maxSteps := 200000) (disch := omega) [-List.getD_eq_getElem?_getD, plsAV_len]
        refine dcall_is (c2) rfl ?_; simp (maxSteps := 200000) (disch := omega) [-List.getD_eq_getElem?_getD]
        refine hK _ ?_; clear hK K
        refine aw_then fun K1 hK1 => ?_
        refine aw_reg fun K hK => ?_; simp (maxSteps := 200000) (disch := omega) [-List.getD_eq_getElem?_getD, plsAV_len, htk]; refine hK _ ?_; clear hK K
        refine aw_block ?_
        refine aw_loop (X := Nat) (fun k => ⟨[(3, .sl (phK a r k).length (psAV (phK a r k)) .none), (26, .sl r.length (plsAV r) .none), (27, .int .i64 (r.length : Nat)), (28, .int .i64 (k : Nat))], H, T⟩) (fun k => k ≤ r.length) (fun k => r.length - k) 0 ?_ ?_ ?_
        · exact Nat.zero_le _
        · refine weak_to [] [] ?_ ?_ ?_ ?_ HO ?_
          all_goals simp
        · intro k hk
          refine aw_reg fun K hK => ?_; simp (maxSteps := 200000) (disch := omega) [-List.getD_eq_getElem?_getD]; refine hK _ ?_; clear hK K
          refine aw_then fun K2 hK2 => ?_
          refine aw_if rfl (fun hk2 => ?_) (fun hk2 => ?_)
          · simp [-List.getD_eq_getElem?_getD] at hk2
            have hat := plsAV_at r k hk2
            have mr : r.getD k [] ∈ a :: r := List.mem_cons_of_mem _ (memD r k [] hk2)
            obtain ⟨e1, e2, e3⟩ := validL_iff (hvl _ mr)
            have hlr := hl2 _ mr
            have hpr := hp _ mr
            have c3 := filtered_ok 55 [.ptr H.length 0] (fun p at_ => decide (p + k + 1 ∈ at_)) (phK a r k) (r.getD k []) (Nat.le_trans (phK_len a r k) (hl2 _ ma)) hlr (flt_pos (hp _ ma)) (flt_asc a1) e1 (H ++ [.cells [.int .i64 (k : Nat)]]) T (by simp)
              (fun x hx y hy p hp R T' => by
                obtain ⟨z, hz, _, ez, _⟩ := flt_mem hx
                rw [ez] at hp
                have := (a3 z hz).2.2 p (List.mem_filter.1 hp).1
                exact phrase3_ok p k y.2 (by omega) (by omega) (e3 y hy).2.1 (Nat.le_trans (hpr y hy) (by decide)) _ T' H.length (by simp)) .none .none
            rw [phK_succ] at c3
            generalize r.getD k [] = b at *
            generalize phK a r k = o1 at *
            refine aw_skip ?_; simp (maxSteps := 200000) (disch := omega) [-List.getD_eq_getElem?_getD]
            refine hK2 _ ?_; clear hK2
            refine aw_then fun K3 hK3 => ?_
            refine aw_block ?_
            refine aw_reg fun K hK => ?_; simp (maxSteps := 200000) (disch := omega) [-List.getD_eq_getElem?_getD, hat, plsAV_len]; refine hK _ ?_; clear hK K
            refine aw_reg0 fun K hK => ?_; simp (maxSteps := 200000) (disch := omega) [-List.getD_eq_getElem?_getD]
            refine acall_is (c3) ?_; simp (maxSteps := 200000) (disch := omega) [-List.getD_eq_getElem?_getD]
            refine hK _ ?_; clear hK K
            refine hK3 _ ?_; clear hK3
            refine aw_reg0 fun K hK => ?_; simp (maxSteps := 200000) (disch := omega) [-List.getD_eq_getElem?_getD]
            refine hK _ ?_; clear hK K
            refine ⟨k + 1, by show k + 1 ≤ _; omega, by show r.length - (k + 1) < r.length - k; omega, ?_⟩
            refine weak_to [.cells [.int .i64 (k : Nat)]] [] ?_ ?_ ?_ ?_ HO ?_
            all_goals simp
          · simp at hk2
            have : k = r.length := by omega
            subst this
            refine aw_exit ?_; simp (maxSteps := 200000) (disch := omega) [-List.getD_eq_getElem?_getD]
            refine hK1 _ ?_; clear hK1
            refine aw_reg fun K hK => ?_; simp (maxSteps := 200000) (disch := omega) [-List.getD_eq_getElem?_getD]; refine hK _ ?_; clear hK K
            refine aw_ret ?_; simp (maxSteps := 200000) (disch := omega) [-List.getD_eq_getElem?_getD]
            rw [hr']
            exact ⟨rfl, rfl⟩
end Go.Proofs.Ytlijaamjcpefoaa
