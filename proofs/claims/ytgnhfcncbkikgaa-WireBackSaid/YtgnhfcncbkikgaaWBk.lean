/- WireBack: the walk.
   Conditions: none. -/
import Derived.Test.YtgnhfcncbkikgaaWPre
namespace Go.Proofs.Ytgnhfcncbkikgaa
open Go Go.Am Wire
set_option linter.unusedVariables false

theorem len_app (a b : List UInt8) : a.length + b.length = (a ++ b).length := by simp

def par (x : Int) : Bool := x.tmod 2 == 0
def eIB (x : Int) : List UInt8 := enc x ++ enc (if par x then 1 else 0)

theorem eIB_len {x : Int} (h : inI x) : (eIB x).length ≤ 20 := by
  have h1 := (enc_len h.1 h.2).2
  have h2 : (enc (if par x then 1 else 0)).length ≤ 10 := by
    cases par x <;> exact (enc_len (by decide) (by decide)).2
  simp only [eIB, List.length_append]
  omega

def B1 (l : List Int) (t : List (List UInt8)) (i : Nat) : List UInt8 := encInts l ++ encTexts t ++ (l.take i).flatMap eIB
def B2 (l : List Int) (t : List (List UInt8)) (i : Nat) : List UInt8 := encInts l ++ encTexts t ++ l.flatMap eIB ++ (t.take i).flatMap encText

theorem B1_zero (l : List Int) (t : List (List UInt8)) : B1 l t 0 = encInts l ++ encTexts t := by simp [B1]
theorem B1_succ (l : List Int) (t : List (List UInt8)) (i : Nat) (h : i < l.length) : B1 l t (i + 1) = B1 l t i ++ enc (l.getD i 0) ++ enc (if par (l.getD i 0) then 1 else 0) := by
  unfold B1
  rw [flatMap_take l i 0 eIB h]
  simp [eIB]
theorem B1_all (l : List Int) (t : List (List UInt8)) : B1 l t l.length = B2 l t 0 := by simp [B1, B2]
theorem B2_succ (l : List Int) (t : List (List UInt8)) (i : Nat) (h : i < t.length) : B2 l t (i + 1) = B2 l t i ++ encText (t.getD i []) := by
  unfold B2
  rw [flatMap_take t i [] encText h]
  simp

theorem drop_flat {α : Type} (l : List α) (i : Nat) (d : α) (e : α → List UInt8) (h : i < l.length) : (l.drop i).flatMap e = e (l.getD i d) ++ (l.drop (i + 1)).flatMap e := by
  rw [List.drop_eq_getElem_cons h, List.flatMap_cons]
  simp [h]

theorem B1_rest (l : List Int) (t : List (List UInt8)) (rest : List UInt8) (i : Nat) : B2 l t t.length ++ rest = B1 l t i ++ ((l.drop i).flatMap eIB ++ (t.flatMap encText ++ rest)) := by
  have : l.flatMap eIB = (l.take i).flatMap eIB ++ (l.drop i).flatMap eIB := by rw [← List.flatMap_append, List.take_append_drop]
  simp [B1, B2, this]
theorem B2_rest (l : List Int) (t : List (List UInt8)) (rest : List UInt8) (i : Nat) : B2 l t t.length ++ rest = B2 l t i ++ ((t.drop i).flatMap encText ++ rest) := by
  have : t.flatMap encText = (t.take i).flatMap encText ++ (t.drop i).flatMap encText := by rw [← List.flatMap_append, List.take_append_drop]
  simp [B2, this]

section
variable {l : List Int} {t : List (List UInt8)} (hl : ∀ x ∈ l, inI x) (hll : l.length ≤ 40) (ht : ∀ x ∈ t, (x.length : Int) ≤ 200) (htl : t.length ≤ 30)
include hl hll ht htl
theorem B2_len (i : Nat) : (B2 l t i).length ≤ 3000000 := by
  have h1 := encInts_len hl (by omega)
  have h2 := encTexts_len (l := t) (fun x hx => by have := ht x hx; omega) (by omega)
  have h3 := flatMap_len l eIB 20 (fun x hx => eIB_len (hl x hx))
  have h4 := flatMap_len (t.take i) encText 210 (fun x hx => encText_len (m := 200) (by decide) (by have := ht x (List.mem_of_mem_take hx); omega))
  have h5 : (t.take i).length ≤ 30 := by rw [List.length_take]; omega
  simp only [B2, List.length_append]
  omega
theorem B1_len (i : Nat) : (B1 l t i).length ≤ 3000000 := by
  have h := B2_len hl hll ht htl 0
  rw [← B1_all] at h
  have h3 : (B1 l t i).length ≤ (B1 l t l.length).length := by
    have e : l.flatMap eIB = (l.take i).flatMap eIB ++ (l.drop i).flatMap eIB := by rw [← List.flatMap_append, List.take_append_drop]
    simp only [B1, List.length_append, List.take_length, e]
    omega
  omega
end

/-- The appending calls, at the one token of this law. -/
theorem app_int (b : List UInt8) (n : Int) (hn : inI n) (hb : b.length ≤ 1099511627776) : ACall Try.prog 10 [.sl b.length (encB b) (.own 0), .int .i64 n] [] [(b.length, 1)] (Is (.sl (b ++ enc n).length (encB (b ++ enc n)) (.own 0)) [] [((b ++ enc n).length, 1)]) :=
  int_ok b 0 n hn.1 hn.2 [] [(b.length, 1)] rfl hb
theorem app_bool (b : List UInt8) (v : Bool) (hb : b.length ≤ 1099511627776) : ACall Try.prog 28 [.sl b.length (encB b) (.own 0), .bool v] [] [(b.length, 1)] (Is (.sl (b ++ enc (if v then 1 else 0)).length (encB (b ++ enc (if v then 1 else 0))) (.own 0)) [] [((b ++ enc (if v then 1 else 0)).length, 1)]) :=
  bool_ok b 0 v [] [(b.length, 1)] rfl hb
theorem app_text (b s : List UInt8) (hb : b.length + s.length ≤ 1099511627776) : ACall Try.prog 29 [.sl b.length (encB b) (.own 0), .str s] [] [(b.length, 1)] (Is (.sl (b ++ encText s).length (encB (b ++ encText s)) (.own 0)) [] [((b ++ encText s).length, 1)]) :=
  text_ok b s 0 [] [(b.length, 1)] rfl hb

/-- The reading calls, at the one reader of this law. -/
theorem rd_int (bs rest : List UInt8) (p : Nat) (n : Int) (hn : inI n) (hb : bs.length ≤ 1099511627776) (hd : bs.drop p = enc n ++ rest) : ACall Try.prog 20 [.ptr 0 0, .int .i64 n, .int .i64 n] [.cells (rd bs ⟨p, false⟩)] [] (Is (.int .i64 n) [.cells (rd bs ⟨p + (enc n).length, false⟩)] []) := by
  have hlen := congrArg List.length hd
  rw [List.length_drop, List.length_append] at hlen
  have h1 := (enc_len hn.1 hn.2).1
  have h := wInt_ok bs ⟨p, false⟩ n n (by show p ≤ _; omega) hb [.cells (rd bs ⟨p, false⟩)] [] 0 rfl
  have hr : rInt bs n n ⟨p, false⟩ = _ := (intCodec n n).round bs p rest n ⟨Int.le_refl _, Int.le_refl _, hn⟩ hd
  rw [hr] at h
  exact h
theorem rd_bool (bs rest : List UInt8) (p : Nat) (v : Bool) (hb : bs.length ≤ 1099511627776) (hd : bs.drop p = enc (if v then 1 else 0) ++ rest) : ACall Try.prog 21 [.ptr 0 0] [.cells (rd bs ⟨p, false⟩)] [] (Is (.bool v) [.cells (rd bs ⟨p + (enc (if v then 1 else 0)).length, false⟩)] []) := by
  have hlen := congrArg List.length hd
  rw [List.length_drop, List.length_append] at hlen
  have h1 : 1 ≤ (enc (if v then 1 else 0)).length := by cases v <;> exact (enc_len (by decide) (by decide)).1
  have h := wBool_ok bs ⟨p, false⟩ (by show p ≤ _; omega) hb [.cells (rd bs ⟨p, false⟩)] [] 0 rfl
  have hr : rInt bs 0 1 ⟨p, false⟩ = _ := (intCodec 0 1).round bs p rest (if v then 1 else 0) (by cases v <;> exact ⟨by decide, by decide, by decide, by decide⟩) hd
  rw [hr] at h
  cases v <;> exact h
theorem rd_text (bs rest s : List UInt8) (p : Nat) (hs : s.length ≤ 1099511627776) (hb : bs.length ≤ 1099511627776) (hd : bs.drop p = encText s ++ rest) : ACall Try.prog 22 [.ptr 0 0, .int .i64 s.length] [.cells (rd bs ⟨p, false⟩)] [] (Is (.str s) [.cells (rd bs ⟨p + (encText s).length, false⟩)] []) := by
  have hlen := congrArg List.length hd
  rw [List.length_drop, List.length_append] at hlen
  have h1 := (enc_len (n := s.length) (by omega) (by omega)).1
  have h2 : 1 ≤ (encText s).length := by simp only [encText, List.length_append]; omega
  have h := wText_ok bs ⟨p, false⟩ s.length (by show p ≤ _; omega) hb [.cells (rd bs ⟨p, false⟩)] [] 0 rfl
  have hr : rText bs s.length ⟨p, false⟩ = _ := (textCodec s.length).round bs p rest s ⟨Int.le_refl _, by omega, by omega⟩ hd
  rw [hr] at h
  exact h

set_option maxRecDepth 100000 in
set_option maxHeartbeats 4000000 in
theorem back_ok (l : List Int) (hl : ∀ x ∈ l, inI x) (hll : l.length ≤ maxLen) (t : List (List UInt8)) (ht : ∀ x ∈ t, x.length ≤ maxLen) (htl : t.length ≤ maxLen) (rest : List UInt8) (hrl : rest.length ≤ maxLen) :
    ACall Try.prog 8 [.sl l.length (ints l) .none, .sl t.length (strs t) .none, .sl rest.length (encB rest) .none] [] [] (fun r _ _ => r = .bool true) := by
  have hml : maxLen ≤ 9223372036854775807 := by decide
  have hll' := Nat.le_trans hll hml
  have htl' := Nat.le_trans htl hml
  have hrl' := Nat.le_trans hrl hml
  have hf := few_ok t 30 200 htl ht [] []
  refine acall_enter 15 [] Try.ntmps8 Try.func8 rfl (fun _ _ => Try.call8 _ _) (by simp) (fun HO => ?_)
  refine aw_reg fun K hK => ?_; simp (maxSteps := 200000) (disch := omega) [-List.getD_eq_getElem?_getD]; refine hK _ ?_; clear hK K
  refine aw_then fun K1 hK1 => ?_
  refine aw_reg fun K hK => ?_; simp (maxSteps := 200000) (disch := omega) [-List.getD_eq_getElem?_getD]
  refine acall_is (awake_ok _ _) ?_; simp (maxSteps := 200000) (disch := omega) [-List.getD_eq_getElem?_getD]
  refine hK _ ?_; clear hK K
  refine aw_if rfl (fun h => absurd h (by simp)) (fun h => ?_)
  refine aw_skip ?_; simp (maxSteps := 200000) (disch := omega) [-List.getD_eq_getElem?_getD]
  refine hK1 _ ?_; clear hK1
  refine aw_then fun K1 hK1 => ?_
  by_cases h20 : (40 : Int) < l.length
  · have b : decide ((40 : Int) < l.length) = true := by simpa using h20
    refine aw_reg fun K hK => ?_; simp (maxSteps := 200000) (disch := omega) [-List.getD_eq_getElem?_getD, b, h20]; refine hK _ ?_; clear hK K
    refine aw_if rfl (fun h => ?_) (fun h => absurd h (by simp))
    refine aw_reg fun K hK => ?_; simp (maxSteps := 200000) (disch := omega) [-List.getD_eq_getElem?_getD]; refine hK _ ?_; clear hK K
    refine aw_ret ?_; simp (maxSteps := 200000) (disch := omega) [-List.getD_eq_getElem?_getD]
  · have b : decide ((40 : Int) < l.length) = false := by simpa using h20
    cases hfew : few t 30 200
    · rw [hfew] at hf
      refine aw_reg fun K hK => ?_; simp (maxSteps := 200000) (disch := omega) [-List.getD_eq_getElem?_getD, b, h20]
      refine acall_is (hf) ?_; simp (maxSteps := 200000) (disch := omega) [-List.getD_eq_getElem?_getD]
      refine hK _ ?_; clear hK K
      refine aw_if rfl (fun h => ?_) (fun h => absurd h (by simp))
      refine aw_reg fun K hK => ?_; simp (maxSteps := 200000) (disch := omega) [-List.getD_eq_getElem?_getD]; refine hK _ ?_; clear hK K
      refine aw_ret ?_; simp (maxSteps := 200000) (disch := omega) [-List.getD_eq_getElem?_getD]
    · rw [hfew] at hf
      obtain ⟨t1, t2⟩ := few_mem hfew
      by_cases h30 : (300 : Int) < rest.length
      · have b2 : decide ((300 : Int) < rest.length) = true := by simpa using h30
        refine aw_reg fun K hK => ?_; simp (maxSteps := 200000) (disch := omega) [-List.getD_eq_getElem?_getD, b, h20]
        refine acall_is (hf) ?_; simp (maxSteps := 200000) (disch := omega) [-List.getD_eq_getElem?_getD, b2, h30]
        refine hK _ ?_; clear hK K
        refine aw_if rfl (fun h => ?_) (fun h => absurd h (by simp))
        refine aw_reg fun K hK => ?_; simp (maxSteps := 200000) (disch := omega) [-List.getD_eq_getElem?_getD]; refine hK _ ?_; clear hK K
        refine aw_ret ?_; simp (maxSteps := 200000) (disch := omega) [-List.getD_eq_getElem?_getD]
      · have b2 : decide ((300 : Int) < rest.length) = false := by simpa using h30
        refine aw_reg fun K hK => ?_; simp (maxSteps := 200000) (disch := omega) [-List.getD_eq_getElem?_getD, b, h20]
        refine acall_is (hf) ?_; simp (maxSteps := 200000) (disch := omega) [-List.getD_eq_getElem?_getD, b2, h30]
        refine hK _ ?_; clear hK K
        refine aw_if rfl (fun h => absurd h (by simp)) (fun h => ?_)
        refine aw_skip ?_; simp (maxSteps := 200000) (disch := omega) [-List.getD_eq_getElem?_getD]
        refine hK1 _ ?_; clear hK1
        have lB1 := B1_len (l := l) (t := t) hl (by omega) t1 (by omega)
        have lB2 := B2_len (l := l) (t := t) hl (by omega) t1 (by omega)
        have la := encInts_len hl (by omega)
        have lc := encTexts_len (l := t) (fun x hx => by have := t1 x hx; omega) (by omega)
        have c1 := ints_full [] l [] [] hl (by simp; omega)
        have c2 := texts_ok (encInts l) 0 t 210 [] [((encInts l).length, 1)] rfl (fun y hy => encText_len (m := 200) (by decide) (by have := t1 y hy; omega)) (by omega) (by omega)
        simp only [List.nil_append, List.length_nil, List.set_cons_zero] at c1 c2
        rw [← B1_zero] at c2
        refine aw_reg fun K hK => ?_; simp (maxSteps := 200000) (disch := omega) [-List.getD_eq_getElem?_getD]
        refine acall_is (c1) ?_; simp (maxSteps := 200000) (disch := omega) [-List.getD_eq_getElem?_getD]
        refine acall_is (c2) ?_; simp (maxSteps := 200000) (disch := omega) [-List.getD_eq_getElem?_getD]
        refine hK _ ?_; clear hK K
        clear c1 c2
        refine aw_then fun K1 hK1 => ?_
        refine aw_reg fun K hK => ?_; simp (maxSteps := 200000) (disch := omega) [-List.getD_eq_getElem?_getD]; refine hK _ ?_; clear hK K
        refine aw_block ?_
        refine aw_loop (X := Nat) (fun i => ⟨[(0, .sl l.length (ints l) .none), (1, .sl t.length (strs t) .none), (2, .sl rest.length (encB rest) .none), (7, .sl (B1 l t i).length (encB (B1 l t i)) (.own 0)), (8, .int .i64 (i : Nat))], [], [((B1 l t i).length, 1)]⟩)
          (fun i => i ≤ l.length) (fun i => l.length - i) 0 ?_ ?_ ?_
        · exact Nat.zero_le _
        · refine weak_to [] [] ?_ ?_ ?_ ?_ (HO.toks (by simp)) ?_
          all_goals simp
        · intro i hi
          refine aw_then fun K2 hK2 => ?_
          refine aw_reg fun K hK => ?_; simp (maxSteps := 200000) (disch := omega) [-List.getD_eq_getElem?_getD]; refine hK _ ?_; clear hK K
          refine aw_if rfl (fun h => ?_) (fun h => ?_)
          · simp [-List.getD_eq_getElem?_getD] at h
            have hx := hl _ (getD_mem l i 0 h)
            have hlb := lB1 i
            have hxl := (enc_len hx.1 hx.2).2
            refine aw_skip ?_; simp (maxSteps := 200000) (disch := omega) [-List.getD_eq_getElem?_getD]
            refine hK2 _ ?_; clear hK2
            refine aw_then fun K3 hK3 => ?_
            refine aw_block ?_
            obtain ⟨b1, hb1⟩ : ∃ b1, b1 = B1 l t i ++ enc (l.getD i 0) := ⟨_, rfl⟩
            have hb2 := B1_succ l t i h
            rw [← hb1] at hb2
            have hl1 : b1.length ≤ 3000010 := by rw [hb1, List.length_append]; omega
            have c1 := app_int (B1 l t i) (l.getD i 0) hx (by omega)
            have c2 := app_bool b1 (par (l.getD i 0)) (by omega)
            rw [← hb1] at c1
            rw [← hb2] at c2
            refine aw_draw0 [5, 12] [0, 0, 0, 0, 0, 0, 0, 0, 0, 0, 0, 0, 1, 2] [[], []] drawMixed (by kernel_rfl) (by kernel_rfl) fun K hK => ?_; simp (maxSteps := 200000) (disch := omega) [-List.getD_eq_getElem?_getD, getD_ints]
            refine dcall_eff (c1) rfl ?_; simp (maxSteps := 200000) (disch := omega) [-List.getD_eq_getElem?_getD, getD_ints]
            refine dcall_eff (c2) rfl ?_; simp (maxSteps := 200000) (disch := omega) [-List.getD_eq_getElem?_getD, getD_ints]
            refine hK _ ?_; clear hK K
            refine hK3 _ ?_; clear hK3
            refine aw_reg0 fun K hK => ?_; simp (maxSteps := 200000) (disch := omega) [-List.getD_eq_getElem?_getD]
            refine hK _ ?_; clear hK K
            refine ⟨i + 1, by show i + 1 ≤ _; omega, by show l.length - (i + 1) < l.length - i; omega, ?_⟩
            refine weak_to [] [] ?_ ?_ ?_ ?_ (HO.toks (by simp)) ?_
            all_goals simp
          · simp [-List.getD_eq_getElem?_getD] at h
            have hil : i = l.length := by omega
            subst hil
            refine aw_exit ?_; simp (maxSteps := 200000) (disch := omega) [-List.getD_eq_getElem?_getD]
            refine hK1 _ ?_; clear hK1
            rw [B1_all]
            refine aw_then fun K2 hK2 => ?_
            refine aw_reg fun K hK => ?_; simp (maxSteps := 200000) (disch := omega) [-List.getD_eq_getElem?_getD]; refine hK _ ?_; clear hK K
            refine aw_block ?_
            refine aw_loop (X := Nat) (fun i => ⟨[(0, .sl l.length (ints l) .none), (1, .sl t.length (strs t) .none), (2, .sl rest.length (encB rest) .none), (7, .sl (B2 l t i).length (encB (B2 l t i)) (.own 0)), (9, .int .i64 (i : Nat))], [], [((B2 l t i).length, 1)]⟩)
              (fun i => i ≤ t.length) (fun i => t.length - i) 0 ?_ ?_ ?_
            · exact Nat.zero_le _
            · refine weak_to [] [] ?_ ?_ ?_ ?_ (HO.toks (by simp)) ?_
              all_goals simp
            · intro i hi
              refine aw_then fun K3 hK3 => ?_
              refine aw_reg fun K hK => ?_; simp (maxSteps := 200000) (disch := omega) [-List.getD_eq_getElem?_getD]; refine hK _ ?_; clear hK K
              refine aw_if rfl (fun h => ?_) (fun h => ?_)
              · simp [-List.getD_eq_getElem?_getD] at h
                have hx := t1 _ (getD_mem t i [] h)
                have hlb := lB2 i
                have c1 := app_text (B2 l t i) (t.getD i []) (by omega)
                rw [← B2_succ l t i h] at c1
                refine aw_skip ?_; simp (maxSteps := 200000) (disch := omega) [-List.getD_eq_getElem?_getD]
                refine hK3 _ ?_; clear hK3
                refine aw_then fun K4 hK4 => ?_
                refine aw_block ?_
                refine aw_reg0 fun K hK => ?_; simp (maxSteps := 200000) (disch := omega) [-List.getD_eq_getElem?_getD, getD_strs]
                refine acall_is (c1) ?_; simp (maxSteps := 200000) (disch := omega) [-List.getD_eq_getElem?_getD]
                refine hK _ ?_; clear hK K
                refine hK4 _ ?_; clear hK4
                refine aw_reg0 fun K hK => ?_; simp (maxSteps := 200000) (disch := omega) [-List.getD_eq_getElem?_getD]
                refine hK _ ?_; clear hK K
                refine ⟨i + 1, by show i + 1 ≤ _; omega, by show t.length - (i + 1) < t.length - i; omega, ?_⟩
                refine weak_to [] [] ?_ ?_ ?_ ?_ (HO.toks (by simp)) ?_
                all_goals simp
              · simp [-List.getD_eq_getElem?_getD] at h
                have hil : i = t.length := by omega
                subst hil
                refine aw_exit ?_; simp (maxSteps := 200000) (disch := omega) [-List.getD_eq_getElem?_getD]
                refine hK2 _ ?_; clear hK2
                refine aw_reg fun K hK => ?_; simp (maxSteps := 200000) (disch := omega) [-List.getD_eq_getElem?_getD]; refine hK _ ?_; clear hK K
                have hB := lB2 t.length
                have r1 := fun i => B1_rest l t rest i
                have r2 := fun i => B2_rest l t rest i
                have hall : (B2 l t t.length ++ rest).length ≤ 4000000 := by rw [List.length_append]; omega
                have hrest : (B2 l t t.length ++ rest).length = (B2 l t t.length).length + rest.length := List.length_append
                have cb := fun H T => behind_ok (B2 l t t.length) rest (by omega) H T (.own 0) .none
                generalize B2 l t t.length ++ rest = all at *
                have cf := from_ok all (by omega) [] [((B2 l t t.length).length, 1)]
                simp only [List.nil_append, List.length_nil] at cf
                refine aw_reg fun K hK => ?_; simp (maxSteps := 200000) (disch := omega) [-List.getD_eq_getElem?_getD]
                refine acall_is (cb _ _) ?_; simp (maxSteps := 200000) (disch := omega) [-List.getD_eq_getElem?_getD]
                refine acall_is (cf) ?_; simp (maxSteps := 200000) (disch := omega) [-List.getD_eq_getElem?_getD]
                refine hK _ ?_; clear hK K
                have d1 : ∀ i, all.drop (B1 l t i).length = (l.drop i).flatMap eIB ++ (t.flatMap encText ++ rest) := fun i => by rw [r1 i, List.drop_left]
                have d2 : ∀ i, all.drop (B2 l t i).length = (t.drop i).flatMap encText ++ rest := fun i => by rw [r2 i, List.drop_left]
                have b0 : B1 l t 0 = encInts l ++ encTexts t := B1_zero l t
                have k1 := wInts_ok all ⟨0, false⟩ 40 (-9223372036854775808) 9223372036854775807 (by omega) (Nat.zero_le _) (by omega) [.cells (rd all ⟨0, false⟩)] [] 0 rfl
                have q1 : rList all 40 (rInt all (-9223372036854775808) 9223372036854775807) ⟨0, false⟩ = _ := (listCodec (intCodec (-9223372036854775808) 9223372036854775807) 40).round all 0 (encTexts t ++ ((l.drop 0).flatMap eIB ++ (t.flatMap encText ++ rest))) l ⟨by omega, ⟨by omega, by omega⟩, fun x hx => ⟨(hl x hx).1, (hl x hx).2, hl x hx⟩⟩ (by rw [List.drop_zero, r1 0, b0, List.append_assoc]; rfl)
                rw [q1] at k1
                have e1 : 0 + (enc ↑l.length ++ l.flatMap enc).length = (encInts l).length := Nat.zero_add _
                simp only [e1, List.set_cons_zero] at k1
                have hle1 : (encInts l).length ≤ all.length := by rw [r1 0, b0, List.length_append, List.length_append]; omega
                have k2 := wTexts_ok all ⟨(encInts l).length, false⟩ 30 200 (by omega) hle1 (by omega) [.cells (rd all ⟨(encInts l).length, false⟩)] [] 0 rfl
                have q2 : rList all 30 (rText all 200) ⟨(encInts l).length, false⟩ = _ := (listCodec (textCodec 200) 30).round all (encInts l).length ((l.drop 0).flatMap eIB ++ (t.flatMap encText ++ rest)) t ⟨by omega, ⟨by omega, by omega⟩, fun x hx => ⟨t1 x hx, by have := t1 x hx; exact ⟨by omega, by omega⟩⟩⟩ (by
                  have : all = encInts l ++ (encTexts t ++ ((l.drop 0).flatMap eIB ++ (t.flatMap encText ++ rest))) := by rw [r1 0, b0, List.append_assoc]
                  rw [this, List.drop_left]; rfl)
                rw [q2] at k2
                have e2 : (encInts l).length + (enc ↑t.length ++ t.flatMap encText).length = (B1 l t 0).length := by rw [b0]; exact len_app (encInts l) (encTexts t)
                simp only [e2, List.set_cons_zero] at k2
                have k3 := sameInts_ok l l hll hll [.cells (rd all ⟨(encInts l).length, false⟩)] [] .none .none
                have k4 := sameTexts_ok t t htl htl [.cells (rd all ⟨(B1 l t 0).length, false⟩)] [] .none .none
                rw [show (l == l) = true from by simp] at k3
                rw [show (t == t) = true from by simp] at k4
                clear q1 q2 e1 e2
                have hok : ∀ q, HOk [Blk.cells (rd all q)] [] := fun q => by
                  have := HO.snoc (vs := rd all q) (by simp [rd])
                  exact this
                refine aw_weak ⟨[(0, .sl l.length (ints l) .none), (1, .sl t.length (strs t) .none), (2, .sl rest.length (encB rest) .none), (10, .int .i64 (-9223372036854775808)), (11, .int .i64 9223372036854775807), (12, .ptr 0 0)], [.cells (rd all ⟨0, false⟩)], []⟩ (weak_to [] [((B2 l t t.length).length, 1)] (by simp) (by simp) (by simp) (by simp) (hok _) (by simp)) ?_
                refine aw_then fun K3 hK3 => ?_
                refine aw_reg fun K hK => ?_; simp (maxSteps := 200000) (disch := omega) [-List.getD_eq_getElem?_getD]
                refine acall_is (k1) ?_; simp (maxSteps := 200000) (disch := omega) [-List.getD_eq_getElem?_getD]
                refine acall_is (k3) ?_; simp (maxSteps := 200000) (disch := omega) [-List.getD_eq_getElem?_getD]
                refine acall_is (k2) ?_; simp (maxSteps := 200000) (disch := omega) [-List.getD_eq_getElem?_getD]
                refine acall_is (k4) ?_; simp (maxSteps := 200000) (disch := omega) [-List.getD_eq_getElem?_getD]
                refine hK _ ?_; clear hK K
                refine aw_if rfl (fun h => absurd h (by simp)) (fun h => ?_)
                refine aw_skip ?_; simp (maxSteps := 200000) (disch := omega) [-List.getD_eq_getElem?_getD]
                refine hK3 _ ?_; clear hK3
                refine aw_then fun K3 hK3 => ?_
                refine aw_reg fun K hK => ?_; simp (maxSteps := 200000) (disch := omega) [-List.getD_eq_getElem?_getD]; refine hK _ ?_; clear hK K
                refine aw_block ?_
                refine aw_loop (X := Nat) (fun i => ⟨[(0, .sl l.length (ints l) .none), (1, .sl t.length (strs t) .none), (2, .sl rest.length (encB rest) .none), (12, .ptr 0 0), (13, .int .i64 (i : Nat))], [.cells (rd all ⟨(B1 l t i).length, false⟩)], []⟩)
                  (fun i => i ≤ l.length) (fun i => l.length - i) 0 ?_ ?_ ?_
                · exact Nat.zero_le _
                · refine weak_to [] [] ?_ ?_ ?_ ?_ (hok _) ?_
                  all_goals simp
                · intro i hi
                  refine aw_then fun K4 hK4 => ?_
                  refine aw_reg fun K hK => ?_; simp (maxSteps := 200000) (disch := omega) [-List.getD_eq_getElem?_getD]; refine hK _ ?_; clear hK K
                  refine aw_if rfl (fun h => ?_) (fun h => ?_)
                  · simp [-List.getD_eq_getElem?_getD] at h
                    have hx := hl _ (getD_mem l i 0 h)
                    have hd := d1 i
                    rw [drop_flat l i 0 eIB h, eIB, List.append_assoc, List.append_assoc] at hd
                    have c1 := rd_int all _ _ _ hx (by omega) hd
                    have hd2 : all.drop ((B1 l t i).length + (enc (l.getD i 0)).length) = enc (if par (l.getD i 0) = true then 1 else 0) ++ ((l.drop (i + 1)).flatMap eIB ++ (t.flatMap encText ++ rest)) := by rw [← List.drop_drop, hd, List.drop_left]
                    have c2 := rd_bool all _ _ (par (l.getD i 0)) (by omega) hd2
                    have e3 : (B1 l t i).length + (enc (l.getD i 0)).length + (enc (if par (l.getD i 0) = true then 1 else 0)).length = (B1 l t (i + 1)).length := by rw [B1_succ l t i h, List.length_append, List.length_append]
                    rw [e3] at c2
                    have c3 : ACall Try.prog 21 [.ptr 0 0] [.cells (rd all ⟨(B1 l t i).length + (enc (l.getD i 0)).length, false⟩)] [] (Is (.bool ((l.getD i 0).tmod 2 == 0)) [.cells (rd all ⟨(B1 l t (i + 1)).length, false⟩)] []) := c2
                    refine aw_skip ?_; simp (maxSteps := 200000) (disch := omega) [-List.getD_eq_getElem?_getD]
                    refine hK4 _ ?_; clear hK4
                    refine aw_then fun K5 hK5 => ?_
                    refine aw_block ?_
                    refine aw_draw [9, 17] [0, 0, 0, 0, 0, 0, 0, 0, 0, 0, 0, 0, 0, 0, 1, 1, 1, 1, 1, 1, 1, 1, 1, 1, 2, 2] [[], []] drawMixed (by kernel_rfl) (by kernel_rfl) fun K hK => ?_; simp (maxSteps := 200000) (disch := omega) [-List.getD_eq_getElem?_getD, getD_ints]
                    refine dcall_eff (c1) rfl ?_; simp (maxSteps := 200000) (disch := omega) [-List.getD_eq_getElem?_getD, getD_ints]
                    refine dcall_eff (c3) rfl ?_; simp (maxSteps := 200000) (disch := omega) [-List.getD_eq_getElem?_getD, getD_ints]
                    refine hK _ ?_; clear hK K
                    refine aw_if rfl (fun h => absurd h (by simp)) (fun h => ?_)
                    refine aw_skip ?_; simp (maxSteps := 200000) (disch := omega) [-List.getD_eq_getElem?_getD]
                    refine hK5 _ ?_; clear hK5
                    refine aw_reg0 fun K hK => ?_; simp (maxSteps := 200000) (disch := omega) [-List.getD_eq_getElem?_getD]
                    refine hK _ ?_; clear hK K
                    refine ⟨i + 1, by show i + 1 ≤ _; omega, by show l.length - (i + 1) < l.length - i; omega, ?_⟩
                    refine weak_to [] [] ?_ ?_ ?_ ?_ (hok _) ?_
                    all_goals simp
                  · simp [-List.getD_eq_getElem?_getD] at h
                    have hil : i = l.length := by omega
                    subst hil
                    refine aw_exit ?_; simp (maxSteps := 200000) (disch := omega) [-List.getD_eq_getElem?_getD]
                    refine hK3 _ ?_; clear hK3
                    rw [B1_all]
                    refine aw_then fun K4 hK4 => ?_
                    refine aw_reg fun K hK => ?_; simp (maxSteps := 200000) (disch := omega) [-List.getD_eq_getElem?_getD]; refine hK _ ?_; clear hK K
                    refine aw_block ?_
                    refine aw_loop (X := Nat) (fun i => ⟨[(0, .sl l.length (ints l) .none), (1, .sl t.length (strs t) .none), (2, .sl rest.length (encB rest) .none), (12, .ptr 0 0), (14, .int .i64 (i : Nat))], [.cells (rd all ⟨(B2 l t i).length, false⟩)], []⟩)
                      (fun i => i ≤ t.length) (fun i => t.length - i) 0 ?_ ?_ ?_
                    · exact Nat.zero_le _
                    · refine weak_to [] [] ?_ ?_ ?_ ?_ (hok _) ?_
                      all_goals simp
                    · intro i hi
                      refine aw_then fun K5 hK5 => ?_
                      refine aw_reg fun K hK => ?_; simp (maxSteps := 200000) (disch := omega) [-List.getD_eq_getElem?_getD]; refine hK _ ?_; clear hK K
                      refine aw_if rfl (fun h => ?_) (fun h => ?_)
                      · simp [-List.getD_eq_getElem?_getD] at h
                        have hx := t1 _ (getD_mem t i [] h)
                        have hd := d2 i
                        rw [drop_flat t i [] encText h, List.append_assoc] at hd
                        have c1 := rd_text all _ _ _ (by omega) (by omega) hd
                        have e3 : (B2 l t i).length + (encText (t.getD i [])).length = (B2 l t (i + 1)).length := by rw [B2_succ l t i h, List.length_append]
                        rw [e3] at c1
                        refine aw_skip ?_; simp (maxSteps := 200000) (disch := omega) [-List.getD_eq_getElem?_getD]
                        refine hK5 _ ?_; clear hK5
                        refine aw_then fun K6 hK6 => ?_
                        refine aw_block ?_
                        refine aw_draw [6] [0, 0, 0, 0, 0, 0, 0, 0, 0, 0, 0, 1] [[]] drawMixed (by kernel_rfl) (by kernel_rfl) fun K hK => ?_; simp (maxSteps := 200000) (disch := omega) [-List.getD_eq_getElem?_getD, getD_strs]
                        refine dcall_eff (c1) rfl ?_; simp (maxSteps := 200000) (disch := omega) [-List.getD_eq_getElem?_getD, getD_strs]
                        refine hK _ ?_; clear hK K
                        refine aw_if rfl (fun h => absurd h (by simp)) (fun h => ?_)
                        refine aw_skip ?_; simp (maxSteps := 200000) (disch := omega) [-List.getD_eq_getElem?_getD]
                        refine hK6 _ ?_; clear hK6
                        refine aw_reg0 fun K hK => ?_; simp (maxSteps := 200000) (disch := omega) [-List.getD_eq_getElem?_getD]
                        refine hK _ ?_; clear hK K
                        refine ⟨i + 1, by show i + 1 ≤ _; omega, by show t.length - (i + 1) < t.length - i; omega, ?_⟩
                        refine weak_to [] [] ?_ ?_ ?_ ?_ (hok _) ?_
                        all_goals simp
                      · simp [-List.getD_eq_getElem?_getD] at h
                        have hil : i = t.length := by omega
                        subst hil
                        have hB2 : (B2 l t t.length).length ≤ all.length := by omega
                        have c1 := wRest_ok all ⟨(B2 l t t.length).length, false⟩ hB2 (by omega) [.cells (rd all ⟨(B2 l t t.length).length, false⟩)] [] 0 rfl
                        have c2 := wDone_ok all ⟨(B2 l t t.length).length, false⟩ hB2 (by omega) [.cells (rd all ⟨(B2 l t t.length).length, false⟩)] [] 0 rfl
                        have e4 : all.length - (B2 l t t.length).length = rest.length := by omega
                        simp only [e4] at c1
                        refine aw_exit ?_; simp (maxSteps := 200000) (disch := omega) [-List.getD_eq_getElem?_getD]
                        refine hK4 _ ?_; clear hK4
                        rcases Nat.eq_zero_or_pos rest.length with h0 | h0
                        · have e5 : rDone all ⟨(B2 l t t.length).length, false⟩ = 0 := done_zero.2 ⟨rfl, by show ¬ (B2 l t t.length).length < all.length; omega⟩
                          rw [e5] at c2
                          refine aw_reg fun K hK => ?_; simp (maxSteps := 200000) (disch := omega) [-List.getD_eq_getElem?_getD]
                          refine acall_is (c1) ?_; simp (maxSteps := 200000) (disch := omega) [-List.getD_eq_getElem?_getD]
                          refine acall_is (c2) ?_; simp (maxSteps := 200000) (disch := omega) [-List.getD_eq_getElem?_getD, h0]
                          refine hK _ ?_; clear hK K
                          refine aw_ret ?_; simp (maxSteps := 200000) (disch := omega) [-List.getD_eq_getElem?_getD]
                        · have e5 : rDone all ⟨(B2 l t t.length).length, false⟩ = 5 := by
                            unfold rDone
                            rw [if_pos (Or.inr (show (B2 l t t.length).length < all.length by omega))]
                          rw [e5] at c2
                          have e6 : ((rest.length : Int) == 0) = false := by rw [beq_eq_false_iff_ne]; omega
                          have e7 : rest ≠ [] := by intro e; rw [e] at h0; simp at h0
                          refine aw_reg fun K hK => ?_; simp (maxSteps := 200000) (disch := omega) [-List.getD_eq_getElem?_getD]
                          refine acall_is (c1) ?_; simp (maxSteps := 200000) (disch := omega) [-List.getD_eq_getElem?_getD]
                          refine acall_is (c2) ?_; simp (maxSteps := 200000) (disch := omega) [-List.getD_eq_getElem?_getD, e6, e7]
                          refine hK _ ?_; clear hK K
                          refine aw_ret ?_; simp (maxSteps := 200000) (disch := omega) [-List.getD_eq_getElem?_getD]
end Go.Proofs.Ytgnhfcncbkikgaa
