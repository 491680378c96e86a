/- IdentForms: the walk.
   Conditions: none. -/
import Derived.Laws.RangeString
import Derived.Test.YtlemepdiegacbaaIMath3
import Derived.Test.YtlemepdiegacbaaIWk3
namespace Go.Proofs.Ytlemepdiegacbaa
open Go Go.Am Ident
set_option linter.unusedVariables false

theorem isbnR_digs {s t : List UInt8} (h : digs s = digs t) : isbnR s = isbnR t := by
  unfold isbnR
  rw [h]
theorem isbnR_none {s : List UInt8} (h : digs s = []) : isbnR s = ([], 7) := by
  unfold isbnR
  rw [h]
  rfl
theorem dash_first {t : List UInt8} (h : plainX t) : isbnR (45 :: t) = ([], 7) := by
  have hn : ∀ c ∈ (45 :: t), c ≠ 40 := fun c hc => by
    rcases List.mem_cons.1 hc with rfl | hc
    · decide
    · exact plainX_no40 h c hc
  refine isbnR_none (digs_none (cut_none _ hn) (k := 0) (by simp) fun out => ?_)
  unfold dstep
  rw [if_neg (by show ¬ dig 45 = true; decide), if_neg (fun hh => absurd hh.1 (by show ¬ isX 45 = true; decide)), if_neg (fun hh => absurd hh.2.1 (by omega))]
theorem dash_two {t : List UInt8} (h : plainX t) (hl : t.length = 10) : isbnR (t.take 4 ++ 45 :: 45 :: t.drop 4) = ([], 7) := by
  have hn : ∀ c ∈ (t.take 4 ++ 45 :: 45 :: t.drop 4), c ≠ 40 := fun c hc => by
    rw [List.mem_append] at hc
    rcases hc with hc | hc
    · exact plainX_no40 h c (List.mem_of_mem_take hc)
    · rcases List.mem_cons.1 hc with rfl | hc
      · decide
      · rcases List.mem_cons.1 hc with rfl | hc
        · decide
        · exact plainX_no40 h c (List.mem_of_mem_drop hc)
  have h4 : (t.take 4).length = 4 := by rw [List.length_take]; omega
  have g5 : (t.take 4 ++ 45 :: 45 :: t.drop 4).getD 5 0 = 45 := by
    have := at_app1 (t.take 4) (t.drop 4) 45 45
    rw [h4] at this; exact this
  have g4 : (t.take 4 ++ 45 :: 45 :: t.drop 4).getD 4 0 = 45 := by
    have := at_app (t.take 4) (45 :: t.drop 4) 45
    rw [h4] at this; exact this
  refine isbnR_none (digs_none (cut_none _ hn) (k := 5) (by simp; omega) fun out => ?_)
  unfold dstep
  rw [g5, g4, if_neg (by decide), if_neg (fun hh => absurd hh.1 (by decide)), if_neg (fun hh => hh.2.2.2 (by decide))]
theorem bits_one (x : Int) : ∃ r : Nat, r < 2 ∧ bits .and .u16 x 1 = r := by
  have h : (BitVec.ofInt 16 x &&& BitVec.ofInt 16 1).toNat ≤ 1 := by
    rw [BitVec.toNat_and]
    exact Nat.and_le_right
  refine ⟨(BitVec.ofInt 16 x &&& BitVec.ofInt 16 1).toNat, by omega, ?_⟩
  show IntKind.u16.wrap ((BitVec.ofInt 16 x &&& BitVec.ofInt 16 1).toNat : Int) = _
  generalize (BitVec.ofInt 16 x &&& BitVec.ofInt 16 1).toNat = r at *
  simp [IntKind.wrap, IntKind.signed, IntKind.bits]
  omega
theorem dec_at {t : List UInt8} (h : plainX t) {i : Nat} (hi : i < t.length) : (Utf8.decode ⟨t.toArray⟩ i).2 = 1 := by
  have h8 := dig_lt (plainX_at h hi)
  have e : t.getD i 0 = t[i] := by simp [hi]
  rw [e] at h8
  rw [Go.decode_ascii ⟨t.toArray⟩ i hi h8]

set_option maxRecDepth 100000 in
set_option maxHeartbeats 4000000 in
theorem iforms_ok (n m : Int) (rem : List UInt8) (hn0 : (Lit.int .u32 n).wf = true) (hm0 : (Lit.int .u16 m).wf = true) : ACall Try.prog 7 [.int .u32 n, .int .u16 m, .str rem] [] [] (fun r _ _ => r = .bool true) := by
  obtain ⟨n, rfl, hn⟩ := u32_wf hn0
  have c1 := nine_ok n hn [] []
  have hl := nineS_len n
  have hd := nineS_dig n
  have c2 := check10_ok (nineS n) (by omega) [] []
  have hck : check10R (nineS n) = (ck10 (nineS n), true) := by unfold check10R; rw [if_pos (plainB_iff.2 ⟨hl, hd⟩)]
  rw [hck] at c2
  have hc8 := enc1 _ (ck10_lt (nineS n))
  have hsz := enc1_size _ (ck10_lt (nineS n))
  have hw := wrap32 (ck10 (nineS n))
  have hten : nineS n ++ [ck10 (nineS n)] = ten (nineS n) := rfl
  have htl := ten_len hl
  have hpx := (ten_ok hl hd).1
  have c3 := isbn_ok (ten (nineS n)) (by omega) [] []
  have hti := ten_isbn hl hd
  rw [long_eq] at hti
  rw [hti] at c3
  generalize hS : nineS n = s at *
  generalize hC : ck10 s = c at *
  generalize hT : ten s = t at *
  generalize hL : long s = u at *
  refine acall_enter 48 [] Try.ntmps7 Try.func7 rfl (fun _ _ => Try.call7 _ _) (by simp) (fun HO => ?_)
  refine aw_reg fun K hK => ?_; simp (maxSteps := 1000000) (disch := omega) [-List.getD_eq_getElem?_getD]; refine hK _ ?_; clear hK K
  refine aw_then fun K1 hK1 => ?_
  refine aw_reg fun K hK => ?_; simp (maxSteps := 1000000) (disch := omega) [-List.getD_eq_getElem?_getD]
  refine acall_is (awake_ok _ _) ?_; simp (maxSteps := 1000000) (disch := omega) [-List.getD_eq_getElem?_getD]
  refine hK _ ?_; clear hK K
  refine aw_if rfl (fun h => absurd h (by simp)) (fun h => ?_)
  refine aw_skip ?_; simp (maxSteps := 1000000) (disch := omega) [-List.getD_eq_getElem?_getD]
  refine hK1 _ ?_; clear hK1
  refine aw_then fun K1 hK1 => ?_
  by_cases hr : 30 < rem.length
  · have bk : decide ((30 : Int) < (rem.length : Int)) = true := decide_eq_true (by omega)
    refine aw_reg fun K hK => ?_; simp (maxSteps := 1000000) (disch := omega) [-List.getD_eq_getElem?_getD, bk, hr]; refine hK _ ?_; clear hK K
    refine aw_if rfl (fun h => ?_) (fun h => absurd h (by simp))
    refine aw_reg fun K hK => ?_; simp (maxSteps := 1000000) (disch := omega) [-List.getD_eq_getElem?_getD]; refine hK _ ?_; clear hK K
    refine aw_ret ?_; simp (maxSteps := 1000000) (disch := omega) [-List.getD_eq_getElem?_getD]
  have bk : decide ((30 : Int) < (rem.length : Int)) = false := decide_eq_false (by omega)
  refine aw_reg fun K hK => ?_; simp (maxSteps := 1000000) (disch := omega) [-List.getD_eq_getElem?_getD, bk, hr]; refine hK _ ?_; clear hK K
  refine aw_if rfl (fun h => absurd h (by simp)) (fun h => ?_)
  refine aw_skip ?_; simp (maxSteps := 1000000) (disch := omega) [-List.getD_eq_getElem?_getD]
  refine hK1 _ ?_; clear hK1
  refine aw_reg fun K hK => ?_; simp (maxSteps := 1000000) (disch := omega) [-List.getD_eq_getElem?_getD]
  refine acall_is (c1) ?_; simp (maxSteps := 1000000) (disch := omega) [-List.getD_eq_getElem?_getD]
  refine hK _ ?_; clear hK K
  refine aw_reg fun K hK => ?_; simp (maxSteps := 1000000) (disch := omega) [-List.getD_eq_getElem?_getD]
  refine acall_is (c2) ?_; simp (maxSteps := 1000000) (disch := omega) [-List.getD_eq_getElem?_getD]
  refine hK _ ?_; clear hK K
  refine aw_reg fun K hK => ?_; simp (maxSteps := 1000000) (disch := omega) [-List.getD_eq_getElem?_getD, hc8, hsz, hw, hten, hl]; refine hK _ ?_; clear hK K
  refine aw_reg fun K hK => ?_; simp (maxSteps := 1000000) (disch := omega) [-List.getD_eq_getElem?_getD]
  refine acall_is (c3) ?_; simp (maxSteps := 1000000) (disch := omega) [-List.getD_eq_getElem?_getD]
  refine hK _ ?_; clear hK K
  refine aw_reg fun K hK => ?_; simp (maxSteps := 1000000) (disch := omega) [-List.getD_eq_getElem?_getD]; refine hK _ ?_; clear hK K
  refine aw_then fun K1 hK1 => ?_
  refine aw_reg fun K hK => ?_; simp (maxSteps := 1000000) (disch := omega) [-List.getD_eq_getElem?_getD]; refine hK _ ?_; clear hK K
  refine aw_block ?_
  have b1 := fun (k : Nat) => bits_one (m.fdiv (2 ^ min k IntKind.u16.bits))
  have b2 := fun (k : Nat) => bits_one (m.fdiv (2 ^ min (k + 4) IntKind.u16.bits))
  refine Exists.elim (Classical.axiomOfChoice b1) fun r1 hr1 => ?_
  refine Exists.elim (Classical.axiomOfChoice b2) fun r2 hr2 => ?_
  let f : Nat → List UInt8 := fun k => if k < 9 ∧ r1 k = 1 then [([45, 32] : List UInt8).getD (r2 k) 0] else []
  have hf0 : ∀ k, f k = if k < 9 ∧ r1 k = 1 then [([45, 32] : List UInt8).getD (r2 k) 0] else [] := fun k => rfl
  have hf : okSep t.length f := fun k hk => by
    rw [hf0]
    by_cases h : k < 9 ∧ r1 k = 1
    · rw [if_pos h]
      refine .inr ⟨by omega, _, rfl, ?_⟩
      have key : ∀ r : Fin 2, sep (([45, 32] : List UInt8).getD r.1 0) = true := by decide
      exact key ⟨r2 k, (hr2 k).1⟩
    · rw [if_neg h]; exact .inl rfl
  generalize f = f at *
  refine aw_loop (X := Nat) (fun i => ⟨[(1, .int .u16 m), (2, .str rem), (10, .str t), (11, .str u), (13, .str (weave t f i)), (46, .ptr 0 0)], [.iter t i], []⟩) (fun i => i ≤ 10) (fun i => 10 - i) 0 ?_ ?_ ?_
  · exact Nat.zero_le _
  · refine weak_to [] [] ?_ ?_ ?_ ?_ HO.snocIter ?_
    all_goals simp [weave]
  · intro i hi0
    have hwl := weave_len t f hf i (by omega)
    by_cases hi : i < 10
    · have hit : i < t.length := by omega
      have hde := dec_at hpx hit
      refine aw_reg fun K hK => ?_; simp (maxSteps := 1000000) (disch := omega) [-List.getD_eq_getElem?_getD, hit]; refine hK _ ?_; clear hK K
      refine aw_then fun K2 hK2 => ?_
      refine aw_if rfl (fun h => ?_) (fun h => absurd h (by simp))
      refine aw_skip ?_; simp (maxSteps := 1000000) (disch := omega) [-List.getD_eq_getElem?_getD]
      refine hK2 _ ?_; clear hK2
      refine aw_block ?_
      refine aw_reg fun K hK => ?_; simp (maxSteps := 1000000) (disch := omega) [-List.getD_eq_getElem?_getD, hde]; refine hK _ ?_; clear hK K
      have hsl : List.take 1 (List.drop i t) = [t.getD i 0] := by
        have e : t.getD i 0 = t[i] := by simp [hit]
        rw [e, List.drop_eq_getElem_cons hit]
        rfl
      have hwi : IntKind.i64.wrap ((i : Int) + 1) = (i : Int) + 1 := by rw [IntKind.wrap_i64]; omega
      have hwi4 : IntKind.i64.wrap ((i : Int) + 4) = (i : Int) + 4 := by rw [IntKind.wrap_i64]; omega
      refine aw_reg fun K hK => ?_; simp (maxSteps := 1000000) (disch := omega) [-List.getD_eq_getElem?_getD, htl, hwi, hsl]; refine hK _ ?_; clear hK K
      obtain ⟨q1, h1⟩ := hr1 i
      obtain ⟨q2, h2⟩ := hr2 i
      have hfi := hf0 i
      have hwk : weave t f (i + 1) = weave t f i ++ t.getD i 0 :: f i := rfl
      by_cases h9 : i < 9
      · have bk9 : decide ((i : Int) < 9) = true := decide_eq_true (by omega)
        by_cases hr1i : r1 i = 1
        · rw [if_pos ⟨h9, hr1i⟩] at hfi
          rw [hr1i] at h1
          refine aw_reg fun K hK => ?_; simp (maxSteps := 1000000) (disch := omega) [-List.getD_eq_getElem?_getD, bk9, h9, h1]; refine hK _ ?_; clear hK K
          refine aw_if rfl (fun h => ?_) (fun h => absurd h (by simp))
          have hw2 : IntKind.u16.wrap ((r2 i : Int) + 1) = (r2 i : Int) + 1 := by
            simp [IntKind.wrap, IntKind.signed, IntKind.bits]
            omega
          have hsl2 : List.take 1 (List.drop (r2 i) ([45, 32] : List UInt8)) = [([45, 32] : List UInt8).getD (r2 i) 0] := by
            have key : ∀ r : Fin 2, List.take 1 (List.drop r.1 ([45, 32] : List UInt8)) = [([45, 32] : List UInt8).getD r.1 0] := by decide
            exact key ⟨r2 i, q2⟩
          refine aw_draw0 [] [] [] drawMixed (by kernel_rfl) (by kernel_rfl) fun K hK => ?_; simp (maxSteps := 1000000) (disch := omega) [-List.getD_eq_getElem?_getD, hwi4, h2, hw2, hsl2]
          refine hK _ ?_; clear hK K
          refine ⟨i + 1, by show i + 1 ≤ 10; omega, by show 10 - (i + 1) < 10 - i; omega, ?_⟩
          rw [hwk, hfi]
          refine weak_to [] [] ?_ ?_ ?_ ?_ HO.snocIter ?_
          all_goals simp
        · rw [if_neg (fun h => hr1i h.2)] at hfi
          have hr0 : r1 i = 0 := by omega
          rw [hr0] at h1
          refine aw_reg fun K hK => ?_; simp (maxSteps := 1000000) (disch := omega) [-List.getD_eq_getElem?_getD, bk9, h9, h1]; refine hK _ ?_; clear hK K
          refine aw_if rfl (fun h => absurd h (by simp)) (fun h => ?_)
          refine aw_skip ?_; simp (maxSteps := 1000000) (disch := omega) [-List.getD_eq_getElem?_getD]
          refine ⟨i + 1, by show i + 1 ≤ 10; omega, by show 10 - (i + 1) < 10 - i; omega, ?_⟩
          rw [hwk, hfi]
          refine weak_to [] [] ?_ ?_ ?_ ?_ HO.snocIter ?_
          all_goals simp
      · have bk9 : decide ((i : Int) < 9) = false := decide_eq_false (by omega)
        rw [if_neg (fun h => h9 h.1)] at hfi
        refine aw_reg fun K hK => ?_; simp (maxSteps := 1000000) (disch := omega) [-List.getD_eq_getElem?_getD, bk9, h9]; refine hK _ ?_; clear hK K
        refine aw_if rfl (fun h => absurd h (by simp)) (fun h => ?_)
        refine aw_skip ?_; simp (maxSteps := 1000000) (disch := omega) [-List.getD_eq_getElem?_getD]
        refine ⟨i + 1, by show i + 1 ≤ 10; omega, by show 10 - (i + 1) < 10 - i; omega, ?_⟩
        rw [hwk, hfi]
        refine weak_to [] [] ?_ ?_ ?_ ?_ HO.snocIter ?_
        all_goals simp
    · obtain rfl : i = 10 := by omega
      have hit : ¬ 10 < t.length := by omega
      refine aw_reg fun K hK => ?_; simp (maxSteps := 1000000) (disch := omega) [-List.getD_eq_getElem?_getD, hit]; refine hK _ ?_; clear hK K
      refine aw_then fun K2 hK2 => ?_
      refine aw_if rfl (fun h => absurd h (by simp)) (fun h => ?_)
      refine aw_exit ?_; simp (maxSteps := 1000000) (disch := omega) [-List.getD_eq_getElem?_getD]
      refine hK1 _ ?_; clear hK1
      have d1 := weave_digs hpx hf [] (.inl rfl)
      have d2 := weave_digs hpx hf (32 :: 40 :: rem) (.inr ⟨rem, rfl⟩)
      rw [htl] at d1 d2
      rw [List.append_nil] at d1
      have p0 := digs_plain hpx
      have e1 := isbnR_digs (d1.trans p0.symm)
      have e2 := isbnR_digs (d2.trans p0.symm)
      rw [hti] at e1 e2
      have e3 := dash_two hpx htl
      have e4 := dash_first hpx
      have c4 := isbn_ok (weave t f 10) (by omega) [.iter t 10] []
      have c5 := isbn_ok (weave t f 10 ++ 32 :: 40 :: rem) (by simp; omega) [.iter t 10] []
      have c6 := isbn_ok (t.take 4 ++ 45 :: 45 :: t.drop 4) (by simp; omega) [.iter t 10] []
      have c7 := isbn_ok (45 :: t) (by simp; omega) [.iter t 10] []
      rw [e1] at c4
      rw [e2] at c5
      rw [e3] at c6
      rw [e4] at c7
      have htk : List.take 6 (List.drop 4 t) = List.drop 4 t := List.take_of_length_le (by rw [List.length_drop]; omega)
      generalize weave t f 10 = v at *
      refine aw_reg fun K hK => ?_; simp (maxSteps := 1000000) (disch := omega) [-List.getD_eq_getElem?_getD]
      refine acall_is (c4) ?_; simp (maxSteps := 1000000) (disch := omega) [-List.getD_eq_getElem?_getD]
      refine hK _ ?_; clear hK K
      refine aw_reg fun K hK => ?_; simp (maxSteps := 1000000) (disch := omega) [-List.getD_eq_getElem?_getD]
      refine acall_is (c5) ?_; simp (maxSteps := 1000000) (disch := omega) [-List.getD_eq_getElem?_getD]
      refine hK _ ?_; clear hK K
      refine aw_draw [] [] [] drawMixed (by kernel_rfl) (by kernel_rfl) fun K hK => ?_; simp (maxSteps := 1000000) (disch := omega) [-List.getD_eq_getElem?_getD, htl, htk]
      refine dcall_is (c6) rfl ?_; simp (maxSteps := 1000000) (disch := omega) [-List.getD_eq_getElem?_getD]
      refine hK _ ?_; clear hK K
      refine aw_reg fun K hK => ?_; simp (maxSteps := 1000000) (disch := omega) [-List.getD_eq_getElem?_getD, htl]
      refine acall_is (c7) ?_; simp (maxSteps := 1000000) (disch := omega) [-List.getD_eq_getElem?_getD]
      refine hK _ ?_; clear hK K
      refine aw_reg fun K hK => ?_; simp (maxSteps := 1000000) (disch := omega) [-List.getD_eq_getElem?_getD]; refine hK _ ?_; clear hK K
      refine aw_ret ?_; simp (maxSteps := 1000000) (disch := omega) [-List.getD_eq_getElem?_getD]
end Go.Proofs.Ytlemepdiegacbaa
