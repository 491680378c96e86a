/- The text of a call number (layer 52): the program's and the reference's. The text of a valid call number (layer 52): the program's walk and the reference's.
   Conditions: small parts, as each theorem says. -/
import Derived.Test.YtnmlpohhommagaaGreatDoorCFn6
import Derived.Test.YtnmlpohhommagaaGreatDoorVItoa

/- The text of a call number (layer 52): the program's and the reference's. -/
namespace Cn
open Go.Lib
/-- At least so many digits. -/
def decN : Nat → Nat → List UInt8
  | u, 0 => if u = 0 then [] else decDigits u
  | u, n + 1 => decN (u / 10) n ++ [UInt8.ofNat (48 + u % 10)]
theorem decN_step {u n : Nat} (h : 0 < u ∨ 0 < n) : decN u n = decN (u / 10) (n - 1) ++ [UInt8.ofNat (48 + u % 10)] := by
  cases n with
  | zero =>
    have hu : u ≠ 0 := by omega
    rw [decN, if_neg hu, Nat.zero_sub, decN, decDigits]
    split
    · rename_i h1
      rw [if_pos (by omega), show u % 10 = u by omega]
      rfl
    · rename_i h1
      rw [if_neg (by omega)]
  | succ n => rw [decN]; rfl
theorem decN_one (u : Nat) : decN u 1 = decDigits u := by
  by_cases h1 : u < 10
  · have e : decDigits u = [UInt8.ofNat (48 + u)] := by rw [decDigits, dif_pos h1]
    rw [e, decN, decN, if_pos (by omega), show u % 10 = u by omega]
    rfl
  · have e : decDigits u = decDigits (u / 10) ++ [UInt8.ofNat (48 + u % 10)] := by rw [decDigits, dif_neg h1]
    rw [e, decN, decN, if_neg (by omega)]
theorem decN_ge : ∀ (n u : Nat), 10 ^ n ≤ u → decN u (n + 1) = decDigits u := by
  intro n
  induction n with
  | zero => intro u _; exact decN_one u
  | succ n ih =>
    intro u hu
    rw [Nat.pow_succ] at hu
    have hp : 0 < 10 ^ n := Nat.pow_pos (by omega)
    rw [decN, ih (u / 10) (by omega)]
    rw [show decDigits u = decDigits (u / 10) ++ [UInt8.ofNat (48 + u % 10)] from by rw [decDigits, dif_neg (by omega)]]
theorem decN_three {u : Nat} (h : u ≤ 999) : decN u 3 = (decDigits (1000 + u)).drop 1 := by
  have d1 : ∀ v, 10 ≤ v → decDigits v = decDigits (v / 10) ++ [UInt8.ofNat (48 + v % 10)] := fun v hv => by rw [decDigits, dif_neg (by omega)]
  rw [d1 (1000 + u) (by omega), d1 ((1000 + u) / 10) (by omega), d1 ((1000 + u) / 10 / 10) (by omega), show (1000 + u) / 10 / 10 / 10 = 1 by omega]
  rw [decN, decN, decN, decN, if_pos (by omega)]
  rw [show decDigits 1 = [49] from by rw [decDigits, dif_pos (by omega)]; rfl]
  rw [show (1000 + u) % 10 = u % 10 by omega, show (1000 + u) / 10 % 10 = u / 10 % 10 by omega, show (1000 + u) / 10 / 10 % 10 = u / 10 / 10 % 10 by omega]
  rfl
theorem cutsT_len {c : Cl} (h : ∀ x ∈ c.cut, cutF x = true) : ∀ n, n ≤ c.cut.length → (cutsT c n).length ≤ n * 9 := by
  intro n
  induction n with
  | zero => intro _; simp [cutsT]
  | succ n ih =>
    intro hn
    have h1 := ih (by omega)
    have h2 := cutF_len (h _ (memL (l := c.cut) (i := n) (by omega)))
    rw [cutsT_succ, List.length_append, List.length_cons]
    unfold cutT
    split
    · rw [List.length_cons]; omega
    · omega
end Cn
namespace Go.Proofs.YtnmlpohhommagaaGreatDoor
open Go Go.Am Cn Lst
set_option linter.unusedVariables false
set_option maxRecDepth 100000

set_option maxRecDepth 100000 in
set_option maxHeartbeats 4000000 in
theorem decimalR_ok (u n : Nat) (hu : u ≤ 9999) (hn : n ≤ 10) (H : List Blk) (T : Toks) : ACall Tryz.prog 43 [.int .i64 (u : Nat), .int .i64 (n : Nat)] H T (Is (.str (decN u n)) H T) := by
  generalize hq : decN u n = q
  refine acall_enter 6 [] Tryz.ntmps43 Tryz.func43 rfl (fun _ _ => Tryz.call43 _ _) (by simp) (fun HO => ?_)
  refine aw_reg fun K hK => ?_; simp (maxSteps := 1000000) (disch := omega) [-List.getD_eq_getElem?_getD]; refine hK _ ?_; clear hK K
  refine aw_reg fun K hK => ?_; simp (maxSteps := 1000000) (disch := omega) [-List.getD_eq_getElem?_getD]; refine hK _ ?_; clear hK K
  refine aw_then fun K1 hK1 => ?_
  refine aw_block ?_
  refine aw_loop (X := Nat × Int × List UInt8) (fun x => ⟨[(0, .int .i64 (x.1 : Nat)), (1, .int .i64 x.2.1), (5, .str x.2.2)], H, T⟩) (fun x => x.1 ≤ 9999 ∧ x.2.1 ≤ 10 ∧ -10000 + (x.1 : Int) ≤ x.2.1 ∧ (x.2.2.length : Int) + x.1 + x.2.1.toNat ≤ 20000 ∧ q = decN x.1 x.2.1.toNat ++ x.2.2) (fun x => x.1 + x.2.1.toNat) (u, n, []) ?_ ?_ ?_
  · refine ⟨hu, by show (n : Int) ≤ 10; omega, by show -10000 + (u : Int) ≤ n; omega, by show (([] : List UInt8).length : Int) + u + (n : Int).toNat ≤ 20000; simp; omega, ?_⟩
    show q = decN u (n : Int).toNat ++ []
    rw [← hq, Int.toNat_natCast, List.append_nil]
  · refine weak_to [] [] ?_ ?_ ?_ ?_ HO ?_
    all_goals simp
  · rintro ⟨m, k, s⟩ ⟨h1, h2, h3, h4, h5⟩
    simp only at h1 h2 h3 h4 h5
    refine aw_then fun K2 hK2 => ?_
    have step : 0 < m ∨ 0 < k → ∀ e, envLe H.length T.length e [(0, .int .i64 (m : Nat)), (1, .int .i64 k), (5, .str s)] → K2 ⟨e, H, T⟩ := by
      intro hmk e he
      refine hK2 _ (aw_weak ⟨[(0, .int .i64 (m : Nat)), (1, .int .i64 k), (5, .str s)], H, T⟩ (weak_to [] [] (by simp) (by simp) (by simp) (by simp) HO (by simpa using he)) ?_)
      obtain ⟨d, e1, hdm⟩ : ∃ d : Nat, (m : Int).tmod 10 = (d : Int) ∧ d = m % 10 := ⟨m % 10, by rw [Int.tmod_eq_emod_of_nonneg (by omega)]; omega, rfl⟩
      obtain ⟨m', e2, hmm⟩ : ∃ m' : Nat, (m : Int).tdiv 10 = (m' : Int) ∧ m' = m / 10 := ⟨m / 10, by rw [Int.tdiv_eq_ediv_of_nonneg (by omega)]; omega, rfl⟩
      have hd : d < 10 := by omega
      have hby : bytesOf [AV.int .u8 (48 + (d : Int))] = some [UInt8.ofNat (48 + d)] := by
        have : [AV.int .u8 (48 + (d : Int))] = encB [UInt8.ofNat (48 + d)] := by
          simp only [encB, List.map_cons, List.map_nil, List.cons.injEq, and_true, AV.int.injEq, true_and]
          rw [UInt8.toNat_ofNat']; omega
        rw [this]; exact bytesOf_encB _
      have hst := decN_step (u := m) (n := k.toNat) (by omega)
      rw [← hdm, ← hmm, show k.toNat - 1 = (k - 1).toNat by omega] at hst
      rw [hst, List.append_assoc] at h5
      have hb1 : m' ≤ 9999 := by omega
      have hb2 : -10000 + (m' : Int) ≤ k - 1 := by omega
      have hb3 : ((UInt8.ofNat (48 + d) :: s).length : Int) + m' + (k - 1).toNat ≤ 20000 := by rw [List.length_cons]; omega
      have hb4 : m' + (k - 1).toNat < m + k.toNat := by omega
      clear hst hK2
      have hd2 : (48 + (d : Int)) % 256 = 48 + d := by omega
      generalize UInt8.ofNat (48 + d) = c at *
      refine aw_block ?_
      refine aw_reg fun K hK => ?_; simp (maxSteps := 1000000) (disch := omega) [-List.getD_eq_getElem?_getD, e1, hby]; refine hK _ ?_; clear hK K
      refine aw_reg fun K hK => ?_; simp (maxSteps := 1000000) (disch := omega) [-List.getD_eq_getElem?_getD, e2]; refine hK _ ?_; clear hK K
      refine aw_reg0 fun K hK => ?_; simp (maxSteps := 1000000) (disch := omega) [-List.getD_eq_getElem?_getD]
      refine hK _ ?_; clear hK K
      refine ⟨(m', k - 1, c :: s), ⟨hb1, by show k - 1 ≤ 10; omega, hb2, hb3, h5⟩, hb4, ?_⟩
      refine weak_to [] [] ?_ ?_ ?_ ?_ HO ?_
      all_goals simp
    by_cases g1 : 0 < m
    · have b1 : decide ((m : Int) > 0) = true := decide_eq_true (by omega)
      have b1' : decide ((0 : Int) < (m : Nat)) = true := decide_eq_true (by omega)
      refine aw_reg fun K hK => ?_; simp (maxSteps := 1000000) (disch := omega) [-List.getD_eq_getElem?_getD, g1]; refine hK _ ?_; clear hK K
      refine aw_if rfl (fun h => ?_) (fun h => absurd h (by simp))
      refine aw_skip ?_; simp (maxSteps := 1000000) (disch := omega) [-List.getD_eq_getElem?_getD]
      refine step (.inl g1) _ ?_
      simp
    · have b1 : decide ((m : Int) > 0) = false := decide_eq_false (by omega)
      have b1' : decide ((0 : Int) < (m : Nat)) = false := decide_eq_false (by omega)
      by_cases g2 : 0 < k
      · have b2 : decide (k > 0) = true := decide_eq_true (by omega)
        have b2' : decide (0 < k) = true := decide_eq_true (by omega)
        refine aw_reg fun K hK => ?_; simp (maxSteps := 1000000) (disch := omega) [-List.getD_eq_getElem?_getD, g1, g2]; refine hK _ ?_; clear hK K
        refine aw_if rfl (fun h => ?_) (fun h => absurd h (by simp))
        refine aw_skip ?_; simp (maxSteps := 1000000) (disch := omega) [-List.getD_eq_getElem?_getD]
        refine step (.inr g2) _ ?_
        simp
      · have b2 : decide (k > 0) = false := decide_eq_false (by omega)
        have b2' : decide (0 < k) = false := decide_eq_false (by omega)
        have h6 : q = s := by rw [h5, show m = 0 by omega, show k.toNat = 0 by omega]; rfl
        refine aw_reg fun K hK => ?_; simp (maxSteps := 1000000) (disch := omega) [-List.getD_eq_getElem?_getD, g1, g2]; refine hK _ ?_; clear hK K
        refine aw_if rfl (fun h => absurd h (by simp)) (fun h => ?_)
        refine aw_exit ?_; simp (maxSteps := 1000000) (disch := omega) [-List.getD_eq_getElem?_getD]
        refine hK1 _ ?_; clear hK1
        refine aw_reg fun K hK => ?_; simp (maxSteps := 1000000) (disch := omega) [-List.getD_eq_getElem?_getD]; refine hK _ ?_; clear hK K
        refine aw_ret ?_; simp (maxSteps := 1000000) (disch := omega) [-List.getD_eq_getElem?_getD]
        rw [h6]
        exact ⟨rfl, rfl, rfl⟩
end Go.Proofs.YtnmlpohhommagaaGreatDoor

/- The text of a valid call number (layer 52): the program's walk and the reference's. -/
namespace Cn
open Go.Lib
theorem valid_sm {c : Cl} (h : validF c = true) : Sm c := by
  have h1 := valid_sch h
  have h2 := valid_cuts h
  have h3 := (fracF_iff.1 (valid_dec h)).1
  have h4 := restF_len (valid_rest h)
  refine ⟨?_, by omega, ?_, fun x hx => by have := cutF_len (h2 x hx); omega, by omega⟩
  · rcases h1 with h1 | h1
    · omega
    · rw [h1.2.1]; simp
  · rcases h1 with h1 | h1 <;> omega
end Cn
namespace Go.Proofs.YtnmlpohhommagaaGreatDoor
open Go Go.Am Cn Lst
set_option linter.unusedVariables false
set_option maxRecDepth 100000

theorem numF_len {c : Cl} (h : validF c = true) : (numF c).length ≤ 30 := by
  have h0 := valid_num h
  unfold numF
  have h1 := dec_len (u := 1000 + c.num.toNat) (by omega)
  have h2 := dec_len (u := c.num.toNat) (by omega)
  rcases valid_sch h with h3 | h3
  · rw [if_neg (by omega), List.length_append]; omega
  · rw [if_pos h3.1, List.length_drop]; omega

set_option maxRecDepth 100000 in
set_option maxHeartbeats 8000000 in
theorem textP_ok (c : Cl) (tg : Tag) (hv : validF c = true) (H : List Blk) (T : Toks) (hG : Gl H 5 isPow) :
    ACall Tryz.prog 42 [.agg (clAV c tg)] H T (Is (.str (textF c)) H T) := by
  refine callCl1 tg ?_
  refine ACall.drop' ?_ (by simp)
  have h0 := valid_num hv
  have hn := numF_len hv
  have hcl := cutsT_len (valid_cuts hv)
  have hck : c.cut.length ≤ 3 := by rcases valid_sch hv with h | h <;> omega
  have hdl := (fracF_iff.1 (valid_dec hv)).1
  have hrl := restF_len (valid_rest hv)
  have hyv := valid_yr hv
  have hsc : c.sch = 1 ∨ c.sch = 2 := by rcases valid_sch hv with h | h <;> simp [h.1]
  have hd2 : c.sch = 2 → c.num ≤ 999 := by
    intro h
    rcases valid_sch hv with h1 | h1 <;> omega
  have hcls : c.cls.length ≤ 3 := by
    rcases valid_sch hv with h | h
    · omega
    · rw [h.2.1]; simp
  have hcx := fun i (h : i < c.cut.length) => cutF_len (valid_cuts hv _ (memL h))
  have hsu := cutsT_succ c
  have hlen := strs_len c.cut
  have hat := fun i h => strs_at (l := c.cut) (i := i) h
  have hb : ∀ n t, BelowAll n t (strs c.cut) := fun n t => by simp
  have ci := fun (v : Nat) (hv : v ≤ 100000) => itoa_ok (v : Int) (by omega) (by omega) (H ++ [.cells (clAV c .none)]) T (hG.app _)
  have hit : ∀ v : Nat, Lib.itoa (v : Int) = Lib.decDigits v := fun v => by unfold Lib.itoa; rw [if_neg (by omega)]; simp
  simp only [hit] at ci
  have hcT : cutsT c 0 = [] := rfl
  have hcut : ∀ i x, cutT c i x = if i = 0 ∧ c.sch = 1 then 46 :: x else x := fun _ _ => rfl
  clear hG
  generalize hF : textF c = F
  unfold textF at hF
  generalize hC : cutsT c = C at *
  generalize hCT : cutT c = CT at *
  unfold numF at *
  unfold decT yrT restT at hF
  clear hC hCT
  obtain ⟨sch, cls, num, dec, cut, yr, rest⟩ := c
  simp only [clAV] at *
  generalize strs cut = S at *
  obtain ⟨u, rfl⟩ : ∃ u : Nat, num = (u : Int) := ⟨num.toNat, by omega⟩
  rw [Int.toNat_natCast] at *
  refine acall_enter 32 [] Tryz.ntmps42 Tryz.func42 rfl (fun _ _ => Tryz.call42 _ _) (by simp) (fun HO => ?_)
  have HO1 : HOk (H ++ [.cells [.int .i64 sch, .str cls, .int .i64 (u : Nat), .str dec, .sl cut.length S .none, .int .i64 yr, .str rest]]) T := HO.snoc (by simp [hb])
  refine aw_reg fun K hK => ?_; simp (maxSteps := 1000000) (disch := omega) [-List.getD_eq_getElem?_getD]; refine hK _ ?_; clear hK K
  have ci1 := ci u (by omega)
  have hul := dec_len (u := u) (by omega)
  refine aw_draw [] [] [] drawMixed (by kernel_rfl) (by kernel_rfl) fun K hK => ?_; simp (maxSteps := 1000000) (disch := omega) [-List.getD_eq_getElem?_getD]
  refine dcall_is (ci1) rfl ?_; simp (maxSteps := 1000000) (disch := omega) [-List.getD_eq_getElem?_getD]
  refine hK _ ?_; clear hK K
  refine aw_then fun K1 hK1 => ?_
  have f2 : ∀ e A, A = (if sch = 2 then (Lib.decDigits (1000 + u)).drop 1 else cls ++ Lib.decDigits u) → envLe (H.length + 1) T.length e [(1, .ptr H.length 0), (3, .str A)] → K1 ⟨e, H ++ [.cells [.int .i64 sch, .str cls, .int .i64 (u : Nat), .str dec, .sl cut.length S .none, .int .i64 yr, .str rest]], T⟩ := by
    intro e A hA he
    rw [← hA] at hF hn
    refine hK1 _ (aw_weak ⟨[(1, .ptr H.length 0), (3, .str A)], H ++ [.cells [.int .i64 sch, .str cls, .int .i64 (u : Nat), .str dec, .sl cut.length S .none, .int .i64 yr, .str rest]], T⟩ (weak_to [] [] (by simp) (by simp) (by simp) (by simp) HO1 (by simpa using he)) ?_)
    clear hA hK1 he ci1
    refine aw_then fun K2 hK2 => ?_
    have f3 : ∀ e B, B = A ++ (if dec = [] then [] else 46 :: dec) → envLe (H.length + 1) T.length e [(1, .ptr H.length 0), (3, .str B)] → K2 ⟨e, H ++ [.cells [.int .i64 sch, .str cls, .int .i64 (u : Nat), .str dec, .sl cut.length S .none, .int .i64 yr, .str rest]], T⟩ := by
      intro e B hB he
      rw [← hB] at hF
      have hBl : B.length ≤ 40 := by rw [hB, List.length_append]; split <;> simp <;> omega
      refine hK2 _ (aw_weak ⟨[(1, .ptr H.length 0), (3, .str B)], H ++ [.cells [.int .i64 sch, .str cls, .int .i64 (u : Nat), .str dec, .sl cut.length S .none, .int .i64 yr, .str rest]], T⟩ (weak_to [] [] (by simp) (by simp) (by simp) (by simp) HO1 (by simpa using he)) ?_)
      clear hB hK2 he
      refine aw_then fun K3 hK3 => ?_
      have f4 : ∀ e D, D = B ++ C cut.length → envLe (H.length + 1) T.length e [(1, .ptr H.length 0), (3, .str D)] → K3 ⟨e, H ++ [.cells [.int .i64 sch, .str cls, .int .i64 (u : Nat), .str dec, .sl cut.length S .none, .int .i64 yr, .str rest]], T⟩ := by
        intro e D hD he
        rw [← hD] at hF
        have hDl : D.length ≤ 70 := by
          have := hcl cut.length (Nat.le_refl _)
          rw [hD, List.length_append]; omega
        refine hK3 _ (aw_weak ⟨[(1, .ptr H.length 0), (3, .str D)], H ++ [.cells [.int .i64 sch, .str cls, .int .i64 (u : Nat), .str dec, .sl cut.length S .none, .int .i64 yr, .str rest]], T⟩ (weak_to [] [] (by simp) (by simp) (by simp) (by simp) HO1 (by simpa using he)) ?_)
        clear hD hK3 he
        refine aw_then fun K4 hK4 => ?_
        have f5 : ∀ e E, E = D ++ (if yr = 0 then [] else 32 :: Lib.decDigits yr.toNat) → envLe (H.length + 1) T.length e [(1, .ptr H.length 0), (3, .str E)] → K4 ⟨e, H ++ [.cells [.int .i64 sch, .str cls, .int .i64 (u : Nat), .str dec, .sl cut.length S .none, .int .i64 yr, .str rest]], T⟩ := by
          intro e E hE he
          rw [← hE] at hF
          have hEl : E.length ≤ 100 := by
            have := dec_len (u := yr.toNat) (by omega)
            rw [hE, List.length_append]; split <;> simp <;> omega
          refine hK4 _ (aw_weak ⟨[(1, .ptr H.length 0), (3, .str E)], H ++ [.cells [.int .i64 sch, .str cls, .int .i64 (u : Nat), .str dec, .sl cut.length S .none, .int .i64 yr, .str rest]], T⟩ (weak_to [] [] (by simp) (by simp) (by simp) (by simp) HO1 (by simpa using he)) ?_)
          clear hE hK4 he
          refine aw_then fun K5 hK5 => ?_
          by_cases g : rest = []
          · subst g
            rw [if_pos rfl, List.append_nil] at hF
            subst hF
            refine aw_reg fun K hK => ?_; simp (maxSteps := 1000000) (disch := omega) [-List.getD_eq_getElem?_getD]; refine hK _ ?_; clear hK K
            refine aw_if rfl (fun h => absurd h (by simp)) (fun h => ?_)
            refine aw_skip ?_; simp (maxSteps := 1000000) (disch := omega) [-List.getD_eq_getElem?_getD]
            refine hK5 _ ?_; clear hK5
            refine aw_reg fun K hK => ?_; simp (maxSteps := 1000000) (disch := omega) [-List.getD_eq_getElem?_getD]; refine hK _ ?_; clear hK K
            refine aw_ret ?_; simp (maxSteps := 1000000) (disch := omega) [-List.getD_eq_getElem?_getD]
          · have b : (rest != []) = true := bne_iff_ne.2 g
            rw [if_neg g] at hF
            subst hF
            refine aw_reg fun K hK => ?_; simp (maxSteps := 1000000) (disch := omega) [-List.getD_eq_getElem?_getD]; refine hK _ ?_; clear hK K
            refine aw_if rfl (fun h => ?_) (fun h => absurd h (by simp [g]))
            refine aw_reg0 fun K hK => ?_; simp (maxSteps := 1000000) (disch := omega) [-List.getD_eq_getElem?_getD]; refine hK _ ?_; clear hK K
            refine hK5 _ ?_; clear hK5
            refine aw_reg fun K hK => ?_; simp (maxSteps := 1000000) (disch := omega) [-List.getD_eq_getElem?_getD]; refine hK _ ?_; clear hK K
            refine aw_ret ?_; simp (maxSteps := 1000000) (disch := omega) [-List.getD_eq_getElem?_getD]
        by_cases g : yr = 0
        · subst g
          refine aw_reg fun K hK => ?_; simp (maxSteps := 1000000) (disch := omega) [-List.getD_eq_getElem?_getD]; refine hK _ ?_; clear hK K
          refine aw_if rfl (fun h => absurd h (by simp)) (fun h => ?_)
          refine aw_skip ?_; simp (maxSteps := 1000000) (disch := omega) [-List.getD_eq_getElem?_getD]
          refine f5 _ D (by simp) ?_
          simp
        · have b : (yr != 0) = true := bne_iff_ne.2 g
          obtain ⟨y, rfl⟩ : ∃ y : Nat, yr = (y : Int) := ⟨yr.toNat, by omega⟩
          rw [Int.toNat_natCast] at *
          have ci1 := ci y (by omega)
          have hyl := dec_len (u := y) (by omega)
          generalize Lib.decDigits y = Y at *
          refine aw_reg fun K hK => ?_; simp (maxSteps := 1000000) (disch := omega) [-List.getD_eq_getElem?_getD, b]; refine hK _ ?_; clear hK K
          refine aw_if rfl (fun h => ?_) (fun h => absurd h (by simp))
          refine aw_reg0 fun K hK => ?_; simp (maxSteps := 1000000) (disch := omega) [-List.getD_eq_getElem?_getD]
          refine acall_is (ci1) ?_; simp (maxSteps := 1000000) (disch := omega) [-List.getD_eq_getElem?_getD]
          refine hK _ ?_; clear hK K
          refine f5 _ (D ++ 32 :: Y) (by rw [if_neg g]) ?_
          simp
      clear hF
      refine aw_reg fun K hK => ?_; simp (maxSteps := 1000000) (disch := omega) [-List.getD_eq_getElem?_getD]; refine hK _ ?_; clear hK K
      refine aw_block ?_
      refine aw_loop (X := Nat) (fun i => ⟨[(1, .ptr H.length 0), (3, .str (B ++ C i)), (29, .sl cut.length S .none), (30, .int .i64 (cut.length : Nat)), (31, .int .i64 (i : Nat))], H ++ [.cells [.int .i64 sch, .str cls, .int .i64 (u : Nat), .str dec, .sl cut.length S .none, .int .i64 yr, .str rest]], T⟩) (fun i => i ≤ cut.length) (fun i => cut.length - i) 0 ?_ ?_ ?_
      · exact Nat.zero_le _
      · refine weak_to [] [] ?_ ?_ ?_ ?_ HO1 ?_
        all_goals simp [hb, hcT]
      · rintro i h1
        refine aw_reg fun K hK => ?_; simp (maxSteps := 1000000) (disch := omega) [-List.getD_eq_getElem?_getD]; refine hK _ ?_; clear hK K
        refine aw_then fun K4 hK4 => ?_
        refine aw_if rfl (fun hk => ?_) (fun hk => ?_)
        · simp [-List.getD_eq_getElem?_getD] at hk
          have ha := hat i hk
          have hiS : i < S.length := by omega
          have hxl := hcx i hk
          have hci := hcl i h1
          have hs := hsu i
          rw [hcut] at hs
          refine aw_skip ?_; simp (maxSteps := 1000000) (disch := omega) [-List.getD_eq_getElem?_getD]
          refine hK4 _ ?_; clear hK4
          refine aw_then fun K5 hK5 => ?_
          refine aw_block ?_
          generalize cut.getD i [] = x at *
          generalize C i = Ci at *
          have fin : ∀ e Z, Z = B ++ (Ci ++ 32 :: (if i = 0 ∧ sch = 1 then 46 :: x else x)) → envLe (H.length + 1) T.length e [(1, .ptr H.length 0), (3, .str (Z)), (29, .sl cut.length S .none), (30, .int .i64 (cut.length : Nat)), (31, .int .i64 (i : Nat))] → K5 ⟨e, H ++ [.cells [.int .i64 sch, .str cls, .int .i64 (u : Nat), .str dec, .sl cut.length S .none, .int .i64 yr, .str rest]], T⟩ := by
            intro e Z hZ he
            rw [← hs] at hZ
            subst hZ
            refine hK5 _ (aw_weak ⟨[(1, .ptr H.length 0), (3, .str (B ++ C (i + 1))), (29, .sl cut.length S .none), (30, .int .i64 (cut.length : Nat)), (31, .int .i64 (i : Nat))], H ++ [.cells [.int .i64 sch, .str cls, .int .i64 (u : Nat), .str dec, .sl cut.length S .none, .int .i64 yr, .str rest]], T⟩ (weak_to [] [] (by simp) (by simp) (by simp) (by simp) HO1 (by simpa using he)) ?_)
            refine aw_reg0 fun K hK => ?_; simp (maxSteps := 1000000) (disch := omega) [-List.getD_eq_getElem?_getD]
            refine hK _ ?_; clear hK K
            refine ⟨i + 1, by show i + 1 ≤ _; omega, by show cut.length - (i + 1) < cut.length - i; omega, ?_⟩
            refine weak_to [] [] ?_ ?_ ?_ ?_ HO1 ?_
            all_goals simp [hb]
          clear hK5 hs
          refine aw_reg fun K hK => ?_; simp (maxSteps := 1000000) (disch := omega) [-List.getD_eq_getElem?_getD, ha, hlen]; refine hK _ ?_; clear hK K
          refine aw_then fun K6 hK6 => ?_
          by_cases g1 : i = 0
          · subst g1
            rcases hsc with rfl | rfl
            · refine aw_reg fun K hK => ?_; simp (maxSteps := 1000000) (disch := omega) [-List.getD_eq_getElem?_getD]; refine hK _ ?_; clear hK K
              refine aw_if rfl (fun h => ?_) (fun h => absurd h (by simp))
              refine aw_reg0 fun K hK => ?_; simp (maxSteps := 1000000) (disch := omega) [-List.getD_eq_getElem?_getD]; refine hK _ ?_; clear hK K
              refine hK6 _ ?_; clear hK6
              refine aw_reg0 fun K hK => ?_; simp (maxSteps := 1000000) (disch := omega) [-List.getD_eq_getElem?_getD]
              refine hK _ ?_; clear hK K
              refine fin _ (B ++ (Ci ++ 32 :: 46 :: x)) (by simp) ?_
              simp [hb]
            · refine aw_reg fun K hK => ?_; simp (maxSteps := 1000000) (disch := omega) [-List.getD_eq_getElem?_getD]; refine hK _ ?_; clear hK K
              refine aw_if rfl (fun h => absurd h (by simp)) (fun h => ?_)
              refine aw_skip ?_; simp (maxSteps := 1000000) (disch := omega) [-List.getD_eq_getElem?_getD]
              refine hK6 _ ?_; clear hK6
              refine aw_reg0 fun K hK => ?_; simp (maxSteps := 1000000) (disch := omega) [-List.getD_eq_getElem?_getD]
              refine hK _ ?_; clear hK K
              refine fin _ (B ++ (Ci ++ 32 :: x)) (by simp) ?_
              simp [hb]
          · have b1 : ((i : Int) == 0) = false := beq_eq_false_iff_ne.2 (by omega)
            refine aw_reg fun K hK => ?_; simp (maxSteps := 1000000) (disch := omega) [-List.getD_eq_getElem?_getD, b1]; refine hK _ ?_; clear hK K
            refine aw_if rfl (fun h => absurd h (by simp)) (fun h => ?_)
            refine aw_skip ?_; simp (maxSteps := 1000000) (disch := omega) [-List.getD_eq_getElem?_getD]
            refine hK6 _ ?_; clear hK6
            refine aw_reg0 fun K hK => ?_; simp (maxSteps := 1000000) (disch := omega) [-List.getD_eq_getElem?_getD]
            refine hK _ ?_; clear hK K
            refine fin _ (B ++ (Ci ++ 32 :: x)) (by simp [g1]) ?_
            simp [hb]
        · simp [-List.getD_eq_getElem?_getD] at hk
          have e : i = cut.length := by omega
          subst e
          refine aw_exit ?_; simp (maxSteps := 1000000) (disch := omega) [-List.getD_eq_getElem?_getD]
          refine f4 _ _ rfl ?_
          simp
    clear hF
    by_cases g : dec = []
    · subst g
      refine aw_reg fun K hK => ?_; simp (maxSteps := 1000000) (disch := omega) [-List.getD_eq_getElem?_getD]; refine hK _ ?_; clear hK K
      refine aw_if rfl (fun h => absurd h (by simp)) (fun h => ?_)
      refine aw_skip ?_; simp (maxSteps := 1000000) (disch := omega) [-List.getD_eq_getElem?_getD]
      refine f3 _ A (by simp) ?_
      simp
    · have b : (dec != []) = true := bne_iff_ne.2 g
      refine aw_reg fun K hK => ?_; simp (maxSteps := 1000000) (disch := omega) [-List.getD_eq_getElem?_getD]; refine hK _ ?_; clear hK K
      refine aw_if rfl (fun h => ?_) (fun h => absurd h (by simp [g]))
      refine aw_reg0 fun K hK => ?_; simp (maxSteps := 1000000) (disch := omega) [-List.getD_eq_getElem?_getD]
      refine hK _ ?_; clear hK K
      refine f3 _ (A ++ 46 :: dec) (by rw [if_neg g]) ?_
      simp
  clear hF
  rcases hsc with rfl | rfl
  · refine aw_reg fun K hK => ?_; simp (maxSteps := 1000000) (disch := omega) [-List.getD_eq_getElem?_getD]; refine hK _ ?_; clear hK K
    refine aw_if rfl (fun h => absurd h (by simp)) (fun h => ?_)
    refine aw_skip ?_; simp (maxSteps := 1000000) (disch := omega) [-List.getD_eq_getElem?_getD]
    refine f2 _ _ (by rw [if_neg (by decide)]) ?_
    simp
  · have hu := hd2 rfl
    have ci2 := ci (1000 + u) (by omega)
    have hl1 := dec_len (u := 1000 + u) (by omega)
    have hl2 : 1 ≤ (Lib.decDigits (1000 + u)).length := by
      rw [Lib.decDigits, dif_neg (by omega), List.length_append]; simp
    have hcu : ((Lib.decDigits (1000 + u)).drop 1).take ((Lib.decDigits (1000 + u)).length - 1) = (Lib.decDigits (1000 + u)).drop 1 := List.take_of_length_le (by rw [List.length_drop]; omega)
    rw [Int.natCast_add, show ((1000 : Nat) : Int) = 1000 from rfl] at ci2
    generalize Lib.decDigits (1000 + u) = W at *
    refine aw_reg fun K hK => ?_; simp (maxSteps := 1000000) (disch := omega) [-List.getD_eq_getElem?_getD]; refine hK _ ?_; clear hK K
    refine aw_if rfl (fun h => ?_) (fun h => absurd h (by simp))
    refine aw_reg0 fun K hK => ?_; simp (maxSteps := 1000000) (disch := omega) [-List.getD_eq_getElem?_getD]
    refine acall_is (ci2) ?_; simp (maxSteps := 1000000) (disch := omega) [-List.getD_eq_getElem?_getD, hl2]
    refine hK _ ?_; clear hK K
    refine f2 _ _ (by rw [if_pos rfl]) ?_
    have hct : List.take (W.length - 1) W.tail = W.tail := List.take_of_length_le (by simp)
    simp [hct]

set_option maxRecDepth 100000 in
set_option maxHeartbeats 8000000 in
theorem printR_ok (c : Cl) (tg : Tag) (hc : Sm c) (H : List Blk) (T : Toks) :
    ACall Tryz.prog 20 [.agg (clAV c tg)] H T (Is (.tup [.str (printF c).1, .int .i64 (printF c).2]) H T) := by
  refine callCl1 tg ?_
  refine ACall.dropT ?_ (by simp)
  have cv := validR_ok c .none hc (H ++ [.cells (clAV c .none)]) T
  unfold printF
  cases hv : validF c with
  | false =>
    rw [hv] at cv
    rw [if_neg (by simp)]
    have hb : ∀ n t, BelowAll n t (strs c.cut) := fun n t => by simp
    obtain ⟨sch, cls, num, dec, cut, yr, rest⟩ := c
    simp only [clAV] at *
    generalize strs cut = S at *
    refine acall_enter 6 [] Tryz.ntmps20 Tryz.func20 rfl (fun _ _ => Tryz.call20 _ _) (by simp) (fun HO => ?_)
    refine aw_reg fun K hK => ?_; simp (maxSteps := 1000000) (disch := omega) [-List.getD_eq_getElem?_getD]; refine hK _ ?_; clear hK K
    refine aw_then fun K1 hK1 => ?_
    refine aw_reg fun K hK => ?_; simp (maxSteps := 1000000) (disch := omega) [-List.getD_eq_getElem?_getD]
    refine acall_is (cv) ?_; simp (maxSteps := 1000000) (disch := omega) [-List.getD_eq_getElem?_getD]
    refine hK _ ?_; clear hK K
    refine aw_if rfl (fun h => ?_) (fun h => absurd h (by simp))
    refine aw_reg fun K hK => ?_; simp (maxSteps := 1000000) (disch := omega) [-List.getD_eq_getElem?_getD]; refine hK _ ?_; clear hK K
    refine aw_ret ?_; simp (maxSteps := 1000000) (disch := omega) [-List.getD_eq_getElem?_getD]
  | true =>
  rw [hv] at cv
  rw [if_pos rfl]
  have h0 := valid_num hv
  have hn := numF_len hv
  have hcl := cutsT_len (valid_cuts hv)
  have hck : c.cut.length ≤ 3 := by rcases valid_sch hv with h | h <;> omega
  have hdl := (fracF_iff.1 (valid_dec hv)).1
  have hrl := restF_len (valid_rest hv)
  have hyv := valid_yr hv
  have hsc : c.sch = 1 ∨ c.sch = 2 := by rcases valid_sch hv with h | h <;> simp [h.1]
  have hd2 : c.sch = 2 → c.num ≤ 999 := by
    intro h
    rcases valid_sch hv with h1 | h1 <;> omega
  have hcls : c.cls.length ≤ 3 := by
    rcases valid_sch hv with h | h
    · omega
    · rw [h.2.1]; simp
  have hcx := fun i (h : i < c.cut.length) => cutF_len (valid_cuts hv _ (memL h))
  have hsu := cutsT_succ c
  have hlen := strs_len c.cut
  have hat := fun i h => strs_at (l := c.cut) (i := i) h
  have hb : ∀ n t, BelowAll n t (strs c.cut) := fun n t => by simp
  have cd := fun (v n : Nat) (hv : v ≤ 9999) (hn : n ≤ 10) => decimalR_ok v n hv hn (H ++ [.cells (clAV c .none)]) T
  have hcT : cutsT c 0 = [] := rfl
  have hcut : ∀ i x, cutT c i x = if i = 0 ∧ c.sch = 1 then 46 :: x else x := fun _ _ => rfl
  generalize hF : textF c = F
  unfold textF at hF
  generalize hC : cutsT c = C at *
  generalize hCT : cutT c = CT at *
  unfold numF at *
  unfold decT yrT restT at hF
  clear hC hCT
  obtain ⟨sch, cls, num, dec, cut, yr, rest⟩ := c
  simp only [clAV] at *
  generalize strs cut = S at *
  obtain ⟨u, rfl⟩ : ∃ u : Nat, num = (u : Int) := ⟨num.toNat, by omega⟩
  rw [Int.toNat_natCast] at *
  refine acall_enter 6 [] Tryz.ntmps20 Tryz.func20 rfl (fun _ _ => Tryz.call20 _ _) (by simp) (fun HO => ?_)
  have HO1 : HOk (H ++ [.cells [.int .i64 sch, .str cls, .int .i64 (u : Nat), .str dec, .sl cut.length S .none, .int .i64 yr, .str rest]]) T := HO.snoc (by simp [hb])
  refine aw_reg fun K hK => ?_; simp (maxSteps := 1000000) (disch := omega) [-List.getD_eq_getElem?_getD]; refine hK _ ?_; clear hK K
  refine aw_then fun K1 hK1 => ?_
  refine aw_reg fun K hK => ?_; simp (maxSteps := 1000000) (disch := omega) [-List.getD_eq_getElem?_getD]
  refine acall_is (cv) ?_; simp (maxSteps := 1000000) (disch := omega) [-List.getD_eq_getElem?_getD]
  refine hK _ ?_; clear hK K
  refine aw_if rfl (fun h => absurd h (by simp)) (fun h => ?_)
  refine aw_skip ?_; simp (maxSteps := 1000000) (disch := omega) [-List.getD_eq_getElem?_getD]
  refine hK1 _ ?_; clear hK1
  have cd1 := cd u 1 (by omega) (by omega)
  rw [decN_one] at cd1
  have hul := dec_len (u := u) (by omega)
  refine aw_draw [] [] [] drawMixed (by kernel_rfl) (by kernel_rfl) fun K hK => ?_; simp (maxSteps := 1000000) (disch := omega) [-List.getD_eq_getElem?_getD]
  refine dcall_is (cd1) rfl ?_; simp (maxSteps := 1000000) (disch := omega) [-List.getD_eq_getElem?_getD]
  refine hK _ ?_; clear hK K
  refine aw_then fun K1 hK1 => ?_
  have f2 : ∀ e A, A = (if sch = 2 then (Lib.decDigits (1000 + u)).drop 1 else cls ++ Lib.decDigits u) → envLe (H.length + 1) T.length e [(1, .ptr H.length 0), (4, .str A)] → K1 ⟨e, H ++ [.cells [.int .i64 sch, .str cls, .int .i64 (u : Nat), .str dec, .sl cut.length S .none, .int .i64 yr, .str rest]], T⟩ := by
    intro e A hA he
    rw [← hA] at hF hn
    refine hK1 _ (aw_weak ⟨[(1, .ptr H.length 0), (4, .str A)], H ++ [.cells [.int .i64 sch, .str cls, .int .i64 (u : Nat), .str dec, .sl cut.length S .none, .int .i64 yr, .str rest]], T⟩ (weak_to [] [] (by simp) (by simp) (by simp) (by simp) HO1 (by simpa using he)) ?_)
    clear hA hK1 he cd1
    refine aw_then fun K2 hK2 => ?_
    have f3 : ∀ e B, B = A ++ (if dec = [] then [] else 46 :: dec) → envLe (H.length + 1) T.length e [(1, .ptr H.length 0), (4, .str B)] → K2 ⟨e, H ++ [.cells [.int .i64 sch, .str cls, .int .i64 (u : Nat), .str dec, .sl cut.length S .none, .int .i64 yr, .str rest]], T⟩ := by
      intro e B hB he
      rw [← hB] at hF
      have hBl : B.length ≤ 40 := by rw [hB, List.length_append]; split <;> simp <;> omega
      refine hK2 _ (aw_weak ⟨[(1, .ptr H.length 0), (4, .str B)], H ++ [.cells [.int .i64 sch, .str cls, .int .i64 (u : Nat), .str dec, .sl cut.length S .none, .int .i64 yr, .str rest]], T⟩ (weak_to [] [] (by simp) (by simp) (by simp) (by simp) HO1 (by simpa using he)) ?_)
      clear hB hK2 he
      refine aw_then fun K3 hK3 => ?_
      have f4 : ∀ e D, D = B ++ C cut.length → envLe (H.length + 1) T.length e [(1, .ptr H.length 0), (4, .str D)] → K3 ⟨e, H ++ [.cells [.int .i64 sch, .str cls, .int .i64 (u : Nat), .str dec, .sl cut.length S .none, .int .i64 yr, .str rest]], T⟩ := by
        intro e D hD he
        rw [← hD] at hF
        have hDl : D.length ≤ 70 := by
          have := hcl cut.length (Nat.le_refl _)
          rw [hD, List.length_append]; omega
        refine hK3 _ (aw_weak ⟨[(1, .ptr H.length 0), (4, .str D)], H ++ [.cells [.int .i64 sch, .str cls, .int .i64 (u : Nat), .str dec, .sl cut.length S .none, .int .i64 yr, .str rest]], T⟩ (weak_to [] [] (by simp) (by simp) (by simp) (by simp) HO1 (by simpa using he)) ?_)
        clear hD hK3 he
        refine aw_then fun K4 hK4 => ?_
        have f5 : ∀ e E, E = D ++ (if yr = 0 then [] else 32 :: Lib.decDigits yr.toNat) → envLe (H.length + 1) T.length e [(1, .ptr H.length 0), (4, .str E)] → K4 ⟨e, H ++ [.cells [.int .i64 sch, .str cls, .int .i64 (u : Nat), .str dec, .sl cut.length S .none, .int .i64 yr, .str rest]], T⟩ := by
          intro e E hE he
          rw [← hE] at hF
          have hEl : E.length ≤ 100 := by
            have := dec_len (u := yr.toNat) (by omega)
            rw [hE, List.length_append]; split <;> simp <;> omega
          refine hK4 _ (aw_weak ⟨[(1, .ptr H.length 0), (4, .str E)], H ++ [.cells [.int .i64 sch, .str cls, .int .i64 (u : Nat), .str dec, .sl cut.length S .none, .int .i64 yr, .str rest]], T⟩ (weak_to [] [] (by simp) (by simp) (by simp) (by simp) HO1 (by simpa using he)) ?_)
          clear hE hK4 he
          refine aw_then fun K5 hK5 => ?_
          by_cases g : rest = []
          · subst g
            rw [if_pos rfl, List.append_nil] at hF
            subst hF
            refine aw_reg fun K hK => ?_; simp (maxSteps := 1000000) (disch := omega) [-List.getD_eq_getElem?_getD]; refine hK _ ?_; clear hK K
            refine aw_if rfl (fun h => absurd h (by simp)) (fun h => ?_)
            refine aw_skip ?_; simp (maxSteps := 1000000) (disch := omega) [-List.getD_eq_getElem?_getD]
            refine hK5 _ ?_; clear hK5
            refine aw_reg fun K hK => ?_; simp (maxSteps := 1000000) (disch := omega) [-List.getD_eq_getElem?_getD]; refine hK _ ?_; clear hK K
            refine aw_ret ?_; simp (maxSteps := 1000000) (disch := omega) [-List.getD_eq_getElem?_getD]
          · have b : (rest != []) = true := bne_iff_ne.2 g
            rw [if_neg g] at hF
            subst hF
            refine aw_reg fun K hK => ?_; simp (maxSteps := 1000000) (disch := omega) [-List.getD_eq_getElem?_getD]; refine hK _ ?_; clear hK K
            refine aw_if rfl (fun h => ?_) (fun h => absurd h (by simp [g]))
            refine aw_reg0 fun K hK => ?_; simp (maxSteps := 1000000) (disch := omega) [-List.getD_eq_getElem?_getD]; refine hK _ ?_; clear hK K
            refine hK5 _ ?_; clear hK5
            refine aw_reg fun K hK => ?_; simp (maxSteps := 1000000) (disch := omega) [-List.getD_eq_getElem?_getD]; refine hK _ ?_; clear hK K
            refine aw_ret ?_; simp (maxSteps := 1000000) (disch := omega) [-List.getD_eq_getElem?_getD]
        by_cases g : yr = 0
        · subst g
          refine aw_reg fun K hK => ?_; simp (maxSteps := 1000000) (disch := omega) [-List.getD_eq_getElem?_getD]; refine hK _ ?_; clear hK K
          refine aw_if rfl (fun h => absurd h (by simp)) (fun h => ?_)
          refine aw_skip ?_; simp (maxSteps := 1000000) (disch := omega) [-List.getD_eq_getElem?_getD]
          refine f5 _ D (by simp) ?_
          simp
        · have b : (yr != 0) = true := bne_iff_ne.2 g
          obtain ⟨y, rfl⟩ : ∃ y : Nat, yr = (y : Int) := ⟨yr.toNat, by omega⟩
          rw [Int.toNat_natCast] at *
          have cd1 := cd y 4 (by omega) (by omega)
          rw [decN_ge 3 y (by omega), show ((4 : Nat) : Int) = 4 from rfl] at cd1
          have hyl := dec_len (u := y) (by omega)
          generalize Lib.decDigits y = Y at *
          refine aw_reg fun K hK => ?_; simp (maxSteps := 1000000) (disch := omega) [-List.getD_eq_getElem?_getD, b]; refine hK _ ?_; clear hK K
          refine aw_if rfl (fun h => ?_) (fun h => absurd h (by simp))
          refine aw_reg0 fun K hK => ?_; simp (maxSteps := 1000000) (disch := omega) [-List.getD_eq_getElem?_getD]
          refine acall_is (cd1) ?_; simp (maxSteps := 1000000) (disch := omega) [-List.getD_eq_getElem?_getD]
          refine hK _ ?_; clear hK K
          refine f5 _ (D ++ 32 :: Y) (by rw [if_neg g]) ?_
          simp
      clear hF
      refine aw_reg fun K hK => ?_; simp (maxSteps := 1000000) (disch := omega) [-List.getD_eq_getElem?_getD]; refine hK _ ?_; clear hK K
      refine aw_block ?_
      refine aw_loop (X := Nat) (fun i => ⟨[(1, .ptr H.length 0), (4, .str (B ++ C i)), (5, .int .i64 (i : Nat))], H ++ [.cells [.int .i64 sch, .str cls, .int .i64 (u : Nat), .str dec, .sl cut.length S .none, .int .i64 yr, .str rest]], T⟩) (fun i => i ≤ cut.length) (fun i => cut.length - i) 0 ?_ ?_ ?_
      · exact Nat.zero_le _
      · refine weak_to [] [] ?_ ?_ ?_ ?_ HO1 ?_
        all_goals simp [hcT]
      · rintro i h1
        refine aw_then fun K4 hK4 => ?_
        refine aw_reg fun K hK => ?_; simp (maxSteps := 1000000) (disch := omega) [-List.getD_eq_getElem?_getD]; refine hK _ ?_; clear hK K
        refine aw_if rfl (fun hk => ?_) (fun hk => ?_)
        · simp [-List.getD_eq_getElem?_getD] at hk
          have ha := hat i hk
          have hiS : i < S.length := by omega
          have hxl := hcx i hk
          have hci := hcl i h1
          have hs := hsu i
          rw [hcut] at hs
          refine aw_skip ?_; simp (maxSteps := 1000000) (disch := omega) [-List.getD_eq_getElem?_getD]
          refine hK4 _ ?_; clear hK4
          refine aw_then fun K5 hK5 => ?_
          refine aw_block ?_
          generalize cut.getD i [] = x at *
          generalize C i = Ci at *
          have fin : ∀ e Z, Z = B ++ (Ci ++ 32 :: (if i = 0 ∧ sch = 1 then 46 :: x else x)) → envLe (H.length + 1) T.length e [(1, .ptr H.length 0), (4, .str (Z)), (5, .int .i64 (i : Nat))] → K5 ⟨e, H ++ [.cells [.int .i64 sch, .str cls, .int .i64 (u : Nat), .str dec, .sl cut.length S .none, .int .i64 yr, .str rest]], T⟩ := by
            intro e Z hZ he
            rw [← hs] at hZ
            subst hZ
            refine hK5 _ (aw_weak ⟨[(1, .ptr H.length 0), (4, .str (B ++ C (i + 1))), (5, .int .i64 (i : Nat))], H ++ [.cells [.int .i64 sch, .str cls, .int .i64 (u : Nat), .str dec, .sl cut.length S .none, .int .i64 yr, .str rest]], T⟩ (weak_to [] [] (by simp) (by simp) (by simp) (by simp) HO1 (by simpa using he)) ?_)
            refine aw_reg0 fun K hK => ?_; simp (maxSteps := 1000000) (disch := omega) [-List.getD_eq_getElem?_getD]
            refine hK _ ?_; clear hK K
            refine ⟨i + 1, by show i + 1 ≤ _; omega, by show cut.length - (i + 1) < cut.length - i; omega, ?_⟩
            refine weak_to [] [] ?_ ?_ ?_ ?_ HO1 ?_
            all_goals simp
          clear hK5 hs
          refine aw_reg fun K hK => ?_; simp (maxSteps := 1000000) (disch := omega) [-List.getD_eq_getElem?_getD]; refine hK _ ?_; clear hK K
          refine aw_then fun K6 hK6 => ?_
          rcases hsc with rfl | rfl
          · by_cases g1 : i = 0
            · subst g1
              refine aw_reg fun K hK => ?_; simp (maxSteps := 1000000) (disch := omega) [-List.getD_eq_getElem?_getD]; refine hK _ ?_; clear hK K
              refine aw_if rfl (fun h => ?_) (fun h => absurd h (by simp))
              refine aw_reg0 fun K hK => ?_; simp (maxSteps := 1000000) (disch := omega) [-List.getD_eq_getElem?_getD]; refine hK _ ?_; clear hK K
              refine hK6 _ ?_; clear hK6
              refine aw_reg0 fun K hK => ?_; simp (maxSteps := 1000000) (disch := omega) [-List.getD_eq_getElem?_getD, ha, hlen]
              refine hK _ ?_; clear hK K
              refine fin _ (B ++ (Ci ++ 32 :: 46 :: x)) (by simp) ?_
              simp
            · have b1 : ((i : Int) == 0) = false := beq_eq_false_iff_ne.2 (by omega)
              refine aw_reg fun K hK => ?_; simp (maxSteps := 1000000) (disch := omega) [-List.getD_eq_getElem?_getD, b1]; refine hK _ ?_; clear hK K
              refine aw_if rfl (fun h => absurd h (by simp)) (fun h => ?_)
              refine aw_skip ?_; simp (maxSteps := 1000000) (disch := omega) [-List.getD_eq_getElem?_getD]
              refine hK6 _ ?_; clear hK6
              refine aw_reg0 fun K hK => ?_; simp (maxSteps := 1000000) (disch := omega) [-List.getD_eq_getElem?_getD, ha, hlen]
              refine hK _ ?_; clear hK K
              refine fin _ (B ++ (Ci ++ 32 :: x)) (by simp [g1]) ?_
              simp
          · refine aw_reg fun K hK => ?_; simp (maxSteps := 1000000) (disch := omega) [-List.getD_eq_getElem?_getD]; refine hK _ ?_; clear hK K
            refine aw_if rfl (fun h => absurd h (by simp)) (fun h => ?_)
            refine aw_skip ?_; simp (maxSteps := 1000000) (disch := omega) [-List.getD_eq_getElem?_getD]
            refine hK6 _ ?_; clear hK6
            refine aw_reg0 fun K hK => ?_; simp (maxSteps := 1000000) (disch := omega) [-List.getD_eq_getElem?_getD, ha, hlen]
            refine hK _ ?_; clear hK K
            refine fin _ (B ++ (Ci ++ 32 :: x)) (by simp) ?_
            simp
        · simp [-List.getD_eq_getElem?_getD] at hk
          have e : i = cut.length := by omega
          subst e
          refine aw_exit ?_; simp (maxSteps := 1000000) (disch := omega) [-List.getD_eq_getElem?_getD]
          refine f4 _ _ rfl ?_
          simp
    clear hF
    by_cases g : dec = []
    · subst g
      refine aw_reg fun K hK => ?_; simp (maxSteps := 1000000) (disch := omega) [-List.getD_eq_getElem?_getD]; refine hK _ ?_; clear hK K
      refine aw_if rfl (fun h => absurd h (by simp)) (fun h => ?_)
      refine aw_skip ?_; simp (maxSteps := 1000000) (disch := omega) [-List.getD_eq_getElem?_getD]
      refine f3 _ A (by simp) ?_
      simp
    · have b : (dec != []) = true := bne_iff_ne.2 g
      refine aw_reg fun K hK => ?_; simp (maxSteps := 1000000) (disch := omega) [-List.getD_eq_getElem?_getD]; refine hK _ ?_; clear hK K
      refine aw_if rfl (fun h => ?_) (fun h => absurd h (by simp [g]))
      refine aw_reg0 fun K hK => ?_; simp (maxSteps := 1000000) (disch := omega) [-List.getD_eq_getElem?_getD]
      refine hK _ ?_; clear hK K
      refine f3 _ (A ++ 46 :: dec) (by rw [if_neg g]) ?_
      simp
  clear hF
  rcases hsc with rfl | rfl
  · refine aw_reg fun K hK => ?_; simp (maxSteps := 1000000) (disch := omega) [-List.getD_eq_getElem?_getD]; refine hK _ ?_; clear hK K
    refine aw_if rfl (fun h => absurd h (by simp)) (fun h => ?_)
    refine aw_skip ?_; simp (maxSteps := 1000000) (disch := omega) [-List.getD_eq_getElem?_getD]
    refine f2 _ _ (by rw [if_neg (by decide)]) ?_
    simp
  · have hu := hd2 rfl
    have cd2 := cd u 3 (by omega) (by omega)
    rw [decN_three (by omega), show ((3 : Nat) : Int) = 3 from rfl] at cd2
    generalize (Lib.decDigits (1000 + u)).drop 1 = W at *
    refine aw_reg fun K hK => ?_; simp (maxSteps := 1000000) (disch := omega) [-List.getD_eq_getElem?_getD]; refine hK _ ?_; clear hK K
    refine aw_if rfl (fun h => ?_) (fun h => absurd h (by simp))
    refine aw_reg0 fun K hK => ?_; simp (maxSteps := 1000000) (disch := omega) [-List.getD_eq_getElem?_getD]
    refine acall_is (cd2) ?_; simp (maxSteps := 1000000) (disch := omega) [-List.getD_eq_getElem?_getD]
    refine hK _ ?_; clear hK K
    refine f2 _ _ (by rw [if_pos rfl]) ?_
    simp
end Go.Proofs.YtnmlpohhommagaaGreatDoor
