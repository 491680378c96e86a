/- Compacting; the inverse; exact mappings (layer 26), in plain Lean.
   Conditions: none. -/
import Derived.Test.YtfdlngemkhiiiaaDoorVComp
import Derived.Test.YtfdlngemkhiiiaaDoorVPl4
namespace Voc
/-- Without what equals the next one. -/
def cpt : List Mp → List Mp
  | [] => []
  | x :: r => if r.head? = some x then cpt r else x :: cpt r
theorem cpt_len (l : List Mp) : (cpt l).length ≤ l.length := by
  induction l with
  | nil => exact Nat.le_refl _
  | cons x r ih => unfold cpt; split <;> simp only [List.length_cons] <;> omega
theorem cpt_snoc : ∀ (l : List Mp) (x y : Mp), cpt (l ++ [x, y]) = if x = y then cpt (l ++ [x]) else cpt (l ++ [x]) ++ [y] := by
  intro l
  induction l with
  | nil =>
    intro x y
    by_cases h : x = y
    · subst h; simp [cpt]
    · have h' : ¬ y = x := fun e => h e.symm
      simp [cpt, h, h']
  | cons z r ih =>
    intro x y
    have hh : (r ++ [x, y]).head? = (r ++ [x]).head? := by cases r <;> rfl
    rw [List.cons_append, List.cons_append, cpt, cpt, hh, ih]
    by_cases h1 : (r ++ [x]).head? = some z
    · rw [if_pos h1, if_pos h1]
    · rw [if_neg h1, if_neg h1]
      split <;> rfl
theorem take_two {l : List Mp} {i : Nat} (h0 : 0 < i) (hi : i < l.length) : l.take (i + 1) = l.take (i - 1) ++ [l.getD (i - 1) d0, l.getD i d0] := by
  rw [take_succD d0 hi]
  obtain ⟨j, rfl⟩ : ∃ j, i = j + 1 := ⟨i - 1, by omega⟩
  rw [take_succD d0 (by omega), List.append_assoc]
  rfl
theorem cpt_step {l : List Mp} {i : Nat} (h0 : 0 < i) (hi : i < l.length) : cpt (l.take (i + 1)) = if l.getD (i - 1) d0 = l.getD i d0 then cpt (l.take i) else cpt (l.take i) ++ [l.getD i d0] := by
  rw [take_two h0 hi, cpt_snoc]
  obtain ⟨j, rfl⟩ : ∃ j, i = j + 1 := ⟨i - 1, by omega⟩
  rw [take_succD (l := l) (i := j) d0 (by omega)]
  rfl
theorem mem_cpt {l : List Mp} {x : Mp} : x ∈ cpt l ↔ x ∈ l := by
  induction l with
  | nil => rfl
  | cons y r ih =>
    unfold cpt
    split
    · rename_i h
      rw [ih, List.mem_cons]
      exact ⟨.inr, fun h2 => h2.elim (fun e => by rw [e]; exact List.mem_of_mem_head? h) id⟩
    · rw [List.mem_cons, List.mem_cons, ih]
/-- In order, nothing twice. -/
abbrev Up3 (l : List Mp) : Prop := l.Pairwise fun x y => lt3 x y = true
theorem sortM_pw (l : List Mp) : (sortM l).Pairwise fun x y => lt3 y x = false := by
  have h1 : (sortM l).Pairwise fun x y => (!(lt3 y x)) = true := List.pairwise_mergeSort (fun a b c h1 h2 => by
    simp only [Bool.not_eq_true'] at h1 h2 ⊢
    exact lt3_ntrans c b a h2 h1) (fun a b => by
    cases h1 : lt3 b a with
    | false => rfl
    | true =>
      cases h2 : lt3 a b with
      | false => rfl
      | true => have := lt3_trans _ _ _ h1 h2; rw [lt3_irrefl] at this; cases this) l
  exact h1.imp fun h => by simpa using h
theorem cpt_up : ∀ {l : List Mp}, (l.Pairwise fun x y => lt3 y x = false) → Up3 (cpt l) := by
  intro l
  induction l with
  | nil => intro _; exact .nil
  | cons x r ih =>
    intro h
    rw [List.pairwise_cons] at h
    unfold cpt
    split
    · exact ih h.2
    · rename_i hn
      unfold Up3
      rw [List.pairwise_cons]
      refine ⟨fun y hy => ?_, ih h.2⟩
      rw [mem_cpt] at hy
      have h1 := h.1 y hy
      cases h2 : lt3 x y with
      | true => rfl
      | false =>
        have e := lt3_total _ _ h2 h1
        subst e
        cases r with
        | nil => cases hy
        | cons z s =>
          rcases List.mem_cons.1 hy with e | hy2
          · subst e; exact absurd rfl hn
          · have g1 := h.1 z (by simp)
            have g2 := (List.pairwise_cons.1 h.2).1 x hy2
            have e := lt3_total _ _ g1 g2
            subst e; exact absurd rfl hn
theorem up3_at {l : List Mp} (h : Up3 l) {i j : Nat} (hij : i < j) (hj : j < l.length) : lt3 (l.getD i d0) (l.getD j d0) = true := by
  rw [List.getD_eq_getElem?_getD, List.getD_eq_getElem?_getD, List.getElem?_eq_getElem hj, List.getElem?_eq_getElem (by omega)]
  exact List.pairwise_iff_getElem.1 h i j (by omega) hj hij
theorem asc_of_next {l : List Mp} (h : Up3 l) (hn : ∀ j, j + 1 < l.length → ends (l.getD j d0) ≠ ends (l.getD (j + 1) d0)) : Asc l := by
  have step : ∀ j, j + 1 < l.length → lt2 (l.getD j d0) (l.getD (j + 1) d0) = true := by
    intro j hj
    have h1 := up3_at h (Nat.lt_succ_self j) hj
    have h2 := hn j hj
    generalize l.getD j d0 = x at *
    generalize l.getD (j + 1) d0 = y at *
    obtain ⟨a, b, c⟩ := x
    obtain ⟨d, e, f⟩ := y
    simp only [lt3, decide_eq_true_eq, lt2, ends, ne_eq, Prod.mk.injEq] at h1 h2 ⊢
    omega
  have all : ∀ i j, i < j → j < l.length → lt2 (l.getD i d0) (l.getD j d0) = true := by
    intro i j hij hj
    induction j with
    | zero => omega
    | succ j ih =>
      rcases Nat.lt_or_ge i j with h1 | h1
      · exact lt2_trans (ih h1 (by omega)) (step j hj)
      · have : i = j := by omega
        subst this; exact step i hj
  rw [Asc, List.pairwise_iff_getElem]
  intro i j hi hj hij
  have := all i j hij hj
  rwa [List.getD_eq_getElem?_getD, List.getD_eq_getElem?_getD, List.getElem?_eq_getElem hj, List.getElem?_eq_getElem hi] at this
/-- The compacted list. -/
def cs (l : List Mp) : List Mp := cpt (sortM l)
theorem mem_cs {l : List Mp} {x : Mp} : x ∈ cs l ↔ x ∈ l := by rw [cs, mem_cpt, sortM, (List.mergeSort_perm _ _).mem_iff]
theorem cs_len (l : List Mp) : (cs l).length ≤ l.length := by
  have := cpt_len (sortM l)
  rw [sortM_len] at this
  exact this
theorem cs_conf {l : List Mp} {j : Nat} (hg : l.all goodM = true) (hj : j + 1 < (cs l).length) (he : ends ((cs l).getD j d0) = ends ((cs l).getD (j + 1) d0)) : ofF l = ([], 13) := by
  have hn : ¬ noConf l := fun hn => by
    have e := hn _ (mem_cs.1 (getD_mem (by omega : j < (cs l).length))) _ (mem_cs.1 (getD_mem hj)) he
    have h1 := up3_at (cpt_up (sortM_pw l)) (Nat.lt_succ_self j) hj
    have e' : (cpt (sortM l)).getD j d0 = (cpt (sortM l)).getD j.succ d0 := e
    rw [e', lt3_irrefl] at h1
    cases h1
  rw [ofF, if_pos hg, if_neg hn]
theorem cs_ok {l : List Mp} (hg : l.all goodM = true) (hn : ∀ j, j + 1 < (cs l).length → ends ((cs l).getD j d0) ≠ ends ((cs l).getD (j + 1) d0)) : ofF l = if (cs l).length ≤ 500 then (cs l, 0) else ([], 3) := by
  have h := dd_of (l := l) (asc_of_next (cpt_up (sortM_pw l)) hn) fun x => mem_cs
  have e : dd l = cs l := h.2
  rw [ofF, if_pos hg, if_pos h.1, e]
/-- Valid lists ascend. -/
theorem valid_asc {l : List Mp} (hv : validM l = true) : Asc l := by
  have step : ∀ j, j + 1 < l.length → lt2 (l.getD j d0) (l.getD (j + 1) d0) = true := by
    intro j hj
    have h := (((validM_iff l).1 hv).1 (j + 1) hj).2
    simpa [upM, -List.getD_eq_getElem?_getD] using h
  have all : ∀ i j, i < j → j < l.length → lt2 (l.getD i d0) (l.getD j d0) = true := by
    intro i j hij hj
    induction j with
    | zero => omega
    | succ j ih =>
      rcases Nat.lt_or_ge i j with h1 | h1
      · exact lt2_trans (ih h1 (by omega)) (step j hj)
      · have : i = j := by omega
        subst this; exact step i hj
  rw [Asc, List.pairwise_iff_getElem]
  intro i j hi hj hij
  have := all i j hij hj
  rwa [List.getD_eq_getElem?_getD, List.getD_eq_getElem?_getD, List.getElem?_eq_getElem hj, List.getElem?_eq_getElem hi] at this
theorem valid_of {l : List Mp} (hg : ∀ x ∈ l, goodM x = true) (ha : Asc l) (hl : l.length ≤ 500) : validM l = true := by
  rw [validM_iff]
  refine ⟨fun j hj => ⟨hg _ (getD_mem hj), ?_⟩, hl⟩
  unfold upM
  by_cases h0 : j = 0
  · simp [h0]
  · have h1 := List.pairwise_iff_getElem.1 ha (j - 1) j (by omega) hj (by omega)
    rw [List.getD_eq_getElem?_getD, List.getD_eq_getElem?_getD, List.getElem?_eq_getElem hj, List.getElem?_eq_getElem (by omega)]
    simp [h0]
    exact h1
theorem asc_nd {l : List Mp} (h : Asc l) : (l.map ends).Nodup := by
  rw [List.Nodup, List.pairwise_map]
  exact h.imp fun h => lt2_ends h
/-- A list that ascends, whatever stands in which order. -/
theorem ofF_same {l m : List Mp} (hv : validM l = true) (hm : ∀ x, x ∈ l ↔ x ∈ m) : ofF m = (l, 0) := by
  have hg : m.all goodM = true := List.all_eq_true.2 fun x hx => validM_mem hv ((hm x).2 hx)
  have h := dd_of (l := m) (valid_asc hv) hm
  have hl := ((validM_iff l).1 hv).2
  rw [ofF, if_pos hg, if_pos h.1, h.2, if_pos hl]

/-- The inverse of a kind, and of a mapping. -/
def opp (k : Int) : Int := if k = 2 then 3 else if k = 3 then 2 else k
def invM (x : Mp) : Mp := (x.2.1, x.1, opp x.2.2)
theorem opp_opp (k : Int) : opp (opp k) = k := by unfold opp; (repeat' split) <;> omega
theorem invM_invM (x : Mp) : invM (invM x) = x := by simp [invM, opp_opp]
theorem good_inv {x : Mp} (h : goodM x = true) : goodM (invM x) = true := by
  rw [goodM_iff] at h ⊢
  refine ⟨h.2.1, h.1, ?_⟩
  have := h.2.2
  simp only [invM, opp]
  (repeat' split) <;> omega
theorem inv_nd {l : List Mp} (h : (l.map ends).Nodup) : ((l.map invM).map ends).Nodup := by
  rw [List.Nodup, List.pairwise_map] at h
  rw [List.Nodup, List.pairwise_map, List.pairwise_map]
  refine h.imp ?_
  rintro ⟨a, b, c⟩ ⟨d, e, f⟩ hn
  simp only [ends, invM, ne_eq, Prod.mk.injEq] at hn ⊢
  exact fun h => hn ⟨h.2, h.1⟩
/-- The inverse list. -/
def invL (l : List Mp) : List Mp := sortM (l.map invM)
theorem mem_invL {l : List Mp} {x : Mp} : x ∈ invL l ↔ invM x ∈ l := by
  rw [invL, sortM, (List.mergeSort_perm _ _).mem_iff, List.mem_map]
  constructor
  · rintro ⟨y, hy, rfl⟩; rw [invM_invM]; exact hy
  · intro h; exact ⟨_, h, invM_invM x⟩
theorem invL_asc {l : List Mp} (ha : Asc l) : Asc (invL l) := asc_sort (inv_nd (asc_nd ha))
theorem invL_len (l : List Mp) : (invL l).length = l.length := by rw [invL, sortM_len, List.length_map]
theorem invL_valid {l : List Mp} (hv : validM l = true) : validM (invL l) = true :=
  valid_of (fun x hx => by have := good_inv (validM_mem hv (mem_invL.1 hx)); rwa [invM_invM] at this) (invL_asc (valid_asc hv)) (by rw [invL_len]; exact ((validM_iff l).1 hv).2)
theorem invL_invL {l : List Mp} (ha : Asc l) : invL (invL l) = l := asc_ext (invL_asc (invL_asc ha)) ha fun x => by rw [mem_invL, mem_invL, invM_invM]
def invF (l : List Mp) : List Mp × Int := if validM l = true then (invL l, 0) else ([], 1)
/-- The reference's way to it. -/
theorem ofF_inv {l : List Mp} (hv : validM l = true) : ofF (l.map invM) = (invL l, 0) :=
  ofF_same (invL_valid hv) fun x => by rw [invL, sortM, (List.mergeSort_perm _ _).mem_iff]

theorem joinK_opp {a b : Int} (ha : 1 ≤ a ∧ a ≤ 3) (hb : 1 ≤ b ∧ b ≤ 3) : joinK (opp a) (opp b) = opp (joinK b a) := by
  unfold joinK opp
  (repeat' split) <;> omega
theorem opp_lt {k : Int} (h : 0 ≤ k ∧ k ≤ 3) : 0 ≤ opp k ∧ opp k ≤ 3 := by unfold opp; (repeat' split) <;> omega
theorem opp_kind {k : Int} (h : 1 ≤ k ∧ k ≤ 3) : 1 ≤ opp k ∧ opp k ≤ 3 := by unfold opp; (repeat' split) <;> omega
theorem kOk_inv {l : List Mp} (h : kOk l) : kOk (invL l) := fun x hx => by
  have := h _ (mem_invL.1 hx)
  simp only [invM] at this
  have h2 := opp_kind this
  rwa [opp_opp] at h2
theorem SP_inv {l m : List Mp} (hl : kOk l) (hm : kOk m) (a c : Int) (n : Nat) (hn : n ≤ 3) : SP (invL m) (invL l) (a, c) n ↔ SP l m (c, a) (opp n).toNat := by
  have back : ∀ q : Int, 0 ≤ q ∧ q ≤ 3 → ((n = (opp q).toNat) ↔ (opp (n : Int)).toNat = q.toNat) := by
    intro q hq
    unfold opp
    (repeat' split) <;> omega
  constructor
  · rintro ⟨y, hy, z, hz, h1, h2, h3⟩
    rw [mem_invL] at hy hz
    have ky := hm _ hy
    have kz := hl _ hz
    refine ⟨_, hz, _, hy, h1.symm, ?_, ?_⟩
    · rw [Prod.mk.injEq] at h2 ⊢
      exact ⟨h2.2, h2.1⟩
    · rw [← back _ (joinK_lt kz ky)]
      have e := joinK_opp ky kz
      simp only [invM, opp_opp] at e ⊢
      rw [h3, e]
  · rintro ⟨z, hz, y, hy, h1, h2, h3⟩
    have ky := hm _ hy
    have kz := hl _ hz
    refine ⟨invM y, mem_invL.2 (by rw [invM_invM]; exact hy), invM z, mem_invL.2 (by rw [invM_invM]; exact hz), h1.symm, ?_, ?_⟩
    · rw [Prod.mk.injEq] at h2 ⊢
      exact ⟨h2.2, h2.1⟩
    · rw [← back _ (joinK_lt kz ky)] at h3
      have e := joinK_opp ky kz
      simp only [invM]
      rw [e]
      exact h3
theorem inv_comp {l m : List Mp} (hl : kOk l) (hm : kOk m) : invL (comp l m) = comp (invL m) (invL l) := by
  refine asc_ext (invL_asc (comp_asc hl hm)) (comp_asc (kOk_inv hm) (kOk_inv hl)) fun x => ?_
  rw [mem_invL, mem_comp hl hm, mem_comp (kOk_inv hm) (kOk_inv hl)]
  obtain ⟨a, b, k⟩ := x
  have h1 := SP_inv hl hm a b 1 (by omega)
  have h2 := SP_inv hl hm a b 2 (by omega)
  have h3 := SP_inv hl hm a b 3 (by omega)
  have e1 : (opp ((1 : Nat) : Int)).toNat = 1 := by decide
  have e2 : (opp ((2 : Nat) : Int)).toNat = 3 := by decide
  have e3 : (opp ((3 : Nat) : Int)).toNat = 2 := by decide
  rw [e1] at h1
  rw [e2] at h2
  rw [e3] at h3
  unfold kindP
  simp only [invM, h1, h2, h3]
  have q1 : opp k = 1 ↔ k = 1 := by unfold opp; (repeat' split) <;> omega
  have q2 : opp k = 2 ↔ k = 3 := by unfold opp; (repeat' split) <;> omega
  have q3 : opp k = 3 ↔ k = 2 := by unfold opp; (repeat' split) <;> omega
  rw [q1, q2, q3]
  constructor <;> rintro (h | h | h)
  · exact .inl h
  · exact .inr (.inr h)
  · exact .inr (.inl h)
  · exact .inl h
  · exact .inr (.inr h)
  · exact .inr (.inl h)
theorem pairs_len (l m : List Mp) : (pairs l m).length ≤ l.length * m.length := by
  induction l with
  | nil => simp [pairs]
  | cons x r ih =>
    have h := List.length_filter_le (fun y : Mp => decide (y.1 = x.2.1)) m
    simp only [pairs, List.flatMap_cons, List.length_append, List.length_map, List.length_cons, Nat.add_mul, Nat.one_mul] at ih ⊢
    omega
theorem wadd_le (w : Wy) (e : Pr) (n : Nat) : (wadd w e n).length ≤ w.length + 1 := by
  have := congrArg List.length (wadd_keys w e n)
  rw [List.length_map] at this
  rw [this]
  split
  · rw [List.length_map]; omega
  · rw [List.length_append, List.length_map]; exact Nat.le_refl _
theorem wall_len (ps : List (Pr × Nat)) : (wall ps).length ≤ ps.length := by
  have key : ∀ (ps : List (Pr × Nat)) (w : Wy), (ps.foldl (fun w p => wadd w p.1 p.2) w).length ≤ w.length + ps.length := by
    intro ps
    induction ps with
    | nil => intro w; exact Nat.le_refl _
    | cons p r ih =>
      intro w
      have h1 := ih (wadd w p.1 p.2)
      have h2 := wadd_le w p.1 p.2
      simp only [List.foldl_cons, List.length_cons]
      omega
  have := key ps []
  rw [List.length_nil, Nat.zero_add] at this
  exact this
theorem comp_pairs (l m : List Mp) : (comp l m).length ≤ (pairs l m).length := by
  rw [comp, sortM_len]
  exact Nat.le_trans (List.length_filterMap_le _ _) (wall_len _)
theorem comp_valid {l m : List Mp} (hl : validM l = true) (hm : validM m = true) (h5 : (comp l m).length ≤ 500) : validM (comp l m) = true :=
  valid_of (fun x hx => comp_good (fun _ => validM_mem hl) (fun _ => validM_mem hm) ((mem_comp (valid_kOk hl) (valid_kOk hm) x).1 hx)) (comp_asc (valid_kOk hl) (valid_kOk hm)) h5
theorem comp_small {l m : List Mp} (hl : l.length ≤ 12) (hm : m.length ≤ 12) : (comp l m).length ≤ 144 := by
  have h1 := comp_pairs l m
  have h2 := pairs_len l m
  have h3 := Nat.mul_le_mul hl hm
  omega

/-- Exact mappings of terms to themselves. -/
def exM (l : List Int) : List Mp := l.map fun n => (n, n, 1)
def exF (l : List Mp) : List Mp := exM (l.map (·.1))
def exT (l : List Mp) : List Mp := exM (l.map (·.2.1))
theorem mem_exM {l : List Int} {x : Mp} : x ∈ exM l ↔ ∃ n ∈ l, x = (n, n, 1) := by
  rw [exM, List.mem_map]
  exact ⟨fun ⟨n, h, e⟩ => ⟨n, h, e.symm⟩, fun ⟨n, h, e⟩ => ⟨n, h, e.symm⟩⟩
theorem exM_conf (l : List Int) : noConf (exM l) := by
  intro x hx y hy he
  obtain ⟨n, _, rfl⟩ := mem_exM.1 hx
  obtain ⟨k, _, rfl⟩ := mem_exM.1 hy
  simp only [ends, Prod.mk.injEq] at he
  rw [he.1]
theorem und_len (l : List Mp) : (und l).length ≤ l.length := by
  induction l with
  | nil => exact Nat.le_refl _
  | cons x r ih => unfold und; split <;> simp only [List.length_cons] <;> omega
theorem dd_len (l : List Mp) : (dd l).length ≤ l.length := by rw [dd, sortM_len]; exact und_len l
theorem exM_len (l : List Int) : (exM l).length = l.length := List.length_map _
theorem ofF_ex {l : List Int} (hg : ∀ n ∈ l, 1 ≤ n ∧ n ≤ 1000000000) (hl : l.length ≤ 500) : ofF (exM l) = (dd (exM l), 0) ∧ validM (dd (exM l)) = true := by
  have good : ∀ x ∈ exM l, goodM x = true := by
    intro x hx
    obtain ⟨n, hn, rfl⟩ := mem_exM.1 hx
    rw [goodM_iff]
    exact ⟨hg n hn, hg n hn, Int.le_refl _, by show (1 : Int) ≤ 3; decide⟩
  have h5 : (dd (exM l)).length ≤ 500 := by
    have := dd_len (exM l)
    rw [exM_len] at this
    omega
  refine ⟨?_, valid_of (fun x hx => good x (mem_dd.1 hx)) (dd_asc (exM_conf l)) h5⟩
  rw [ofF, if_pos (List.all_eq_true.2 good), if_pos (exM_conf l), if_pos h5]
theorem joinK_one (a : Int) : joinK a 1 = a := by unfold joinK; (repeat' split) <;> omega
theorem one_joinK (a : Int) : joinK 1 a = a := by unfold joinK; (repeat' split) <;> omega
/-- Composing with them changes nothing. -/
theorem comp_fix {l m k : List Mp} (hl : validM l = true) (hm : kOk m) (hk : kOk k) (h : ∀ e n, SP m k e n ↔ ∃ x ∈ l, e = (x.1, x.2.1) ∧ n = x.2.2.toNat) : comp m k = l := by
  have ha := valid_asc hl
  refine asc_ext (comp_asc hm hk) ha fun x => ?_
  rw [mem_comp hm hk]
  have uniq : ∀ e n, SP m k e n → ∀ n', SP m k e n' → n = n' := by
    intro e n hn n' hn'
    obtain ⟨y, hy, e1, rfl⟩ := (h e n).1 hn
    obtain ⟨z, hz, e2, rfl⟩ := (h e n').1 hn'
    have : y = z := asc_inj ha hy hz (by rw [ends, ends, ← e1, ← e2])
    rw [this]
  have kx := valid_kOk hl
  constructor
  · rintro (⟨hk1, hs⟩ | ⟨hk1, _, hs, _⟩ | ⟨hk1, _, hs, _⟩) <;>
    · obtain ⟨y, hy, e1, e2⟩ := (h _ _).1 hs
      have := kx y hy
      have e3 : x = y := by
        obtain ⟨a, b, c⟩ := x
        obtain ⟨d, e, f⟩ := y
        simp only [Prod.mk.injEq] at e1 e2 hk1 this ⊢
        exact ⟨e1.1, e1.2, by omega⟩
      rw [e3]; exact hy
  · intro hx
    have hs := (h (x.1, x.2.1) x.2.2.toNat).2 ⟨x, hx, rfl, rfl⟩
    have := kx x hx
    unfold kindP
    have hk3 : x.2.2 = 1 ∨ x.2.2 = 2 ∨ x.2.2 = 3 := by omega
    rcases hk3 with e | e | e <;> rw [e] at hs
    · exact .inl ⟨e, hs⟩
    · exact .inr (.inl ⟨e, fun h1 => absurd (uniq _ _ hs _ h1) (by decide), hs, fun h1 => absurd (uniq _ _ hs _ h1) (by decide)⟩)
    · exact .inr (.inr ⟨e, fun h1 => absurd (uniq _ _ hs _ h1) (by decide), hs, fun h1 => absurd (uniq _ _ hs _ h1) (by decide)⟩)
theorem comp_from {l : List Mp} (hl : validM l = true) : comp (dd (exF l)) l = l := by
  refine comp_fix hl (fun x hx => ?_) (valid_kOk hl) fun e n => ?_
  · obtain ⟨n, _, rfl⟩ := mem_exM.1 (mem_dd.1 hx)
    exact ⟨Int.le_refl _, by show (1 : Int) ≤ 3; decide⟩
  · unfold SP
    constructor
    · rintro ⟨x, hx, y, hy, h1, h2, h3⟩
      obtain ⟨k, _, rfl⟩ := mem_exM.1 (mem_dd.1 hx)
      simp only [one_joinK] at h1 h2 h3
      exact ⟨y, hy, by rw [h2, h1], h3⟩
    · rintro ⟨y, hy, h2, h3⟩
      refine ⟨(y.1, y.1, 1), mem_dd.2 (mem_exM.2 ⟨y.1, List.mem_map.2 ⟨y, hy, rfl⟩, rfl⟩), y, hy, rfl, h2, ?_⟩
      simp only [one_joinK]; exact h3
theorem comp_to {l : List Mp} (hl : validM l = true) : comp l (dd (exT l)) = l := by
  refine comp_fix hl (valid_kOk hl) (fun x hx => ?_) fun e n => ?_
  · obtain ⟨n, _, rfl⟩ := mem_exM.1 (mem_dd.1 hx)
    exact ⟨Int.le_refl _, by show (1 : Int) ≤ 3; decide⟩
  · unfold SP
    constructor
    · rintro ⟨x, hx, y, hy, h1, h2, h3⟩
      obtain ⟨k, _, rfl⟩ := mem_exM.1 (mem_dd.1 hy)
      simp only [joinK_one] at h1 h2 h3
      exact ⟨x, hx, by rw [h2, h1], h3⟩
    · rintro ⟨x, hx, h2, h3⟩
      refine ⟨x, hx, (x.2.1, x.2.1, 1), mem_dd.2 (mem_exM.2 ⟨x.2.1, List.mem_map.2 ⟨x, hx, rfl⟩, rfl⟩), rfl, h2, ?_⟩
      simp only [joinK_one]; exact h3
end Voc
