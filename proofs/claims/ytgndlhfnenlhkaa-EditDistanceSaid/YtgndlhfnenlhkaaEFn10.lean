/- Apply of layer 11.
   Conditions: lengths below 1000. -/
import Derived.Test.YtgndlhfnenlhkaaEFn9
namespace Go.Am
open Go
section
variable {P : Program} {f : FuncId} {args : List AV} {H : List Blk} {T : Toks}
theorem Rep.untags {L : Lay} {N : Nat} {T : Toks} {w : World} {vs : List AV} {c : Value} (h : Rep L N T w (.tup vs) c) : Rep L N T w (.tup (vs.map Am.untag)) c := by
  cases h with
  | tup _ cv h1 hr =>
    refine .tup _ cv (by simpa using h1) (fun j hj hj' => ?_)
    rw [List.getElem_map]
    exact (hr j (by simpa using hj) hj').untag

/-- What a call with more than one result has made is forgotten. -/
theorem ACall.dropT {rs : List AV} (h : ACall P f args H T (fun r H' T' => (∃ rH, H' = H ++ rH) ∧ (∃ rT, T' = T ++ rT) ∧ ∃ vs, r = .tup vs ∧ vs.map Am.untag = rs)) (hb : ∀ v ∈ rs, Below H.length T.length v) : ACall P f args H T (Is (.tup rs) H T) := by
  refine ⟨h.1, fun L w ca hc hl' hr => (h.2 L w ca hc hl' hr).mono ?_⟩
  rintro e w' ⟨r', H', T', L', cv, ⟨⟨rH, e1⟩, ⟨rT, e2⟩, vs, e3, e4⟩, rfl, hcon, hrep, hev⟩
  subst e1; subst e2; subst e3
  refine ⟨_, H, T, L', cv, ⟨rfl, rfl, rfl⟩, rfl, Con.front P hcon hc.hok, ?_, hev.front (Nat.le_refl _) (Nat.le_refl _)⟩
  have hrep' := hrep.untags
  rw [e4] at hrep'
  have := hrep'.drop (.tup _ hb)
  simpa using this
end
end Go.Am
namespace Go.Proofs.Ytgndlhfnenlhkaa
open Go Go.Am Edit
set_option linter.unusedVariables false

/-- An operation of a script that may stand there. -/
def okOp (p : Int × Int) : Bool := decide (1 ≤ p.1) && decide (p.1 ≤ 4) && !((p.1 == 1 || p.1 == 3) && p.2 != 0)
/-- The fault and the list. -/
def applyR (a : List Int) (l : List (Int × Int)) : Int × List Int :=
  if l.all okOp = true then match apply a l with
    | none => (2, [])
    | some y => (0, y)
  else (1, [])

theorem applyR_bad {a : List Int} {l : List (Int × Int)} {k : Nat} (hk : k < l.length) (h : okOp (l.getD k (0, 0)) = false) : applyR a l = (1, []) := by
  unfold applyR
  rw [if_neg]
  intro ha
  rw [List.all_eq_true] at ha
  have := ha (l.getD k (0, 0)) (by rw [List.getD_eq_getElem?_getD, List.getElem?_eq_getElem hk]; exact List.getElem_mem hk)
  rw [h] at this
  cases this

theorem okOp_cases {p : Int × Int} (h : okOp p = true) : (p.1 = 1 ∧ p.2 = 0) ∨ p.1 = 2 ∨ (p.1 = 3 ∧ p.2 = 0) ∨ p.1 = 4 := by
  unfold okOp at h
  simp only [Bool.and_eq_true, decide_eq_true_eq, Bool.not_eq_true', Bool.and_eq_false_iff, Bool.or_eq_false_iff, beq_eq_false_iff_ne, bne_eq_false_iff_eq] at h
  omega

theorem drop_consP (l : List (Int × Int)) (i : Nat) (h : i < l.length) : l.drop i = l.getD i (0, 0) :: l.drop (i + 1) := by
  rw [List.drop_eq_getElem_cons h, List.getD_eq_getElem?_getD, List.getElem?_eq_getElem h]
  rfl

/-- What is left to be done, behind what has been made. -/
def AP (a : List Int) (l : List (Int × Int)) (out : List Int) (at_ k : Nat) : Option (List Int) := (apply (a.drop at_) (l.drop k)).map (out ++ ·)
section
variable {a : List Int} {l : List (Int × Int)} {out : List Int} {at_ k : Nat}
theorem AP_ins (hk : k < l.length) (h : (l.getD k (0, 0)).1 = 4) : AP a l out at_ k = AP a l (out ++ [(l.getD k (0, 0)).2]) at_ (k + 1) := by
  unfold AP
  rw [drop_consP l k hk]
  generalize l.getD k (0, 0) = p at *
  obtain ⟨x, c⟩ := p
  simp only at h
  subst h
  rw [apply_ins, Option.map_map]
  congr 1
  funext y
  simp
theorem AP_none (hk : k < l.length) (h : (l.getD k (0, 0)).1 ≠ 4) (ha : at_ = a.length) : AP a l out at_ k = none := by
  unfold AP
  rw [drop_consP l k hk, ha, List.drop_length]
  generalize l.getD k (0, 0) = p at *
  obtain ⟨x, c⟩ := p
  simp [apply, h]
theorem AP_keep (hk : k < l.length) (h : (l.getD k (0, 0)).1 = 1) (ha : at_ < a.length) : AP a l out at_ k = AP a l (out ++ [a.getD at_ 0]) (at_ + 1) (k + 1) := by
  unfold AP
  rw [drop_consP l k hk, drop_cons0 a at_ ha]
  generalize l.getD k (0, 0) = p at *
  obtain ⟨x, c⟩ := p
  simp only at h
  subst h
  simp only [apply, show ¬ (1 : Int) = 4 by decide, if_false, if_true, Option.map_map]
  congr 1
  funext y
  simp
theorem AP_rep (hk : k < l.length) (h : (l.getD k (0, 0)).1 = 2) (ha : at_ < a.length) : AP a l out at_ k = AP a l (out ++ [(l.getD k (0, 0)).2]) (at_ + 1) (k + 1) := by
  unfold AP
  rw [drop_consP l k hk, drop_cons0 a at_ ha]
  generalize l.getD k (0, 0) = p at *
  obtain ⟨x, c⟩ := p
  simp only at h
  subst h
  simp only [apply, show ¬ (2 : Int) = 4 by decide, show ¬ (2 : Int) = 1 by decide, if_false, if_true, Option.map_map]
  congr 1
  funext y
  simp
theorem AP_del (hk : k < l.length) (h : (l.getD k (0, 0)).1 = 3) (ha : at_ < a.length) : AP a l out at_ k = AP a l out (at_ + 1) (k + 1) := by
  unfold AP
  rw [drop_consP l k hk, drop_cons0 a at_ ha]
  generalize l.getD k (0, 0) = p at *
  obtain ⟨x, c⟩ := p
  simp only at h
  subst h
  simp only [apply, show ¬ (3 : Int) = 4 by decide, show ¬ (3 : Int) = 1 by decide, show ¬ (3 : Int) = 2 by decide, if_false]
theorem AP_end (hk : k = l.length) : AP a l out at_ k = if at_ < a.length then none else some out := by
  unfold AP
  rw [hk, List.drop_length]
  by_cases h : at_ < a.length
  · rw [drop_cons0 a at_ h, if_pos h]; rfl
  · rw [List.drop_eq_nil_of_le (by omega), if_neg h]; simp [apply]
end

theorem nilInts : ints [] = [] := rfl

set_option maxRecDepth 100000 in
set_option maxHeartbeats 4000000 in
theorem apply_ok (a : List Int) (l : List (Int × Int)) (ha : a.length ≤ 1000) (hl : l.length ≤ 1000) (H : List Blk) (T : Toks) (ta tl : Tag) :
    ACall Try.prog 26 [.sl a.length (ints a) ta, .sl l.length (opsAV l) tl] H T (Is (.tup [.sl (applyR a l).2.length (ints (applyR a l).2) .none, .int .i64 (applyR a l).1]) H T) := by
  refine ACall.untag1 (ACall.untag2 ?_)
  refine ACall.dropT ?_ (by simp)
  refine acall_enter 59 [] Try.ntmps26 Try.func26 rfl (fun _ _ => Try.call26 _ _) (by simp) (fun HO => ?_)
  refine aw_reg fun K hK => ?_; simp (maxSteps := 200000) (disch := omega) [-List.getD_eq_getElem?_getD]; refine hK _ ?_; clear hK K
  refine aw_then fun K1 hK1 => ?_
  refine aw_reg fun K hK => ?_; simp (maxSteps := 200000) (disch := omega) [-List.getD_eq_getElem?_getD]; refine hK _ ?_; clear hK K
  refine aw_block ?_
  refine aw_loop (X := Nat) (fun k => ⟨[(0, .sl a.length (ints a) .none), (1, .sl l.length (opsAV l) .none), (12, .sl l.length (opsAV l) .none), (13, .int .i64 (l.length : Nat)), (14, .int .i64 (k : Nat))], H, T⟩) (fun k => k ≤ l.length ∧ ∀ j, j < k → okOp (l.getD j (0, 0)) = true) (fun k => l.length - k) 0 ?_ ?_ ?_
  · exact ⟨Nat.zero_le _, fun j hj => absurd hj (Nat.not_lt_zero _)⟩
  · refine weak_to [] [] ?_ ?_ ?_ ?_ HO ?_
    all_goals simp
  · rintro k ⟨hk, hj⟩
    refine aw_reg fun K hK => ?_; simp (maxSteps := 200000) (disch := omega) [-List.getD_eq_getElem?_getD]; refine hK _ ?_; clear hK K
    refine aw_then fun K2 hK2 => ?_
    refine aw_if rfl (fun hk2 => ?_) (fun hk2 => ?_)
    · simp [-List.getD_eq_getElem?_getD] at hk2
      have hcut := opsAV_cut l k hk2
      refine aw_skip ?_; simp (maxSteps := 200000) (disch := omega) [-List.getD_eq_getElem?_getD]
      refine hK2 _ ?_; clear hK2
      refine aw_then fun K3 hK3 => ?_
      refine aw_block ?_
      refine aw_reg fun K hK => ?_; simp (maxSteps := 200000) (disch := omega) [-List.getD_eq_getElem?_getD, hcut, opsAV_len]; refine hK _ ?_; clear hK K
      refine aw_reg fun K hK => ?_
      have key : ∀ e b, b = (!okOp (l.getD k (0, 0))) → envLe H.length T.length e [(0, .sl a.length (ints a) .none), (1, .sl l.length (opsAV l) .none), (12, .sl l.length (opsAV l) .none), (13, .int .i64 (l.length : Nat)), (14, .int .i64 (k : Nat)), (40, .bool b)] → K ⟨e, H ++ [.cells [.int .i64 (l.getD k (0, 0)).1, .int .i64 (l.getD k (0, 0)).2]], T⟩ := by
        intro e b hb he
        refine hK _ (aw_weak ⟨[(0, .sl a.length (ints a) .none), (1, .sl l.length (opsAV l) .none), (12, .sl l.length (opsAV l) .none), (13, .int .i64 (l.length : Nat)), (14, .int .i64 (k : Nat)), (40, .bool b)], H, T⟩ (weak_to [.cells [.int .i64 (l.getD k (0, 0)).1, .int .i64 (l.getD k (0, 0)).2]] [] (by simp) (by simp) (by simp) (by simp) HO he) ?_)
        cases hok : okOp (l.getD k (0, 0)) with
        | false =>
          rw [hok] at hb
          subst hb
          refine aw_if rfl (fun h => ?_) (fun h => absurd h (by simp))
          refine aw_reg fun K hK => ?_; simp (maxSteps := 200000) (disch := omega) [-List.getD_eq_getElem?_getD]; refine hK _ ?_; clear hK K
          refine aw_ret ?_; simp (maxSteps := 200000) (disch := omega) [-List.getD_eq_getElem?_getD]
          rw [applyR_bad hk2 hok]
          simp [nilInts]
        | true =>
          rw [hok] at hb
          subst hb
          refine aw_if rfl (fun h => absurd h (by simp)) (fun h => ?_)
          refine aw_skip ?_; simp (maxSteps := 200000) (disch := omega) [-List.getD_eq_getElem?_getD]
          refine hK3 _ ?_; clear hK3
          refine aw_reg0 fun K hK => ?_; simp (maxSteps := 200000) (disch := omega) [-List.getD_eq_getElem?_getD]
          refine hK _ ?_; clear hK K
          refine ⟨k + 1, ⟨by show k + 1 ≤ _; omega, fun j hj' => ?_⟩, by show l.length - (k + 1) < l.length - k; omega, ?_⟩
          · rcases Nat.lt_or_ge j k with h1 | h1
            · exact hj j h1
            · have : j = k := by omega
              subst this; exact hok
          · refine weak_to [] [] ?_ ?_ ?_ ?_ HO ?_
            all_goals simp
      clear hK
      generalize l.getD k (0, 0) = p at *
      obtain ⟨kd, c⟩ := p
      simp only at *
      have hcs : kd < 1 ∨ kd > 4 ∨ kd = 1 ∨ kd = 2 ∨ kd = 3 ∨ kd = 4 := by omega
      rcases hcs with h1 | h1 | h1 | h1 | h1 | h1
      · have b1 : decide (kd < 1) = true := by simpa using h1
        simp (maxSteps := 200000) (disch := omega) [-List.getD_eq_getElem?_getD, b1, h1]
        refine key _ true ?_ (by simp)
        simp [okOp]; omega
      · have b1 : decide (kd < 1) = false := by simp; omega
        have b2 : decide (4 < kd) = true := by simp; omega
        have h2 : ¬ kd < 1 := by omega
        simp (maxSteps := 200000) (disch := omega) [-List.getD_eq_getElem?_getD, b1, b2, h1, h2]
        refine key _ true ?_ (by simp)
        simp [okOp]; omega
      · subst h1
        by_cases hc : c = 0
        · subst hc
          simp (maxSteps := 200000) (disch := omega) [-List.getD_eq_getElem?_getD]
          refine key _ false ?_ (by simp)
          simp [okOp]
        · have b3 : (c != 0) = true := by simpa using hc
          simp (maxSteps := 200000) (disch := omega) [-List.getD_eq_getElem?_getD, b3, hc]
          refine key _ true ?_ (by simp)
          simp [okOp, hc]
      · subst h1
        simp (maxSteps := 200000) (disch := omega) [-List.getD_eq_getElem?_getD]
        refine key _ false ?_ (by simp)
        simp [okOp]
      · subst h1
        by_cases hc : c = 0
        · subst hc
          simp (maxSteps := 200000) (disch := omega) [-List.getD_eq_getElem?_getD]
          refine key _ false ?_ (by simp)
          simp [okOp]
        · have b3 : (c != 0) = true := by simpa using hc
          simp (maxSteps := 200000) (disch := omega) [-List.getD_eq_getElem?_getD, b3, hc]
          refine key _ true ?_ (by simp)
          simp [okOp, hc]
      · subst h1
        simp (maxSteps := 200000) (disch := omega) [-List.getD_eq_getElem?_getD]
        refine key _ false ?_ (by simp)
        simp [okOp]
    · simp [-List.getD_eq_getElem?_getD] at hk2
      have hkl : k = l.length := by omega
      have hall : l.all okOp = true := by
        rw [List.all_eq_true]
        intro p hp
        obtain ⟨j, hj1, rfl⟩ := List.mem_iff_getElem.1 hp
        have := hj j (by omega)
        rwa [List.getD_eq_getElem?_getD, List.getElem?_eq_getElem hj1] at this
      have hres : applyR a l = match AP a l [] 0 0 with
        | none => (2, [])
        | some y => (0, y) := by
        unfold applyR AP
        rw [if_pos hall, List.drop_zero, List.drop_zero]
        cases apply a l <;> rfl
      refine aw_exit ?_; simp (maxSteps := 200000) (disch := omega) [-List.getD_eq_getElem?_getD]
      refine hK1 _ ?_; clear hK1
      clear hj hkl hk2 hk
      refine aw_reg fun K hK => ?_; simp (maxSteps := 200000) (disch := omega) [-List.getD_eq_getElem?_getD]; refine hK _ ?_; clear hK K
      refine aw_reg fun K hK => ?_; simp (maxSteps := 200000) (disch := omega) [-List.getD_eq_getElem?_getD]; refine hK _ ?_; clear hK K
      refine aw_then fun K1 hK1 => ?_
      refine aw_reg fun K hK => ?_; simp (maxSteps := 200000) (disch := omega) [-List.getD_eq_getElem?_getD]; refine hK _ ?_; clear hK K
      refine aw_block ?_
      refine aw_own 8 0 1 [] (by omega) (by simp) ?_
      refine aw_loop (X := Nat × Nat × List Int) (fun x => ⟨[(0, .sl a.length (ints a) .none), (8, .sl x.2.2.length (ints x.2.2) (.own T.length)), (9, .int .i64 (x.2.1 : Nat)), (42, .sl l.length (opsAV l) .none), (43, .int .i64 (l.length : Nat)), (44, .int .i64 (x.1 : Nat))], H, T ++ [(x.2.2.length, 1)]⟩)
        (fun x => x.1 ≤ l.length ∧ x.2.1 ≤ a.length ∧ x.2.2.length ≤ x.1 ∧ AP a l [] 0 0 = AP a l x.2.2 x.2.1 x.1) (fun x => l.length - x.1) (0, 0, []) ?_ ?_ ?_
      · exact ⟨Nat.zero_le _, Nat.zero_le _, Nat.zero_le _, rfl⟩
      · refine weak_to [] [] ?_ ?_ ?_ ?_ (HO.toks (by simp)) ?_
        all_goals simp
      · rintro ⟨k, at_, out⟩ ⟨h1, h2, h3, h4⟩
        simp only at h1 h2 h3 h4
        have hokk : ∀ n, HOk H (T ++ [(n, 1)]) := fun n => HO.toks (by simp)
        refine aw_reg fun K hK => ?_; simp (maxSteps := 200000) (disch := omega) [-List.getD_eq_getElem?_getD]; refine hK _ ?_; clear hK K
        refine aw_then fun K2 hK2 => ?_
        refine aw_if rfl (fun hk2 => ?_) (fun hk2 => ?_)
        · simp [-List.getD_eq_getElem?_getD] at hk2
          have hcut := opsAV_cut l k hk2
          have hop := okOp_cases (List.all_eq_true.1 hall (l.getD k (0, 0)) (by rw [List.getD_eq_getElem?_getD, List.getElem?_eq_getElem hk2]; exact List.getElem_mem hk2))
          have ains := AP_ins (a := a) (out := out) (at_ := at_) hk2
          have anone := AP_none (a := a) (out := out) (at_ := at_) hk2
          have akeep := AP_keep (a := a) (out := out) (at_ := at_) hk2
          have arep := AP_rep (a := a) (out := out) (at_ := at_) hk2
          have adel := AP_del (a := a) (out := out) (at_ := at_) hk2
          refine aw_skip ?_; simp (maxSteps := 200000) (disch := omega) [-List.getD_eq_getElem?_getD]
          refine hK2 _ ?_; clear hK2
          refine aw_then fun K3 hK3 => ?_
          refine aw_block ?_
          refine aw_reg fun K hK => ?_; simp (maxSteps := 200000) (disch := omega) [-List.getD_eq_getElem?_getD, hcut, opsAV_len]; refine hK _ ?_; clear hK K
          have key : ∀ e out' at' n, out'.length = n → at' ≤ a.length → n ≤ k + 1 → AP a l [] 0 0 = AP a l out' at' (k + 1) → envLe H.length (T.length + 1) e [(0, .sl a.length (ints a) .none), (8, .sl n (ints out') (.own T.length)), (9, .int .i64 (at' : Nat)), (42, .sl l.length (opsAV l) .none), (43, .int .i64 (l.length : Nat)), (44, .int .i64 (k : Nat))] →
              K3 ⟨e, H ++ [.cells [.int .i64 (l.getD k (0, 0)).1, .int .i64 (l.getD k (0, 0)).2]], T ++ [(n, 1)]⟩ := by
            intro e out' at' n hn g1 g2 g3 he
            subst hn
            refine hK3 _ (aw_weak ⟨[(0, .sl a.length (ints a) .none), (8, .sl out'.length (ints out') (.own T.length)), (9, .int .i64 (at' : Nat)), (42, .sl l.length (opsAV l) .none), (43, .int .i64 (l.length : Nat)), (44, .int .i64 (k : Nat))], H, T ++ [(out'.length, 1)]⟩ (weak_to [.cells [.int .i64 (l.getD k (0, 0)).1, .int .i64 (l.getD k (0, 0)).2]] [] (by simp) (by simp) (by simp) (by simp) (hokk _) (by simpa using he)) ?_)
            refine aw_reg0 fun K hK => ?_; simp (maxSteps := 200000) (disch := omega) [-List.getD_eq_getElem?_getD]
            refine hK _ ?_; clear hK K
            refine ⟨(k + 1, at', out'), ⟨by show k + 1 ≤ _; omega, g1, g2, g3⟩, by show l.length - (k + 1) < l.length - k; omega, ?_⟩
            refine weak_to [] [] ?_ ?_ ?_ ?_ (hokk _) ?_
            all_goals simp
          clear hK3
          generalize l.getD k (0, 0) = p at *
          obtain ⟨kd, c⟩ := p
          simp only at *
          by_cases h40 : kd = 4
          · subst h40
            refine aw_then fun K4 hK4 => ?_
            refine aw_reg fun K hK => ?_; simp (maxSteps := 200000) (disch := omega) [-List.getD_eq_getElem?_getD]; refine hK _ ?_; clear hK K
            refine aw_if rfl (fun h => absurd h (by simp)) (fun h => ?_)
            refine aw_skip ?_; simp (maxSteps := 200000) (disch := omega) [-List.getD_eq_getElem?_getD]
            refine hK4 _ ?_; clear hK4
            refine aw_then fun K4 hK4 => ?_
            refine aw_reg fun K hK => ?_; simp (maxSteps := 200000) (disch := omega) [-List.getD_eq_getElem?_getD]; refine hK _ ?_; clear hK K
            refine aw_block ?_
            refine aw_reg fun K hK => ?_; simp (maxSteps := 200000) (disch := omega) [-List.getD_eq_getElem?_getD]; refine hK _ ?_; clear hK K
            refine aw_if rfl (fun h => absurd h (by simp)) (fun h => ?_)
            refine aw_then fun K5 hK5 => ?_
            refine aw_reg fun K hK => ?_; simp (maxSteps := 200000) (disch := omega) [-List.getD_eq_getElem?_getD]; refine hK _ ?_; clear hK K
            refine aw_if rfl (fun h => absurd h (by simp)) (fun h => ?_)
            refine aw_reg0 fun K hK => ?_; simp (maxSteps := 200000) (disch := omega) [-List.getD_eq_getElem?_getD]
            refine hK _ ?_; clear hK K
            refine hK5 _ ?_; clear hK5
            refine aw_if rfl (fun h => ?_) (fun h => absurd h (by simp))
            refine aw_reg0 fun K hK => ?_; simp (maxSteps := 200000) (disch := omega) [-List.getD_eq_getElem?_getD]
            refine hK _ ?_; clear hK K
            refine hK4 _ ?_; clear hK4
            refine aw_reg fun K hK => ?_; simp (maxSteps := 200000) (disch := omega) [-List.getD_eq_getElem?_getD]; refine hK _ ?_; clear hK K
            refine aw_if rfl (fun h => absurd h (by simp)) (fun h => ?_)
            refine aw_skip ?_; simp (maxSteps := 200000) (disch := omega) [-List.getD_eq_getElem?_getD]
            refine key _ (out ++ [c]) at_ (out.length + 1) (by simp) h2 (by omega) (by rw [h4]; exact ains rfl) ?_
            simp [ints_snoc]
          · by_cases hat : at_ = a.length
            · have b1 : (kd != 4) = true := by simpa using h40
              have b2 : ((at_ : Int) == (a.length : Int)) = true := by simp; omega
              rw [anone h40 hat] at h4
              rw [h4] at hres
              refine aw_then fun K4 hK4 => ?_
              refine aw_reg fun K hK => ?_; simp (maxSteps := 200000) (disch := omega) [-List.getD_eq_getElem?_getD, b1, b2, h40]; refine hK _ ?_; clear hK K
              refine aw_if rfl (fun h => ?_) (fun h => absurd h (by simp))
              refine aw_reg fun K hK => ?_; simp (maxSteps := 200000) (disch := omega) [-List.getD_eq_getElem?_getD]; refine hK _ ?_; clear hK K
              refine aw_ret ?_; simp (maxSteps := 200000) (disch := omega) [-List.getD_eq_getElem?_getD]
              rw [hres]
              simp [nilInts]
            · have b1 : (kd != 4) = true := by simpa using h40
              have b2 : ((at_ : Int) == (a.length : Int)) = false := by simp; omega
              have hlt : at_ < a.length := by omega
              rcases hop with ⟨hop, hc0⟩ | hop | ⟨hop, hc0⟩ | hop
              · subst hop
                refine aw_then fun K4 hK4 => ?_
                refine aw_reg fun K hK => ?_; simp (maxSteps := 200000) (disch := omega) [-List.getD_eq_getElem?_getD, b2]; refine hK _ ?_; clear hK K
                refine aw_if rfl (fun h => absurd h (by simp)) (fun h => ?_)
                refine aw_skip ?_; simp (maxSteps := 200000) (disch := omega) [-List.getD_eq_getElem?_getD]
                refine hK4 _ ?_; clear hK4
                refine aw_then fun K4 hK4 => ?_
                refine aw_reg fun K hK => ?_; simp (maxSteps := 200000) (disch := omega) [-List.getD_eq_getElem?_getD]; refine hK _ ?_; clear hK K
                refine aw_block ?_
                refine aw_reg fun K hK => ?_; simp (maxSteps := 200000) (disch := omega) [-List.getD_eq_getElem?_getD]; refine hK _ ?_; clear hK K
                refine aw_if rfl (fun h => ?_) (fun h => absurd h (by simp))
                refine aw_reg0 fun K hK => ?_; simp (maxSteps := 200000) (disch := omega) [-List.getD_eq_getElem?_getD, getD_ints]
                refine hK _ ?_; clear hK K
                refine hK4 _ ?_; clear hK4
                refine aw_reg fun K hK => ?_; simp (maxSteps := 200000) (disch := omega) [-List.getD_eq_getElem?_getD]; refine hK _ ?_; clear hK K
                refine aw_if rfl (fun h => ?_) (fun h => absurd h (by simp))
                refine aw_reg0 fun K hK => ?_; simp (maxSteps := 200000) (disch := omega) [-List.getD_eq_getElem?_getD]
                refine hK _ ?_; clear hK K
                refine key _ (out ++ [a.getD at_ 0]) (at_ + 1) (out.length + 1) (by simp) (by omega) (by omega) (by rw [h4]; exact akeep rfl hlt) ?_
                simp [-List.getD_eq_getElem?_getD, ints_snoc]
              · subst hop
                refine aw_then fun K4 hK4 => ?_
                refine aw_reg fun K hK => ?_; simp (maxSteps := 200000) (disch := omega) [-List.getD_eq_getElem?_getD, b2]; refine hK _ ?_; clear hK K
                refine aw_if rfl (fun h => absurd h (by simp)) (fun h => ?_)
                refine aw_skip ?_; simp (maxSteps := 200000) (disch := omega) [-List.getD_eq_getElem?_getD]
                refine hK4 _ ?_; clear hK4
                refine aw_then fun K4 hK4 => ?_
                refine aw_reg fun K hK => ?_; simp (maxSteps := 200000) (disch := omega) [-List.getD_eq_getElem?_getD]; refine hK _ ?_; clear hK K
                refine aw_block ?_
                refine aw_reg fun K hK => ?_; simp (maxSteps := 200000) (disch := omega) [-List.getD_eq_getElem?_getD]; refine hK _ ?_; clear hK K
                refine aw_if rfl (fun h => absurd h (by simp)) (fun h => ?_)
                refine aw_then fun K5 hK5 => ?_
                refine aw_reg fun K hK => ?_; simp (maxSteps := 200000) (disch := omega) [-List.getD_eq_getElem?_getD]; refine hK _ ?_; clear hK K
                refine aw_if rfl (fun h => ?_) (fun h => absurd h (by simp))
                refine aw_skip ?_; simp (maxSteps := 200000) (disch := omega) [-List.getD_eq_getElem?_getD]
                refine hK5 _ ?_; clear hK5
                refine aw_if rfl (fun h => ?_) (fun h => absurd h (by simp))
                refine aw_reg0 fun K hK => ?_; simp (maxSteps := 200000) (disch := omega) [-List.getD_eq_getElem?_getD]
                refine hK _ ?_; clear hK K
                refine hK4 _ ?_; clear hK4
                refine aw_reg fun K hK => ?_; simp (maxSteps := 200000) (disch := omega) [-List.getD_eq_getElem?_getD]; refine hK _ ?_; clear hK K
                refine aw_if rfl (fun h => ?_) (fun h => absurd h (by simp))
                refine aw_reg0 fun K hK => ?_; simp (maxSteps := 200000) (disch := omega) [-List.getD_eq_getElem?_getD]
                refine hK _ ?_; clear hK K
                refine key _ (out ++ [c]) (at_ + 1) (out.length + 1) (by simp) (by omega) (by omega) (by rw [h4]; exact arep rfl hlt) ?_
                simp [ints_snoc]
              · subst hop
                refine aw_then fun K4 hK4 => ?_
                refine aw_reg fun K hK => ?_; simp (maxSteps := 200000) (disch := omega) [-List.getD_eq_getElem?_getD, b2]; refine hK _ ?_; clear hK K
                refine aw_if rfl (fun h => absurd h (by simp)) (fun h => ?_)
                refine aw_skip ?_; simp (maxSteps := 200000) (disch := omega) [-List.getD_eq_getElem?_getD]
                refine hK4 _ ?_; clear hK4
                refine aw_then fun K4 hK4 => ?_
                refine aw_reg fun K hK => ?_; simp (maxSteps := 200000) (disch := omega) [-List.getD_eq_getElem?_getD]; refine hK _ ?_; clear hK K
                refine aw_block ?_
                refine aw_reg fun K hK => ?_; simp (maxSteps := 200000) (disch := omega) [-List.getD_eq_getElem?_getD]; refine hK _ ?_; clear hK K
                refine aw_if rfl (fun h => absurd h (by simp)) (fun h => ?_)
                refine aw_then fun K5 hK5 => ?_
                refine aw_reg fun K hK => ?_; simp (maxSteps := 200000) (disch := omega) [-List.getD_eq_getElem?_getD]; refine hK _ ?_; clear hK K
                refine aw_if rfl (fun h => absurd h (by simp)) (fun h => ?_)
                refine aw_reg0 fun K hK => ?_; simp (maxSteps := 200000) (disch := omega) [-List.getD_eq_getElem?_getD]
                refine hK _ ?_; clear hK K
                refine hK5 _ ?_; clear hK5
                refine aw_if rfl (fun h => absurd h (by simp)) (fun h => ?_)
                refine aw_skip ?_; simp (maxSteps := 200000) (disch := omega) [-List.getD_eq_getElem?_getD]
                refine hK4 _ ?_; clear hK4
                refine aw_reg fun K hK => ?_; simp (maxSteps := 200000) (disch := omega) [-List.getD_eq_getElem?_getD]; refine hK _ ?_; clear hK K
                refine aw_if rfl (fun h => ?_) (fun h => absurd h (by simp))
                refine aw_reg0 fun K hK => ?_; simp (maxSteps := 200000) (disch := omega) [-List.getD_eq_getElem?_getD]
                refine hK _ ?_; clear hK K
                refine key _ out (at_ + 1) out.length rfl (by omega) (by omega) (by rw [h4]; exact adel rfl hlt) ?_
                simp
              · exact absurd hop h40
        · simp [-List.getD_eq_getElem?_getD] at hk2
          rw [AP_end (a := a) (l := l) (out := out) (at_ := at_) (k := k) (by omega)] at h4
          refine aw_exit ?_; simp (maxSteps := 200000) (disch := omega) [-List.getD_eq_getElem?_getD]
          refine hK1 _ ?_; clear hK1
          refine aw_then fun K2 hK2 => ?_
          refine aw_reg fun K hK => ?_; simp (maxSteps := 200000) (disch := omega) [-List.getD_eq_getElem?_getD]; refine hK _ ?_; clear hK K
          refine aw_if rfl (fun hat => ?_) (fun hat => ?_)
          · simp at hat
            rw [if_pos hat] at h4
            rw [h4] at hres
            refine aw_reg fun K hK => ?_; simp (maxSteps := 200000) (disch := omega) [-List.getD_eq_getElem?_getD]; refine hK _ ?_; clear hK K
            refine aw_ret ?_; simp (maxSteps := 200000) (disch := omega) [-List.getD_eq_getElem?_getD]
            rw [hres]
            simp [nilInts]
          · simp at hat
            rw [if_neg (by omega)] at h4
            rw [h4] at hres
            refine aw_skip ?_; simp (maxSteps := 200000) (disch := omega) [-List.getD_eq_getElem?_getD]
            refine hK2 _ ?_; clear hK2
            refine aw_reg fun K hK => ?_; simp (maxSteps := 200000) (disch := omega) [-List.getD_eq_getElem?_getD]; refine hK _ ?_; clear hK K
            refine aw_ret ?_; simp (maxSteps := 200000) (disch := omega) [-List.getD_eq_getElem?_getD]
            rw [hres]
            simp
end Go.Proofs.Ytgndlhfnenlhkaa
