/- Words of a dictionary are their own best words; correcting twice (layer 43).
   Conditions: none. -/
import Derived.Test.YtbijefgmleagnaaSPl2
import Derived.Test.YtbijefgmleagnaaSFn11
namespace Sug
open Go.Proofs.Ytbijefgmleagnaa

theorem count_pos {l : List Ent} (hv : validE l = true) {e : Ent} (he : e ∈ l) : 0 < countE l e.1 := by
  obtain ⟨j, hj, e1⟩ := memD_inv ([], 0) he
  rw [countE, if_pos hv, ← e1, look_at hj (fun i hi => slt_ne (validE_lt hv hi hj))]
  have := ((validE_iff l).1 hv).1 j hj
  have h2 := this.1
  simp only [okE, Bool.and_eq_true] at h2
  have := of_decide_eq_true h2.2
  omega

theorem count_mem {l : List Ent} {w : Str} (h : 0 < countE l w) : ∃ e ∈ l, e.1 = w := by
  unfold countE at h
  split at h
  · unfold lookE at h
    cases hf : l.find? (fun e => e.1 == w) with
    | none => rw [hf] at h; exact absurd h (by decide)
    | some e => exact ⟨e, List.mem_of_find?_eq_some hf, by simpa using List.find?_some hf⟩
  · exact absurd h (by decide)

theorem best_mem {l : List Ent} {w : Str} {k : Int} (h : (bestE l w k).2 = true) : ∃ e ∈ l, e.1 = (bestE l w k).1 ∧ distE w e.1 ≤ k := by
  unfold bestE at h ⊢
  cases hd : withinE l w k with
  | nil => rw [hd] at h; cases h
  | cons x r =>
    unfold withinE at hd
    split at hd
    · have hm : x ∈ foundE l w k := sort_mem.1 (by rw [hd]; simp)
      obtain ⟨e, he, rfl, hk⟩ := found_mem hm
      exact ⟨e, he, rfl, by rw [distE_symm]; exact hk⟩
    · cases hd

theorem best_in {l : List Ent} {w : Str} {k : Int} (hv : validE l = true) (h0 : 0 ≤ k) (h3 : k ≤ 3) (h : 0 < countE l w) : bestE l w k = (w, true) := by
  obtain ⟨e, he, rfl⟩ := count_mem h
  have hz : distE e.1 e.1 = 0 := (distE_zero _ _).2 rfl
  have hm : (e.1, (0 : Int), e.2) ∈ sortF (foundE l e.1 k) := sort_mem.2 (List.mem_filterMap.2 ⟨e, he, by rw [nearOf, hz, if_pos h0]⟩)
  have hs := sortF_sorted (foundE l e.1 k)
  unfold bestE withinE
  rw [if_pos ⟨hv, h0, h3⟩]
  cases hd : sortF (foundE l e.1 k) with
  | nil => rw [hd] at hm; cases hm
  | cons x r =>
    rw [hd] at hm hs
    have hx : x ∈ foundE l e.1 k := sort_mem.1 (by rw [hd]; simp)
    obtain ⟨e2, he2, rfl, hk⟩ := found_mem hx
    have hn := distE_nonneg e2.1 e.1
    have hle : distE e2.1 e.1 = 0 := by
      rcases List.mem_cons.1 hm with h1 | h1
      · exact (Prod.mk.inj (Prod.mk.inj h1).2).1.symm
      · have := (List.pairwise_cons.1 hs).1 _ h1
        rw [Bool.not_eq_true', aheadF] at this
        simp only at this
        split at this
        · have := of_decide_eq_false this
          omega
        · rename_i h2
          have : 0 = distE e2.1 e.1 := by simpa using h2
          exact this.symm
    have : e2.1 = e.1 := (distE_zero _ _).1 hle
    simp only [this]

theorem corr_in {l : List Ent} {w : Str} {k : Int} (h : 0 < countE l w) : corr l k w = w ∧ chg l k w = false := by
  refine ⟨by rw [corr, if_pos h], ?_⟩
  rw [chg, decide_eq_false (by omega), Bool.false_and]
theorem corr_best {l : List Ent} {w : Str} {k : Int} (h : ¬ 0 < countE l w) (hb : (bestE l w k).2 = true) : corr l k w = (bestE l w k).1 ∧ chg l k w = true := by
  refine ⟨by rw [corr, if_neg h, if_pos hb], ?_⟩
  rw [chg, hb, Bool.and_true, decide_eq_true (by omega)]
theorem corr_none {l : List Ent} {w : Str} {k : Int} (hb : (bestE l w k).2 = false) : corr l k w = w ∧ chg l k w = false := by
  refine ⟨?_, by rw [chg, hb, Bool.and_false]⟩
  unfold corr
  split
  · rfl
  · rw [if_neg (by rw [hb]; simp)]

theorem corr_twice {l : List Ent} (hv : validE l = true) (k : Int) (w : Str) : corr l k (corr l k w) = corr l k w ∧ chg l k (corr l k w) = false := by
  by_cases h : 0 < countE l w
  · rw [(corr_in (k := k) h).1]; exact corr_in h
  · cases hb : (bestE l w k).2 with
    | false => rw [(corr_none hb).1]; exact corr_none hb
    | true =>
      rw [(corr_best h hb).1]
      obtain ⟨e, he, e1, _⟩ := best_mem hb
      rw [← e1]
      exact corr_in (count_pos hv he)
theorem corL_twice {l : List Ent} (hv : validE l = true) (k : Int) (ws : List Str) : corL l k (corL l k ws) = corL l k ws := by
  simp only [corL, List.map_map]
  exact List.map_congr_left fun w _ => (corr_twice hv k w).1
theorem cntL_twice {l : List Ent} (hv : validE l = true) (k : Int) (ws : List Str) : cntL l k (corL l k ws) = 0 := by
  rw [cntL, List.countP_eq_zero]
  intro w hw
  obtain ⟨u, _, rfl⟩ := List.mem_map.1 hw
  rw [(corr_twice hv k u).2]
  simp
theorem chg_ne {l : List Ent} (hv : validE l = true) (k : Int) (w : Str) : chg l k w = (corr l k w != w) := by
  by_cases h : 0 < countE l w
  · rw [(corr_in (k := k) h).1, (corr_in h).2]; simp
  · cases hb : (bestE l w k).2 with
    | false => rw [(corr_none hb).1, (corr_none hb).2]; simp
    | true =>
      rw [(corr_best h hb).1, (corr_best h hb).2]
      obtain ⟨e, he, e1, _⟩ := best_mem hb
      have hne : (bestE l w k).1 ≠ w := fun e2 => h (by rw [← e2, ← e1]; exact count_pos hv he)
      exact (bne_iff_ne.2 hne).symm
end Sug
