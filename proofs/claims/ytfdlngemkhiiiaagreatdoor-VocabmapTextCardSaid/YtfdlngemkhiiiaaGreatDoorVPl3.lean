/- Of: the valid list of some mappings; the ways as the reference collects them (layer 26), in plain Lean.
   Conditions: none. -/
import Derived.Test.YtfdlngemkhiiiaaGreatDoorVPl2
namespace Voc
theorem getD_mem {l : List Mp} {i : Nat} (h : i < l.length) : l.getD i d0 ∈ l := by
  rw [List.getD_eq_getElem?_getD, List.getElem?_eq_getElem h]; exact List.getElem_mem h
theorem ends_of {x y : Mp} (h1 : lt2 x y = false) (h2 : lt2 y x = false) : ends x = ends y := by
  obtain ⟨a, b, c⟩ := x
  obtain ⟨d, e, f⟩ := y
  simp only [lt2, decide_eq_false_iff_not, ends, Prod.mk.injEq] at h1 h2 ⊢
  omega
theorem lt2_ends {x y : Mp} (h : lt2 x y = true) : ends x ≠ ends y := by
  obtain ⟨a, b, c⟩ := x
  obtain ⟨d, e, f⟩ := y
  simp only [lt2, decide_eq_true_eq, ends, ne_eq, Prod.mk.injEq] at h ⊢
  omega
theorem lt2_congr {x y z : Mp} (h : ends x = ends y) : lt2 z x = lt2 z y := by
  obtain ⟨a, b, c⟩ := x
  obtain ⟨d, e, f⟩ := y
  simp only [ends, Prod.mk.injEq] at h
  simp only [lt2, h.1, h.2]
theorem asc_inj {l : List Mp} (h : Asc l) {x y : Mp} (hx : x ∈ l) (hy : y ∈ l) (he : ends x = ends y) : x = y := by
  induction l with
  | nil => cases hx
  | cons z r ih =>
    rw [Asc, List.pairwise_cons] at h
    rcases List.mem_cons.1 hx with e1 | hx2 <;> rcases List.mem_cons.1 hy with e2 | hy2
    · rw [e1, e2]
    · rw [e1] at he; exact absurd he (lt2_ends (h.1 y hy2))
    · rw [e2] at he; exact absurd he.symm (lt2_ends (h.1 x hx2))
    · exact ih h.2 hx2 hy2
theorem insK {out : List Mp} {x : Mp} {k : Nat} (ha : Asc out) (h1 : ∀ j, j < k → j < out.length → lt2 (out.getD j d0) x = true) (h2 : k < out.length → lt2 x (out.getD k d0) = true) : Asc (out.take k ++ x :: out.drop k) := by
  rw [Asc, List.pairwise_append]
  refine ⟨ha.sublist (List.take_sublist _ _), ?_, ?_⟩
  · rw [List.pairwise_cons]
    refine ⟨fun y hy => ?_, ha.sublist (List.drop_sublist _ _)⟩
    obtain ⟨j, hj, e⟩ := List.mem_iff_getElem.1 hy
    rw [List.length_drop] at hj
    rw [List.getElem_drop] at e
    have hk := h2 (by omega)
    rcases Nat.eq_zero_or_pos j with rfl | hj0
    · rw [← e]
      rw [List.getD_eq_getElem?_getD, List.getElem?_eq_getElem (by omega)] at hk
      exact hk
    · refine lt2_trans hk ?_
      rw [← e, List.getD_eq_getElem?_getD, List.getElem?_eq_getElem (by omega)]
      exact List.pairwise_iff_getElem.1 ha k (k + j) (by omega) (by omega) (by omega)
  · intro y hy z hz
    obtain ⟨j, hj, e⟩ := List.mem_iff_getElem.1 hy
    rw [List.length_take] at hj
    rw [List.getElem_take] at e
    have h1j := h1 j (by omega) (by omega)
    rw [List.getD_eq_getElem?_getD, List.getElem?_eq_getElem (by omega), Option.getD_some, e] at h1j
    rcases List.mem_cons.1 hz with rfl | hz
    · exact h1j
    · rw [← List.take_append_drop k out, Asc, List.pairwise_append] at ha
      exact ha.2.2 y hy z hz
/-- Without what stands later once more. -/
def und : List Mp → List Mp
  | [] => []
  | x :: r => if x ∈ r then und r else x :: und r
theorem mem_und {l : List Mp} {x : Mp} : x ∈ und l ↔ x ∈ l := by
  induction l with
  | nil => rfl
  | cons y r ih =>
    unfold und
    split
    · rename_i h
      rw [ih, List.mem_cons]
      exact ⟨.inr, fun h2 => h2.elim (fun e => e ▸ h) id⟩
    · rw [List.mem_cons, List.mem_cons, ih]
/-- No two mappings with the same ends and different kinds. -/
def noConf (l : List Mp) : Prop := ∀ x ∈ l, ∀ y ∈ l, ends x = ends y → x = y
theorem und_nd {l : List Mp} (h : noConf l) : ((und l).map ends).Nodup := by
  induction l with
  | nil => simp [und]
  | cons y r ih =>
    have hr : noConf r := fun a ha b hb => h a (List.mem_cons_of_mem _ ha) b (List.mem_cons_of_mem _ hb)
    unfold und
    split
    · exact ih hr
    · rename_i hn
      rw [List.map_cons, List.nodup_cons]
      refine ⟨fun hm => ?_, ih hr⟩
      obtain ⟨z, hz, e⟩ := List.mem_map.1 hm
      rw [mem_und] at hz
      exact hn (h z (List.mem_cons_of_mem _ hz) y (by simp) e ▸ hz)
def dd (l : List Mp) : List Mp := sortM (und l)
theorem mem_dd {l : List Mp} {x : Mp} : x ∈ dd l ↔ x ∈ l := by rw [dd, sortM, (List.mergeSort_perm _ _).mem_iff, mem_und]
theorem dd_asc {l : List Mp} (h : noConf l) : Asc (dd l) := asc_sort (und_nd h)
theorem dd_of {l out : List Mp} (ha : Asc out) (hm : ∀ x, x ∈ out ↔ x ∈ l) : noConf l ∧ dd l = out := by
  have hn : noConf l := fun x hx y hy e => asc_inj ha ((hm x).2 hx) ((hm y).2 hy) e
  exact ⟨hn, asc_ext (dd_asc hn) ha fun x => by rw [mem_dd, hm]⟩
instance (l : List Mp) : Decidable (noConf l) := by unfold noConf; infer_instance
/-- The result of Of: the list, and the error. -/
def ofF (l : List Mp) : List Mp × Int := if l.all goodM = true then (if noConf l then (if (dd l).length ≤ 500 then (dd l, 0) else ([], 3)) else ([], 13)) else ([], 1)

/-- What the reference leaves of a way. -/
def pickR (x : Pr × List Bool) : Option Mp :=
  if x.2.getD 1 false then some (x.1.1, x.1.2, 1) else if x.2.getD 2 false && x.2.getD 3 false then none else if x.2.getD 2 false then some (x.1.1, x.1.2, 2) else some (x.1.1, x.1.2, 3)
theorem pickR_eq {x : Pr × List Bool} (h : x.2.getD 1 false = true ∨ x.2.getD 2 false = true ∨ x.2.getD 3 false = true) : pickR x = pickW x := by
  unfold pickR pickW
  cases e1 : x.2.getD 1 false <;> cases e2 : x.2.getD 2 false <;> cases e3 : x.2.getD 3 false <;> simp_all
def nz (ps : List (Pr × Nat)) : List (Pr × Nat) := ps.filter fun p => decide (p.2 ≠ 0)
def refW (l m : List Mp) : Wy := wall (nz (pairs l m))
theorem wall_snoc (ps : List (Pr × Nat)) (p : Pr × Nat) : wall (ps ++ [p]) = wadd (wall ps) p.1 p.2 := by simp [wall]
theorem wall_key (ps : List (Pr × Nat)) : ∀ e, e ∈ (wall ps).map (·.1) → ∃ n, (e, n) ∈ ps := by
  have key : ∀ (ps : List (Pr × Nat)) (w : Wy) (e : Pr), e ∈ (ps.foldl (fun w p => wadd w p.1 p.2) w).map (·.1) → e ∈ w.map (·.1) ∨ ∃ n, (e, n) ∈ ps := by
    intro ps
    induction ps with
    | nil => intro w e h; exact .inl h
    | cons p r ih =>
      intro w e h
      rcases ih _ e h with h2 | ⟨n, h2⟩
      · rw [wadd_keys] at h2
        split at h2
        · exact .inl h2
        · rcases List.mem_append.1 h2 with h3 | h3
          · exact .inl h3
          · rw [List.mem_singleton] at h3
            exact .inr ⟨p.2, by rw [h3]; exact List.mem_cons_self ..⟩
      · exact .inr ⟨n, List.mem_cons_of_mem _ h2⟩
  intro e h
  rcases key ps [] e h with h2 | h2
  · simp at h2
  · exact h2
theorem mem_nz {ps : List (Pr × Nat)} {p : Pr × Nat} : p ∈ nz ps ↔ p ∈ ps ∧ p.2 ≠ 0 := by simp [nz]
theorem refW_ok {l m : List Mp} (hl : kOk l) (hm : kOk m) : WOk (refW l m) (fun e n => SP l m e n ∧ n ≠ 0) :=
  (wall_ok _ fun p hp => pairs_lt hl hm p (mem_nz.1 hp).1).congr fun e n => by rw [mem_nz, mem_pairs]
theorem filterMap_same {α β : Type} {f g : α → Option β} : ∀ {l : List α}, (∀ x ∈ l, f x = g x) → l.filterMap f = l.filterMap g
  | [], _ => rfl
  | x :: r, h => by
    rw [List.filterMap_cons, List.filterMap_cons, h x (by simp), filterMap_same fun y hy => h y (List.mem_cons_of_mem _ hy)]
theorem refW_pick {l m : List Mp} (hl : kOk l) (hm : kOk m) : (refW l m).filterMap pickR = (refW l m).filterMap pickW := by
  refine filterMap_same fun x hx => ?_
  obtain ⟨e, ks⟩ := x
  refine pickR_eq ?_
  obtain ⟨n, hn⟩ := wall_key (nz (pairs l m)) e (List.mem_map.2 ⟨_, hx, rfl⟩)
  have h2 := mem_nz.1 hn
  have h4 := pairs_lt hl hm _ h2.1
  have hk := (((refW_ok hl hm).ks e ks hx).2 n h4).2 ⟨mem_pairs.1 h2.1, h2.2⟩
  have h0 : n ≠ 0 := h2.2
  simp only at h4 ⊢
  have : n = 1 ∨ n = 2 ∨ n = 3 := by omega
  rcases this with rfl | rfl | rfl
  · exact .inl hk
  · exact .inr (.inl hk)
  · exact .inr (.inr hk)
def refO (l m : List Mp) : List Mp := (refW l m).filterMap pickR
theorem refO_nd {l m : List Mp} (hl : kOk l) (hm : kOk m) : ((refO l m).map ends).Nodup := by rw [refO, refW_pick hl hm]; exact pick_nd (refW_ok hl hm)
theorem mem_refO {l m : List Mp} (hl : kOk l) (hm : kOk m) (x : Mp) : x ∈ refO l m ↔ kindP (SP l m) x := by
  rw [refO, refW_pick hl hm, mem_pick (refW_ok hl hm) x]
  simp [kindP]
theorem sublist_inj {l : List Mp} (h : (l.map ends).Nodup) : noConf l := by
  induction l with
  | nil => intro x hx; cases hx
  | cons z r ih =>
    rw [List.map_cons, List.nodup_cons] at h
    intro x hx y hy e
    rcases List.mem_cons.1 hx with e1 | hx2 <;> rcases List.mem_cons.1 hy with e2 | hy2
    · rw [e1, e2]
    · rw [e1] at e; exact absurd (List.mem_map.2 ⟨y, hy2, e.symm⟩) h.1
    · rw [e2] at e; exact absurd (List.mem_map.2 ⟨x, hx2, e⟩) h.1
    · exact ih h.2 x hx2 y hy2 e
theorem dd_nd {l : List Mp} (h : (l.map ends).Nodup) : dd l = sortM l := by
  have := dd_of (l := l) (asc_sort h) fun x => by rw [sortM, (List.mergeSort_perm _ _).mem_iff]
  exact this.2
theorem goodM_iff {x : Mp} : goodM x = true ↔ (1 ≤ x.1 ∧ x.1 ≤ 1000000000) ∧ (1 ≤ x.2.1 ∧ x.2.1 ≤ 1000000000) ∧ 1 ≤ x.2.2 ∧ x.2.2 ≤ 3 := by
  simp only [goodM, decide_eq_true_eq]; omega
theorem comp_good {l m : List Mp} (hl : ∀ x ∈ l, goodM x = true) (hm : ∀ x ∈ m, goodM x = true) {x : Mp} (h : kindP (SP l m) x) : goodM x = true := by
  have key : ∀ n, SP l m (x.1, x.2.1) n → (1 ≤ x.1 ∧ x.1 ≤ 1000000000) ∧ (1 ≤ x.2.1 ∧ x.2.1 ≤ 1000000000) := by
    rintro n ⟨y, hy, z, hz, _, he, _⟩
    rw [Prod.mk.injEq] at he
    rw [he.1, he.2]
    exact ⟨(goodM_iff.1 (hl y hy)).1, (goodM_iff.1 (hm z hz)).2.1⟩
  rw [goodM_iff]
  rcases h with ⟨e, h⟩ | ⟨e, _, h, _⟩ | ⟨e, _, h, _⟩ <;> exact ⟨(key _ h).1, (key _ h).2, by omega⟩
/-- What is left of the ways that have come. -/
def pk (w : Wy) (seen : List Nat) : List Mp := seen.filterMap fun j => w[j]?.bind pickW
theorem nodup_le : ∀ (n : Nat) (l : List Nat), l.Nodup → (∀ j ∈ l, j < n) → l.length ≤ n := by
  intro n
  induction n with
  | zero =>
    intro l _ h
    cases l with
    | nil => exact Nat.le_refl _
    | cons a r => exact absurd (h a (by simp)) (Nat.not_lt_zero _)
  | succ n ih =>
    intro l hn h
    have h1 := ih (l.erase n) (hn.erase n) fun j hj => by
      have := (hn.mem_erase_iff).1 hj
      have := h j this.2
      omega
    by_cases hm : n ∈ l
    · rw [List.length_erase_of_mem hm] at h1; omega
    · rw [List.erase_of_not_mem hm] at h1; omega
theorem mem_pk {w : Wy} {S : Pr → Nat → Prop} (h : WOk w S) {seen : List Nat} (ha : ∀ j, j < w.length → j ∈ seen) (x : Mp) : x ∈ pk w seen ↔ kindP S x := by
  rw [← mem_pick h, pk, List.mem_filterMap, List.mem_filterMap]
  constructor
  · rintro ⟨j, _, hj⟩
    rw [Option.bind_eq_some_iff] at hj
    obtain ⟨y, hy, hp⟩ := hj
    exact ⟨y, List.mem_of_getElem? hy, hp⟩
  · rintro ⟨y, hy, hp⟩
    obtain ⟨j, hj, e⟩ := List.mem_iff_getElem.1 hy
    exact ⟨j, ha j hj, by rw [List.getElem?_eq_getElem hj, e]; exact hp⟩
theorem pk_nd {w : Wy} {S : Pr → Nat → Prop} (h : WOk w S) {seen : List Nat} (hn : seen.Nodup) : ((pk w seen).map ends).Nodup := by
  have hk := h.nd
  rw [List.Nodup, List.pairwise_map, pk, List.pairwise_filterMap]
  refine hn.imp ?_
  intro i j hij x hx y hy
  rw [Option.bind_eq_some_iff] at hx hy
  obtain ⟨u, hu, hp⟩ := hx
  obtain ⟨v, hv, hq⟩ := hy
  rw [pickW_ends hp, pickW_ends hq]
  obtain ⟨h1, e1⟩ := List.getElem?_eq_some_iff.1 hu
  obtain ⟨h2, e2⟩ := List.getElem?_eq_some_iff.1 hv
  rw [List.Nodup, List.pairwise_iff_getElem] at hk
  have g1 : (w.map (·.1))[i]'(by rw [List.length_map]; exact h1) = u.1 := by rw [List.getElem_map, e1]
  have g2 : (w.map (·.1))[j]'(by rw [List.length_map]; exact h2) = v.1 := by rw [List.getElem_map, e2]
  rcases Nat.lt_or_ge i j with hlt | hge
  · have := hk i j (by rw [List.length_map]; exact h1) (by rw [List.length_map]; exact h2) hlt
    rw [g1, g2] at this; exact this
  · have := hk j i (by rw [List.length_map]; exact h2) (by rw [List.length_map]; exact h1) (by omega)
    rw [g1, g2] at this; exact fun e => this e.symm
theorem pk_snoc {w : Wy} {seen : List Nat} {j : Nat} {e : Pr} {ks : List Bool} (hj : w[j]? = some (e, ks)) : pk w (seen ++ [j]) = pk w seen ++ (pickW (e, ks)).toList := by
  rw [pk, List.filterMap_append, ← pk]
  simp only [List.filterMap_cons, hj, Option.bind_some, List.filterMap_nil]
  cases pickW (e, ks) <;> rfl
theorem pk_len {w : Wy} {seen : List Nat} : (pk w seen).length ≤ seen.length := List.length_filterMap_le _ _
/-- The reference's composition is the same. -/
theorem of_refO {l m : List Mp} (hl : ∀ x ∈ l, goodM x = true) (hm : ∀ x ∈ m, goodM x = true) :
    ofF (refO l m) = if (comp l m).length ≤ 500 then (comp l m, 0) else ([], 3) := by
  have kl : kOk l := fun x hx => (goodM_iff.1 (hl x hx)).2.2
  have km : kOk m := fun x hx => (goodM_iff.1 (hm x hx)).2.2
  have hg : (refO l m).all goodM = true := List.all_eq_true.2 fun x hx => comp_good hl hm ((mem_refO kl km x).1 hx)
  have hd : dd (refO l m) = comp l m := (dd_nd (refO_nd kl km)).trans (comp_of kl km (refO_nd kl km) (mem_refO kl km))
  rw [ofF, if_pos hg, if_pos (sublist_inj (refO_nd kl km)), hd]
end Voc
