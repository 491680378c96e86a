/- Ways and their kinds; the composition (layer 26), in plain Lean.
   Conditions: none. -/
import Derived.Test.YtfdlngemkhiiiaaGreatDoorVPl
namespace Voc
abbrev Pr := Int × Int
abbrev Wy := List (Pr × List Bool)
def zs4 : List Bool := [false, false, false, false]
@[simp] theorem zs4_len : zs4.length = 4 := rfl
/-- A further kind of a way. -/
def wadd : Wy → Pr → Nat → Wy
  | [], e, n => [(e, zs4.set n true)]
  | (e', ks) :: r, e, n => if e' = e then (e', ks.set n true) :: r else (e', ks) :: wadd r e n
def wget : Wy → Pr → List Bool
  | [], _ => zs4
  | (e', ks) :: r, e => if e' = e then ks else wget r e

structure WOk (w : Wy) (S : Pr → Nat → Prop) : Prop where
  nd : (w.map (·.1)).Nodup
  ks : ∀ e ks, (e, ks) ∈ w → ks.length = 4 ∧ ∀ n, n < 4 → (ks.getD n false = true ↔ S e n)
  key : ∀ e n, S e n → e ∈ w.map (·.1)

theorem WOk.nil : WOk [] (fun _ _ => False) := ⟨by simp, fun _ _ h => absurd h (by simp), fun _ _ h => h.elim⟩
theorem WOk.congr {w : Wy} {S S' : Pr → Nat → Prop} (h : WOk w S) (he : ∀ e n, S e n ↔ S' e n) : WOk w S' :=
  ⟨h.nd, fun e ks hm => ⟨(h.ks e ks hm).1, fun n hn => ((h.ks e ks hm).2 n hn).trans (he e n)⟩, fun e n hs => h.key e n ((he e n).2 hs)⟩

theorem wget_mem : ∀ {w : Wy} {e : Pr} {ks : List Bool}, (w.map (·.1)).Nodup → (e, ks) ∈ w → wget w e = ks := by
  intro w
  induction w with
  | nil => intro e ks _ h; simp at h
  | cons x r ih =>
    obtain ⟨e', ks'⟩ := x
    intro e ks hn h
    simp only [List.map_cons, List.nodup_cons] at hn
    rcases List.mem_cons.1 h with h | h
    · cases h; simp [wget]
    · have : e' ≠ e := fun he => hn.1 (by rw [he]; exact List.mem_map.2 ⟨_, h, rfl⟩)
      simp only [wget, if_neg this]
      exact ih hn.2 h
theorem wget_not : ∀ {w : Wy} {e : Pr}, e ∉ w.map (·.1) → wget w e = zs4 := by
  intro w
  induction w with
  | nil => intro e _; rfl
  | cons x r ih =>
    obtain ⟨e', ks'⟩ := x
    intro e h
    simp only [List.map_cons, List.mem_cons, not_or] at h
    simp only [wget, if_neg (Ne.symm h.1)]
    exact ih h.2
theorem wadd_keys : ∀ (w : Wy) (e : Pr) (n : Nat), (wadd w e n).map (·.1) = if e ∈ w.map (·.1) then w.map (·.1) else w.map (·.1) ++ [e] := by
  intro w e n
  induction w with
  | nil => simp [wadd]
  | cons x r ih =>
    obtain ⟨e', ks'⟩ := x
    by_cases h : e' = e
    · subst h; simp [wadd]
    · simp only [wadd, if_neg h, List.map_cons, ih, List.mem_cons]
      have h' : ¬ e = e' := fun he => h he.symm
      by_cases hm : e ∈ r.map (·.1)
      · rw [if_pos hm, if_pos (.inr hm)]
      · rw [if_neg hm, if_neg (by simp only [h', hm, or_self, not_false_eq_true])]; rfl
theorem wadd_mem : ∀ {w : Wy} {e : Pr} {n : Nat} {e' : Pr} {ks : List Bool}, (w.map (·.1)).Nodup → ((e', ks) ∈ wadd w e n ↔ (e' ≠ e ∧ (e', ks) ∈ w) ∨ (e' = e ∧ ks = (wget w e).set n true)) := by
  intro w
  induction w with
  | nil => intro e n e' ks _; simp [wadd, wget]
  | cons x r ih =>
    obtain ⟨f, fs⟩ := x
    intro e n e' ks hn
    simp only [List.map_cons, List.nodup_cons] at hn
    by_cases h : f = e
    · subst h
      simp only [wadd, wget, if_true, List.mem_cons, Prod.mk.injEq]
      constructor
      · rintro (⟨rfl, rfl⟩ | hm)
        · exact .inr ⟨rfl, rfl⟩
        · exact .inl ⟨fun he => hn.1 (by rw [← he]; exact List.mem_map.2 ⟨_, hm, rfl⟩), .inr hm⟩
      · rintro (⟨hne, ⟨rfl, _⟩ | hm⟩ | ⟨rfl, rfl⟩)
        · exact absurd rfl hne
        · exact .inr hm
        · exact .inl ⟨rfl, rfl⟩
    · simp only [wadd, wget, if_neg h, List.mem_cons, ih hn.2, Prod.mk.injEq]
      constructor
      · rintro (⟨rfl, rfl⟩ | ⟨hne, hm⟩ | h2)
        · exact .inl ⟨h, .inl ⟨rfl, rfl⟩⟩
        · exact .inl ⟨hne, .inr hm⟩
        · exact .inr h2
      · rintro (⟨hne, ⟨rfl, rfl⟩ | hm⟩ | h2)
        · exact .inl ⟨rfl, rfl⟩
        · exact .inr (.inl ⟨hne, hm⟩)
        · exact .inr (.inr h2)
theorem WOk.get {w : Wy} {S : Pr → Nat → Prop} (h : WOk w S) (e : Pr) : (wget w e).length = 4 ∧ ∀ n, n < 4 → ((wget w e).getD n false = true ↔ S e n) := by
  by_cases hm : e ∈ w.map (·.1)
  · obtain ⟨⟨e', ks⟩, hx, rfl⟩ := List.mem_map.1 hm
    rw [wget_mem h.nd hx]
    exact h.ks _ _ hx
  · rw [wget_not hm]
    refine ⟨rfl, fun n hn => ⟨fun hh => ?_, fun hs => absurd (h.key e n hs) hm⟩⟩
    exfalso
    match n, hn with
    | 0, _ => cases hh
    | 1, _ => cases hh
    | 2, _ => cases hh
    | 3, _ => cases hh
theorem WOk.add {w : Wy} {S : Pr → Nat → Prop} (h : WOk w S) (e : Pr) {n : Nat} (hn : n < 4) : WOk (wadd w e n) (fun e' n' => S e' n' ∨ (e' = e ∧ n' = n)) := by
  refine ⟨?_, fun e' ks hm => ?_, fun e' n' hs => ?_⟩
  · rw [wadd_keys]
    split
    · exact h.nd
    · rename_i hne
      rw [List.nodup_append]
      exact ⟨h.nd, by simp, fun a ha b hb => by simp at hb; rw [hb]; exact fun e => hne (by rw [← e]; exact ha)⟩
  · rcases (wadd_mem h.nd).1 hm with ⟨hne, hm⟩ | ⟨rfl, rfl⟩
    · exact ⟨(h.ks e' ks hm).1, fun n' hn' => by rw [(h.ks e' ks hm).2 n' hn']; simp [hne]⟩
    · obtain ⟨h1, h2⟩ := h.get e'
      refine ⟨by rw [List.length_set]; exact h1, fun n' hn' => ?_⟩
      by_cases hnn : n = n'
      · subst hnn
        simp [List.getD_eq_getElem?_getD, h1, hn]
      · rw [List.getD_eq_getElem?_getD, List.getElem?_set_ne hnn, ← List.getD_eq_getElem?_getD, h2 n' hn']
        simp [Ne.symm hnn]
  · rw [wadd_keys]
    split
    · rename_i hm
      rcases hs with hs | ⟨rfl, rfl⟩
      · exact h.key _ _ hs
      · exact hm
    · rcases hs with hs | ⟨rfl, rfl⟩
      · exact List.mem_append.2 (.inl (h.key _ _ hs))
      · simp

/-- What is left of a way. -/
def pickW (x : Pr × List Bool) : Option Mp :=
  if x.2.getD 1 false then some (x.1.1, x.1.2, 1) else if x.2.getD 2 false && !x.2.getD 3 false then some (x.1.1, x.1.2, 2) else if x.2.getD 3 false && !x.2.getD 2 false then some (x.1.1, x.1.2, 3) else none
def kindP (S : Pr → Nat → Prop) (x : Mp) : Prop :=
  (x.2.2 = 1 ∧ S (x.1, x.2.1) 1) ∨ (x.2.2 = 2 ∧ ¬ S (x.1, x.2.1) 1 ∧ S (x.1, x.2.1) 2 ∧ ¬ S (x.1, x.2.1) 3) ∨ (x.2.2 = 3 ∧ ¬ S (x.1, x.2.1) 1 ∧ S (x.1, x.2.1) 3 ∧ ¬ S (x.1, x.2.1) 2)
theorem pickW_iff {S : Pr → Nat → Prop} {e : Pr} {ks : List Bool} (h : ∀ n, n < 4 → (ks.getD n false = true ↔ S e n)) (x : Mp) : pickW (e, ks) = some x ↔ (x.1, x.2.1) = e ∧ kindP S x := by
  obtain ⟨a, b⟩ := e
  obtain ⟨f, t, k⟩ := x
  have h1 := h 1 (by omega)
  have h2 := h 2 (by omega)
  have h3 := h 3 (by omega)
  unfold pickW kindP
  simp only [Prod.mk.injEq]
  cases e1 : ks.getD 1 false <;> cases e2 : ks.getD 2 false <;> cases e3 : ks.getD 3 false <;> rw [e1] at h1 <;> rw [e2] at h2 <;> rw [e3] at h3 <;>
    simp only [Bool.false_eq_true, false_iff, true_iff] at h1 h2 h3 <;> simp only [Bool.false_eq_true, if_false, if_true, Bool.and_true, Bool.and_false, Bool.not_true, Bool.not_false, Option.some.injEq, Prod.mk.injEq, reduceCtorEq, false_iff, not_and]
  all_goals first
    | (rintro ⟨rfl, rfl⟩; simp [h1, h2, h3])
    | (constructor
       · rintro ⟨rfl, rfl, rfl⟩; simp [h1, h2, h3]
       · rintro ⟨⟨rfl, rfl⟩, hk⟩; simp [h1, h2, h3] at hk; exact ⟨rfl, rfl, hk.symm⟩)
theorem mem_pick {w : Wy} {S : Pr → Nat → Prop} (h : WOk w S) (x : Mp) : x ∈ w.filterMap pickW ↔ kindP S x := by
  rw [List.mem_filterMap]
  constructor
  · rintro ⟨⟨e, ks⟩, hm, hp⟩
    exact ((pickW_iff (h.ks e ks hm).2 x).1 hp).2
  · intro hk
    have hm : (x.1, x.2.1) ∈ w.map (·.1) := by
      rcases hk with ⟨_, hs⟩ | ⟨_, _, hs, _⟩ | ⟨_, _, hs, _⟩ <;> exact h.key _ _ hs
    obtain ⟨⟨e, ks⟩, hx, he⟩ := List.mem_map.1 hm
    exact ⟨(e, ks), hx, (pickW_iff (h.ks e ks hx).2 x).2 ⟨he.symm, by simpa using hk⟩⟩
def ends (x : Mp) : Pr := (x.1, x.2.1)
theorem pickW_ends {y : Pr × List Bool} {x : Mp} (h : pickW y = some x) : ends x = y.1 := by
  unfold pickW at h
  split at h
  · cases h; rfl
  · split at h
    · cases h; rfl
    · split at h
      · cases h; rfl
      · cases h
theorem pick_sub : ∀ (w : Wy), ((w.filterMap pickW).map ends).Sublist (w.map (·.1)) := by
  intro w
  induction w with
  | nil => simp
  | cons y r ih =>
    rw [List.filterMap_cons]
    cases h : pickW y with
    | none => exact .cons _ ih
    | some x => simp only [List.map_cons]; rw [pickW_ends h]; exact .cons_cons _ ih
theorem pick_nd {w : Wy} {S : Pr → Nat → Prop} (h : WOk w S) : ((w.filterMap pickW).map ends).Nodup := (pick_sub w).nodup h.nd

/-- Ascending by the ends. -/
abbrev Asc (l : List Mp) : Prop := l.Pairwise fun x y => lt2 x y = true
theorem asc_sort {l : List Mp} (h : (l.map ends).Nodup) : Asc (sortM l) := by
  have hp : (sortM l).Perm l := List.mergeSort_perm _ _
  have h1 : (sortM l).Pairwise fun x y => (!(lt3 y x)) = true := List.pairwise_mergeSort (fun a b c h1 h2 => by
    simp only [Bool.not_eq_true'] at h1 h2 ⊢
    exact lt3_ntrans c b a h2 h1) (fun a b => by
    cases h1 : lt3 b a with
    | false => rfl
    | true =>
      cases h2 : lt3 a b with
      | false => rfl
      | true => have := lt3_trans _ _ _ h1 h2; rw [lt3_irrefl] at this; cases this) l
  have h2 : ((sortM l).map ends).Nodup := (hp.map ends).nodup_iff.2 h
  rw [List.Nodup, List.pairwise_map] at h2
  refine (h1.and h2).imp ?_
  rintro ⟨a, b, c⟩ ⟨d, e, f⟩ ⟨g1, g2⟩
  simp only [Bool.not_eq_true', lt3, decide_eq_false_iff_not, lt2, decide_eq_true_eq, ends, ne_eq, Prod.mk.injEq] at g1 g2 ⊢
  omega
theorem asc_ext : ∀ {a b : List Mp}, Asc a → Asc b → (∀ x, x ∈ a ↔ x ∈ b) → a = b := by
  intro a
  induction a with
  | nil => intro b _ _ h; cases b with
    | nil => rfl
    | cons y s => have := (h y).2 (by simp); simp at this
  | cons x r ih =>
    intro b ha hb h
    cases b with
    | nil => have := (h x).1 (by simp); simp at this
    | cons y s =>
      simp only [Asc] at ha hb ih
      rw [List.pairwise_cons] at ha hb
      have e : x = y := by
        rcases List.mem_cons.1 ((h x).1 (by simp)) with e | hx
        · exact e
        · rcases List.mem_cons.1 ((h y).2 (by simp)) with e | hy
          · exact e.symm
          · have := lt2_trans (ha.1 y hy) (hb.1 x hx); rw [lt2_irrefl] at this; cases this
      subst e
      have h1 : ∀ z ∈ r, z ≠ x := fun z hz he => by have := ha.1 z hz; rw [he, lt2_irrefl] at this; cases this
      have h2 : ∀ z ∈ s, z ≠ x := fun z hz he => by have := hb.1 z hz; rw [he, lt2_irrefl] at this; cases this
      rw [ih ha.2 hb.2 fun z => ⟨fun hz => ?_, fun hz => ?_⟩]
      · rcases List.mem_cons.1 ((h z).1 (List.mem_cons_of_mem _ hz)) with e | h3
        · exact absurd e (h1 z hz)
        · exact h3
      · rcases List.mem_cons.1 ((h z).2 (List.mem_cons_of_mem _ hz)) with e | h3
        · exact absurd e (h2 z hz)
        · exact h3

/-- The kind of two mappings, one after the other. -/
def joinK (a b : Int) : Int := if a = 1 then b else if b = 1 ∨ a = b then a else 0
def pairs (l m : List Mp) : List (Pr × Nat) := l.flatMap fun x => (m.filter fun y => decide (y.1 = x.2.1)).map fun y => ((x.1, y.2.1), (joinK x.2.2 y.2.2).toNat)
def SP (l m : List Mp) (e : Pr) (n : Nat) : Prop := ∃ x ∈ l, ∃ y ∈ m, y.1 = x.2.1 ∧ e = (x.1, y.2.1) ∧ n = (joinK x.2.2 y.2.2).toNat
theorem mem_pairs {l m : List Mp} {e : Pr} {n : Nat} : (e, n) ∈ pairs l m ↔ SP l m e n := by
  unfold pairs SP
  simp only [List.mem_flatMap, List.mem_map, List.mem_filter, decide_eq_true_eq, Prod.mk.injEq]
  constructor
  · rintro ⟨x, hx, y, ⟨hy, h1⟩, rfl, rfl⟩; exact ⟨x, hx, y, hy, h1, rfl, rfl⟩
  · rintro ⟨x, hx, y, hy, h1, rfl, rfl⟩; exact ⟨x, hx, y, ⟨hy, h1⟩, rfl, rfl⟩
def wall (ps : List (Pr × Nat)) : Wy := ps.foldl (fun w p => wadd w p.1 p.2) []
theorem wall_ok (ps : List (Pr × Nat)) (h : ∀ p ∈ ps, p.2 < 4) : WOk (wall ps) (fun e n => (e, n) ∈ ps) := by
  have key : ∀ (ps : List (Pr × Nat)) (w : Wy) (S : Pr → Nat → Prop), (∀ p ∈ ps, p.2 < 4) → WOk w S → WOk (ps.foldl (fun w p => wadd w p.1 p.2) w) (fun e n => S e n ∨ (e, n) ∈ ps) := by
    intro ps
    induction ps with
    | nil => intro w S _ hw; exact hw.congr fun e n => by simp
    | cons p r ih =>
      intro w S h hw
      refine (ih _ _ (fun q hq => h q (by simp [hq])) (hw.add p.1 (h p (by simp)))).congr fun e n => ?_
      obtain ⟨pe, pn⟩ := p
      simp only [List.mem_cons, Prod.mk.injEq, or_assoc]
  exact (key ps [] _ h WOk.nil).congr fun e n => by simp
theorem joinK_lt {a b : Int} (ha : 1 ≤ a ∧ a ≤ 3) (hb : 1 ≤ b ∧ b ≤ 3) : 0 ≤ joinK a b ∧ joinK a b ≤ 3 := by unfold joinK; (repeat' split) <;> omega
/-- The composition. -/
def comp (l m : List Mp) : List Mp := sortM ((wall (pairs l m)).filterMap pickW)
def kOk (l : List Mp) : Prop := ∀ x ∈ l, 1 ≤ x.2.2 ∧ x.2.2 ≤ 3
theorem pairs_lt {l m : List Mp} (hl : kOk l) (hm : kOk m) : ∀ p ∈ pairs l m, p.2 < 4 := by
  rintro ⟨e, n⟩ hp
  obtain ⟨x, hx, y, hy, _, _, rfl⟩ := mem_pairs.1 hp
  have := joinK_lt (hl x hx) (hm y hy)
  simp only; omega
theorem comp_wok {l m : List Mp} (hl : kOk l) (hm : kOk m) : WOk (wall (pairs l m)) (SP l m) := (wall_ok _ (pairs_lt hl hm)).congr fun e n => mem_pairs
theorem comp_asc {l m : List Mp} (hl : kOk l) (hm : kOk m) : Asc (comp l m) := asc_sort (pick_nd (comp_wok hl hm))
theorem mem_comp {l m : List Mp} (hl : kOk l) (hm : kOk m) (x : Mp) : x ∈ comp l m ↔ kindP (SP l m) x := by
  rw [comp, sortM, (List.mergeSort_perm _ _).mem_iff]
  exact mem_pick (comp_wok hl hm) x
/-- Whatever order the ways come in. -/
theorem comp_of {l m : List Mp} (hl : kOk l) (hm : kOk m) {out : List Mp} (hn : (out.map ends).Nodup) (hk : ∀ x, x ∈ out ↔ kindP (SP l m) x) : sortM out = comp l m :=
  asc_ext (asc_sort hn) (comp_asc hl hm) fun x => by rw [mem_comp hl hm, ← hk, sortM, (List.mergeSort_perm _ _).mem_iff]
theorem comp_len {l m : List Mp} (hl : kOk l) (hm : kOk m) {out : List Mp} (hn : (out.map ends).Nodup) (hk : ∀ x, x ∈ out ↔ kindP (SP l m) x) : out.length = (comp l m).length := by
  rw [← comp_of hl hm hn hk, sortM_len]
/-- The result of Compose: the list, and the error. -/
def compF (l m : List Mp) : List Mp × Int := if validM l = true ∧ validM m = true then (if (comp l m).length ≤ 500 then (comp l m, 0) else ([], 3)) else ([], 1)
end Voc
