/- Merging two neighbouring ranges in their place (slices' stable sort): plain laws.
   Conditions: none. -/
import Derived.Test.YtbijefgmleagnaaSSt2
namespace Sug
open Go.Proofs.Ytbijefgmleagnaa
/-- Two ranges in order, the words of the first one ahead of those of the second one. -/
structure MP (d : List Ent) (a m b : Nat) : Prop where
  l : Sg d a m
  r : Sg d m b
  w : ∀ p q, a ≤ p → p < m → m ≤ q → q < b → slt (d.getD p ze).1 (d.getD q ze).1 = true

theorem Sg.ge {d : List Ent} {a b i j : Nat} (h : Sg d a b) (h1 : a ≤ i) (h2 : i ≤ j) (h3 : j < b) : (d.getD j ze).2 ≤ (d.getD i ze).2 := by
  rcases Nat.eq_or_lt_of_le h2 with e | e
  · rw [e]; exact Int.le_refl _
  · exact fb_ge (h i j h1 e h3)
theorem Sg.sub {d : List Ent} {a b a' b' : Nat} (h : Sg d a b) (h1 : a ≤ a') (h2 : b' ≤ b) : Sg d a' b' := fun i j i1 i2 i3 => h i j (by omega) i2 (by omega)
theorem Sg.one (d : List Ent) {a b : Nat} (h : b ≤ a + 1) : Sg d a b := fun i j i1 i2 i3 => by omega

/-- The element at a has moved up to k. -/
def Mvl (d d2 : List Ent) (a k : Nat) : Prop := ∀ t, d2.getD t ze = if t = k then d.getD a ze else if a ≤ t ∧ t < k then d.getD (t + 1) ze else d.getD t ze
theorem Mvl.zero (d : List Ent) (a : Nat) : Mvl d d a a := by
  intro t
  split
  · rename_i h; rw [h]
  · rw [if_neg (by omega)]
theorem Mvl.step {d d2 : List Ent} {a k : Nat} (h : Mvl d d2 a k) (hk : a ≤ k) (hl : k + 1 < d2.length) : Mvl d (swp d2 k (k + 1)) a (k + 1) := by
  intro t
  rw [swp_get (by omega) (by omega)]
  by_cases h1 : t = k + 1
  · rw [if_pos h1, if_pos h1, h k, if_pos rfl]
  · rw [if_neg h1, if_neg h1]
    by_cases h2 : t = k
    · subst h2
      rw [if_pos rfl, if_pos (by omega), h (t + 1), if_neg (by omega), if_neg (by omega)]
    · rw [if_neg h2, h t, if_neg h2]
      by_cases h3 : a ≤ t ∧ t < k
      · rw [if_pos h3, if_pos (by omega)]
      · rw [if_neg h3, if_neg (by omega)]
theorem Mvl.seg {d d2 : List Ent} {a k : Nat} (h : Mvl d d2 a k) (hk : a ≤ k) (hp : d2.Perm d) : Seg d d2 a (k + 1) := by
  refine ⟨hp, fun t ht => ?_, fun t h1 h2 => ?_⟩
  · rw [h t, if_neg (by omega), if_neg (by omega)]
  · rw [h t]
    split
    · exact ⟨a, by omega, by omega, rfl⟩
    · split
      · exact ⟨t + 1, by omega, by omega, rfl⟩
      · exact ⟨t, h1, h2, rfl⟩
theorem Mvl.sorted {d d2 : List Ent} {a k b : Nat} (h : Mvl d d2 a k) (hk : a ≤ k) (hkb : k < b) (hm : MP d a (a + 1) b) (hlo : ∀ t, a + 1 ≤ t → t < k + 1 → (d.getD a ze).2 < (d.getD t ze).2) (hhi : ∀ t, k + 1 ≤ t → t < b → (d.getD t ze).2 ≤ (d.getD a ze).2) : Sg d2 a b := by
  intro p q h1 h2 h3
  rw [h p, h q]
  by_cases p1 : p = k
  · rw [if_pos p1, if_neg (by omega), if_neg (by omega)]
    exact fb_mk (hhi q (by omega) h3) (hm.w a q (by omega) (by omega) (by omega) h3)
  · rw [if_neg p1]
    by_cases q1 : q = k
    · rw [if_pos q1, if_pos (by omega)]
      exact fb_gt (hlo (p + 1) (by omega) (by omega))
    · rw [if_neg q1]
      by_cases p2 : p < k
      · rw [if_pos (by omega)]
        by_cases q2 : q < k
        · rw [if_pos (by omega)]
          exact hm.r _ _ (by omega) (by omega) (by omega)
        · rw [if_neg (by omega)]
          exact hm.r _ _ (by omega) (by omega) (by omega)
      · rw [if_neg (by omega), if_neg (by omega)]
        exact hm.r _ _ (by omega) (by omega) (by omega)

theorem rotAt_triv {d : List Ent} {a m b t : Nat} (h1 : a ≤ m) (h2 : m ≤ b) (h : a = m ∨ m = b) : rotAt d a m b t = d.getD t ze := by
  by_cases ho : t < a ∨ b ≤ t
  · exact rotAt_out ho
  · rcases h with h | h
    · subst h
      rw [rotAt_lo (by omega) (by omega) (by omega)]
      congr 1; omega
    · subst h
      rw [rotAt_hi (by omega) (by omega) (by omega)]
      congr 1; omega

/-- Two ranges, cut so that the parts can be merged each by itself. -/
structure Cut (d r : List Ent) (a m b st en mid : Nat) : Prop where
  perm : r.Perm d
  at_ : ∀ t, r.getD t ze = rotAt d st m en t
  h1 : a ≤ st
  h2 : st ≤ m
  h3 : m ≤ en
  h4 : en ≤ b
  hm : mid = st + (en - m)
  hu : ∀ u v, a ≤ u → u < st → en ≤ v → v < b → (d.getD v ze).2 ≤ (d.getD u ze).2
  hv : ∀ u v, st ≤ u → u < m → m ≤ v → v < en → (d.getD u ze).2 < (d.getD v ze).2

section
variable {d r : List Ent} {a m b st en mid : Nat}
theorem Cut.lo (c : Cut d r a m b st en mid) {t : Nat} (h : t < st) : r.getD t ze = d.getD t ze := by rw [c.at_, rotAt_out (.inl h)]
theorem Cut.hi (c : Cut d r a m b st en mid) {t : Nat} (h : en ≤ t) : r.getD t ze = d.getD t ze := by rw [c.at_, rotAt_out (.inr h)]
theorem Cut.mb (c : Cut d r a m b st en mid) {t : Nat} (h1 : st ≤ t) (h2 : t < mid) : r.getD t ze = d.getD (m + (t - st)) ze := by
  have := c.hm
  have := c.h3
  rw [c.at_, rotAt_lo h1 (by have := c.h2; omega) (by omega)]
theorem Cut.ma (c : Cut d r a m b st en mid) {t : Nat} (h1 : mid ≤ t) (h2 : t < en) : r.getD t ze = d.getD (t - (en - m)) ze := by
  have := c.hm
  rw [c.at_, rotAt_hi (by omega) h2 (by omega)]
theorem Cut.seg (c : Cut d r a m b st en mid) : Seg d r a b := by
  have g1 := c.h1; have g2 := c.h2; have g3 := c.h3; have g4 := c.h4; have g5 := c.hm
  refine ⟨c.perm, fun t ht => ?_, fun t t1 t2 => ?_⟩
  · rcases ht with ht | ht
    · exact c.lo (by omega)
    · exact c.hi (by omega)
  · by_cases q1 : t < st
    · exact ⟨t, t1, t2, c.lo q1⟩
    · by_cases q2 : t < mid
      · exact ⟨_, by omega, by omega, c.mb (by omega) q2⟩
      · by_cases q3 : t < en
        · exact ⟨_, by omega, by omega, c.ma (by omega) q3⟩
        · exact ⟨t, t1, t2, c.hi (by omega)⟩
theorem Cut.mp1 (c : Cut d r a m b st en mid) (h : MP d a m b) : MP r a st mid := by
  have g1 := c.h1; have g2 := c.h2; have g3 := c.h3; have g4 := c.h4; have g5 := c.hm
  refine ⟨fun p q p1 p2 p3 => ?_, fun p q p1 p2 p3 => ?_, fun p q p1 p2 p3 p4 => ?_⟩
  · rw [c.lo (by omega), c.lo (by omega)]; exact h.l p q p1 p2 (by omega)
  · rw [c.mb p1 (by omega), c.mb (by omega) p3]; exact h.r _ _ (by omega) (by omega) (by omega)
  · rw [c.lo p2, c.mb p3 p4]; exact h.w _ _ p1 (by omega) (by omega) (by omega)
theorem Cut.mp2 (c : Cut d r a m b st en mid) (h : MP d a m b) : MP r mid en b := by
  have g1 := c.h1; have g2 := c.h2; have g3 := c.h3; have g4 := c.h4; have g5 := c.hm
  refine ⟨fun p q p1 p2 p3 => ?_, fun p q p1 p2 p3 => ?_, fun p q p1 p2 p3 p4 => ?_⟩
  · rw [c.ma p1 (by omega), c.ma (by omega) p3]; exact h.l _ _ (by omega) (by omega) (by omega)
  · rw [c.hi p1, c.hi (by omega)]; exact h.r _ _ (by omega) (by omega) (by omega)
  · rw [c.ma p1 p2, c.hi p3]; exact h.w _ _ (by omega) (by omega) (by omega) p4
theorem Cut.cross (c : Cut d r a m b st en mid) (h : MP d a m b) {u v : Nat} (u1 : a ≤ u) (u2 : u < mid) (v1 : mid ≤ v) (v2 : v < b) : fb (r.getD u ze) (r.getD v ze) = true := by
  have g1 := c.h1; have g2 := c.h2; have g3 := c.h3; have g4 := c.h4; have g5 := c.hm
  by_cases q1 : u < st
  · rw [c.lo q1]
    by_cases q2 : v < en
    · rw [c.ma v1 q2]; exact h.l _ _ u1 (by omega) (by omega)
    · rw [c.hi (by omega)]; exact fb_mk (c.hu u v u1 q1 (by omega) v2) (h.w _ _ u1 (by omega) (by omega) v2)
  · rw [c.mb (by omega) u2]
    by_cases q2 : v < en
    · rw [c.ma v1 q2]; exact fb_gt (c.hv _ _ (by omega) (by omega) (by omega) (by omega))
    · rw [c.hi (by omega)]; exact h.r _ _ (by omega) (by omega) v2
theorem Cut.done (c : Cut d r a m b st en mid) (h : MP d a m b) {r1 r2 : List Ent} (k1 : Seg r r1 a mid) (s1 : Sg r1 a mid) (k2 : Seg r1 r2 mid b) (s2 : Sg r2 mid b) : Seg d r2 a b ∧ Sg r2 a b := by
  have g1 := c.h1; have g2 := c.h2; have g3 := c.h3; have g4 := c.h4; have g5 := c.hm
  refine ⟨c.seg.trans ((k1.wide (Nat.le_refl _) (by omega)).trans (k2.wide (by omega) (Nat.le_refl _))), fun p q p1 p2 p3 => ?_⟩
  by_cases q1 : q < mid
  · rw [k2.out p (.inl (by omega)), k2.out q (.inl q1)]; exact s1 p q p1 p2 q1
  · by_cases q2 : mid ≤ p
    · exact s2 p q q2 p2 p3
    · rw [k2.out p (.inl (by omega))]
      obtain ⟨u, u1, u2, u3⟩ := k1.frm p p1 (by omega)
      obtain ⟨v, v1, v2, v3⟩ := k2.frm q (by omega) p3
      rw [u3, v3, k1.out v (.inr v1)]
      exact c.cross h u1 u2 v1 v2
theorem Cut.mp2' (c : Cut d r a m b st en mid) (h : MP d a m b) {r1 : List Ent} (k1 : Seg r r1 a mid) : MP r1 mid en b := by
  have h2 := c.mp2 h
  have g4 := c.h4; have g5 := c.hm; have g3 := c.h3; have g2 := c.h2
  have e : ∀ t, mid ≤ t → r1.getD t ze = r.getD t ze := fun t ht => k1.out t (.inr ht)
  refine ⟨fun p q p1 p2 p3 => ?_, fun p q p1 p2 p3 => ?_, fun p q p1 p2 p3 p4 => ?_⟩
  · rw [e p p1, e q (by omega)]; exact h2.l p q p1 p2 p3
  · rw [e p (by omega), e q (by omega)]; exact h2.r p q p1 p2 p3
  · rw [e p p1, e q (by omega)]; exact h2.w p q p1 p2 p3 p4
end

/-- What the search from both ends finds. -/
theorem sym_cut {d : List Ent} {a m b st r0 s0 mid : Nat} (h : MP d a m b) (hmid : mid = (a + b) / 2) (ham : a < m) (hmb : m < b) (hs : (m ≤ mid ∧ s0 = a ∧ r0 = m) ∨ (mid < m ∧ s0 = mid + m - b ∧ r0 = mid)) (h1 : s0 ≤ st) (h2 : st ≤ r0)
    (hlo : ∀ c, s0 ≤ c → c < st → (d.getD (mid + m - 1 - c) ze).2 ≤ (d.getD c ze).2) (hhi : ∀ c, st ≤ c → c < r0 → (d.getD c ze).2 < (d.getD (mid + m - 1 - c) ze).2) {r : List Ent} (hp : r.Perm d) (hr : ∀ t, r.getD t ze = rotAt d st m (mid + m - st) t) :
    Cut d r a m b st (mid + m - st) mid := by
  refine ⟨hp, hr, by omega, by omega, by omega, by omega, by omega, fun u v u1 u2 v1 v2 => ?_, fun u v u1 u2 v1 v2 => ?_⟩
  · have hst : s0 < st := by omega
    have e := hlo (st - 1) (by omega) (by omega)
    rw [show mid + m - 1 - (st - 1) = mid + m - st by omega] at e
    have e1 := h.l.ge u1 (by omega : u ≤ st - 1) (by omega)
    have e2 := h.r.ge (by omega : m ≤ mid + m - st) v1 v2
    omega
  · have hst : st < r0 := by omega
    have e := hhi st (Nat.le_refl _) hst
    have e1 := h.l.ge (by omega : a ≤ st) u1 u2
    have e2 := h.r.ge v1 (by omega : v ≤ mid + m - 1 - st) (by omega)
    omega
end Sug
