/- The union of posting lists: going through both is the same as collecting the positions of each document.
   Conditions: none. -/
import Derived.Test.YtlijaamjcpefoaaPFn27
import Derived.Test.YtlijaamjcpefoaaPPl3
namespace Go.Proofs.Ytlijaamjcpefoaa
open Go Go.Am Post
set_option linter.unusedVariables false

def jF (o : List Int) (x : Int) : List Int := if (fun _ _ => true : Bool → Bool → Bool) true false then o ++ [x] else o
theorem jn_spec {a b : List Int} (ha : Asc a) (hb : Asc b) (n : Nat) (hn : a.length + b.length ≤ n) (o : List Int) : mgN jF jF jF n a b o = o ++ mgN jF jF jF n a b [] ∧
    (∀ z, z ∈ mgN jF jF jF n a b [] ↔ z ∈ a ∨ z ∈ b) ∧ Asc (mgN jF jF jF n a b []) := by
  obtain ⟨g1, g2, g3⟩ := mg_keep true true true n a b o hn ha hb
  refine ⟨g1, fun z => ?_, g3⟩
  refine (g2 z).trans ?_
  by_cases h1 : z ∈ a <;> by_cases h2 : z ∈ b <;> simp [h1, h2]
theorem jn_def (a b : List Int) : jn a b = mgN jF jF jF (a.length + b.length) a b [] := rfl
theorem jn_mem {a b : List Int} (ha : Asc a) (hb : Asc b) (z : Int) : z ∈ jn a b ↔ z ∈ a ∨ z ∈ b := (jn_spec ha hb _ (Nat.le_refl _) []).2.1 z
theorem jn_asc {a b : List Int} (ha : Asc a) (hb : Asc b) : Asc (jn a b) := (jn_spec ha hb _ (Nat.le_refl _) []).2.2
theorem jn_fuel {a b : List Int} (ha : Asc a) (hb : Asc b) {n : Nat} (hn : a.length + b.length ≤ n) : mgN jF jF jF n a b [] = jn a b := by
  refine asc_ext _ _ (jn_spec ha hb n hn []).2.2 (jn_asc ha hb) fun z => ?_
  rw [(jn_spec ha hb n hn []).2.1, jn_mem ha hb]
theorem jn_nilr {a : List Int} (ha : Asc a) : jn a [] = a := asc_ext _ _ (jn_asc ha List.Pairwise.nil) ha fun z => by rw [jn_mem ha List.Pairwise.nil]; simp
theorem jn_nill {a : List Int} (ha : Asc a) : jn [] a = a := asc_ext _ _ (jn_asc List.Pairwise.nil ha) ha fun z => by rw [jn_mem List.Pairwise.nil ha]; simp

/-- The posting of a document in the union. -/
def un1 (a b : PL) (d : Int) : Int × List Int := (d, jn (posOf a d) (posOf b d))
def unL (a b : PL) : PL := (jn (docs a) (docs b)).map (un1 a b)

theorem docs_cons (p : Int × List Int) (l : PL) : docs (p :: l) = p.1 :: docs l := rfl
theorem posOf_lt {l : PL} {d : Int} (h : ∀ p ∈ l, d < p.1) : posOf l d = [] := posOf_none fun p hp e => by have := h p hp; omega

theorem mgP_union : ∀ (n : Nat) (a b o : PL), a.length + b.length ≤ n → Asc' a → Asc' b → (∀ p ∈ a, Asc p.2) → (∀ p ∈ b, Asc p.2) →
    mgP (fun o x => o ++ [x]) (fun o y => o ++ [y]) (fun o x y => o ++ [(x.1, jn x.2 y.2)]) n a b o = o ++ (mgN jF jF jF n (docs a) (docs b) []).map (un1 a b) := by
  intro n
  induction n with
  | zero =>
    intro a b o h _ _ _ _
    have ha : a = [] := List.eq_nil_of_length_eq_zero (by omega)
    subst ha
    simp [mgP, mgN]
  | succ n ih =>
    intro a b o h ha hb pa pb
    have step : ∀ (a' b' : PL) (q : Int × List Int), Asc (docs a') → Asc (docs b') → (docs a').length + (docs b').length ≤ n → un1 a b q.1 = q → (∀ d, d ∈ docs a' ∨ d ∈ docs b' → un1 a' b' d = un1 a b d) →
        (o ++ [q]) ++ (mgN jF jF jF n (docs a') (docs b') []).map (un1 a' b') = o ++ (mgN jF jF jF n (docs a') (docs b') [q.1]).map (un1 a b) := by
      intro a' b' q g1 g2 g3 g4 g5
      obtain ⟨k1, k2, _⟩ := jn_spec g1 g2 n g3 [q.1]
      rw [k1, List.map_append, List.append_assoc]
      congr 1
      have : (mgN jF jF jF n (docs a') (docs b') []).map (un1 a' b') = (mgN jF jF jF n (docs a') (docs b') []).map (un1 a b) := List.map_congr_left fun d hd => g5 d ((k2 d).1 hd)
      rw [this]
      simp [g4]
    have hdl : ∀ l : PL, (docs l).length = l.length := fun l => by simp [docs]
    cases a with
    | nil =>
      cases b with
      | nil => simp [mgP, mgN, docs]
      | cons y b =>
        obtain ⟨h3, h4⟩ := asc'_tail hb
        rw [mgP, ih [] b _ (by simp at h ⊢; omega) ha h3 pa (fun p hp => pb p (by simp [hp])), step [] b y ha h3 (by rw [hdl, hdl]; simp at h ⊢; omega)]
        · rfl
        · unfold un1
          rw [posOf_cons_eq, show posOf [] y.1 = [] from rfl, jn_nill (pb y (by simp))]
        · intro d hd
          have : y.1 ≠ d := by
            rcases hd with hd | hd
            · simp [docs] at hd
            · obtain ⟨p, hp, e⟩ := List.mem_map.1 hd
              have := h4 p hp
              omega
          unfold un1
          rw [posOf_cons_ne this]
    | cons x a =>
      obtain ⟨h1, h2⟩ := asc'_tail ha
      cases b with
      | nil =>
        rw [mgP, ih a [] _ (by simp at h ⊢; omega) h1 hb (fun p hp => pa p (by simp [hp])) pb, step a [] x h1 hb (by rw [hdl, hdl]; simp at h ⊢; omega)]
        · rfl
        · unfold un1
          rw [posOf_cons_eq, show posOf [] x.1 = [] from rfl, jn_nilr (pa x (by simp))]
        · intro d hd
          have : x.1 ≠ d := by
            rcases hd with hd | hd
            · obtain ⟨p, hp, e⟩ := List.mem_map.1 hd
              have := h2 p hp
              omega
            · simp [docs] at hd
          unfold un1
          rw [posOf_cons_ne this]
      | cons y b =>
        obtain ⟨h3, h4⟩ := asc'_tail hb
        simp only [List.length_cons] at h
        rw [docs_cons x a, docs_cons y b]
        by_cases c1 : x.1 < y.1
        · have hyb : ∀ p ∈ y :: b, x.1 < p.1 := fun p hp => by
            rcases List.mem_cons.1 hp with rfl | hp
            · exact c1
            · have := h4 p hp; omega
          rw [mgP, if_pos c1, ih a (y :: b) _ (by simp; omega) h1 hb (fun p hp => pa p (by simp [hp])) pb, step a (y :: b) x h1 hb (by rw [hdl, hdl]; simp; omega), mgN, if_pos c1]
          · rfl
          · unfold un1
            rw [posOf_cons_eq, posOf_lt hyb, jn_nilr (pa x (by simp))]
          · intro d hd
            have : x.1 ≠ d := by
              rcases hd with hd | hd
              · obtain ⟨p, hp, e⟩ := List.mem_map.1 hd
                have := h2 p hp
                omega
              · obtain ⟨p, hp, e⟩ := List.mem_map.1 hd
                have := hyb p hp
                omega
            unfold un1
            rw [posOf_cons_ne (l := a) this]
        · by_cases c2 : y.1 < x.1
          · have hxa : ∀ p ∈ x :: a, y.1 < p.1 := fun p hp => by
              rcases List.mem_cons.1 hp with rfl | hp
              · exact c2
              · have := h2 p hp; omega
            rw [mgP, if_neg c1, if_pos c2, ih (x :: a) b _ (by simp; omega) ha h3 pa (fun p hp => pb p (by simp [hp])), step (x :: a) b y ha h3 (by rw [hdl, hdl]; simp; omega), mgN, if_neg c1, if_pos c2]
            · rfl
            · unfold un1
              rw [posOf_cons_eq, posOf_lt hxa, jn_nill (pb y (by simp))]
            · intro d hd
              have : y.1 ≠ d := by
                rcases hd with hd | hd
                · obtain ⟨p, hp, e⟩ := List.mem_map.1 hd
                  have := hxa p hp
                  omega
                · obtain ⟨p, hp, e⟩ := List.mem_map.1 hd
                  have := h4 p hp
                  omega
              unfold un1
              rw [posOf_cons_ne (l := b) this]
          · have e : x.1 = y.1 := by omega
            rw [mgP, if_neg c1, if_neg c2, ih a b _ (by omega) h1 h3 (fun p hp => pa p (by simp [hp])) (fun p hp => pb p (by simp [hp])), step a b (x.1, jn x.2 y.2) h1 h3 (by rw [hdl, hdl]; omega), mgN, if_neg c1, if_neg c2]
            · rfl
            · unfold un1
              rw [posOf_cons_eq, e, posOf_cons_eq]
            · intro d hd
              have : x.1 ≠ d := by
                rcases hd with hd | hd
                · obtain ⟨p, hp, e⟩ := List.mem_map.1 hd
                  have := h2 p hp
                  omega
                · obtain ⟨p, hp, e⟩ := List.mem_map.1 hd
                  have := h4 p hp
                  omega
              unfold un1
              rw [posOf_cons_ne (l := a) this, posOf_cons_ne (l := b) (by omega)]

theorem mgP_unL {a b : PL} (ha : Asc' a) (hb : Asc' b) (pa : ∀ p ∈ a, Asc p.2) (pb : ∀ p ∈ b, Asc p.2) : mgP (fun o x => o ++ [x]) (fun o y => o ++ [y]) (fun o x y => o ++ [(x.1, jn x.2 y.2)]) (a.length + b.length) a b [] = unL a b := by
  rw [mgP_union _ a b [] (Nat.le_refl _) ha hb pa pb, List.nil_append, jn_fuel (a := docs a) (b := docs b) ha hb (by simp [docs])]
  rfl
end Go.Proofs.Ytlijaamjcpefoaa
