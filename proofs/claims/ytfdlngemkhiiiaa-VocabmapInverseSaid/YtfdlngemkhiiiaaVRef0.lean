/- Two slices that grow and are written to, side by side (layer 26).
   Conditions: none. -/
import Derived.Test.YtfdlngemkhiiiaaVComp
import Derived.Test.YtfdlngemkhiiiaaVOf
import Derived.Test.YtfdlngemkhiiiaaVPl4
import Derived.Test.YtfdlngemkhiiiaaAmDrT
namespace Go.Proofs.Ytfdlngemkhiiiaa
open Go Go.Am Voc
set_option linter.unusedVariables false

@[simp] theorem amade_four (a b c d : AV) : amade [a, b, c, d] 4 = [a, b, c, d] := rfl

/-- A slice that is appended to and written to: nothing yet, or a box. -/
def SL (H : List Blk) (z n : Nat) (vs : List AV) (H1 : List Blk) (s : AV) : Prop :=
  vs.length = n * z ∧ ((n = 0 ∧ s = .sl 0 [] .full) ∨ ∃ i cap r, s = .csl i n cap ∧ H.length ≤ i ∧ H1[i]? = some (.cells (vs ++ List.replicate r .top)) ∧ n * z + r = cap * z)
def slot : AV → Option Nat
  | .csl i _ _ => some i
  | _ => none
structure Two (H : List Blk) (T : Toks) (z1 n : Nat) (v1 : List AV) (z2 m : Nat) (v2 : List AV) (H1 : List Blk) (s1 s2 : AV) : Prop where
  ext : ∃ G, H1 = H ++ G
  ok : HOk H1 T
  fst : SL H z1 n v1 H1 s1
  snd : SL H z2 m v2 H1 s2
  apart : ∀ i, slot s1 = some i → slot s2 ≠ some i

section
variable {H H1 : List Blk} {T : Toks} {z1 n z2 m : Nat} {v1 v2 : List AV} {s1 s2 : AV}
theorem Two.symm (h : Two H T z1 n v1 z2 m v2 H1 s1 s2) : Two H T z2 m v2 z1 n v1 H1 s2 s1 := ⟨h.ext, h.ok, h.snd, h.fst, fun i h1 h2 => h.apart i h2 h1⟩
theorem SL.below {z : Nat} {vs : List AV} {s : AV} (h : SL H z n vs H1 s) : Below H1.length T.length s := by
  rcases h.2 with ⟨_, rfl⟩ | ⟨i, cap, r, rfl, hi, hb, hr⟩
  · simp
  · exact below_csl.2 (List.getElem?_eq_some_iff.1 hb).1
theorem Two.below1 (h : Two H T z1 n v1 z2 m v2 H1 s1 s2) : Below H1.length T.length s1 := h.fst.below
theorem Two.below2 (h : Two H T z1 n v1 z2 m v2 H1 s1 s2) : Below H1.length T.length s2 := h.snd.below
theorem Two.len (h : Two H T z1 n v1 z2 m v2 H1 s1 s2) : H.length ≤ H1.length := by obtain ⟨G, rfl⟩ := h.ext; simp
theorem SL.lt {z : Nat} {vs : List AV} {s : AV} (h : SL H z n vs H1 s) : ∀ i, slot s = some i → i < H1.length := by
  intro i hi
  rcases h.2 with ⟨_, rfl⟩ | ⟨i', cap, r, rfl, _, hb, hr⟩
  · cases hi
  · cases hi; exact (List.getElem?_eq_some_iff.1 hb).1
theorem SL.keep {z : Nat} {vs : List AV} {s : AV} {H2 : List Blk} (h : SL H z n vs H1 s) (hk : ∀ i, slot s = some i → i < H1.length → H2[i]? = H1[i]?) : SL H z n vs H2 s := by
  refine ⟨h.1, ?_⟩
  rcases h.2 with h | ⟨i, cap, r, rfl, hi, hb, hr⟩
  · exact .inl h
  · exact .inr ⟨i, cap, r, rfl, hi, by rw [hk i rfl (List.getElem?_eq_some_iff.1 hb).1]; exact hb, hr⟩
/-- A new box for the first slice. -/
theorem Two.fresh (h : Two H T z1 n v1 z2 m v2 H1 s1 s2) (k : Nat) (xs : List AV) (nc : Nat) (hx : xs.length = k * z1) (hn : k ≤ nc) (hb : BelowAll (H1.length + 1) T.length xs) :
    Two H T z1 k xs z2 m v2 (H1 ++ [.cells (xs ++ List.replicate ((nc - k) * z1) AV.top)]) (.csl H1.length k nc) s2 := by
  obtain ⟨G, rfl⟩ := h.ext
  refine ⟨⟨G ++ [.cells (xs ++ List.replicate ((nc - k) * z1) AV.top)], by simp⟩, h.ok.snoc ?_, ⟨hx, .inr ⟨_, nc, (nc - k) * z1, rfl, by simp, by simp, ?_⟩⟩, ?_, ?_⟩
  · intro v hv
    rcases List.mem_append.1 hv with hv | hv
    · exact hb v hv
    · rw [(List.mem_replicate.1 hv).2]; exact Below.top
  · rw [← Nat.add_mul]; congr 1; omega
  · exact h.snd.keep fun i hi hl => List.getElem?_append_left hl
  · intro i hi h2
    cases hi
    have := h.snd.lt _ h2
    omega
/-- The first slice is written to, in its own box. -/
theorem Two.write {i cap : Nat} {k : Nat} {xs ys : List AV} {r : Nat} (h : Two H T z1 n v1 z2 m v2 H1 (.csl i n cap) s2) (hx : xs.length = k * z1) (hy : ys = xs ++ List.replicate r AV.top) (hr : k * z1 + r = cap * z1) (hb : BelowAll H1.length T.length xs) :
    Two H T z1 k xs z2 m v2 (H1.set i (.cells ys)) (.csl i k cap) s2 := by
  subst hy
  rcases h.fst.2 with ⟨_, e⟩ | ⟨i', cap', r', e, hi, hbx, hr'⟩
  · cases e
  · cases e
    have hil := (List.getElem?_eq_some_iff.1 hbx).1
    obtain ⟨G, rfl⟩ := h.ext
    refine ⟨⟨G.set (i - H.length) _, by rw [List.set_append_right _ _ hi]⟩, h.ok.set ?_, ⟨hx, .inr ⟨i, cap, r, rfl, hi, by rw [List.getElem?_set_self hil], hr⟩⟩, ?_, ?_⟩
    · intro v hv
      rcases List.mem_append.1 hv with hv | hv
      · exact hb v hv
      · rw [(List.mem_replicate.1 hv).2]; exact Below.top
    · exact h.snd.keep fun j hj hl => List.getElem?_set_ne (fun e => h.apart i rfl (by rw [e]; exact hj))
    · intro j hj h2
      exact h.apart j hj h2
theorem box_take {z : Nat} {vs : List AV} {r : Nat} (h : vs.length = n * z) : (vs ++ List.replicate r AV.top).take (n * z) = vs := by rw [← h, List.take_left']; rfl
theorem box_drop {z : Nat} {vs : List AV} {r : Nat} (h : vs.length = n * z) : (vs ++ List.replicate r AV.top).drop ((n + 1) * z) = List.replicate (r - z) AV.top := by
  rw [show (n + 1) * z = vs.length + z by rw [h, Nat.add_mul, Nat.one_mul], ← List.drop_drop, List.drop_left', List.drop_replicate]
  rfl
theorem Two.put {i cap r : Nat} {xs : List AV} (h : Two H T z1 n v1 z2 m v2 H1 (.csl i n cap) s2) (hr : n * z1 + r = cap * z1) (hx : xs.length = z1) (hle : n + 1 ≤ cap) (hv : BelowAll H1.length T.length v1) (hb : BelowAll H1.length T.length xs) :
    Two H T z1 (n + 1) (v1 ++ xs) z2 m v2 (H1.set i (.cells ((v1 ++ List.replicate r AV.top).take (n * z1) ++ xs ++ (v1 ++ List.replicate r AV.top).drop ((n + 1) * z1)))) (.csl i (n + 1) cap) s2 := by
  have hl := h.fst.1
  have hm : (n + 1) * z1 ≤ cap * z1 := Nat.mul_le_mul_right _ hle
  have hs : (n + 1) * z1 = n * z1 + z1 := by rw [Nat.add_mul, Nat.one_mul]
  refine h.write (r := r - z1) (by rw [List.length_append, hl, hx, hs]) (by rw [box_take hl, box_drop hl]) (by omega) ?_
  intro v hv'
  rcases List.mem_append.1 hv' with hv' | hv'
  · exact hv v hv'
  · exact hb v hv'
theorem Two.grow {r nc : Nat} {xs : List AV} (h : Two H T z1 n v1 z2 m v2 H1 s1 s2) (hx : xs.length = z1) (hn : n + 1 ≤ nc) (hv : BelowAll (H1.length + 1) T.length v1) (hb : BelowAll (H1.length + 1) T.length xs) :
    Two H T z1 (n + 1) (v1 ++ xs) z2 m v2 (H1 ++ [.cells ((v1 ++ List.replicate r AV.top).take (n * z1) ++ xs ++ List.replicate ((nc - (n + 1)) * z1) AV.top)]) (.csl H1.length (n + 1) nc) s2 := by
  have hl := h.fst.1
  have hs : (n + 1) * z1 = n * z1 + z1 := by rw [Nat.add_mul, Nat.one_mul]
  rw [box_take hl]
  refine h.fresh (n + 1) (v1 ++ xs) nc (by rw [List.length_append, hl, hx, hs]) hn ?_
  intro v hv'
  rcases List.mem_append.1 hv' with hv' | hv'
  · exact hv v hv'
  · exact hb v hv'
end
/-- The kinds of ways, as cells. -/
def kindsAV (w : Wy) : List AV := w.flatMap fun x => x.2.map .bool
theorem kindsAV_len {w : Wy} (h : ∀ x ∈ w, x.2.length = 4) : (kindsAV w).length = w.length * 4 := by
  induction w with
  | nil => rfl
  | cons x r ih =>
    have h1 := h x (by simp)
    have h2 := ih fun y hy => h y (List.mem_cons_of_mem _ hy)
    simp only [kindsAV, List.flatMap_cons, List.length_append, List.length_map, List.length_cons] at h2 ⊢
    omega
theorem below_kinds (n t : Nat) (w : Wy) : BelowAll n t (kindsAV w) := by
  intro v hv
  obtain ⟨x, _, hv⟩ := List.mem_flatMap.1 hv
  obtain ⟨b, _, rfl⟩ := List.mem_map.1 hv
  exact .bool _
theorem kindsAV_snoc (w : Wy) (e : Pr) : kindsAV w ++ [.bool false, .bool false, .bool false, .bool false] = kindsAV (w ++ [(e, zs4)]) := by simp [kindsAV, zs4]
theorem kindsAV_at : ∀ {w : Wy} {a : Nat} {e : Pr} {b0 b1 b2 b3 : Bool} (R : List AV), (∀ x ∈ w, x.2.length = 4) → w[a]? = some (e, [b0, b1, b2, b3]) →
    (kindsAV w ++ R)[a * 4]? = some (.bool b0) ∧ (kindsAV w ++ R)[a * 4 + 1]? = some (.bool b1) ∧ (kindsAV w ++ R)[a * 4 + 2]? = some (.bool b2) ∧ (kindsAV w ++ R)[a * 4 + 3]? = some (.bool b3) := by
  intro w
  induction w with
  | nil => intro a e b0 b1 b2 b3 R _ h; simp at h
  | cons x r ih =>
    intro a e b0 b1 b2 b3 R h1 h2
    obtain ⟨e', ks⟩ := x
    obtain ⟨k0, k1, k2, k3, rfl⟩ := four (h1 (e', ks) (by simp))
    cases a with
    | zero => simp at h2; obtain ⟨_, rfl, rfl, rfl, rfl⟩ := h2; simp [kindsAV]
    | succ a =>
      have := ih (a := a) (e := e) R (fun y hy => h1 y (List.mem_cons_of_mem _ hy)) (by simpa using h2)
      have e1 : kindsAV ((e', [k0, k1, k2, k3]) :: r) = .bool k0 :: .bool k1 :: .bool k2 :: .bool k3 :: kindsAV r := rfl
      rw [e1, show (a + 1) * 4 = a * 4 + 1 + 1 + 1 + 1 by omega]
      simpa using this
theorem kindsAV_set : ∀ {w : Wy} {a : Nat} {e : Pr} {b0 b1 b2 b3 : Bool} (R : List AV) (n : Nat), (∀ x ∈ w, x.2.length = 4) → w[a]? = some (e, [b0, b1, b2, b3]) → n < 4 →
    (kindsAV w ++ R).set (a * 4 + n) (.bool true) = kindsAV (w.set a (e, [b0, b1, b2, b3].set n true)) ++ R := by
  intro w
  induction w with
  | nil => intro a e b0 b1 b2 b3 R n _ h; simp at h
  | cons x r ih =>
    intro a e b0 b1 b2 b3 R n h1 h2 hn
    obtain ⟨e', ks⟩ := x
    obtain ⟨k0, k1, k2, k3, rfl⟩ := four (h1 (e', ks) (by simp))
    cases a with
    | zero =>
      simp at h2
      obtain ⟨rfl, rfl, rfl, rfl, rfl⟩ := h2
      match n, hn with
      | 0, _ => rfl
      | 1, _ => rfl
      | 2, _ => rfl
      | 3, _ => rfl
    | succ a =>
      have := ih (a := a) (e := e) R n (fun y hy => h1 y (List.mem_cons_of_mem _ hy)) (by simpa using h2) hn
      have e1 : ∀ r, kindsAV ((e', [k0, k1, k2, k3]) :: r) = .bool k0 :: .bool k1 :: .bool k2 :: .bool k3 :: kindsAV r := fun _ => rfl
      rw [List.set_cons_succ, e1, e1, show (a + 1) * 4 + n = a * 4 + n + 1 + 1 + 1 + 1 by omega]
      simpa using this
theorem set_same {α : Type} {l : List α} {a : Nat} {x : α} (h : l[a]? = some x) : l.set a x = l := by
  refine List.ext_getElem? fun j => ?_
  rw [List.getElem?_set]
  split
  · rename_i e
    subst e
    rw [h]
    simp [(List.getElem?_eq_some_iff.1 h).1]
  · rfl
theorem mpAV_kind : ∀ (D : List Mp) (i : Nat) (k : Int) (R : List AV), i < D.length → (mpAV D ++ R).set (i * 3 + 2) (.int .i64 k) = mpAV (D.set i ((D.getD i d0).1, (D.getD i d0).2.1, k)) ++ R := by
  intro D
  induction D with
  | nil => intro i k R h; simp at h
  | cons x r ih =>
    intro i k R h
    cases i with
    | zero => rw [mpAV_cons]; rfl
    | succ i =>
      have := ih i k R (by simpa using h)
      rw [mpAV_cons, show (i + 1) * 3 + 2 = i * 3 + 2 + 1 + 1 + 1 by omega, List.set_cons_succ, mpAV_cons]
      simpa using this
theorem mpAV_cutR (D : List Mp) (i : Nat) (R : List AV) (h : i < D.length) : ((mpAV D ++ R).drop (i * 3)).take 3 = [.int .i64 (D.getD i d0).1, .int .i64 (D.getD i d0).2.1, .int .i64 (D.getD i d0).2.2] := by
  rw [← mpAV_cut D i h, List.drop_append_of_le_length (by rw [mpAV_len]; omega), List.take_append_of_le_length (by rw [List.length_drop, mpAV_len]; omega)]
end Go.Proofs.Ytfdlngemkhiiiaa
