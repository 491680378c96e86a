/- What is encoded is read back, and only what is encoded is read: laws on lists of bytes.
   Conditions: none. -/
import Derived.Test.YtlijaamjcpefoaaWRd
namespace Wire

theorem unf_fo {n : Int} (h : inI n) : unf (fo n) = n := by
  unfold fo
  unfold inI at h
  split
  · have h1 : (-(2 * n) - 1).toNat % 2 = 1 := by omega
    have h2 : (((-(2 * n) - 1).toNat / 2 : Nat) : Int) = -n - 1 := by omega
    simp only [unf, if_pos h1, h2]
    omega
  · have h1 : ¬ (2 * n).toNat % 2 = 1 := by omega
    have h2 : (((2 * n).toNat / 2 : Nat) : Int) = n := by omega
    simp only [unf, if_neg h1, h2]

theorem fo_unf (u : Nat) : fo (unf u) = u := by
  by_cases h : u % 2 = 1
  · have h1 : unf u = -((u / 2 : Nat) : Int) - 1 := by simp only [unf, if_pos h]
    have h2 : unf u < 0 := by omega
    simp only [fo, if_pos h2]
    omega
  · have h1 : unf u = ((u / 2 : Nat) : Int) := by simp only [unf, if_neg h]
    have h2 : ¬ unf u < 0 := by omega
    simp only [fo, if_neg h2]
    omega

theorem hi7_nat (w : Nat) : (hi7 w).toNat = w % 128 + 128 := by
  unfold hi7
  rw [UInt8.toNat_ofNat']
  omega
theorem lo7_nat (w : Nat) : (lo7 w).toNat = w % 128 := by
  unfold lo7
  rw [UInt8.toNat_ofNat']
  omega

theorem gl_hi : ∀ (w : Nat) (r : List UInt8), w < 144115188075855872 → gl true 0 (encHi w ++ r) = addk (encHi w).length (gl (w == 0) w r) := by
  intro w
  induction w using Nat.strongRecOn with
  | ind w ih =>
    intro r hw
    rcases Nat.eq_zero_or_pos w with h0 | h0
    · subst h0; rw [encHi_zero]; simp [addk_zero]
    · rw [encHi_pos h0, List.append_assoc, ih (w / 128) (by omega) _ (by omega), List.singleton_append, gl, if_neg, if_neg]
      · rw [addk_map, hi7_nat]
        have e1 : w / 128 * 128 + (w % 128 + 128) % 128 = w := by omega
        have e2 : (w == 0) = false := by simp; omega
        rw [e1, e2, List.length_append]
        rfl
      · rw [UInt8.lt_iff_toNat_lt, hi7_nat]
        show ¬ w % 128 + 128 < 128
        omega
      · rw [← UInt8.toNat_inj, hi7_nat]
        intro h
        rcases h with ⟨h1, h2⟩ | h1
        · have h1' : w / 128 = 0 := by simpa using h1
          have h2' : w % 128 + 128 = 128 := h2
          omega
        · omega

theorem gl_enc (u : Nat) (h : u < 18446744073709551616) (r : List UInt8) : gl true 0 (encN u ++ r) = some (u, (encN u).length) := by
  unfold encN
  rw [List.append_assoc, gl_hi _ _ (by omega), List.singleton_append, gl, if_neg, if_pos]
  · rw [lo7_nat]
    have e1 : u / 128 * 128 + u % 128 % 128 = u := by omega
    rw [e1]
    simp [addk]
    omega
  · rw [UInt8.lt_iff_toNat_lt, lo7_nat]
    exact (Nat.mod_lt _ (by omega))
  · rw [← UInt8.toNat_inj, lo7_nat]
    intro h
    rcases h with ⟨h1, h2⟩ | h1
    · have h2' : u % 128 = 128 := h2
      omega
    · omega

theorem gl_canon : ∀ (r : List UInt8) (w u n : Nat), gl (w == 0) w r = some (u, n) → encHi w ++ r.take n = encN u := by
  intro r
  induction r with
  | nil => intro w u n h; simp [gl] at h
  | cons c r ih =>
    intro w u n h
    rw [gl] at h
    have hc : c.toNat < 256 := UInt8.toNat_lt _
    split at h
    · simp at h
    · rename_i hb
      rw [← UInt8.toNat_inj] at hb
      have h128 : (128 : UInt8).toNat = 128 := rfl
      rw [h128] at hb
      split at h
      · rename_i hlt
        rw [UInt8.lt_iff_toNat_lt, h128] at hlt
        simp only [Option.some.injEq, Prod.mk.injEq] at h
        obtain ⟨h1, h2⟩ := h
        subst h2
        unfold encN
        have e1 : u / 128 = w := by omega
        have e2 : lo7 u = c := by rw [← UInt8.toNat_inj, lo7_nat]; omega
        rw [e1, e2]
        rfl
      · rename_i hlt
        rw [UInt8.lt_iff_toNat_lt, h128] at hlt
        obtain ⟨⟨v', n'⟩, h1, h2⟩ := Option.map_eq_some_iff.1 h
        simp only [Prod.mk.injEq] at h2
        obtain ⟨rfl, rfl⟩ := h2
        have hne : 0 < w * 128 + c.toNat % 128 := by
          rcases Nat.eq_zero_or_pos w with h0 | h0
          · subst h0
            have : ¬ c.toNat = 128 := fun hh => hb (.inl ⟨rfl, hh⟩)
            omega
          · omega
        have hf : (w * 128 + c.toNat % 128 == 0) = false := by simp; omega
        have := ih (w * 128 + c.toNat % 128) v' n' (by rw [hf]; exact h1)
        rw [← this, encHi_pos hne]
        have e1 : (w * 128 + c.toNat % 128) / 128 = w := by omega
        have e2 : hi7 (w * 128 + c.toNat % 128) = c := by rw [← UInt8.toNat_inj, hi7_nat]; omega
        rw [e1, e2]
        simp

theorem gl_canon' {bs : List UInt8} {u n : Nat} (h : gl true 0 bs = some (u, n)) : bs = encN u ++ bs.drop n := by
  have := gl_canon bs 0 u n h
  rw [encHi_zero, List.nil_append] at this
  rw [← this, List.take_append_drop]

/-- A way of writing and one of reading that fit each other. -/
structure Codec {α : Type} (e : α → List UInt8) (f : List UInt8 → Rd → α × Rd) (ok : α → Prop) : Prop where
  round : ∀ (bs : List UInt8) (at_ : Nat) (rest : List UInt8) (x : α), ok x → bs.drop at_ = e x ++ rest → f bs ⟨at_, false⟩ = (x, ⟨at_ + (e x).length, false⟩)
  canon : ∀ (bs : List UInt8) (at_ : Nat), at_ ≤ bs.length → (f bs ⟨at_, false⟩).2.bad = false →
    ok (f bs ⟨at_, false⟩).1 ∧ (f bs ⟨at_, false⟩).2.at_ ≤ bs.length ∧ bs.drop at_ = e (f bs ⟨at_, false⟩).1 ++ bs.drop (f bs ⟨at_, false⟩).2.at_

theorem Codec.pre {α : Type} {e : α → List UInt8} {f : List UInt8 → Rd → α × Rd} {ok : α → Prop} (C : Codec e f ok) {x : α} {k : Nat} (hx : ok x) (hk : k < (e x).length) : (f ((e x).take k) ⟨0, false⟩).2.bad = true := by
  cases hb : (f ((e x).take k) ⟨0, false⟩).2.bad with
  | true => rfl
  | false =>
    exfalso
    obtain ⟨h1, _, h3⟩ := C.canon _ 0 (Nat.zero_le _) hb
    generalize (f ((e x).take k) ⟨0, false⟩).1 = y at *
    generalize ((e x).take k).drop (f ((e x).take k) ⟨0, false⟩).2.at_ = r at *
    rw [List.drop_zero] at h3
    have h4 : e x = e y ++ (r ++ (e x).drop k) := by
      rw [← List.append_assoc, ← h3, List.take_append_drop]
    have h5 := C.round (e x) 0 [] x hx (by simp)
    have h6 := C.round (e x) 0 _ y h1 (by rw [List.drop_zero]; exact h4)
    rw [h5] at h6
    have h7 : x = y := congrArg Prod.fst h6
    subst h7
    have h8 := congrArg List.length h3
    rw [List.length_take, List.length_append] at h8
    omega

theorem Codec.whole {α : Type} {e : α → List UInt8} {f : List UInt8 → Rd → α × Rd} {ok : α → Prop} (C : Codec e f ok) {bs : List UInt8} (hb : (f bs ⟨0, false⟩).2.bad = false) (ha : ¬ (f bs ⟨0, false⟩).2.at_ < bs.length) : bs = e (f bs ⟨0, false⟩).1 := by
  obtain ⟨_, h2, h3⟩ := C.canon _ 0 (Nat.zero_le _) hb
  rw [List.drop_zero, List.drop_eq_nil_of_le (by omega), List.append_nil] at h3
  exact h3

def okI (lo hi : Int) (n : Int) : Prop := lo ≤ n ∧ n ≤ hi ∧ inI n

theorem intCodec (lo hi : Int) : Codec enc (fun bs s => rInt bs lo hi s) (okI lo hi) := by
  constructor
  · intro bs at_ rest x ⟨h1, h2, h3⟩ hd
    have hg : rnum bs at_ = some (fo x, (enc x).length) := by
      unfold rnum
      rw [hd]
      exact gl_enc _ (fo_lt h3.1 h3.2) _
    have hl := (enc_len h3.1 h3.2).1
    have hn : ¬ ((enc x).length = 0 ∨ x < lo ∨ x > hi) := by omega
    have e1 : glen (rnum bs at_) = (enc x).length := by rw [hg]; rfl
    have e2 : gnum (rnum bs at_) = x := by rw [hg]; exact unf_fo h3
    simp only [rInt, e1, e2, if_neg hn]
    rfl
  · intro bs at_ hle hb
    simp only [rInt] at hb ⊢
    split at hb
    · rename_i h; cases h
    · rename_i h0
      rw [if_neg h0]
      split at hb
      · cases hb
      · rename_i h1
        rw [if_neg h1]
        simp only [not_or] at h1
        obtain ⟨v, hv⟩ := glen_pos h1.1
        obtain ⟨f1, f2, f3⟩ := rnum_facts hv
        have hgn : gnum (rnum bs at_) = unf v := by rw [hv]; rfl
        have hbd := unf_bounds f1
        refine ⟨⟨by omega, by omega, by rw [hgn]; exact hbd⟩, f3, ?_⟩
        have := gl_canon' hv
        rw [List.drop_drop] at this
        rw [hgn]
        show _ = encN (fo (unf v)) ++ _
        rw [fo_unf]
        exact this

def okT (m : Int) (s : List UInt8) : Prop := (s.length : Int) ≤ m ∧ inI s.length

theorem textCodec (m : Int) : Codec encText (fun bs s => rText bs m s) (okT m) := by
  constructor
  · intro bs at_ rest x ⟨h1, h2⟩ hd
    have hi : rInt bs 0 m ⟨at_, false⟩ = _ := (intCodec 0 m).round bs at_ (x ++ rest) x.length ⟨by omega, h1, h2⟩ (by rw [hd, encText, List.append_assoc])
    have hd2 : bs.drop (at_ + (enc x.length).length) = x ++ rest := by
      rw [← List.drop_drop, hd, encText, List.append_assoc, List.drop_left]
    have hlen := congrArg List.length hd2
    rw [List.length_drop, List.length_append] at hlen
    simp only [rText, hi]
    rw [if_neg]
    · rw [hd2]
      simp [encText]
      omega
    · intro h
      rcases h with h | h
      · cases h
      · rcases Nat.eq_zero_or_pos x.length with h0 | h0
        · have hne : 0 < (enc (x.length : Int)).length := (enc_len h2.1 h2.2).1
          have h5 := congrArg List.length hd
          rw [List.length_drop, List.length_append, encText, List.length_append] at h5
          omega
        · omega
  · intro bs at_ hle hb
    have hi := (intCodec 0 m).canon bs at_ hle
    simp only [rText] at hb ⊢
    split at hb
    · cases hb
    · rename_i h0
      rw [if_neg h0]
      simp only [not_or] at h0
      obtain ⟨⟨a1, a2, a3⟩, h2, h3⟩ := hi hb
      generalize rInt bs 0 m ⟨at_, false⟩ = p at *
      obtain ⟨n, ⟨qa, qb⟩⟩ := p
      simp only at *
      have hn : ((bs.drop qa).take n.toNat).length = n.toNat := by
        rw [List.length_take, List.length_drop]; omega
      have hnn : ((n.toNat : Nat) : Int) = n := by omega
      unfold okT encText
      rw [hn, hnn]
      refine ⟨⟨a2, a3⟩, by omega, ?_⟩
      rw [h3, List.append_assoc]
      congr 1
      rw [← List.drop_drop, List.take_append_drop]

theorem rLoop_round {α : Type} {e : α → List UInt8} {f : List UInt8 → Rd → α × Rd} {ok : α → Prop} (C : Codec e f ok) (bs : List UInt8) : ∀ (l : List α) (at_ : Nat) (rest : List UInt8) (out : List α), (∀ x ∈ l, ok x) → bs.drop at_ = l.flatMap e ++ rest →
    rLoop (f bs) l.length ⟨at_, false⟩ out = (out ++ l, ⟨at_ + (l.flatMap e).length, false⟩) := by
  intro l
  induction l with
  | nil => intro at_ rest out _ _; simp [rLoop]
  | cons x l ih =>
    intro at_ rest out hok hd
    rw [List.flatMap_cons, List.append_assoc] at hd
    have h1 := C.round bs at_ _ x (hok x (by simp)) hd
    rw [List.length_cons, rLoop_step _ _ _ _ (by omega) rfl, h1]
    have h2 := ih (at_ + (e x).length) rest (out ++ [x]) (fun y hy => hok y (by simp [hy])) (by rw [← List.drop_drop, hd, List.drop_left])
    rw [Nat.add_sub_cancel]
    rw [h2]
    simp
    omega

theorem rLoop_canon {α : Type} {e : α → List UInt8} {f : List UInt8 → Rd → α × Rd} {ok : α → Prop} (C : Codec e f ok) (bs : List UInt8) : ∀ (n : Nat) (at_ : Nat) (out : List α), at_ ≤ bs.length → (rLoop (f bs) n ⟨at_, false⟩ out).2.bad = false →
    ∃ l, l.length = n ∧ (∀ x ∈ l, ok x) ∧ (rLoop (f bs) n ⟨at_, false⟩ out).1 = out ++ l ∧ (rLoop (f bs) n ⟨at_, false⟩ out).2.at_ ≤ bs.length ∧ bs.drop at_ = l.flatMap e ++ bs.drop (rLoop (f bs) n ⟨at_, false⟩ out).2.at_ := by
  intro n
  induction n with
  | zero => intro at_ out hle _; exact ⟨[], rfl, by simp, by simp [rLoop], hle, by simp [rLoop]⟩
  | succ n ih =>
    intro at_ out hle hb
    rw [rLoop_step _ _ _ _ (by omega) rfl, Nat.add_sub_cancel] at hb ⊢
    cases hq : (f bs ⟨at_, false⟩).2.bad with
    | true => rw [rLoop_bad _ _ _ _ hq] at hb; rw [hq] at hb; cases hb
    | false =>
      obtain ⟨h1, h2, h3⟩ := C.canon bs at_ hle hq
      generalize f bs ⟨at_, false⟩ = p at *
      obtain ⟨x, ⟨qa, qb⟩⟩ := p
      simp only at *
      subst hq
      obtain ⟨l, k1, k2, k3, k4, k5⟩ := ih qa (out ++ [x]) h2 hb
      refine ⟨x :: l, by simp [k1], ?_, by rw [k3]; simp, k4, ?_⟩
      · intro y hy
        rcases List.mem_cons.1 hy with rfl | hy
        · exact h1
        · exact k2 y hy
      · rw [h3, k5, List.flatMap_cons, List.append_assoc]

def okL {α : Type} (mx : Int) (ok : α → Prop) (l : List α) : Prop := (l.length : Int) ≤ mx ∧ inI l.length ∧ ∀ x ∈ l, ok x

theorem listCodec {α : Type} {e : α → List UInt8} {f : List UInt8 → Rd → α × Rd} {ok : α → Prop} (C : Codec e f ok) (mx : Int) : Codec (fun l => enc l.length ++ l.flatMap e) (fun bs s => rList bs mx (f bs) s) (okL mx ok) := by
  constructor
  · intro bs at_ rest l ⟨h1, h2, h3⟩ hd
    simp only [List.append_assoc] at hd
    have hi : rInt bs 0 mx ⟨at_, false⟩ = _ := (intCodec 0 mx).round bs at_ _ l.length ⟨by omega, h1, h2⟩ hd
    have hd2 : bs.drop (at_ + (enc l.length).length) = l.flatMap e ++ rest := by
      rw [← List.drop_drop, hd, List.drop_left]
    have hr := rLoop_round C bs l _ rest [] h3 hd2
    simp only [rList, hi, Int.toNat_natCast, hr]
    simp
    omega
  · intro bs at_ hle hb
    have hi := (intCodec 0 mx).canon bs at_ hle
    simp only [rList] at hb ⊢
    split at hb
    · cases hb
    · rename_i h0
      rw [if_neg h0]
      have hq : (rInt bs 0 mx ⟨at_, false⟩).2.bad = false := by
        cases hq : (rInt bs 0 mx ⟨at_, false⟩).2.bad with
        | false => rfl
        | true => rw [rLoop_bad _ _ _ _ hq, hq] at hb; cases hb
      obtain ⟨⟨a1, a2, a3⟩, h2, h3⟩ := hi hq
      generalize rInt bs 0 mx ⟨at_, false⟩ = p at *
      obtain ⟨n, ⟨qa, qb⟩⟩ := p
      simp only at *
      subst hq
      obtain ⟨l, k1, k2, k3, k4, k5⟩ := rLoop_canon C bs n.toNat qa [] h2 hb
      have hnn : ((n.toNat : Nat) : Int) = n := by omega
      rw [List.nil_append] at k3
      rw [k3]
      refine ⟨⟨by rw [k1, hnn]; exact a2, by rw [k1, hnn]; exact a3, k2⟩, k4, ?_⟩
      rw [h3, k5, k1, hnn, List.append_assoc]

theorem rLoop_le {α : Type} {f : Rd → α × Rd} {m : Nat} (hf : ∀ s, s.at_ ≤ m → (f s).2.at_ ≤ m) : ∀ (n : Nat) (q : Rd) (out : List α), q.at_ ≤ m → (rLoop f n q out).2.at_ ≤ m := by
  intro n
  induction n with
  | zero => intro q out h; exact h
  | succ n ih =>
    intro q out h
    unfold rLoop
    split
    · exact h
    · exact ih _ _ (hf _ h)

theorem rList_le {α : Type} {bs : List UInt8} {mx : Int} {f : Rd → α × Rd} (hf : ∀ s, s.at_ ≤ bs.length → (f s).2.at_ ≤ bs.length) (s : Rd) (h : s.at_ ≤ bs.length) : (rList bs mx f s).2.at_ ≤ bs.length := by
  unfold rList
  split
  · exact h
  · exact rLoop_le hf _ _ _ (rInt_le _ _ _ _ h)

theorem rInt_bad {bs : List UInt8} {lo hi : Int} {at_ : Nat} (h : (rInt bs lo hi ⟨at_, false⟩).2.bad = true) : rInt bs lo hi ⟨at_, false⟩ = (0, ⟨at_, true⟩) := by
  unfold rInt at h ⊢
  simp only [Bool.false_eq_true, if_false] at h ⊢
  split at h
  · rename_i h1; rw [if_pos h1]
  · cases h

theorem rList_bad {α : Type} {bs : List UInt8} {mx : Int} {f : Rd → α × Rd} {s : Rd} (h : (rList bs mx f s).2.bad = true) : rList bs mx f s = ([], ⟨s.at_, true⟩) := by
  unfold rList at h ⊢
  split at h
  · rename_i h1; rw [if_pos h1]
  · rename_i h1; exact absurd h h1

end Wire
