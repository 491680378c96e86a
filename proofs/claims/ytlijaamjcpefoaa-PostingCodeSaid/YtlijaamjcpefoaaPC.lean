/- Posting lists: what is kept of them by a test on positions; laws on lists. What is kept of a posting: the function that filtered gives to merge. Merging of posting lists in layer 38. filtered of layer 38, and Near. Lists of posting lists in layer 38, and which of them are valid. Phrase of layer 38. The example of the document of layer 38 holds.
   Conditions: lengths below 400 or 1000, as each theorem says. -/
import Derived.Test.YtlijaamjcpefoaaPA
import Derived.Test.YtlijaamjcpefoaaPB
import Derived.Test.YtlijaamjcpefoaaAmBox

/- Posting lists: what is kept of them by a test on positions; laws on lists. -/
namespace Post

abbrev PL := List (Int × List Int)

/-- The positions of a document. -/
def posOf : PL → Int → List Int
  | [], _ => []
  | p :: l, d => if p.1 = d then p.2 else posOf l d

/-- What is left of a posting. -/
def fl1 (f : Int → Int → Bool) (p : Int × List Int) : PL := if p.2.filter (f p.1) = [] then [] else [(p.1, p.2.filter (f p.1))]
/-- The postings with the positions that a test keeps. -/
def flt (f : Int → Int → Bool) (l : PL) : PL := l.flatMap (fl1 f)

theorem flt_nil (f : Int → Int → Bool) : flt f [] = [] := rfl
theorem flt_cons (f : Int → Int → Bool) (p : Int × List Int) (l : PL) : flt f (p :: l) = fl1 f p ++ flt f l := by simp [flt]
theorem flt_append (f : Int → Int → Bool) (a b : PL) : flt f (a ++ b) = flt f a ++ flt f b := by simp [flt]
theorem flt_snoc (f : Int → Int → Bool) (a : PL) (p : Int × List Int) : flt f (a ++ [p]) = flt f a ++ fl1 f p := by simp [flt]

theorem fl1_congr {f g : Int → Int → Bool} {p : Int × List Int} (h : ∀ x ∈ p.2, f p.1 x = g p.1 x) : fl1 f p = fl1 g p := by
  have : p.2.filter (f p.1) = p.2.filter (g p.1) := List.filter_congr h
  simp [fl1, this]
theorem flt_congr {f g : Int → Int → Bool} : ∀ {l : PL}, (∀ p ∈ l, ∀ x ∈ p.2, f p.1 x = g p.1 x) → flt f l = flt g l := by
  intro l
  induction l with
  | nil => intro _; rfl
  | cons p l ih =>
    intro h
    rw [flt_cons, flt_cons, ih (fun q hq => h q (by simp [hq])), fl1_congr (h p (by simp))]
theorem flt_fl1 (f g : Int → Int → Bool) (p : Int × List Int) : flt g (fl1 f p) = fl1 (fun d x => f d x && g d x) p := by
  unfold fl1
  by_cases h : p.2.filter (f p.1) = []
  · have h2 : p.2.filter (fun x => f p.1 x && g p.1 x) = [] := by
      rw [List.filter_eq_nil_iff] at h ⊢
      intro x hx
      simp [h x hx]
    simp only [h, h2, if_true]
    rfl
  · simp only [h, if_false, flt, List.flatMap_cons, List.flatMap_nil, List.append_nil, fl1, List.filter_filter]
    rw [List.filter_congr (fun x _ => Bool.and_comm (g p.1 x) (f p.1 x))]
theorem flt_flt (f g : Int → Int → Bool) (l : PL) : flt g (flt f l) = flt (fun d x => f d x && g d x) l := by
  induction l with
  | nil => rfl
  | cons p l ih => rw [flt_cons, flt_append, ih, flt_fl1, flt_cons]
theorem flt_true {l : PL} (h : ∀ p ∈ l, p.2 ≠ []) : flt (fun _ _ => true) l = l := by
  induction l with
  | nil => rfl
  | cons p l ih =>
    rw [flt_cons, ih (fun q hq => h q (by simp [hq]))]
    have e : p.2.filter (fun _ => true) = p.2 := by simp
    have h1 := h p (by simp)
    simp only [fl1, e, h1, if_false, List.cons_append, List.nil_append]
theorem flt_mem {f : Int → Int → Bool} {l : PL} {q : Int × List Int} (h : q ∈ flt f l) : ∃ p ∈ l, q.1 = p.1 ∧ q.2 = p.2.filter (f p.1) ∧ q.2 ≠ [] := by
  obtain ⟨p, hp, hq⟩ := List.mem_flatMap.1 h
  unfold fl1 at hq
  split at hq
  · simp at hq
  · rename_i hne
    simp at hq
    subst hq
    exact ⟨p, hp, rfl, rfl, hne⟩
theorem flt_docs {f : Int → Int → Bool} (l : PL) : ((flt f l).map (·.1)).Sublist (l.map (·.1)) := by
  induction l with
  | nil => exact List.Sublist.refl _
  | cons p l ih =>
    rw [flt_cons, List.map_append, List.map_cons]
    unfold fl1
    split
    · exact ih.cons _
    · exact ih.cons_cons _
theorem flt_len {f : Int → Int → Bool} (l : PL) : (flt f l).length ≤ l.length := by
  have := (flt_docs (f := f) l).length_le
  simpa using this
theorem flt_pos {f : Int → Int → Bool} {l : PL} {m : Nat} (h : ∀ p ∈ l, p.2.length ≤ m) : ∀ p ∈ flt f l, p.2.length ≤ m := by
  intro q hq
  obtain ⟨p, hp, _, e, _⟩ := flt_mem hq
  rw [e]
  exact Nat.le_trans (List.length_filter_le _ _) (h p hp)

/-- The walk that goes through two posting lists. -/
def mgP {β : Type} (fA fB : β → (Int × List Int) → β) (fAB : β → (Int × List Int) → (Int × List Int) → β) : Nat → PL → PL → β → β
  | 0, _, _, o => o
  | n + 1, x :: a, y :: b, o => if x.1 < y.1 then mgP fA fB fAB n a (y :: b) (fA o x) else if y.1 < x.1 then mgP fA fB fAB n (x :: a) b (fB o y) else mgP fA fB fAB n a b (fAB o x y)
  | n + 1, x :: a, [], o => mgP fA fB fAB n a [] (fA o x)
  | n + 1, [], y :: b, o => mgP fA fB fAB n [] b (fB o y)
  | _ + 1, [], [], o => o

def Asc' (l : PL) : Prop := Asc (l.map (·.1))
theorem asc'_tail {x : Int × List Int} {l : PL} (h : Asc' (x :: l)) : Asc' l ∧ ∀ y ∈ l, x.1 < y.1 := by
  obtain ⟨h1, h2⟩ := asc_tail h
  exact ⟨h1, fun y hy => h2 _ (List.mem_map.2 ⟨y, hy, rfl⟩)⟩

theorem posOf_cons_ne {p : Int × List Int} {l : PL} {d : Int} (h : p.1 ≠ d) : posOf (p :: l) d = posOf l d := by simp [posOf, h]
theorem posOf_cons_eq {p : Int × List Int} {l : PL} : posOf (p :: l) p.1 = p.2 := by simp [posOf]
theorem posOf_none {l : PL} {d : Int} (h : ∀ p ∈ l, p.1 ≠ d) : posOf l d = [] := by
  induction l with
  | nil => rfl
  | cons p l ih => rw [posOf_cons_ne (h p (by simp)), ih (fun q hq => h q (by simp [hq]))]

/-- What is kept of a list by a test on its positions and those of another list. -/
def fltB (kf : Int → List Int → Bool) (b : PL) (d x : Int) : Bool := decide (d ∈ b.map (·.1)) && kf x (posOf b d)

/-- Going through two lists keeps what a test on both keeps. -/
theorem mgP_flt (kf : Int → List Int → Bool) : ∀ (n : Nat) (a b o : PL), a.length + b.length ≤ n → Asc' a → Asc' b →
    mgP (fun o _ => o) (fun o _ => o) (fun o x y => o ++ fl1 (fun _ z => kf z y.2) x) n a b o = o ++ flt (fltB kf b) a := by
  intro n
  induction n with
  | zero =>
    intro a b o h _ _
    have ha : a = [] := List.eq_nil_of_length_eq_zero (by omega)
    subst ha
    simp [mgP, flt]
  | succ n ih =>
    intro a b o h ha hb
    cases a with
    | nil =>
      cases b with
      | nil => simp [mgP, flt]
      | cons y b =>
        rw [mgP, ih [] b o (by simp at h ⊢; omega) ha (asc'_tail hb).1]
        rfl
    | cons x a =>
      obtain ⟨h1, h2⟩ := asc'_tail ha
      have drop1 : ∀ b' : PL, (∀ y ∈ b', y.1 ≠ x.1) → fl1 (fltB kf b') x = [] := fun b' hb' => by
        unfold fl1
        rw [if_pos]
        rw [List.filter_eq_nil_iff]
        intro z _
        have : ¬ x.1 ∈ b'.map (·.1) := fun hm => by
          obtain ⟨y, hy, e⟩ := List.mem_map.1 hm
          exact hb' y hy e
        simp [fltB, this]
      cases b with
      | nil =>
        rw [mgP, ih a [] o (by simp at h ⊢; omega) h1 hb, flt_cons, drop1 [] (by simp)]
        rfl
      | cons y b =>
        obtain ⟨h3, h4⟩ := asc'_tail hb
        simp only [List.length_cons] at h
        by_cases c1 : x.1 < y.1
        · rw [mgP, if_pos c1, ih a (y :: b) o (by simp; omega) h1 hb, flt_cons, drop1 (y :: b) (fun z hz => by
            rcases List.mem_cons.1 hz with rfl | hz
            · omega
            · have := h4 z hz; omega)]
          rfl
        · have keep : ∀ l : PL, (∀ z ∈ l, y.1 < z.1) → flt (fltB kf b) l = flt (fltB kf (y :: b)) l := fun l hl => by
            refine flt_congr fun p hp z _ => ?_
            have := hl p hp
            have hne : y.1 ≠ p.1 := by omega
            have hne' : p.1 ≠ y.1 := by omega
            have e1 : decide (p.1 ∈ b.map (·.1)) = decide (p.1 ∈ (y :: b).map (·.1)) := by
              rw [decide_eq_decide, List.map_cons, List.mem_cons]
              exact ⟨fun h => .inr h, fun h => h.resolve_left hne'⟩
            show (decide (p.1 ∈ b.map (·.1)) && kf z (posOf b p.1)) = (decide (p.1 ∈ (y :: b).map (·.1)) && kf z (posOf (y :: b) p.1))
            rw [posOf_cons_ne hne, e1]
          by_cases c2 : y.1 < x.1
          · rw [mgP, if_neg c1, if_pos c2, ih (x :: a) b o (by simp; omega) ha h3, keep (x :: a) (fun z hz => by
              rcases List.mem_cons.1 hz with rfl | hz
              · exact c2
              · have := h2 z hz; omega)]
          · have e : x.1 = y.1 := by omega
            have hx : fl1 (fltB kf (y :: b)) x = fl1 (fun _ z => kf z y.2) x := fl1_congr fun z _ => by
              unfold fltB
              rw [e, posOf_cons_eq]
              simp
            rw [mgP, if_neg c1, if_neg c2, ih a b _ (by omega) h1 h3, keep a (fun z hz => by have := h2 z hz; omega), flt_cons, hx, List.append_assoc]
end Post

/- What is kept of a posting: the function that filtered gives to merge. -/
namespace Go.Proofs.Ytlijaamjcpefoaa
open Go Go.Am Post
set_option linter.unusedVariables false

/-- The boxes of filtered: the function that chooses, the list that is being made. -/
def SP (H : List Blk) (fv : AV) (out : PL) (tk : Nat) : List Blk := H ++ [.cells [fv], .cells [.sl out.length (psAV out) (.own tk)]]
def STp (T : Toks) (out : PL) : Toks := T ++ [(out.length * 2, 2)]
theorem SP_len (H : List Blk) (fv : AV) (out : PL) (tk : Nat) : (SP H fv out tk).length = H.length + 2 := by simp [SP]
theorem STp_len (T : Toks) (out : PL) : (STp T out).length = T.length + 1 := by simp [STp]
theorem hok_SP {H : List Blk} {T : Toks} (h : HOk H T) (fv : AV) (hf : Below H.length T.length fv) (out : PL) : HOk (SP H fv out T.length) (STp T out) := by
  have e : SP H fv out T.length = (H ++ [.cells [fv]]) ++ [.cells [.sl out.length (psAV out) (.own T.length)]] := by simp [SP]
  rw [e]
  refine HOk.snoc (HOk.snoc (h.toks (by rw [STp_len]; omega)) ?_) ?_
  · intro v hv
    simp at hv
    subst hv
    exact hf.more (by simp) (by rw [STp_len]; omega)
  · simp [STp_len]

theorem hok_SP' {H : List Blk} {T1 T2 : Toks} {fv : AV} {out out' : PL} {tk : Nat} (h : HOk (SP H fv out tk) T1) (ht : T1.length ≤ T2.length) (hk : tk < T2.length) : HOk (SP H fv out' tk) T2 := by
  have e : SP H fv out' tk = (SP H fv out tk).set (H.length + 1) (.cells [.sl out'.length (psAV out') (.own tk)]) := by simp [SP]
  rw [e]
  refine HOk.set (h.toks ht) ?_
  simp [hk]

theorem doc_ok (p : Int × List Int) (H : List Blk) (T : Toks) : ACall Try.prog 65 [.agg [.int .i64 p.1, .sl p.2.length (ints p.2) .none]] H T (Is (.int .i64 p.1) H T) := by
  refine ACall.drop' ?_ (by simp)
  refine acall_enter 3 [] Try.ntmps65 Try.func65 rfl (fun _ _ => Try.call65 _ _) (by simp) (fun HO => ?_)
  refine aw_reg fun K hK => ?_; simp (maxSteps := 1000000) (disch := omega) [-List.getD_eq_getElem?_getD]; refine hK _ ?_; clear hK K
  refine aw_reg fun K hK => ?_; simp (maxSteps := 1000000) (disch := omega) [-List.getD_eq_getElem?_getD]; refine hK _ ?_; clear hK K
  refine aw_ret ?_; simp (maxSteps := 1000000) (disch := omega) [-List.getD_eq_getElem?_getD]

theorem filtA_ok (cs : List AV) (o x y : Nat) (H : List Blk) (T : Toks) : ACall Try.prog 86 [.vptr cs o, .nilp, .ptr x 0, .ptr y 0] H T (Is (.tup []) H T) := by
  refine acall_enter 21 [] Try.ntmps86 Try.func86 rfl (fun _ _ => Try.call86 _ _) (by simp) (fun HO => ?_)
  refine aw_then fun K1 hK1 => ?_
  refine aw_reg fun K hK => ?_; simp (maxSteps := 1000000) (disch := omega) [-List.getD_eq_getElem?_getD]; refine hK _ ?_; clear hK K
  refine aw_if rfl (fun h => ?_) (fun h => absurd h (by simp))
  refine aw_ret ?_; simp (maxSteps := 1000000) (disch := omega) [-List.getD_eq_getElem?_getD]
  exact ⟨rfl, rfl, rfl⟩

theorem filtB_ok (cs : List AV) (o x y : Nat) (H : List Blk) (T : Toks) : ACall Try.prog 86 [.nilp, .vptr cs o, .ptr x 0, .ptr y 0] H T (Is (.tup []) H T) := by
  refine acall_enter 21 [] Try.ntmps86 Try.func86 rfl (fun _ _ => Try.call86 _ _) (by simp) (fun HO => ?_)
  refine aw_then fun K1 hK1 => ?_
  refine aw_reg fun K hK => ?_; simp (maxSteps := 1000000) (disch := omega) [-List.getD_eq_getElem?_getD]; refine hK _ ?_; clear hK K
  refine aw_if rfl (fun h => ?_) (fun h => absurd h (by simp))
  refine aw_ret ?_; simp (maxSteps := 1000000) (disch := omega) [-List.getD_eq_getElem?_getD]
  exact ⟨rfl, rfl, rfl⟩

set_option maxRecDepth 100000 in
set_option maxHeartbeats 2000000 in
theorem filtAB_ok (g : Nat) (caps : List AV) (kf : Int → List Int → Bool) (H : List Blk) (T : Toks) (out : PL) (ho : out.length ≤ 1000) (a b : PL) (i j : Nat) (hi : i < a.length) (hj : j < b.length)
    (ha : (a.getD i (0, [])).2.length ≤ 1000)
    (hg : ∀ p, p ∈ (a.getD i (0, [])).2 → ∀ T', ACall Try.prog g ([.int .i64 p, .sl (b.getD j (0, [])).2.length (ints (b.getD j (0, [])).2) .none] ++ caps) (SP H (.fn g [] caps) out T.length) T' (Is (.bool (kf p (b.getD j (0, [])).2)) (SP H (.fn g [] caps) out T.length) T')) :
    ACall Try.prog 86 [.vptr (psAV a) (i * 2), .vptr (psAV b) (j * 2), .ptr H.length 0, .ptr (H.length + 1) 0] (SP H (.fn g [] caps) out T.length) (STp T out)
      (Is (.tup []) (SP H (.fn g [] caps) (out ++ fl1 (fun _ z => kf z (b.getD j (0, [])).2) (a.getD i (0, []))) T.length) (STp T (out ++ fl1 (fun _ z => kf z (b.getD j (0, [])).2) (a.getD i (0, []))))) := by
  have hia := psAV_at a i hi
  have hjb := psAV_at b j hj
  have k1 : (SP H (.fn g [] caps) out T.length)[H.length]? = some (.cells [.fn g [] caps]) := by simp [SP]
  have hl := SP_len H (.fn g [] caps) out T.length
  have htl := STp_len T out
  generalize a.getD i (0, []) = x at *
  generalize b.getD j (0, []) = y at *
  refine ACall.cut _ _ (by simp [SP_len]) (by simp [STp_len]) (fun ho => ?_) (by simp) ?_
  · exact hok_SP' ho (by simp [STp_len]) (by simp [STp_len])
  have k2 : ∀ h : H.length < (SP H (.fn g [] caps) out T.length).length, (SP H (.fn g [] caps) out T.length)[H.length]'h = .cells [.fn g [] caps] := fun h => by
    have := (List.getElem?_eq_some_iff.1 k1).2
    exact this
  generalize hS : SP H (.fn g [] caps) out T.length = S at *
  generalize hU : STp T out = U at *
  refine acall_enter 21 [] Try.ntmps86 Try.func86 rfl (fun _ _ => Try.call86 _ _) (by simp) (fun HO => ?_)
  refine aw_then fun K1 hK1 => ?_
  refine aw_reg fun K hK => ?_; simp (maxSteps := 1000000) (disch := omega) [-List.getD_eq_getElem?_getD]; refine hK _ ?_; clear hK K
  refine aw_if rfl (fun h => absurd h (by simp)) (fun h => ?_)
  refine aw_skip ?_; simp (maxSteps := 1000000) (disch := omega) [-List.getD_eq_getElem?_getD]
  refine hK1 _ ?_; clear hK1
  refine aw_reg fun K hK => ?_; simp (maxSteps := 1000000) (disch := omega) [-List.getD_eq_getElem?_getD]; refine hK _ ?_; clear hK K
  refine aw_then fun K1 hK1 => ?_
  refine aw_reg fun K hK => ?_; simp (maxSteps := 1000000) (disch := omega) [-List.getD_eq_getElem?_getD, hia.2, psAV_len]; refine hK _ ?_; clear hK K
  refine aw_block ?_
  refine aw_own 6 0 1 [] (by omega) (by simp) ?_
  refine aw_loop (X := Nat) (fun k => ⟨[(0, .vptr (psAV a) (i * 2)), (1, .vptr (psAV b) (j * 2)), (2, .ptr H.length 0), (3, .ptr (H.length + 1) 0), (6, .sl ((x.2.take k).filter (fun z => kf z y.2)).length (ints ((x.2.take k).filter (fun z => kf z y.2))) (.own U.length)), (18, .sl x.2.length (ints x.2) .none), (19, .int .i64 (x.2.length : Nat)), (20, .int .i64 (k : Nat))], S, U ++ [(((x.2.take k).filter (fun z => kf z y.2)).length, 1)]⟩) (fun k => k ≤ x.2.length) (fun k => x.2.length - k) 0 ?_ ?_ ?_
  · exact Nat.zero_le _
  · refine weak_to [] [] ?_ ?_ ?_ ?_ (HO.toks (by simp)) ?_
    all_goals simp [hl]
  · intro k hk0
    have hlen : ((x.2.take k).filter (fun z => kf z y.2)).length ≤ k := by
      refine Nat.le_trans (List.length_filter_le _ _) ?_
      rw [List.length_take]; omega
    refine aw_reg fun K hK => ?_; simp (maxSteps := 1000000) (disch := omega) [-List.getD_eq_getElem?_getD]; refine hK _ ?_; clear hK K
    refine aw_then fun K2 hK2 => ?_
    refine aw_if rfl (fun hk => ?_) (fun hk => ?_)
    · simp [-List.getD_eq_getElem?_getD] at hk
      have hst := filter_step x.2 k (fun z => kf z y.2) hk
      have hc := hg (x.2.getD k 0) (memD x.2 k 0 hk) (U ++ [(((x.2.take k).filter (fun z => kf z y.2)).length, 1)])
      generalize (x.2.take k).filter (fun z => kf z y.2) = lk at *
      refine aw_skip ?_; simp (maxSteps := 1000000) (disch := omega) [-List.getD_eq_getElem?_getD]
      refine hK2 _ ?_; clear hK2
      refine aw_then fun K3 hK3 => ?_
      refine aw_block ?_
      refine aw_reg fun K hK => ?_; simp (maxSteps := 1000000) (disch := omega) [-List.getD_eq_getElem?_getD, getD_ints]; refine hK _ ?_; clear hK K
      cases hkf : kf (x.2.getD k 0) y.2
      · rw [hkf] at hc hst
        refine aw_draw [] [] [] drawMixed (by kernel_rfl) (by kernel_rfl) fun K hK => ?_; simp (maxSteps := 1000000) (disch := omega) [-List.getD_eq_getElem?_getD, hjb.2, psAV_len, k2, hj]
        refine dcall_is (hc) rfl ?_; simp (maxSteps := 1000000) (disch := omega) [-List.getD_eq_getElem?_getD]
        refine hK _ ?_; clear hK K
        refine aw_if rfl (fun h => absurd h (by simp)) (fun h => ?_)
        refine aw_skip ?_; simp (maxSteps := 1000000) (disch := omega) [-List.getD_eq_getElem?_getD]
        refine hK3 _ ?_; clear hK3
        refine aw_reg0 fun K hK => ?_; simp (maxSteps := 1000000) (disch := omega) [-List.getD_eq_getElem?_getD]
        refine hK _ ?_; clear hK K
        refine ⟨k + 1, by show k + 1 ≤ _; omega, by show x.2.length - (k + 1) < x.2.length - k; omega, ?_⟩
        rw [hst]
        refine weak_to [] [] ?_ ?_ ?_ ?_ (HO.toks (by simp)) ?_
        all_goals simp [hl]
      · rw [hkf] at hc hst
        refine aw_draw [] [] [] drawMixed (by kernel_rfl) (by kernel_rfl) fun K hK => ?_; simp (maxSteps := 1000000) (disch := omega) [-List.getD_eq_getElem?_getD, hjb.2, psAV_len, k2, hj]
        refine dcall_is (hc) rfl ?_; simp (maxSteps := 1000000) (disch := omega) [-List.getD_eq_getElem?_getD]
        refine hK _ ?_; clear hK K
        refine aw_if rfl (fun h => ?_) (fun h => absurd h (by simp))
        refine aw_reg0 fun K hK => ?_; simp (maxSteps := 1000000) (disch := omega) [-List.getD_eq_getElem?_getD]
        refine hK _ ?_; clear hK K
        refine hK3 _ ?_; clear hK3
        refine aw_reg0 fun K hK => ?_; simp (maxSteps := 1000000) (disch := omega) [-List.getD_eq_getElem?_getD]
        refine hK _ ?_; clear hK K
        refine ⟨k + 1, by show k + 1 ≤ _; omega, by show x.2.length - (k + 1) < x.2.length - k; omega, ?_⟩
        rw [hst]
        refine weak_to [] [] ?_ ?_ ?_ ?_ (HO.toks (by simp)) ?_
        all_goals simp [-List.getD_eq_getElem?_getD, ints_snoc, hl]
    · simp at hk
      have : k = x.2.length := by omega
      subst this
      rw [List.take_length] at hlen ⊢
      have hcells : ∀ w : List Int, BelowAll (H.length + 2) (T.length + 1) (ints w) := fun w => by simp
      refine aw_exit ?_; simp (maxSteps := 1000000) (disch := omega) [-List.getD_eq_getElem?_getD]
      refine hK1 _ ?_; clear hK1
      -- the row of its own becomes a row like others
      have hf1 : fl1 (fun _ z => kf z y.2) x = if x.2.filter (fun z => kf z y.2) = [] then [] else [(x.1, x.2.filter (fun z => kf z y.2))] := rfl
      rw [hf1]
      generalize x.2.filter (fun z => kf z y.2) = lk at *
      refine aw_weak ⟨[(0, .vptr (psAV a) (i * 2)), (2, .ptr H.length 0), (3, .ptr (H.length + 1) 0), (6, .sl lk.length (ints lk) .none)], S, U⟩ (weak_to [] [(_, _)] ?_ rfl ?_ ?_ HO ?_) ?_
      · simp
      · simp
      · simp
      · simp [hl]
      refine aw_reg fun K hK => ?_; simp (maxSteps := 1000000) (disch := omega) [-List.getD_eq_getElem?_getD]; refine hK _ ?_; clear hK K
      by_cases h0 : lk = []
      · have b : decide ((0 : Int) < (lk.length : Int)) = false := by simp [h0]
        subst h0
        simp only [if_true, List.append_nil]
        refine aw_if rfl (fun h => absurd h (by simp)) (fun h => ?_)
        refine aw_skip ?_; simp (maxSteps := 1000000) (disch := omega) [-List.getD_eq_getElem?_getD]
        subst hS; subst hU
        exact ⟨⟨[], by simp⟩, ⟨[], by simp⟩⟩
      · have b : decide ((0 : Int) < (lk.length : Int)) = true := by have := List.length_pos_iff.2 h0; simp; omega
        have b2 : 0 < lk.length := List.length_pos_iff.2 h0
        simp only [if_neg h0]
        refine aw_if rfl (fun h => ?_) (fun h => absurd h (by simp; omega))
        subst hS; subst hU
        have hps := psAV_snoc out x.1 lk
        simp only [SP, STp]
        refine aw_draw0 [8, 9] [0, 0, 0, 0, 0, 0, 0, 0, 0, 1] [[], []] drawMixed (by kernel_rfl) (by kernel_rfl) fun K hK => ?_; simp (maxSteps := 1000000) (disch := omega) [-List.getD_eq_getElem?_getD, hia.1, psAV_len, hps, hi]
        refine hK _ ?_; clear hK K
        exact ⟨⟨[], by simp⟩, ⟨[], by simp⟩, .inl rfl⟩
end Go.Proofs.Ytlijaamjcpefoaa

/- Merging of posting lists in layer 38. -/
namespace Go.Proofs.Ytlijaamjcpefoaa
open Go Go.Am Post
set_option linter.unusedVariables false

theorem drop_consP (l : PL) (i : Nat) (h : i < l.length) : l.drop i = l.getD i (0, []) :: l.drop (i + 1) := by
  rw [List.drop_eq_getElem_cons h, List.getD_eq_getElem?_getD, List.getElem?_eq_getElem h]
  rfl

/-- What is left of the walk through two posting lists. -/
def MP {β : Type} (fA fB : β → (Int × List Int) → β) (fAB : β → (Int × List Int) → (Int × List Int) → β) (a b : PL) (n i j : Nat) (o : β) : β := mgP fA fB fAB n (a.drop i) (b.drop j) o

section
variable {β : Type} {fA fB : β → (Int × List Int) → β} {fAB : β → (Int × List Int) → (Int × List Int) → β} {a b : PL} {o : β} {n i j : Nat}
theorem MP_A (hn : 0 < n) (hi : i < a.length) (hj : j < b.length) (h : (a.getD i (0, [])).1 < (b.getD j (0, [])).1) : MP fA fB fAB a b n i j o = MP fA fB fAB a b (n - 1) (i + 1) j (fA o (a.getD i (0, []))) := by
  obtain ⟨m, rfl⟩ : ∃ m, n = m + 1 := ⟨n - 1, by omega⟩
  unfold MP
  rw [drop_consP a i hi, drop_consP b j hj, mgP, if_pos h]
  rfl
theorem MP_B (hn : 0 < n) (hi : i < a.length) (hj : j < b.length) (h : ¬ (a.getD i (0, [])).1 < (b.getD j (0, [])).1) (h2 : (b.getD j (0, [])).1 < (a.getD i (0, [])).1) : MP fA fB fAB a b n i j o = MP fA fB fAB a b (n - 1) i (j + 1) (fB o (b.getD j (0, []))) := by
  obtain ⟨m, rfl⟩ : ∃ m, n = m + 1 := ⟨n - 1, by omega⟩
  unfold MP
  rw [drop_consP a i hi, drop_consP b j hj, mgP, if_neg h, if_pos h2]
  rfl
theorem MP_AB (hn : 0 < n) (hi : i < a.length) (hj : j < b.length) (h : ¬ (a.getD i (0, [])).1 < (b.getD j (0, [])).1) (h2 : ¬ (b.getD j (0, [])).1 < (a.getD i (0, [])).1) : MP fA fB fAB a b n i j o = MP fA fB fAB a b (n - 1) (i + 1) (j + 1) (fAB o (a.getD i (0, [])) (b.getD j (0, []))) := by
  obtain ⟨m, rfl⟩ : ∃ m, n = m + 1 := ⟨n - 1, by omega⟩
  unfold MP
  rw [drop_consP a i hi, drop_consP b j hj, mgP, if_neg h, if_neg h2]
  rfl
theorem MP_A0 (hn : 0 < n) (hi : i < a.length) (hj : j = b.length) : MP fA fB fAB a b n i j o = MP fA fB fAB a b (n - 1) (i + 1) j (fA o (a.getD i (0, []))) := by
  obtain ⟨m, rfl⟩ : ∃ m, n = m + 1 := ⟨n - 1, by omega⟩
  unfold MP
  rw [drop_consP a i hi, hj, List.drop_length, mgP]
  rfl
theorem MP_B0 (hn : 0 < n) (hi : i = a.length) (hj : j < b.length) : MP fA fB fAB a b n i j o = MP fA fB fAB a b (n - 1) i (j + 1) (fB o (b.getD j (0, []))) := by
  obtain ⟨m, rfl⟩ : ∃ m, n = m + 1 := ⟨n - 1, by omega⟩
  unfold MP
  rw [drop_consP b j hj, hi, List.drop_length, mgP]
  rfl
theorem MP_end (hi : i = a.length) (hj : j = b.length) : MP fA fB fAB a b n i j o = o := by
  unfold MP
  rw [hi, hj, List.drop_length, List.drop_length]
  cases n <;> rfl
end

set_option maxRecDepth 100000 in
set_option maxHeartbeats 4000000 in
theorem mergeP_ok {β : Type} (g : Nat) (caps : List AV) (fA fB : β → (Int × List Int) → β) (fAB : β → (Int × List Int) → (Int × List Int) → β) (S : β → List Blk) (U : β → Toks) (I : Nat → β → Prop) (N M : Nat) (o0 : β)
    (a b : PL) (ha : a.length ≤ 400) (hb : b.length ≤ 400) (hS : ∀ o, (S o).length = N) (hU : ∀ o, (U o).length = M) (hbc : BelowAll N M caps) (hok : ∀ n o, I n o → HOk (S o) (U o)) (h0 : I 0 o0)
    (cA : ∀ n i o, i < a.length → n ≤ 800 → I n o → ACall Try.prog g ([.vptr (psAV a) (i * 2), .nilp] ++ caps) (S o) (U o) (Is (.tup []) (S (fA o (a.getD i (0, [])))) (U (fA o (a.getD i (0, []))))))
    (cB : ∀ n j o, j < b.length → n ≤ 800 → I n o → ACall Try.prog g ([.nilp, .vptr (psAV b) (j * 2)] ++ caps) (S o) (U o) (Is (.tup []) (S (fB o (b.getD j (0, [])))) (U (fB o (b.getD j (0, []))))))
    (cAB : ∀ n i j o, i < a.length → j < b.length → n ≤ 800 → I n o → ACall Try.prog g ([.vptr (psAV a) (i * 2), .vptr (psAV b) (j * 2)] ++ caps) (S o) (U o) (Is (.tup []) (S (fAB o (a.getD i (0, [])) (b.getD j (0, [])))) (U (fAB o (a.getD i (0, [])) (b.getD j (0, []))))))
    (iA : ∀ n i o, i < a.length → I n o → I (n + 1) (fA o (a.getD i (0, [])))) (iB : ∀ n j o, j < b.length → I n o → I (n + 1) (fB o (b.getD j (0, [])))) (iAB : ∀ n i j o, i < a.length → j < b.length → I n o → I (n + 2) (fAB o (a.getD i (0, [])) (b.getD j (0, [])))) :
    ACall Try.prog 64 [.sl a.length (psAV a) .none, .sl b.length (psAV b) .none, .fn 65 [] [], .fn g [] caps] (S o0) (U o0)
      (Is (.tup []) (S (MP fA fB fAB a b (a.length + b.length) 0 0 o0)) (U (MP fA fB fAB a b (a.length + b.length) 0 0 o0))) := by
  refine acall_enter 11 [] Try.ntmps64 Try.func64 rfl (fun _ _ => Try.call64 _ _) (by simp) (fun HO => ?_)
  refine aw_reg fun K hK => ?_; simp (maxSteps := 1000000) (disch := omega) [-List.getD_eq_getElem?_getD]; refine hK _ ?_; clear hK K
  refine aw_block ?_
  refine aw_loop (X := Nat × Nat × Nat × β) (fun x => ⟨[(0, .sl a.length (psAV a) .none), (1, .sl b.length (psAV b) .none), (2, .fn 65 [] []), (3, .fn g [] caps), (8, .int .i64 (x.2.1 : Nat)), (9, .int .i64 (x.2.2.1 : Nat))], S x.2.2.2, U x.2.2.2⟩)
    (fun x => x.2.1 ≤ a.length ∧ x.2.2.1 ≤ b.length ∧ (a.length - x.2.1) + (b.length - x.2.2.1) ≤ x.1 ∧ MP fA fB fAB a b (a.length + b.length) 0 0 o0 = MP fA fB fAB a b x.1 x.2.1 x.2.2.1 x.2.2.2 ∧ I (x.2.1 + x.2.2.1) x.2.2.2) (fun x => x.1) (a.length + b.length, 0, 0, o0) ?_ ?_ ?_
  · exact ⟨Nat.zero_le _, Nat.zero_le _, by simp only; omega, rfl, h0⟩
  · refine weak_to [] [] ?_ ?_ ?_ ?_ HO ?_
    · simp
    · simp
    · simp
    · simp
    · simp [hS, hU, hbc]
  · rintro ⟨n, i, j, out⟩ ⟨h1, h2, h3, h4, h5⟩
    simp only at h1 h2 h3 h4 h5
    by_cases hi : i < a.length
    · have bi : decide ((i : Int) < a.length) = true := by simp; omega
      have ni : ((i : Int) == a.length) = false := by rw [beq_eq_false_iff_ne]; omega
      have ni2 : ¬ i = a.length := by omega
      have hca := psAV_cut a i hi
      by_cases hj : j < b.length
      · have bj : decide ((j : Int) < b.length) = true := by simp; omega
        have nj : ((j : Int) == b.length) = false := by rw [beq_eq_false_iff_ne]; omega
        have nj2 : ¬ j = b.length := by omega
        have hcb := psAV_cut b j hj
        have hn : 0 < n := by omega
        refine aw_then fun K2 hK2 => ?_
        refine aw_reg fun K hK => ?_; simp (maxSteps := 1000000) (disch := omega) [-List.getD_eq_getElem?_getD, bi, bj, hi, hj]; refine hK _ ?_; clear hK K
        refine aw_if rfl (fun h => ?_) (fun h => absurd h (by simp))
        refine aw_skip ?_; simp (maxSteps := 1000000) (disch := omega) [-List.getD_eq_getElem?_getD]
        refine hK2 _ ?_; clear hK2
        refine aw_block ?_
        refine aw_block ?_
        by_cases c1 : (a.getD i (0, [])).1 < (b.getD j (0, [])).1
        · have b1 : decide ((a.getD i (0, [])).1 < (b.getD j (0, [])).1) = true := by simpa using c1
          have hst := MP_A (fA := fA) (fB := fB) (fAB := fAB) (o := out) hn hi hj c1
          refine aw_draw [] [] [] drawMixed (by kernel_rfl) (by kernel_rfl) fun K hK => ?_; simp (maxSteps := 1000000) (disch := omega) [-List.getD_eq_getElem?_getD, bi, hi, nj, nj2, hca, psAV_len]
          refine dcall_is (doc_ok _ _ _) rfl ?_; simp (maxSteps := 1000000) (disch := omega) [-List.getD_eq_getElem?_getD, hcb, psAV_len]
          refine dcall_is (doc_ok _ _ _) rfl ?_; simp (maxSteps := 1000000) (disch := omega) [-List.getD_eq_getElem?_getD, b1, c1]
          refine hK _ ?_; clear hK K
          refine aw_if rfl (fun h => ?_) (fun h => absurd h (by simp))
          refine aw_reg fun K hK => ?_; simp (maxSteps := 1000000) (disch := omega) [-List.getD_eq_getElem?_getD, psAV_len]
          refine acall_is (cA (i + j) i out hi (by omega) h5) ?_; simp (maxSteps := 1000000) (disch := omega) [-List.getD_eq_getElem?_getD]
          refine hK _ ?_; clear hK K
          refine aw_reg0 fun K hK => ?_; simp (maxSteps := 1000000) (disch := omega) [-List.getD_eq_getElem?_getD]
          refine hK _ ?_; clear hK K
          refine ⟨(n - 1, i + 1, j, fA out (a.getD i (0, []))), ⟨by show i + 1 ≤ a.length; omega, by show j ≤ b.length; omega, by show (a.length - (i + 1)) + (b.length - (j)) ≤ n - 1; omega, h4.trans hst, (show I (i + 1 + j) _ by rw [show i + 1 + j = i + j + 1 by omega]; exact iA _ i out hi h5)⟩, by show n - 1 < n; omega, ?_⟩
          refine weak_to [] [] ?_ ?_ ?_ ?_ (hok _ _ ((show I (i + 1 + j) _ by rw [show i + 1 + j = i + j + 1 by omega]; exact iA _ i out hi h5))) ?_
          · simp
          · simp
          · simp [hS]
          · simp [hU]
          · simp [hS, hU, hbc]
            try omega
        · have b1 : decide ((a.getD i (0, [])).1 < (b.getD j (0, [])).1) = false := by simpa using c1
          refine aw_draw [] [] [] drawMixed (by kernel_rfl) (by kernel_rfl) fun K hK => ?_; simp (maxSteps := 1000000) (disch := omega) [-List.getD_eq_getElem?_getD, bi, hi, nj, nj2, hca, psAV_len]
          refine dcall_is (doc_ok _ _ _) rfl ?_; simp (maxSteps := 1000000) (disch := omega) [-List.getD_eq_getElem?_getD, hcb, psAV_len]
          refine dcall_is (doc_ok _ _ _) rfl ?_; simp (maxSteps := 1000000) (disch := omega) [-List.getD_eq_getElem?_getD, b1, c1]
          refine hK _ ?_; clear hK K
          refine aw_if rfl (fun h => absurd h (by simp)) (fun h => ?_)
          by_cases c2 : (b.getD j (0, [])).1 < (a.getD i (0, [])).1
          · have b2 : decide ((b.getD j (0, [])).1 < (a.getD i (0, [])).1) = true := by simpa using c2
            have hst := MP_B (fA := fA) (fB := fB) (fAB := fAB) (o := out) hn hi hj c1 c2
            refine aw_draw [] [] [] drawMixed (by kernel_rfl) (by kernel_rfl) fun K hK => ?_; simp (maxSteps := 1000000) (disch := omega) [-List.getD_eq_getElem?_getD, ni, ni2, hcb, psAV_len, hj]
            refine dcall_is (doc_ok _ _ _) rfl ?_; simp (maxSteps := 1000000) (disch := omega) [-List.getD_eq_getElem?_getD, hca, psAV_len]
            refine dcall_is (doc_ok _ _ _) rfl ?_; simp (maxSteps := 1000000) (disch := omega) [-List.getD_eq_getElem?_getD, b2, c2]
            refine hK _ ?_; clear hK K
            refine aw_if rfl (fun h => ?_) (fun h => absurd h (by simp))
            refine aw_reg fun K hK => ?_; simp (maxSteps := 1000000) (disch := omega) [-List.getD_eq_getElem?_getD, psAV_len]
            refine acall_is (cB (i + j) j out hj (by omega) h5) ?_; simp (maxSteps := 1000000) (disch := omega) [-List.getD_eq_getElem?_getD]
            refine hK _ ?_; clear hK K
            refine aw_reg0 fun K hK => ?_; simp (maxSteps := 1000000) (disch := omega) [-List.getD_eq_getElem?_getD]
            refine hK _ ?_; clear hK K
            refine ⟨(n - 1, i, j + 1, fB out (b.getD j (0, []))), ⟨by show i ≤ a.length; omega, by show j + 1 ≤ b.length; omega, by show (a.length - (i)) + (b.length - (j + 1)) ≤ n - 1; omega, h4.trans hst, (show I (i + (j + 1)) _ from iB _ j out hj h5)⟩, by show n - 1 < n; omega, ?_⟩
            refine weak_to [] [] ?_ ?_ ?_ ?_ (hok _ _ ((show I (i + (j + 1)) _ from iB _ j out hj h5))) ?_
            · simp
            · simp
            · simp [hS]
            · simp [hU]
            · simp [hS, hU, hbc]
              try omega
          · have b2 : decide ((b.getD j (0, [])).1 < (a.getD i (0, [])).1) = false := by simpa using c2
            have hst := MP_AB (fA := fA) (fB := fB) (fAB := fAB) (o := out) hn hi hj c1 c2
            refine aw_draw [] [] [] drawMixed (by kernel_rfl) (by kernel_rfl) fun K hK => ?_; simp (maxSteps := 1000000) (disch := omega) [-List.getD_eq_getElem?_getD, ni, ni2, hcb, psAV_len, hj]
            refine dcall_is (doc_ok _ _ _) rfl ?_; simp (maxSteps := 1000000) (disch := omega) [-List.getD_eq_getElem?_getD, hca, psAV_len]
            refine dcall_is (doc_ok _ _ _) rfl ?_; simp (maxSteps := 1000000) (disch := omega) [-List.getD_eq_getElem?_getD, b2, c2]
            refine hK _ ?_; clear hK K
            refine aw_if rfl (fun h => absurd h (by simp)) (fun h => ?_)
            refine aw_draw [7] [0, 0, 0, 0, 0, 0, 0, 0] [[]] drawMixed (by kernel_rfl) (by kernel_rfl) fun K hK => ?_; simp (maxSteps := 1000000) (disch := omega) [-List.getD_eq_getElem?_getD, psAV_len, hi, hj]
            refine dcall_eff (cAB (i + j) i j out hi hj (by omega) h5) rfl ?_; simp (maxSteps := 1000000) (disch := omega) [-List.getD_eq_getElem?_getD]
            refine hK _ ?_; clear hK K
            refine aw_reg0 fun K hK => ?_; simp (maxSteps := 1000000) (disch := omega) [-List.getD_eq_getElem?_getD]
            refine hK _ ?_; clear hK K
            refine ⟨(n - 1, i + 1, j + 1, fAB out (a.getD i (0, [])) (b.getD j (0, []))), ⟨by show i + 1 ≤ a.length; omega, by show j + 1 ≤ b.length; omega, by show (a.length - (i + 1)) + (b.length - (j + 1)) ≤ n - 1; omega, h4.trans hst, (show I (i + 1 + (j + 1)) _ by rw [show i + 1 + (j + 1) = i + j + 2 by omega]; exact iAB _ i j out hi hj h5)⟩, by show n - 1 < n; omega, ?_⟩
            refine weak_to [] [] ?_ ?_ ?_ ?_ (hok _ _ ((show I (i + 1 + (j + 1)) _ by rw [show i + 1 + (j + 1) = i + j + 2 by omega]; exact iAB _ i j out hi hj h5))) ?_
            · simp
            · simp
            · simp [hS]
            · simp [hU]
            · simp [hS, hU, hbc]
              try omega
      · have bj : decide ((j : Int) < b.length) = false := by simp; omega
        have hjb : j = b.length := by omega
        have nj : ((j : Int) == b.length) = true := by simp; omega
        have hn : 0 < n := by omega
        have hst := MP_A0 (fA := fA) (fB := fB) (fAB := fAB) (o := out) hn hi hjb
        refine aw_then fun K2 hK2 => ?_
        refine aw_reg fun K hK => ?_; simp (maxSteps := 1000000) (disch := omega) [-List.getD_eq_getElem?_getD, bi, bj, hi, hj]; refine hK _ ?_; clear hK K
        refine aw_if rfl (fun h => ?_) (fun h => absurd h (by simp))
        refine aw_skip ?_; simp (maxSteps := 1000000) (disch := omega) [-List.getD_eq_getElem?_getD]
        refine hK2 _ ?_; clear hK2
        refine aw_block ?_
        refine aw_block ?_
        have hjz : (j : Int) = (b.length : Int) := by omega
        refine aw_draw [] [] [] drawMixed (by kernel_rfl) (by kernel_rfl) fun K hK => ?_; simp (maxSteps := 1000000) (disch := omega) [-List.getD_eq_getElem?_getD, nj, hjz]
        refine hK _ ?_; clear hK K
        refine aw_if rfl (fun h => ?_) (fun h => absurd h (by simp))
        refine aw_reg fun K hK => ?_; simp (maxSteps := 1000000) (disch := omega) [-List.getD_eq_getElem?_getD, psAV_len]
        refine acall_is (cA (i + j) i out hi (by omega) h5) ?_; simp (maxSteps := 1000000) (disch := omega) [-List.getD_eq_getElem?_getD]
        refine hK _ ?_; clear hK K
        refine aw_reg0 fun K hK => ?_; simp (maxSteps := 1000000) (disch := omega) [-List.getD_eq_getElem?_getD]
        refine hK _ ?_; clear hK K
        refine ⟨(n - 1, i + 1, j, fA out (a.getD i (0, []))), ⟨by show i + 1 ≤ a.length; omega, by show j ≤ b.length; omega, by show (a.length - (i + 1)) + (b.length - (j)) ≤ n - 1; omega, h4.trans hst, (show I (i + 1 + j) _ by rw [show i + 1 + j = i + j + 1 by omega]; exact iA _ i out hi h5)⟩, by show n - 1 < n; omega, ?_⟩
        refine weak_to [] [] ?_ ?_ ?_ ?_ (hok _ _ ((show I (i + 1 + j) _ by rw [show i + 1 + j = i + j + 1 by omega]; exact iA _ i out hi h5))) ?_
        · simp
        · simp
        · simp [hS]
        · simp [hU]
        · simp [hS, hU, hbc]
          try omega
    · have bi : decide ((i : Int) < a.length) = false := by simp; omega
      have hia : i = a.length := by omega
      by_cases hj : j < b.length
      · have bj : decide ((j : Int) < b.length) = true := by simp; omega
        have nj : ((j : Int) == b.length) = false := by rw [beq_eq_false_iff_ne]; omega
        have nj2 : ¬ j = b.length := by omega
        have ni : ((i : Int) == a.length) = true := by simp; omega
        have hn : 0 < n := by omega
        have hst := MP_B0 (fA := fA) (fB := fB) (fAB := fAB) (o := out) hn hia hj
        refine aw_then fun K2 hK2 => ?_
        refine aw_reg fun K hK => ?_; simp (maxSteps := 1000000) (disch := omega) [-List.getD_eq_getElem?_getD, bi, bj, hi, hj]; refine hK _ ?_; clear hK K
        refine aw_if rfl (fun h => ?_) (fun h => absurd h (by simp))
        refine aw_skip ?_; simp (maxSteps := 1000000) (disch := omega) [-List.getD_eq_getElem?_getD]
        refine hK2 _ ?_; clear hK2
        refine aw_block ?_
        refine aw_block ?_
        refine aw_draw [] [] [] drawMixed (by kernel_rfl) (by kernel_rfl) fun K hK => ?_; simp (maxSteps := 1000000) (disch := omega) [-List.getD_eq_getElem?_getD, nj, nj2, bi, hi]
        refine hK _ ?_; clear hK K
        refine aw_if rfl (fun h => absurd h (by simp)) (fun h => ?_)
        have hiz : (i : Int) = (a.length : Int) := by omega
        refine aw_draw [] [] [] drawMixed (by kernel_rfl) (by kernel_rfl) fun K hK => ?_; simp (maxSteps := 1000000) (disch := omega) [-List.getD_eq_getElem?_getD, ni, hiz]
        refine hK _ ?_; clear hK K
        refine aw_if rfl (fun h => ?_) (fun h => absurd h (by simp))
        refine aw_reg fun K hK => ?_; simp (maxSteps := 1000000) (disch := omega) [-List.getD_eq_getElem?_getD, psAV_len]
        refine acall_is (cB (i + j) j out hj (by omega) h5) ?_; simp (maxSteps := 1000000) (disch := omega) [-List.getD_eq_getElem?_getD]
        refine hK _ ?_; clear hK K
        refine aw_reg0 fun K hK => ?_; simp (maxSteps := 1000000) (disch := omega) [-List.getD_eq_getElem?_getD]
        refine hK _ ?_; clear hK K
        refine ⟨(n - 1, i, j + 1, fB out (b.getD j (0, []))), ⟨by show i ≤ a.length; omega, by show j + 1 ≤ b.length; omega, by show (a.length - (i)) + (b.length - (j + 1)) ≤ n - 1; omega, h4.trans hst, (show I (i + (j + 1)) _ from iB _ j out hj h5)⟩, by show n - 1 < n; omega, ?_⟩
        refine weak_to [] [] ?_ ?_ ?_ ?_ (hok _ _ ((show I (i + (j + 1)) _ from iB _ j out hj h5))) ?_
        · simp
        · simp
        · simp [hS]
        · simp [hU]
        · simp [hS, hU, hbc]
          try omega
      · have bj : decide ((j : Int) < b.length) = false := by simp; omega
        have hend := MP_end (fA := fA) (fB := fB) (fAB := fAB) (a := a) (b := b) (o := out) (n := n) hia (show j = b.length by omega)
        rw [hend] at h4
        refine aw_then fun K2 hK2 => ?_
        refine aw_reg fun K hK => ?_; simp (maxSteps := 1000000) (disch := omega) [-List.getD_eq_getElem?_getD, bi, bj, hi, hj]; refine hK _ ?_; clear hK K
        refine aw_if rfl (fun h => absurd h (by simp)) (fun h => ?_)
        refine aw_exit ?_; simp (maxSteps := 1000000) (disch := omega) [-List.getD_eq_getElem?_getD]
        rw [h4]
        exact ⟨rfl, rfl, rfl⟩
end Go.Proofs.Ytlijaamjcpefoaa

/- filtered of layer 38, and Near. -/
namespace Go.Proofs.Ytlijaamjcpefoaa
open Go Go.Am Post
set_option linter.unusedVariables false

theorem filtered_ok (g : Nat) (caps : List AV) (kf : Int → List Int → Bool) (a b : PL) (ha : a.length ≤ 400) (hb : b.length ≤ 400) (hpa : ∀ p ∈ a, p.2.length ≤ 400) (hva : Asc' a) (hvb : Asc' b) (H : List Blk) (T : Toks) (hcaps : BelowAll H.length T.length caps)
    (hg : ∀ x, x ∈ a → ∀ y, y ∈ b → ∀ p, p ∈ x.2 → ∀ R T', ACall Try.prog g ([.int .i64 p, .sl y.2.length (ints y.2) .none] ++ caps) (H ++ R) T' (Is (.bool (kf p y.2)) (H ++ R) T')) (ta tb : Tag) :
    ACall Try.prog 53 [.sl a.length (psAV a) ta, .sl b.length (psAV b) tb, .fn g [] caps] H T (Is (.sl (flt (fltB kf b) a).length (psAV (flt (fltB kf b) a)) .none) H T) := by
  refine ACall.untag1 (ACall.untag2 ?_)
  refine ACall.drop' ?_ (by simp)
  have hfv : Below H.length T.length (.fn g [] caps) := .fn _ _ _ (fun v hv => by simp at hv) hcaps
  have hres : MP (fun o _ => o) (fun o _ => o) (fun o x y => o ++ fl1 (fun _ z => kf z y.2) x) a b (a.length + b.length) 0 0 [] = flt (fltB kf b) a := by
    have := mgP_flt kf (a.length + b.length) a b [] (Nat.le_refl _) hva hvb
    rw [List.nil_append] at this
    exact this
  have c := fun HO : HOk H T => mergeP_ok (β := PL) 86 [.ptr H.length 0, .ptr (H.length + 1) 0] (fun o _ => o) (fun o _ => o) (fun o x y => o ++ fl1 (fun _ z => kf z y.2) x)
    (fun o => SP H (.fn g [] caps) o T.length) (fun o => STp T o) (fun n o => o.length ≤ n) (H.length + 2) (T.length + 1) [] a b ha hb (fun o => SP_len _ _ _ _) (fun o => STp_len _ _) (by simp)
    (fun n o _ => hok_SP HO _ hfv o) (Nat.zero_le _)
    (fun n i o hi hn h => filtA_ok _ _ _ _ _ _) (fun n j o hj hn h => filtB_ok _ _ _ _ _ _)
    (fun n i j o hi hj hn h => filtAB_ok g caps kf H T o (by omega) a b i j hi hj (Nat.le_trans (hpa _ (memD a i _ hi)) (by decide)) (fun p hp T' => hg _ (memD a i _ hi) _ (memD b j _ hj) p hp _ T'))
    (fun n i o _ h => Nat.le_succ_of_le h) (fun n j o _ h => Nat.le_succ_of_le h)
    (fun n i j o _ _ h => by
      have : (fl1 (fun _ z => kf z (b.getD j (0, [])).2) (a.getD i (0, []))).length ≤ 1 := by unfold fl1; split <;> simp
      simp only [List.length_append]
      omega)
  rw [hres] at c
  generalize flt (fltB kf b) a = r at *
  have k1 : (SP H (.fn g [] caps) r T.length)[H.length + 1]? = some (.cells [.sl r.length (psAV r) (.own T.length)]) := by simp [SP]
  have hH : ∃ rH, SP H (.fn g [] caps) r T.length = H ++ rH := ⟨_, rfl⟩
  have hT : ∃ rT, STp T r = T ++ rT := ⟨_, rfl⟩
  refine acall_enter 8 [] Try.ntmps53 Try.func53 rfl (fun _ _ => Try.call53 _ _) (by simp) (fun HO => ?_)
  have c1 := c HO
  refine aw_reg fun K hK => ?_; simp (maxSteps := 1000000) (disch := omega) [-List.getD_eq_getElem?_getD]; refine hK _ ?_; clear hK K
  refine aw_reg fun K hK => ?_; simp (maxSteps := 1000000) (disch := omega) [-List.getD_eq_getElem?_getD]; refine hK _ ?_; clear hK K
  refine aw_ownB 2 (H ++ [.cells [.fn g [] caps]]) 0 [] (by omega) (by simp) ?_
  refine aw_reg fun K hK => ?_; simp (maxSteps := 1000000) (disch := omega) [-List.getD_eq_getElem?_getD]
  refine acall_is (c1) ?_; simp (maxSteps := 1000000) (disch := omega) [-List.getD_eq_getElem?_getD]
  refine hK _ ?_; clear hK K
  refine aw_reg fun K hK => ?_; simp (maxSteps := 1000000) (disch := omega) [-List.getD_eq_getElem?_getD, k1]; refine hK _ ?_; clear hK K
  refine aw_ret ?_; simp (maxSteps := 1000000) (disch := omega) [-List.getD_eq_getElem?_getD]
  exact ⟨hH, hT⟩

/-- The place of a document is in the list. -/
theorem posOf_mem {b : PL} {y : Int × List Int} (hs : Asc' b) (h : y ∈ b) : posOf b y.1 = y.2 := by
  induction b with
  | nil => simp at h
  | cons z b ih =>
    obtain ⟨h1, h2⟩ := asc'_tail hs
    rcases List.mem_cons.1 h with rfl | h
    · exact posOf_cons_eq
    · have := h2 y h
      rw [posOf_cons_ne (by omega)]
      exact ih h1 h

theorem validL_iff {l : PL} (h : validL l = true) : Asc' l ∧ (∀ p ∈ l, 1 ≤ p.1 ∧ p.1 ≤ 1000000000) ∧ ∀ p ∈ l, p.2 ≠ [] ∧ Asc p.2 ∧ ∀ q ∈ p.2, 0 ≤ q ∧ q ≤ 1000000 := by
  have bounds : ∀ (l : List Int) (lo hi : Int), asc l lo hi = true → ∀ q ∈ l, lo ≤ q ∧ q ≤ hi := fun l lo hi h q hq => by
    obtain ⟨j, hj, e⟩ := memD_inv 0 hq
    unfold asc at h
    rw [List.all_eq_true] at h
    have := h j (by simpa using hj)
    unfold ascAt at this
    simp only [Bool.and_eq_true, decide_eq_true_eq] at this
    rw [e] at this
    exact this.1
  unfold validL at h
  rw [Bool.and_eq_true] at h
  obtain ⟨h1, h2⟩ := h
  refine ⟨asc_pair h1, fun p hp => bounds _ _ _ h1 _ (List.mem_map.2 ⟨p, hp, rfl⟩), fun p hp => ?_⟩
  have h3 : badP p = false := by
    cases hb : badP p with
    | false => rfl
    | true =>
      have : l.any badP = true := List.any_eq_true.2 ⟨p, hp, hb⟩
      rw [this] at h2
      simp at h2
  unfold badP at h3
  rw [Bool.or_eq_false_iff] at h3
  have h4 : asc p.2 0 1000000 = true := by simpa using h3.2
  refine ⟨fun e => ?_, asc_pair h4, bounds _ _ _ h4⟩
  have := h3.1
  rw [e] at this
  simp at this

def nearL (a b : PL) (n : Int) : PL := if validL a = true ∧ validL b = true ∧ 1 ≤ n then flt (fltB (fun p at_ => at_.any (nearQ p n)) b) a else []

theorem near_ok (a b : PL) (n : Int) (ha : a.length ≤ 400) (hb : b.length ≤ 400) (hpa : ∀ p ∈ a, p.2.length ≤ 400) (hpb : ∀ p ∈ b, p.2.length ≤ 400) (H : List Blk) (T : Toks) (ta tb : Tag) :
    ACall Try.prog 29 [.sl a.length (psAV a) ta, .sl b.length (psAV b) tb, .int .i64 n] H T (Is (.sl (nearL a b n).length (psAV (nearL a b n)) .none) H T) := by
  refine ACall.untag1 (ACall.untag2 ?_)
  refine ACall.drop' ?_ (by simp)
  have hml : 400 ≤ maxLen := by decide
  have c1 := valid_ok a (by omega) (fun p h => Nat.le_trans (hpa p h) hml) (H ++ [.cells [.int .i64 n]]) T .none
  have c2 := valid_ok b (by omega) (fun p h => Nat.le_trans (hpb p h) hml) (H ++ [.cells [.int .i64 n]]) T .none
  refine acall_enter 7 [] Try.ntmps29 Try.func29 rfl (fun _ _ => Try.call29 _ _) (by simp) (fun HO => ?_)
  refine aw_reg fun K hK => ?_; simp (maxSteps := 1000000) (disch := omega) [-List.getD_eq_getElem?_getD]; refine hK _ ?_; clear hK K
  refine aw_then fun K1 hK1 => ?_
  cases hva : validL a with
  | false =>
    rw [hva] at c1
    refine aw_reg fun K hK => ?_; simp (maxSteps := 1000000) (disch := omega) [-List.getD_eq_getElem?_getD]
    refine acall_is (c1) ?_; simp (maxSteps := 1000000) (disch := omega) [-List.getD_eq_getElem?_getD]
    refine hK _ ?_; clear hK K
    refine aw_if rfl (fun h => ?_) (fun h => absurd h (by simp))
    refine aw_reg fun K hK => ?_; simp (maxSteps := 1000000) (disch := omega) [-List.getD_eq_getElem?_getD]; refine hK _ ?_; clear hK K
    refine aw_ret ?_; simp (maxSteps := 1000000) (disch := omega) [-List.getD_eq_getElem?_getD]
    simp [nearL, hva, psAV]
  | true =>
    rw [hva] at c1
    cases hvb : validL b with
    | false =>
      rw [hvb] at c2
      refine aw_reg fun K hK => ?_; simp (maxSteps := 1000000) (disch := omega) [-List.getD_eq_getElem?_getD]
      refine acall_is (c1) ?_; simp (maxSteps := 1000000) (disch := omega) [-List.getD_eq_getElem?_getD]
      refine acall_is (c2) ?_; simp (maxSteps := 1000000) (disch := omega) [-List.getD_eq_getElem?_getD]
      refine hK _ ?_; clear hK K
      refine aw_if rfl (fun h => ?_) (fun h => absurd h (by simp))
      refine aw_reg fun K hK => ?_; simp (maxSteps := 1000000) (disch := omega) [-List.getD_eq_getElem?_getD]; refine hK _ ?_; clear hK K
      refine aw_ret ?_; simp (maxSteps := 1000000) (disch := omega) [-List.getD_eq_getElem?_getD]
      simp [nearL, hvb, psAV]
    | true =>
      rw [hvb] at c2
      by_cases hn : n < 1
      · have b1 : decide (n < 1) = true := by simpa using hn
        have hn2 : ¬ 1 ≤ n := by omega
        refine aw_reg fun K hK => ?_; simp (maxSteps := 1000000) (disch := omega) [-List.getD_eq_getElem?_getD]
        refine acall_is (c1) ?_; simp (maxSteps := 1000000) (disch := omega) [-List.getD_eq_getElem?_getD]
        refine acall_is (c2) ?_; simp (maxSteps := 1000000) (disch := omega) [-List.getD_eq_getElem?_getD]
        (try simp (maxSteps := 1000000) (disch := omega) [-List.getD_eq_getElem?_getD, b1, hn])
        refine hK _ ?_; clear hK K
        refine aw_if rfl (fun h => ?_) (fun h => absurd h (by simp))
        refine aw_reg fun K hK => ?_; simp (maxSteps := 1000000) (disch := omega) [-List.getD_eq_getElem?_getD]; refine hK _ ?_; clear hK K
        refine aw_ret ?_; simp (maxSteps := 1000000) (disch := omega) [-List.getD_eq_getElem?_getD]
        simp [nearL, hn2, psAV]
      · have b1 : decide (n < 1) = false := by simpa using hn
        have hn2 : 1 ≤ n := by omega
        obtain ⟨a1, a2, a3⟩ := validL_iff hva
        obtain ⟨e1, e2, e3⟩ := validL_iff hvb
        have hr : nearL a b n = flt (fltB (fun p at_ => at_.any (nearQ p n)) b) a := by unfold nearL; rw [if_pos ⟨hva, hvb, hn2⟩]
        have c3 := filtered_ok 70 [.ptr H.length 0] (fun p at_ => at_.any (nearQ p n)) a b ha hb hpa a1 e1 (H ++ [.cells [.int .i64 n]]) T (by simp)
          (fun x hx y hy p hp R T' => near1_ok p n y.2 (by have := (a3 x hx).2.2 p hp; omega) (fun q hq => by have := (e3 y hy).2.2 q hq; omega) (Nat.le_trans (hpb y hy) hml) _ T' H.length (by simp) .none) .none .none
        rw [← hr] at c3
        generalize nearL a b n = r at *
        refine aw_reg fun K hK => ?_; simp (maxSteps := 1000000) (disch := omega) [-List.getD_eq_getElem?_getD]
        refine acall_is (c1) ?_; simp (maxSteps := 1000000) (disch := omega) [-List.getD_eq_getElem?_getD]
        refine acall_is (c2) ?_; simp (maxSteps := 1000000) (disch := omega) [-List.getD_eq_getElem?_getD]
        (try simp (maxSteps := 1000000) (disch := omega) [-List.getD_eq_getElem?_getD, b1, hn])
        refine hK _ ?_; clear hK K
        refine aw_if rfl (fun h => absurd h (by simp)) (fun h => ?_)
        refine aw_skip ?_; simp (maxSteps := 1000000) (disch := omega) [-List.getD_eq_getElem?_getD]
        refine hK1 _ ?_; clear hK1
        refine aw_reg fun K hK => ?_; simp (maxSteps := 1000000) (disch := omega) [-List.getD_eq_getElem?_getD]
        refine acall_is (c3) ?_; simp (maxSteps := 1000000) (disch := omega) [-List.getD_eq_getElem?_getD]
        refine hK _ ?_; clear hK K
        refine aw_ret ?_; simp (maxSteps := 1000000) (disch := omega) [-List.getD_eq_getElem?_getD]
end Go.Proofs.Ytlijaamjcpefoaa

/- Lists of posting lists in layer 38, and which of them are valid. -/
namespace Go.Proofs.Ytlijaamjcpefoaa
open Go Go.Am Post
set_option linter.unusedVariables false

/-- The cells of a list of posting lists. -/
def plsAV (l : List PL) : List AV := l.map fun p => .sl p.length (psAV p) .none
theorem plsAV_nil : plsAV [] = [] := rfl
theorem plsAV_len (l : List PL) : (plsAV l).length = l.length := by simp [plsAV]
@[simp] theorem below_pls (n t : Nat) (l : List PL) : BelowAll n t (plsAV l) := by
  intro v hv
  obtain ⟨p, _, rfl⟩ := List.mem_map.1 hv
  simp
theorem plsAV_at (l : List PL) (i : Nat) (h : i < l.length) : (plsAV l).getD i .top = .sl (l.getD i []).length (psAV (l.getD i [])) .none := by
  simp [plsAV, List.getD_eq_getElem?_getD, List.getElem?_map, List.getElem?_eq_getElem h]
theorem plsAV_drop (l : List PL) (k : Nat) : (plsAV l).drop k = plsAV (l.drop k) := by simp [plsAV]
theorem plsAV_take (l : List PL) (k : Nat) (h : k < l.length) : plsAV (l.take k) ++ [.sl (l.getD k []).length (psAV (l.getD k [])) .none] = plsAV (l.take (k + 1)) := by
  rw [take_succD l k [] h]
  simp [plsAV]

theorem phrase1_ok (l : PL) (hl : l.length ≤ 1000) (hp : ∀ p ∈ l, p.2.length ≤ maxLen) (H : List Blk) (T : Toks) :
    ACall Try.prog 52 [.sl l.length (psAV l) .none] H T (Is (.bool (!validL l)) H T) := by
  refine acall_enter 4 [] Try.ntmps52 Try.func52 rfl (fun _ _ => Try.call52 _ _) (by simp) (fun HO => ?_)
  refine aw_reg fun K hK => ?_; simp (maxSteps := 1000000) (disch := omega) [-List.getD_eq_getElem?_getD]; refine hK _ ?_; clear hK K
  refine aw_reg fun K hK => ?_; simp (maxSteps := 1000000) (disch := omega) [-List.getD_eq_getElem?_getD]
  refine acall_is (valid_ok l hl hp H T .none) ?_; simp (maxSteps := 1000000) (disch := omega) [-List.getD_eq_getElem?_getD]
  refine hK _ ?_; clear hK K
  refine aw_ret ?_; simp (maxSteps := 1000000) (disch := omega) [-List.getD_eq_getElem?_getD]
  exact ⟨rfl, rfl, rfl⟩

theorem indexL_ok (l : List PL) (hl : l.length ≤ 1000) (hl2 : ∀ x ∈ l, x.length ≤ 1000) (hp : ∀ x ∈ l, ∀ p ∈ x, p.2.length ≤ maxLen) (H : List Blk) (T : Toks) :
    ACall Try.prog 85 [.sl l.length (plsAV l) .none, .fn 52 [] []] H T (fun r H' T' => H' = H ∧ T' = T ∧ ∃ v : Int, r = .int .i64 v ∧ decide (0 ≤ v) = l.any (fun x => !validL x)) := by
  generalize hq : l.any (fun x => !validL x) = q
  refine acall_enter 9 [] Try.ntmps85 Try.func85 rfl (fun _ _ => Try.call85 _ _) (by simp) (fun HO => ?_)
  refine aw_reg fun K hK => ?_; simp (maxSteps := 1000000) (disch := omega) [-List.getD_eq_getElem?_getD]; refine hK _ ?_; clear hK K
  refine aw_then fun K1 hK1 => ?_
  refine aw_reg fun K hK => ?_; simp (maxSteps := 1000000) (disch := omega) [-List.getD_eq_getElem?_getD]; refine hK _ ?_; clear hK K
  refine aw_block ?_
  refine aw_loop (X := Nat) (fun k => ⟨[(0, .sl l.length (plsAV l) .none), (1, .fn 52 [] []), (7, .int .i64 (l.length : Nat)), (8, .int .i64 (k : Nat))], H, T⟩) (fun k => k ≤ l.length ∧ ∀ j, j < k → validL (l.getD j []) = true) (fun k => l.length - k) 0 ?_ ?_ ?_
  · exact ⟨Nat.zero_le _, fun j hj => absurd hj (Nat.not_lt_zero _)⟩
  · refine weak_to [] [] ?_ ?_ ?_ ?_ HO ?_
    all_goals simp
  · rintro k ⟨h1, h2⟩
    refine aw_reg fun K hK => ?_; simp (maxSteps := 1000000) (disch := omega) [-List.getD_eq_getElem?_getD]; refine hK _ ?_; clear hK K
    refine aw_then fun K2 hK2 => ?_
    refine aw_if rfl (fun hk => ?_) (fun hk => ?_)
    · simp [-List.getD_eq_getElem?_getD] at hk
      have hm := memD l k [] hk
      have hat := plsAV_at l k hk
      have c := phrase1_ok (l.getD k []) (hl2 _ hm) (hp _ hm) H T
      refine aw_skip ?_; simp (maxSteps := 1000000) (disch := omega) [-List.getD_eq_getElem?_getD]
      refine hK2 _ ?_; clear hK2
      refine aw_then fun K3 hK3 => ?_
      refine aw_block ?_
      refine aw_reg fun K hK => ?_; simp (maxSteps := 1000000) (disch := omega) [-List.getD_eq_getElem?_getD]; refine hK _ ?_; clear hK K
      cases hf : validL (l.getD k []) with
      | false =>
        rw [hf] at c
        refine aw_reg fun K hK => ?_; simp (maxSteps := 1000000) (disch := omega) [-List.getD_eq_getElem?_getD, hat, plsAV_len]
        refine acall_is (c) ?_; simp (maxSteps := 1000000) (disch := omega) [-List.getD_eq_getElem?_getD]
        refine hK _ ?_; clear hK K
        refine aw_if rfl (fun h => ?_) (fun h => absurd h (by simp))
        refine aw_reg fun K hK => ?_; simp (maxSteps := 1000000) (disch := omega) [-List.getD_eq_getElem?_getD]; refine hK _ ?_; clear hK K
        refine aw_ret ?_; simp (maxSteps := 1000000) (disch := omega) [-List.getD_eq_getElem?_getD]
        have : l.any (fun x => !validL x) = true := List.any_eq_true.2 ⟨_, hm, by rw [hf]; rfl⟩
        rw [hq] at this
        simp [this]
      | true =>
        rw [hf] at c
        refine aw_reg fun K hK => ?_; simp (maxSteps := 1000000) (disch := omega) [-List.getD_eq_getElem?_getD, hat, plsAV_len]
        refine acall_is (c) ?_; simp (maxSteps := 1000000) (disch := omega) [-List.getD_eq_getElem?_getD]
        refine hK _ ?_; clear hK K
        refine aw_if rfl (fun h => absurd h (by simp)) (fun h => ?_)
        refine aw_skip ?_; simp (maxSteps := 1000000) (disch := omega) [-List.getD_eq_getElem?_getD]
        refine hK3 _ ?_; clear hK3
        refine aw_reg0 fun K hK => ?_; simp (maxSteps := 1000000) (disch := omega) [-List.getD_eq_getElem?_getD]
        refine hK _ ?_; clear hK K
        refine ⟨k + 1, ⟨by show k + 1 ≤ _; omega, fun j hj => ?_⟩, by show l.length - (k + 1) < l.length - k; omega, ?_⟩
        · rcases Nat.lt_or_ge j k with h3 | h3
          · exact h2 j h3
          · have : j = k := by omega
            subst this; exact hf
        · refine weak_to [] [] ?_ ?_ ?_ ?_ HO ?_
          all_goals simp
    · simp [-List.getD_eq_getElem?_getD] at hk
      have hn : l.any (fun x => !validL x) = false := by
        rw [List.any_eq_false]
        intro p hp'
        obtain ⟨j, hj, e⟩ := memD_inv [] hp'
        rw [← e, h2 j (by omega)]
        simp
      refine aw_exit ?_; simp (maxSteps := 1000000) (disch := omega) [-List.getD_eq_getElem?_getD]
      refine hK1 _ ?_; clear hK1
      refine aw_reg fun K hK => ?_; simp (maxSteps := 1000000) (disch := omega) [-List.getD_eq_getElem?_getD]; refine hK _ ?_; clear hK K
      refine aw_ret ?_; simp (maxSteps := 1000000) (disch := omega) [-List.getD_eq_getElem?_getD]
      rw [hq] at hn
      simp [hn]

theorem containsL_ok (l : List PL) (hl : l.length ≤ 1000) (hl2 : ∀ x ∈ l, x.length ≤ 1000) (hp : ∀ x ∈ l, ∀ p ∈ x, p.2.length ≤ maxLen) (H : List Blk) (T : Toks) :
    ACall Try.prog 51 [.sl l.length (plsAV l) .none, .fn 52 [] []] H T (Is (.bool (l.any (fun x => !validL x))) H T) := by
  have c := indexL_ok l hl hl2 hp H T
  generalize l.any (fun x => !validL x) = q at *
  refine acall_enter 5 [] Try.ntmps51 Try.func51 rfl (fun _ _ => Try.call51 _ _) (by simp) (fun HO => ?_)
  refine aw_reg fun K hK => ?_; simp (maxSteps := 1000000) (disch := omega) [-List.getD_eq_getElem?_getD]; refine hK _ ?_; clear hK K
  refine aw_reg fun K hK => ?_; simp (maxSteps := 1000000) (disch := omega) [-List.getD_eq_getElem?_getD]
  refine ⟨_, c, ?_⟩
  rintro r H' T' ⟨rfl, rfl, v, rfl, hv⟩
  simp (maxSteps := 1000000) (disch := omega) [-List.getD_eq_getElem?_getD, hv]
  refine hK _ ?_; clear hK K
  refine aw_ret ?_; simp (maxSteps := 1000000) (disch := omega) [-List.getD_eq_getElem?_getD]
  exact ⟨rfl, rfl, rfl⟩

theorem phrase2_ok (p : Int) (v : AV) (H : List Blk) (T : Toks) : ACall Try.prog 54 [.int .i64 p, v] H T (Is (.bool true) H T) := by
  refine acall_enter 5 [] Try.ntmps54 Try.func54 rfl (fun _ _ => Try.call54 _ _) (by simp) (fun HO => ?_)
  refine aw_reg fun K hK => ?_; simp (maxSteps := 1000000) (disch := omega) [-List.getD_eq_getElem?_getD]; refine hK _ ?_; clear hK K
  refine aw_reg fun K hK => ?_; simp (maxSteps := 1000000) (disch := omega) [-List.getD_eq_getElem?_getD]; refine hK _ ?_; clear hK K
  refine aw_ret ?_; simp (maxSteps := 1000000) (disch := omega) [-List.getD_eq_getElem?_getD]
  exact ⟨rfl, rfl, rfl⟩

theorem phrase3_ok (p : Int) (i : Nat) (at_ : List Int) (hp : 0 ≤ p ∧ p ≤ 1000000000) (hi : i ≤ 1000) (hs : Asc at_) (hl : at_.length ≤ 1000) (H : List Blk) (T : Toks) (y : Nat) (hy : H[y]? = some (.cells [.int .i64 (i : Nat)])) :
    ACall Try.prog 55 [.int .i64 p, .sl at_.length (ints at_) .none, .ptr y 0] H T (Is (.bool (decide (p + i + 1 ∈ at_))) H T) := by
  have c := bsearch_ok at_ (p + i + 1) hs hl H T .none
  generalize decide (p + i + 1 ∈ at_) = q at *
  refine acall_enter 9 [] Try.ntmps55 Try.func55 rfl (fun _ _ => Try.call55 _ _) (by simp) (fun HO => ?_)
  refine aw_reg fun K hK => ?_; simp (maxSteps := 1000000) (disch := omega) [-List.getD_eq_getElem?_getD]; refine hK _ ?_; clear hK K
  refine aw_reg fun K hK => ?_; simp (maxSteps := 1000000) (disch := omega) [-List.getD_eq_getElem?_getD, hy]
  refine ⟨_, c, ?_⟩
  rintro r H' T' ⟨rfl, rfl, v, rfl⟩
  simp (maxSteps := 1000000) (disch := omega) [-List.getD_eq_getElem?_getD]
  refine hK _ ?_; clear hK K
  refine aw_reg fun K hK => ?_; simp (maxSteps := 1000000) (disch := omega) [-List.getD_eq_getElem?_getD]; refine hK _ ?_; clear hK K
  refine aw_ret ?_; simp (maxSteps := 1000000) (disch := omega) [-List.getD_eq_getElem?_getD]
  exact ⟨rfl, rfl, rfl⟩
end Go.Proofs.Ytlijaamjcpefoaa

/- Phrase of layer 38. -/
namespace Go.Proofs.Ytlijaamjcpefoaa
open Go Go.Am Post
set_option linter.unusedVariables false

/-- Whether the position p of the document d goes on in the first k of some lists. -/
def goesOn (r : List PL) (k : Nat) (d p : Int) : Bool := (List.range k).all fun i => decide (p + i + 1 ∈ posOf (r.getD i []) d)
/-- The phrase of a list and k others. -/
def phK (l0 : PL) (r : List PL) (k : Nat) : PL := flt (goesOn r k) l0
def phraseL (l : List PL) : PL := if l.length = 0 ∨ 100 < l.length ∨ l.any (fun x => !validL x) = true then [] else phK (l.getD 0 []) (l.drop 1) (l.length - 1)

theorem posOf_no {l : PL} {d : Int} (h : ¬ d ∈ l.map (·.1)) : posOf l d = [] := posOf_none fun p hp e => h (List.mem_map.2 ⟨p, hp, e⟩)

theorem phK_zero (l0 : PL) (r : List PL) : flt (fltB (fun _ _ => true) l0) l0 = phK l0 r 0 := by
  refine flt_congr fun p hp x _ => ?_
  have : p.1 ∈ l0.map (·.1) := List.mem_map.2 ⟨p, hp, rfl⟩
  unfold fltB
  rw [decide_eq_true this]
  rfl
theorem phK_succ (l0 : PL) (r : List PL) (k : Nat) : flt (fltB (fun p at_ => decide (p + k + 1 ∈ at_)) (r.getD k [])) (phK l0 r k) = phK l0 r (k + 1) := by
  unfold phK
  rw [flt_flt]
  refine flt_congr fun p hp x _ => ?_
  unfold goesOn
  rw [List.range_succ, List.all_append]
  congr 1
  have e : [k].all (fun i => decide (x + i + 1 ∈ posOf (r.getD i []) p.1)) = decide (x + k + 1 ∈ posOf (r.getD k []) p.1) := by
    rw [List.all_cons, List.all_nil, Bool.and_true]
  rw [e]
  generalize r.getD k [] = b
  by_cases h : p.1 ∈ b.map (·.1)
  · unfold fltB
    rw [decide_eq_true h, Bool.true_and]
  · unfold fltB
    rw [decide_eq_false h, posOf_no h]
    simp
theorem phK_len (l0 : PL) (r : List PL) (k : Nat) : (phK l0 r k).length ≤ l0.length := flt_len l0
theorem flt_asc {f : Int → Int → Bool} {l : PL} (h : Asc' l) : Asc' (flt f l) := List.Pairwise.sublist (flt_docs l) h

set_option maxRecDepth 100000 in
theorem phrase_ok (l : List PL) (hl : l.length ≤ 400) (hl2 : ∀ x ∈ l, x.length ≤ 400) (hp : ∀ x ∈ l, ∀ p ∈ x, p.2.length ≤ 400) (H : List Blk) (T : Toks) (tg : Tag) :
    ACall Try.prog 15 [.sl l.length (plsAV l) tg] H T (Is (.sl (phraseL l).length (psAV (phraseL l)) .none) H T) := by
  refine ACall.untag1 ?_
  refine ACall.drop' ?_ (by simp)
  have hml : 400 ≤ maxLen := by decide
  have c1 := containsL_ok l (by omega) (fun x hx => Nat.le_trans (hl2 x hx) (by decide)) (fun x hx p h => Nat.le_trans (hp x hx p h) hml) H T
  refine acall_enter 29 [] Try.ntmps15 Try.func15 rfl (fun _ _ => Try.call15 _ _) (by simp) (fun HO => ?_)
  refine aw_reg fun K hK => ?_; simp (maxSteps := 1000000) (disch := omega) [-List.getD_eq_getElem?_getD]; refine hK _ ?_; clear hK K
  refine aw_then fun K1 hK1 => ?_
  by_cases h0 : l.length = 0
  · have b : ((l.length : Int) == 0) = true := by simp [h0]
    have hn : l = [] := List.eq_nil_of_length_eq_zero h0
    refine aw_reg fun K hK => ?_; simp (maxSteps := 1000000) (disch := omega) [-List.getD_eq_getElem?_getD, b, h0, hn]; refine hK _ ?_; clear hK K
    refine aw_if rfl (fun h => ?_) (fun h => absurd h (by simp))
    refine aw_reg fun K hK => ?_; simp (maxSteps := 1000000) (disch := omega) [-List.getD_eq_getElem?_getD]; refine hK _ ?_; clear hK K
    refine aw_ret ?_; simp (maxSteps := 1000000) (disch := omega) [-List.getD_eq_getElem?_getD]
    simp [phraseL, h0, psAV]
  · have b : ((l.length : Int) == 0) = false := by rw [beq_eq_false_iff_ne]; omega
    have hn : ¬ l = [] := fun e => h0 (by rw [e]; rfl)
    by_cases h1 : 100 < l.length
    · have b1 : decide ((100 : Int) < (l.length : Int)) = true := by simp; omega
      refine aw_reg fun K hK => ?_; simp (maxSteps := 1000000) (disch := omega) [-List.getD_eq_getElem?_getD, b, b1, hn, h1]; refine hK _ ?_; clear hK K
      refine aw_if rfl (fun h => ?_) (fun h => absurd h (by simp))
      refine aw_reg fun K hK => ?_; simp (maxSteps := 1000000) (disch := omega) [-List.getD_eq_getElem?_getD]; refine hK _ ?_; clear hK K
      refine aw_ret ?_; simp (maxSteps := 1000000) (disch := omega) [-List.getD_eq_getElem?_getD]
      simp [phraseL, h1, psAV]
    · have b1 : decide ((100 : Int) < (l.length : Int)) = false := by simp; omega
      cases hv : l.any (fun x => !validL x) with
      | true =>
        rw [hv] at c1
        refine aw_reg fun K hK => ?_; simp (maxSteps := 1000000) (disch := omega) [-List.getD_eq_getElem?_getD, b, b1, hn, h1]
        refine acall_is (c1) ?_; simp (maxSteps := 1000000) (disch := omega) [-List.getD_eq_getElem?_getD]
        refine hK _ ?_; clear hK K
        refine aw_if rfl (fun h => ?_) (fun h => absurd h (by simp))
        refine aw_reg fun K hK => ?_; simp (maxSteps := 1000000) (disch := omega) [-List.getD_eq_getElem?_getD]; refine hK _ ?_; clear hK K
        refine aw_ret ?_; simp (maxSteps := 1000000) (disch := omega) [-List.getD_eq_getElem?_getD]
        simp [phraseL, hv, psAV]
      | false =>
        rw [hv] at c1
        have hr : phraseL l = phK (l.getD 0 []) (l.drop 1) (l.length - 1) := by unfold phraseL; rw [if_neg (by rintro (h | h | h); exact h0 h; exact h1 h; rw [hv] at h; cases h)]
        have hvl : ∀ x ∈ l, validL x = true := fun x hx => by
          rw [List.any_eq_false] at hv
          simpa using hv x hx
        obtain ⟨a, r, rfl⟩ := List.exists_cons_of_ne_nil hn
        have hcons : plsAV (a :: r) = .sl a.length (psAV a) .none :: plsAV r := rfl
        have htk : (plsAV r).take r.length = plsAV r := List.take_of_length_le (by rw [plsAV_len]; exact Nat.le_refl _)
        have ma : a ∈ a :: r := by simp
        obtain ⟨a1, a2, a3⟩ := validL_iff (hvl _ ma)
        have c2 := filtered_ok 54 [] (fun _ _ => true) a a (hl2 _ ma) (hl2 _ ma) (hp _ ma) a1 a1 H T (by simp) (fun x hx y hy p hp R T' => phrase2_ok p _ _ _) .none .none
        rw [phK_zero _ r] at c2
        have hr' : phraseL (a :: r) = phK a r r.length := hr
        simp only [List.length_cons] at b b1 h0 h1 hl
        clear hr hn hv
        rw [hcons] at c1 ⊢
        refine aw_reg fun K hK => ?_; simp (maxSteps := 1000000) (disch := omega) [-List.getD_eq_getElem?_getD, b, b1, h1, plsAV_len]
        refine acall_is (c1) ?_; simp (maxSteps := 1000000) (disch := omega) [-List.getD_eq_getElem?_getD]
        refine hK _ ?_; clear hK K
        refine aw_if rfl (fun h => absurd h (by simp)) (fun h => ?_)
        refine aw_skip ?_; simp (maxSteps := 1000000) (disch := omega) [-List.getD_eq_getElem?_getD]
        refine hK1 _ ?_; clear hK1
        refine aw_draw [] [] [] drawMixed (by kernel_rfl) (by kernel_rfl) fun K hK => ?_; simp (maxSteps := 1000000) (disch := omega) [-List.getD_eq_getElem?_getD, plsAV_len]
        refine dcall_is (c2) rfl ?_; simp (maxSteps := 1000000) (disch := omega) [-List.getD_eq_getElem?_getD]
        refine hK _ ?_; clear hK K
        refine aw_then fun K1 hK1 => ?_
        refine aw_reg fun K hK => ?_; simp (maxSteps := 1000000) (disch := omega) [-List.getD_eq_getElem?_getD, plsAV_len, htk]; refine hK _ ?_; clear hK K
        refine aw_block ?_
        refine aw_loop (X := Nat) (fun k => ⟨[(3, .sl (phK a r k).length (psAV (phK a r k)) .none), (26, .sl r.length (plsAV r) .none), (27, .int .i64 (r.length : Nat)), (28, .int .i64 (k : Nat))], H, T⟩) (fun k => k ≤ r.length) (fun k => r.length - k) 0 ?_ ?_ ?_
        · exact Nat.zero_le _
        · refine weak_to [] [] ?_ ?_ ?_ ?_ HO ?_
          all_goals simp
        · intro k hk
          refine aw_reg fun K hK => ?_; simp (maxSteps := 1000000) (disch := omega) [-List.getD_eq_getElem?_getD]; refine hK _ ?_; clear hK K
          refine aw_then fun K2 hK2 => ?_
          refine aw_if rfl (fun hk2 => ?_) (fun hk2 => ?_)
          · simp [-List.getD_eq_getElem?_getD] at hk2
            have hat := plsAV_at r k hk2
            have mr : r.getD k [] ∈ a :: r := List.mem_cons_of_mem _ (memD r k [] hk2)
            obtain ⟨e1, e2, e3⟩ := validL_iff (hvl _ mr)
            have hlr := hl2 _ mr
            have hpr := hp _ mr
            have c3 := filtered_ok 55 [.ptr H.length 0] (fun p at_ => decide (p + k + 1 ∈ at_)) (phK a r k) (r.getD k []) (Nat.le_trans (phK_len a r k) (hl2 _ ma)) hlr (flt_pos (hp _ ma)) (flt_asc a1) e1 (H ++ [.cells [.int .i64 (k : Nat)]]) T (by simp)
              (fun x hx y hy p hp R T' => by
                obtain ⟨z, hz, _, ez, _⟩ := flt_mem hx
                rw [ez] at hp
                have := (a3 z hz).2.2 p (List.mem_filter.1 hp).1
                exact phrase3_ok p k y.2 (by omega) (by omega) (e3 y hy).2.1 (Nat.le_trans (hpr y hy) (by decide)) _ T' H.length (by simp)) .none .none
            rw [phK_succ] at c3
            generalize r.getD k [] = b at *
            generalize phK a r k = o1 at *
            refine aw_skip ?_; simp (maxSteps := 1000000) (disch := omega) [-List.getD_eq_getElem?_getD]
            refine hK2 _ ?_; clear hK2
            refine aw_then fun K3 hK3 => ?_
            refine aw_block ?_
            refine aw_reg fun K hK => ?_; simp (maxSteps := 1000000) (disch := omega) [-List.getD_eq_getElem?_getD, hat, plsAV_len]; refine hK _ ?_; clear hK K
            refine aw_reg0 fun K hK => ?_; simp (maxSteps := 1000000) (disch := omega) [-List.getD_eq_getElem?_getD]
            refine acall_is (c3) ?_; simp (maxSteps := 1000000) (disch := omega) [-List.getD_eq_getElem?_getD]
            refine hK _ ?_; clear hK K
            refine hK3 _ ?_; clear hK3
            refine aw_reg0 fun K hK => ?_; simp (maxSteps := 1000000) (disch := omega) [-List.getD_eq_getElem?_getD]
            refine hK _ ?_; clear hK K
            refine ⟨k + 1, by show k + 1 ≤ _; omega, by show r.length - (k + 1) < r.length - k; omega, ?_⟩
            refine weak_to [.cells [.int .i64 (k : Nat)]] [] ?_ ?_ ?_ ?_ HO ?_
            all_goals simp
          · simp at hk2
            have : k = r.length := by omega
            subst this
            refine aw_exit ?_; simp (maxSteps := 1000000) (disch := omega) [-List.getD_eq_getElem?_getD]
            refine hK1 _ ?_; clear hK1
            refine aw_reg fun K hK => ?_; simp (maxSteps := 1000000) (disch := omega) [-List.getD_eq_getElem?_getD]; refine hK _ ?_; clear hK K
            refine aw_ret ?_; simp (maxSteps := 1000000) (disch := omega) [-List.getD_eq_getElem?_getD]
            rw [hr']
            exact ⟨rfl, rfl⟩
end Go.Proofs.Ytlijaamjcpefoaa

/- The example of the document of layer 38 holds. -/
namespace Go.Proofs.Ytlijaamjcpefoaa
open Go Go.Am Post
set_option linter.unusedVariables false

def war : PL := [(5, [0, 7])]
def peace : PL := [(5, [2, 8])]

set_option maxRecDepth 100000 in
set_option maxHeartbeats 2000000 in
theorem awake_ok (H : List Blk) (T : Toks) : ACall Try.prog 11 [] H T (Is (.bool true) H T) := by
  have hml : 400 ≤ maxLen := by decide
  have c1 := phrase_ok [war, peace] (by decide) (by decide) (by decide) H T .full
  have c2 := near_ok war peace 2 (by decide) (by decide) (by decide) (by decide) H T .none .none
  have e1 : phraseL [war, peace] = [(5, [7])] := by decide
  have e2 : nearL war peace 2 = war := by decide
  rw [e1] at c1
  rw [e2] at c2
  have c3 := theirs_ok [(5, [7])] (by decide) H T .none
  have c4 : ACall Try.prog 49 [.sl 1 (psAV [(5, [7])]) .none, .sl 1 [.int .i64 5, .sl 1 [.int .i64 7] .none] .full] H T (Is (.bool true) H T) :=
    sameP_ok [(5, [7])] [(5, [7])] (by decide) (by decide) (by decide) (by decide) H T .none .full
  have c5 := theirs_ok war (by decide) H T .none
  have c6 : ACall Try.prog 49 [.sl 1 (psAV war) .none, .sl 1 (psAV war) .none] H T (Is (.bool true) H T) := sameP_ok war war (by decide) (by decide) (by decide) (by decide) H T .none .none
  have c7 : ACall Try.prog 21 [.sl 2 [.int .i64 1, .int .i64 2] .full, .sl 2 [.int .i64 2, .int .i64 3] .full] H T (Is (.sl 1 (ints [2]) .none) H T) := and_ok [1, 2] [2, 3] (by decide) (by decide) H T .full .full
  have c8 : ACall Try.prog 50 [.sl 1 (ints [2]) .none, .sl 1 [.int .i64 2] .full] H T (Is (.bool true) H T) := sameInts_ok [2] [2] (by decide) (by decide) H T .none .full
  have c9 : ACall Try.prog 32 [.sl 1 (psAV war) .none] H T (Is (.bool true) H T) := valid_ok war (by decide) (by decide) H T .none
  have c10 : ACall Try.prog 38 [.sl 1 (psAV war) .none] H T (Is (.int .i64 2) H T) := count_ok war (by decide) (by decide) H T .none
  refine acall_enter 3 [] Try.ntmps11 Try.func11 rfl (fun _ _ => Try.call11 _ _) (by simp) (fun HO => ?_)
  refine aw_reg fun K hK => ?_; simp (maxSteps := 1000000) (disch := omega) [-List.getD_eq_getElem?_getD]; refine hK _ ?_; clear hK K
  refine aw_reg fun K hK => ?_; simp (maxSteps := 1000000) (disch := omega) [-List.getD_eq_getElem?_getD]; refine hK _ ?_; clear hK K
  refine aw_weak ⟨[(1, .sl 1 (psAV war) .none), (2, .sl 1 (psAV peace) .none)], H, T⟩ (weak_to [] [] (by simp) (by simp) ?_ ?_ HO ?_) ?_
  · simp
  · simp
  · simp [war, peace, psAV, ints]
  refine aw_reg fun K hK => ?_; simp (maxSteps := 1000000) (disch := omega) [-List.getD_eq_getElem?_getD]
  refine acall_is (c1) ?_; simp (maxSteps := 1000000) (disch := omega) [-List.getD_eq_getElem?_getD]
  refine acall_is (c3) ?_; simp (maxSteps := 1000000) (disch := omega) [-List.getD_eq_getElem?_getD]
  refine acall_is (c4) ?_; simp (maxSteps := 1000000) (disch := omega) [-List.getD_eq_getElem?_getD]
  refine acall_is (c2) ?_; simp (maxSteps := 1000000) (disch := omega) [-List.getD_eq_getElem?_getD]
  refine acall_is (c5) ?_; simp (maxSteps := 1000000) (disch := omega) [-List.getD_eq_getElem?_getD]
  refine acall_is (c5) ?_; simp (maxSteps := 1000000) (disch := omega) [-List.getD_eq_getElem?_getD]
  refine acall_is (c6) ?_; simp (maxSteps := 1000000) (disch := omega) [-List.getD_eq_getElem?_getD]
  refine acall_is (c7) ?_; simp (maxSteps := 1000000) (disch := omega) [-List.getD_eq_getElem?_getD]
  refine acall_is (c8) ?_; simp (maxSteps := 1000000) (disch := omega) [-List.getD_eq_getElem?_getD]
  refine acall_is (c9) ?_; simp (maxSteps := 1000000) (disch := omega) [-List.getD_eq_getElem?_getD]
  refine acall_is (c10) ?_; simp (maxSteps := 1000000) (disch := omega) [-List.getD_eq_getElem?_getD]
  refine hK _ ?_; clear hK K
  refine aw_ret ?_; simp (maxSteps := 1000000) (disch := omega) [-List.getD_eq_getElem?_getD]
  exact ⟨rfl, rfl, rfl⟩
end Go.Proofs.Ytlijaamjcpefoaa
