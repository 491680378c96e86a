/- The parts of Union in layer 38: copies, joined.
   Conditions: lengths below 400. -/
import Derived.Test.YtlijaamjcpefoaaPFn26
import Derived.Test.YtlijaamjcpefoaaPWk1
namespace Go.Proofs.Ytlijaamjcpefoaa
open Go Go.Am Post
set_option linter.unusedVariables false

theorem cloneI_ok (l : List Int) (hl : l.length ≤ 1000) (H : List Blk) (T : Toks) : ACall Try.prog 67 [.sl l.length (ints l) .none] H T (Is (.sl l.length (ints l) .none) H T) := by
  refine ACall.cut H T (Nat.le_refl _) (Nat.le_refl _) id (by simp) ?_
  refine acall_enter 3 [] Try.ntmps67 Try.func67 rfl (fun _ _ => Try.call67 _ _) (by simp) (fun HO => ?_)
  refine aw_reg fun K hK => ?_; simp (maxSteps := 1000000) (disch := omega) [-List.getD_eq_getElem?_getD]; refine hK _ ?_; clear hK K
  refine aw_then fun K1 hK1 => ?_
  refine aw_reg fun K hK => ?_; simp (maxSteps := 1000000) (disch := omega) [-List.getD_eq_getElem?_getD]
  refine ⟨hK _ ?_, fun he => hK _ ?_⟩
  · refine aw_if rfl (fun h => absurd h (by simp)) (fun h => ?_)
    refine aw_skip ?_; simp (maxSteps := 1000000) (disch := omega) [-List.getD_eq_getElem?_getD]
    refine hK1 _ ?_; clear hK1
    refine aw_reg fun K hK => ?_; simp (maxSteps := 1000000) (disch := omega) [-List.getD_eq_getElem?_getD]; refine hK _ ?_; clear hK K
    refine aw_ret ?_; simp (maxSteps := 1000000) (disch := omega) [-List.getD_eq_getElem?_getD]
  · refine aw_if rfl (fun h => ?_) (fun h => absurd h (by simp))
    refine aw_reg fun K hK => ?_; simp (maxSteps := 1000000) (disch := omega) [-List.getD_eq_getElem?_getD]; refine hK _ ?_; clear hK K
    refine aw_ret ?_; simp (maxSteps := 1000000) (disch := omega) [-List.getD_eq_getElem?_getD, he]

/-- The box of joined: the list that is being made. -/
def SJ (H : List Blk) (out : List Int) (tk : Nat) : List Blk := H ++ [.cells [.sl out.length (ints out) (.own tk)]]
def TJ (T : Toks) (out : List Int) : Toks := T ++ [(out.length, 1)]
theorem SJ_len (H : List Blk) (out : List Int) (tk : Nat) : (SJ H out tk).length = H.length + 1 := by simp [SJ]
theorem TJ_len (T : Toks) (out : List Int) : (TJ T out).length = T.length + 1 := by simp [TJ]
theorem hok_SJ {H : List Blk} {T : Toks} (h : HOk H T) (out : List Int) : HOk (SJ H out T.length) (TJ T out) := HOk.snoc (h.toks (by rw [TJ_len]; omega)) (by simp [TJ_len])

theorem joinA_ok (a : List Int) (i : Nat) (hi : i < a.length) (v : AV) (out : List Int) (ho : out.length ≤ 1000) (H : List Blk) (T : Toks) :
    ACall Try.prog 92 [.vptr (ints a) i, v, .ptr H.length 0] (SJ H out T.length) (TJ T out) (Is (.tup []) (SJ H (out ++ [a.getD i 0]) T.length) (TJ T (out ++ [a.getD i 0]))) := by
  have hgp := getD_ints (xs := a) (k := i) hi
  have hsn := ints_snoc out (a.getD i 0)
  simp only [SJ, TJ]
  refine acall_enter 5 [] Try.ntmps92 Try.func92 rfl (fun _ _ => Try.call92 _ _) (by simp) (fun HO => ?_)
  refine aw_then fun K1 hK1 => ?_
  refine aw_reg fun K hK => ?_; simp (maxSteps := 1000000) (disch := omega) [-List.getD_eq_getElem?_getD]; refine hK _ ?_; clear hK K
  refine aw_if rfl (fun h => absurd h (by simp)) (fun h => ?_)
  refine aw_skip ?_; simp (maxSteps := 1000000) (disch := omega) [-List.getD_eq_getElem?_getD]
  refine hK1 _ ?_; clear hK1
  refine aw_draw0 [5, 6] [0, 0, 0, 0, 0, 0, 1] [[], []] drawMixed (by kernel_rfl) (by kernel_rfl) fun K hK => ?_; simp (maxSteps := 1000000) (disch := omega) [-List.getD_eq_getElem?_getD, hgp, hsn, hi]
  refine hK _ ?_; clear hK K
  exact ⟨rfl, by simp, by simp⟩

theorem joinB_ok (b : List Int) (j : Nat) (hj : j < b.length) (out : List Int) (ho : out.length ≤ 1000) (H : List Blk) (T : Toks) :
    ACall Try.prog 92 [.nilp, .vptr (ints b) j, .ptr H.length 0] (SJ H out T.length) (TJ T out) (Is (.tup []) (SJ H (out ++ [b.getD j 0]) T.length) (TJ T (out ++ [b.getD j 0]))) := by
  have hgp := getD_ints (xs := b) (k := j) hj
  have hsn := ints_snoc out (b.getD j 0)
  simp only [SJ, TJ]
  refine acall_enter 5 [] Try.ntmps92 Try.func92 rfl (fun _ _ => Try.call92 _ _) (by simp) (fun HO => ?_)
  refine aw_then fun K1 hK1 => ?_
  refine aw_reg fun K hK => ?_; simp (maxSteps := 1000000) (disch := omega) [-List.getD_eq_getElem?_getD]; refine hK _ ?_; clear hK K
  refine aw_if rfl (fun h => ?_) (fun h => absurd h (by simp))
  refine aw_reg0 fun K hK => ?_; simp (maxSteps := 1000000) (disch := omega) [-List.getD_eq_getElem?_getD]
  refine hK _ ?_; clear hK K
  refine hK1 _ ?_; clear hK1
  refine aw_draw0 [5, 6] [0, 0, 0, 0, 0, 0, 1] [[], []] drawMixed (by kernel_rfl) (by kernel_rfl) fun K hK => ?_; simp (maxSteps := 1000000) (disch := omega) [-List.getD_eq_getElem?_getD, hgp, hsn, hj]
  refine hK _ ?_; clear hK K
  exact ⟨rfl, by simp, by simp⟩

/-- The numbers of two lists. -/
def jn (a b : List Int) : List Int := MG (fun _ _ => true) a b (a.length + b.length) 0 0 []

theorem mgI_mgN (fA fB : List Int → Int → List Int) : ∀ (n : Nat) (a b o : List Int), mgI fA fB (fun o x _ => fA o x) n a b o = mgN fA fB fA n a b o := by
  intro n
  induction n with
  | zero => intro a b o; rfl
  | succ n ih =>
    intro a b o
    cases a with
    | nil => cases b with
      | nil => rfl
      | cons y b => exact ih _ _ _
    | cons x a => cases b with
      | nil => exact ih _ _ _
      | cons y b => simp only [mgI, mgN, ih]

theorem jn_len (a b : List Int) : (jn a b).length ≤ a.length + b.length := by
  have := mg_len (fA := fun (o : List Int) (x : Int) => if (fun _ _ => true : Bool → Bool → Bool) true false then o ++ [x] else o) (fB := fun o x => if (fun _ _ => true : Bool → Bool → Bool) false true then o ++ [x] else o) (fAB := fun o x => if (fun _ _ => true : Bool → Bool → Bool) true true then o ++ [x] else o) (by simp) (by simp) (by simp) (a.length + b.length) a b []
  simp only [List.length_nil, Nat.zero_add] at this
  exact this

theorem joined_ok (a b : List Int) (ha : a.length ≤ 400) (hb : b.length ≤ 400) (H : List Blk) (T : Toks) (ta tb : Tag) :
    ACall Try.prog 68 [.sl a.length (ints a) ta, .sl b.length (ints b) tb] H T (Is (.sl (jn a b).length (ints (jn a b)) .none) H T) := by
  refine ACall.untag1 (ACall.untag2 ?_)
  refine ACall.drop' ?_ (by simp)
  have hres : MI (fun (o : List Int) x => o ++ [x]) (fun o x => o ++ [x]) (fun o x _ => o ++ [x]) a b (a.length + b.length) 0 0 [] = jn a b := mgI_mgN _ _ _ _ _ _
  have c := fun HO : HOk H T => mergeI_ok (β := List Int) 92 [.ptr H.length 0] (fun o x => o ++ [x]) (fun o x => o ++ [x]) (fun o x _ => o ++ [x])
    (fun o => SJ H o T.length) (fun o => TJ T o) (fun n o => o.length ≤ n) (H.length + 1) (T.length + 1) [] a b ha hb (fun o => SJ_len _ _ _) (fun o => TJ_len _ _) (by simp)
    (fun n o _ => hok_SJ HO o) (Nat.zero_le _)
    (fun n i o hi hn h => joinA_ok a i hi _ o (by omega) H T) (fun n j o hj hn h => joinB_ok b j hj o (by omega) H T)
    (fun n i j o hi hj hn h => joinA_ok a i hi _ o (by omega) H T)
    (fun n i o _ h => by simp; omega) (fun n j o _ h => by simp; omega) (fun n i j o _ _ h => by simp; omega)
  rw [hres] at c
  generalize jn a b = r at *
  have k1 : (SJ H r T.length)[H.length]? = some (.cells [.sl r.length (ints r) (.own T.length)]) := by simp [SJ]
  have hH : ∃ rH, SJ H r T.length = H ++ rH := ⟨_, rfl⟩
  have hT : ∃ rT, TJ T r = T ++ rT := ⟨_, rfl⟩
  refine acall_enter 6 [] Try.ntmps68 Try.func68 rfl (fun _ _ => Try.call68 _ _) (by simp) (fun HO => ?_)
  have c1 := c HO
  refine aw_reg fun K hK => ?_; simp (maxSteps := 1000000) (disch := omega) [-List.getD_eq_getElem?_getD]; refine hK _ ?_; clear hK K
  refine aw_reg fun K hK => ?_; simp (maxSteps := 1000000) (disch := omega) [-List.getD_eq_getElem?_getD]; refine hK _ ?_; clear hK K
  refine aw_ownB 1 H 0 [] (by omega) (by simp) ?_
  refine aw_reg fun K hK => ?_; simp (maxSteps := 1000000) (disch := omega) [-List.getD_eq_getElem?_getD]
  refine acall_is (c1) ?_; simp (maxSteps := 1000000) (disch := omega) [-List.getD_eq_getElem?_getD]
  refine hK _ ?_; clear hK K
  refine aw_reg fun K hK => ?_; simp (maxSteps := 1000000) (disch := omega) [-List.getD_eq_getElem?_getD, k1]; refine hK _ ?_; clear hK K
  refine aw_ret ?_; simp (maxSteps := 1000000) (disch := omega) [-List.getD_eq_getElem?_getD]
  exact ⟨hH, hT⟩
end Go.Proofs.Ytlijaamjcpefoaa
