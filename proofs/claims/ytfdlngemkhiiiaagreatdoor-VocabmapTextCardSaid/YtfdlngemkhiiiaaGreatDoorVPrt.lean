/- The text of mappings (layer 26): the program's, with a strings.Builder by the library's contracts.
   Conditions: lengths below 2^20; the library's table of powers of ten. -/
import Derived.Shelf.Strings.BuilderK
import Derived.WalkKit
import Derived.BigCall
import Derived.Test.YtfdlngemkhiiiaaGreatDoorVFn8
namespace Go.Proofs.YtfdlngemkhiiiaaGreatDoor
open Go Go.Am Go.Shelf Go.RowKit Voc
set_option linter.unusedVariables false
set_option maxRecDepth 100000
def laysWR : Ren := ⟨fun | 166 => 18 | 240 => 36 | 276 => 47 | x => x,
  fun | 37 => 45 | 70 => 44 | 72 => 47 | 75 => 49 | 80 => 53 | 164 => 78 | x => x, fun x => x⟩
theorem laysW : Lays.n166 Tryz.prog laysWR :=
  {
    mixed := by kernel_rfl
    f166 := Tryz.func18.trans (congrArg some (by kernel_rfl))
    f240 := Tryz.func36.trans (congrArg some (by kernel_rfl))
    f276 := Tryz.func47.trans (congrArg some (by kernel_rfl))
    t0 := Tryz.underlying0
    a0 := Tryz.isAgg0
    z0 := Tryz.sizeOf0
    v0 := Tryz.zeroValue0
    t3 := Tryz.underlying3
    a3 := Tryz.isAgg3
    z3 := Tryz.sizeOf3
    v3 := Tryz.zeroValue3
    t4 := Tryz.underlying4
    a4 := Tryz.isAgg4
    z4 := Tryz.sizeOf4
    v4 := Tryz.zeroValue4
    t9 := Tryz.underlying9
    a9 := Tryz.isAgg9
    z9 := Tryz.sizeOf9
    v9 := Tryz.zeroValue9
    t20 := Tryz.underlying20
    a20 := Tryz.isAgg20
    z20 := Tryz.sizeOf20
    v20 := Tryz.zeroValue20
    t37 := Tryz.underlying45
    a37 := Tryz.isAgg45
    z37 := Tryz.sizeOf45
    v37 := Tryz.zeroValue45
    t70 := Tryz.underlying44
    a70 := Tryz.isAgg44
    z70 := Tryz.sizeOf44
    v70 := Tryz.zeroValue44
    t72 := Tryz.underlying47
    a72 := Tryz.isAgg47
    z72 := Tryz.sizeOf47
    v72 := Tryz.zeroValue47
    t75 := Tryz.underlying49
    a75 := Tryz.isAgg49
    z75 := Tryz.sizeOf49
    v75 := Tryz.zeroValue49
    t164 := Tryz.underlying78
    a164 := Tryz.isAgg78
    z164 := Tryz.sizeOf78
    v164 := Tryz.zeroValue78 }
def laysSR : Ren := ⟨fun | 169 => 20 | x => x,
  fun | 37 => 45 | 70 => 44 | 72 => 47 | 127 => 70 | x => x, fun x => x⟩
theorem laysS : Lays.n169 Tryz.prog laysSR :=
  {
    mixed := by kernel_rfl
    f169 := Tryz.func20.trans (congrArg some (by kernel_rfl))
    t0 := Tryz.underlying0
    a0 := Tryz.isAgg0
    z0 := Tryz.sizeOf0
    v0 := Tryz.zeroValue0
    t3 := Tryz.underlying3
    a3 := Tryz.isAgg3
    z3 := Tryz.sizeOf3
    v3 := Tryz.zeroValue3
    t9 := Tryz.underlying9
    a9 := Tryz.isAgg9
    z9 := Tryz.sizeOf9
    v9 := Tryz.zeroValue9
    t37 := Tryz.underlying45
    a37 := Tryz.isAgg45
    z37 := Tryz.sizeOf45
    v37 := Tryz.zeroValue45
    t70 := Tryz.underlying44
    a70 := Tryz.isAgg44
    z70 := Tryz.sizeOf44
    v70 := Tryz.zeroValue44
    t72 := Tryz.underlying47
    a72 := Tryz.isAgg47
    z72 := Tryz.sizeOf47
    v72 := Tryz.zeroValue47
    t127 := Tryz.underlying70
    a127 := Tryz.isAgg70
    z127 := Tryz.sizeOf70
    v127 := Tryz.zeroValue70 }
theorem extraW : Builder.Extra Tryz.prog laysWR where
  sizeBuilder := by kernel_rfl
  liesBuilder := by kernel_rfl
  t5 := Tryz.underlying5
  a5 := Tryz.isAgg5
  z5 := Tryz.sizeOf5
  v5 := Tryz.zeroValue5
  infoByte := by kernel_rfl
  cellsByte := by kernel_rfl
  sizeByte := by kernel_rfl
  neB5 := by decide
theorem extraS : Builder.Extra Tryz.prog laysSR where
  sizeBuilder := by kernel_rfl
  liesBuilder := by kernel_rfl
  t5 := Tryz.underlying5
  a5 := Tryz.isAgg5
  z5 := Tryz.sizeOf5
  v5 := Tryz.zeroValue5
  infoByte := by kernel_rfl
  cellsByte := by kernel_rfl
  sizeByte := by kernel_rfl
  neB5 := by decide

/-- What the walk knows of the world at its beginning. -/
structure PW (l : List Mp) (w : World) (c : Value) : Prop where
  valid : ∀ W, Below w.heap.size w W → Calls Tryz.prog 11 #[c] W fun e W' => e = .returned (.bool (validM l)) ∧ Below W.heap.size W W'
  line : ∀ x, goodM x = true → ∀ W, Below w.heap.size w W → Calls Tryz.prog 19 #[.agg #[.int .i64 x.1, .int .i64 x.2.1, .int .i64 x.2.2]] W fun e W' => e = .returned (.string ⟨(lineM x).toArray⟩) ∧ Below W.heap.size W W'

theorem pw_of {l : List Mp} (hl : l.length ≤ 1000000) {L : Lay} {H : List Blk} {T : Toks} {w : World} (hc : Con L H T w) (hG : Gl H 3 isPow) {c : Value} (hr : Rep L H.length T w (.sl l.length (mpAV l) .none) c) : PW l w c := by
  obtain ⟨hd, o, ho, hpow⟩ := hG.at hc
  have hg0 : 3 < w.heap.size := by
    rcases Nat.lt_or_ge 3 w.heap.size with h | h
    · exact h
    · rw [Array.getElem?_eq_none h] at ho; cases ho
  have mz : ∀ W, Below w.heap.size w W → ∀ b, W.heap.size ≤ b → L.m b = 0 := fun W hb b h => hc.mz b (Nat.le_trans hb.size h)
  refine ⟨fun W hb => ?_, fun x hx W hb => ?_⟩
  · refine Calls.mono (ACall.at (h := validP_ok l (by omega) [] [] .none) (w := W) (ca := #[c]) [] L.m (mz W hb) .nil (by simp) rfl rfl fun j h1 h2 => ?_) ?_
    · match j, h1 with
      | 0, _ => exact hr.toM hc hd hb (by simp) [] _
    · rintro e W' ⟨⟨cv, L', rfl, hcv⟩, h2⟩
      exact ⟨by rw [hcv.bool_inv], h2⟩
  · have hG' : Gl (globs W [3]) 3 isPow := ⟨0, _, rfl, fun o' h => by
      rw [hb.block _ hg0, ho] at h
      cases h
      exact hpow⟩
    refine Calls.mono (ACall.at (h := line_ok x hx _ [] hG') (w := W) (ca := #[.agg #[.int .i64 x.1, .int .i64 x.2.1, .int .i64 x.2.2]]) [3] L.m (mz W hb) (by simp) (by simp; have := hb.size; omega) rfl rfl fun j h1 h2 => ?_) ?_
    · match j, h1 with
      | 0, _ =>
        refine .agg _ _ rfl (fun j hj => ?_) (fun j hj hj' => ?_)
        · match j, hj with
          | 0, _ => rfl
          | 1, _ => rfl
          | 2, _ => rfl
        · match j, hj' with
          | 0, _ => exact .int _ _
          | 1, _ => exact .int _ _
          | 2, _ => exact .int _ _
    · rintro e W' ⟨⟨cv, L', rfl, hcv⟩, h2⟩
      exact ⟨by rw [hcv.str_inv], h2⟩

theorem lt_of_heap {w : World} {g : Nat} {o : Obj} (h : w.heap[g]? = some o) : g < w.heap.size := by
  rcases Nat.lt_or_ge g w.heap.size with h1 | h1
  · exact h1
  · rw [Array.getElem?_eq_none h1] at h; cases h
theorem builder_stays {t e : TypeId} {B b : Nat} {bs : List Value} {w w' : World} (h : Lib.IsBuilderF t e B b bs w) (hb : Below w.heap.size w w') : Lib.IsBuilderF t e B b bs w' := by
  have at' : ∀ p, Lib.BuilderAtF t e B b p bs w → Lib.BuilderAtF t e B b p bs w' := by
    rintro p ⟨hB, v, hbk, ⟨h1, h2⟩, hne⟩
    refine ⟨hB, v, by rw [hb.block _ (lt_of_heap hbk)]; exact hbk, ⟨h1, ?_⟩, hne⟩
    rcases h2 with h2 | ⟨g, cap, cur, fz, e1, e2, e3, r⟩
    · exact .inl h2
    · exact .inr ⟨g, cap, cur, fz, e1, e2, by rw [hb.block _ (lt_of_heap e3)]; exact e3, r⟩
  exact h.elim (fun h => .inl (at' _ h)) (fun h => .inr (at' _ h))
theorem byteCells_app (a b : List UInt8) : Lib.byteCells a ++ Lib.byteCells b = Lib.byteCells (a ++ b) := by simp [Lib.byteCells]

set_option maxHeartbeats 4000000 in
theorem print_walk {l : List Mp} (hl : l.length ≤ 1000000) {w : World} {a : Option Addr} {cap : Nat} (hp : PW l w (.slice a l.length cap))
    (hcell : ∀ k, k < l.length → ∃ b base, a = some ⟨b, base, none⟩ ∧ b < w.heap.size ∧ w.cell? ⟨b, base + k * 3, none⟩ = some (.int .i64 (l.getD k d0).1) ∧ w.cell? ⟨b, base + k * 3 + 1, none⟩ = some (.int .i64 (l.getD k d0).2.1) ∧ w.cell? ⟨b, base + k * 3 + 2, none⟩ = some (.int .i64 (l.getD k d0).2.2)) :
    Calls Tryz.prog 9 #[.slice a l.length cap] w fun e w' => e = .returned (.tuple #[.string ⟨(printF l).1.toArray⟩, .int .i64 (printF l).2]) ∧ Below w.heap.size w w' := by
  have c0 := hp.valid w (Below.refl _ _)
  cases hv : validM l with
  | false =>
    have hF : printF l = ([], 1) := if_neg (by rw [hv]; simp)
    rw [hv] at c0
    rw [hF]
    go_enter Tryz.func9, Tryz.ntmps9
    go_wp2_with (go_at_call 11; refine c0.mono ?_; rintro e w' ⟨rfl, hb⟩)
    go_ret2
    exact ⟨rfl, hb⟩
  | true =>
    have hF : printF l = (printM l, 0) := if_pos hv
    rw [hv] at c0
    rw [hF]
    have hmem : ∀ i, i < l.length → goodM (l.getD i d0) = true := fun i hi => validM_mem hv (memD l i d0 hi)
    go_enter Tryz.func9, Tryz.ntmps9
    go_wp2_with (go_at_call 11; refine c0.mono ?_; rintro e w1 ⟨rfl, hb⟩)
    have hw1 := hb.size
    go_loopw [12] (fun i wr => ∃ k : Nat, k ≤ l.length ∧ i = .int .i64 (k : Nat) ∧ Lib.IsBuilderF 47 5 w1.heap.size w1.heap.size (Lib.byteCells (printM (l.take k))) wr ∧ Below w1.heap.size w1 wr) (fun i _ => l.length - (intOf i).toNat)
    case atStart =>
      exact ⟨0, Nat.zero_le _, rfl, Lib.IsBuilderF.of (by simpa [printM, Lib.byteCells] using Lib.fresh_isBuilder 47 5 w1), (Below.refl _ w1).alloc (Nat.le_refl _) _⟩
    case round =>
      obtain ⟨k, hk, rfl, hbl, hbw⟩ := hrel
      have hws := hbw.size
      by_cases hlt : k < l.length
      · obtain ⟨b, base, rfl, hbb, h1, h2, h3⟩ := hcell k hlt
        have g1 : wr.cell? ⟨b, base + k * 3, none⟩ = some (.int .i64 (l.getD k d0).1) := (hbw.cell (p := ⟨b, base + k * 3, none⟩) (show b < _ by omega)).trans ((hb.cell (p := ⟨b, base + k * 3, none⟩) hbb).trans h1)
        have g2 : wr.cell? ⟨b, base + k * 3 + 1, none⟩ = some (.int .i64 (l.getD k d0).2.1) := (hbw.cell (p := ⟨b, base + k * 3 + 1, none⟩) (show b < _ by omega)).trans ((hb.cell (p := ⟨b, base + k * 3 + 1, none⟩) hbb).trans h2)
        have g3 : wr.cell? ⟨b, base + k * 3 + 2, none⟩ = some (.int .i64 (l.getD k d0).2.2) := (hbw.cell (p := ⟨b, base + k * 3 + 2, none⟩) (show b < _ by omega)).trans ((hb.cell (p := ⟨b, base + k * 3 + 2, none⟩) hbb).trans h3)
        clear hcell h1 h2 h3
        have hgx := hmem k hlt
        have hnext := printM_take hlt
        have hln := lineM_len hgx
        have hpl := printM_len (l := l.take k) fun x hx => validM_mem hv (List.mem_of_mem_take hx)
        rw [List.length_take] at hpl
        have cl := fun W hW => hp.line _ hgx W hW
        have hbb1 : ∀ o, Below w.heap.size w (wr.alloc o) := fun o => hb.trans ((hbw.mono hw1).trans ((Below.refl _ wr).alloc (by omega) _))
        have hball : ∀ o, Below wr.heap.size wr (wr.alloc o) := fun o => (Below.refl _ wr).alloc (Nat.le_refl _) _
        generalize l.getD k d0 = x at *
        obtain ⟨x1, x2, x3⟩ := x
        simp only at g1 g2 g3 cl
        go_wp2_with (go_at_call 19; refine (cl _ (hbb1 _)).mono ?_; rintro e w2 ⟨rfl, hb2⟩)
        have hb3 : Below wr.heap.size wr w2 := (hball _).trans (hb2.mono (by simp))
        have hbl2 := builder_stays hbl hb3
        have hb4 : Below w1.heap.size w1 w2 := hbw.trans (hb3.mono hws)
        have hlen : (Lib.byteCells (printM (l.take k))).length ≤ 50000000 := by rw [Lib.byteCells_length]; omega
        have hsz : (⟨(lineM (x1, x2, x3)).toArray⟩ ++ ⟨#[10]⟩ : ByteArray).size ≤ 100 := by
          rw [show (⟨(lineM (x1, x2, x3)).toArray⟩ ++ ⟨#[10]⟩ : ByteArray) = ⟨(lineM (x1, x2, x3) ++ [10]).toArray⟩ from mk_append _ [10]]
          show (lineM (x1, x2, x3) ++ [10]).toArray.size ≤ 100
          simp
          omega
        have hcs := fun (t : ByteArray) (ht : t.size ≤ 100) => Go.Proofs.Any.Builder_WriteString_k laysW extraW w1.heap.size w1.heap.size _ t _ hbl2 (by omega) hb4.size
        go_wp2_with (go_at_call 18; refine (hcs _ hsz).mono ?_; rintro e w3 ⟨rfl, hbl3, hb5, _⟩)
        have hcells : Lib.byteCells (printM (l.take k)) ++ Lib.strCells (⟨(lineM (x1, x2, x3)).toArray⟩ ++ ⟨#[10]⟩) = Lib.byteCells (printM (l.take (k + 1))) := by
          rw [show (⟨(lineM (x1, x2, x3)).toArray⟩ ++ ⟨#[10]⟩ : ByteArray) = ⟨(lineM (x1, x2, x3) ++ [10]).toArray⟩ from mk_append _ [10], Lib.strCells_eq, byteCells_app, hnext]
        rw [hcells] at hbl3
        exact ⟨⟨k + 1, by omega, by rw [Int.natCast_add]; rfl, .inr hbl3, hb4.trans hb5⟩, by simp [intOf]; omega⟩
      · have hk2 : k = l.length := by omega
        subst hk2
        rw [List.take_length] at hbl
        go_wp2_with (go_at_call 20; refine (Go.Proofs.Any.Builder_String_any_k laysS extraS w1.heap.size w1.heap.size _ _ hbl hws).mono ?_; rintro e w3 ⟨rfl, _, hb5, _⟩)
        go_ret2
        exact ⟨rfl, hb.trans ((hbw.mono hw1).trans (hb5.mono hw1))⟩

theorem print_ok (l : List Mp) (hl : l.length ≤ 1000000) (H : List Blk) (T : Toks) (tg : Tag) (hG : Gl H 3 isPow) :
    ACall Tryz.prog 9 [.sl l.length (mpAV l) tg] H T (Is (.tup [.str (printF l).1, .int .i64 (printF l).2]) H T) := by
  refine ACall.untag1 ?_
  refine ⟨fun _ _ => Tryz.call9 _ _, fun L w ca hc hl' hr => ?_⟩
  obtain ⟨hd, _⟩ := hG.at hc
  obtain ⟨c, rfl⟩ : ∃ c, ca = #[c] := by
    obtain ⟨s⟩ := ca
    have hl2 : s.length = 1 := by simpa using hl'
    match s, hl2 with
    | [a], _ => exact ⟨a, rfl⟩
  have h0 : Rep L H.length T w (.sl l.length (mpAV l) .none) c := hr 0 (by simp) (by simp)
  have hp := pw_of hl hc hG h0
  obtain ⟨a, cap, rfl, hcap, _, hor⟩ := h0.sl_inv
  have hcell : ∀ k, k < l.length → ∃ b base, a = some ⟨b, base, none⟩ ∧ b < w.heap.size ∧ w.cell? ⟨b, base + k * 3, none⟩ = some (.int .i64 (l.getD k d0).1) ∧ w.cell? ⟨b, base + k * 3 + 1, none⟩ = some (.int .i64 (l.getD k d0).2.1) ∧ w.cell? ⟨b, base + k * 3 + 2, none⟩ = some (.int .i64 (l.getD k d0).2.2) := by
    intro k hk
    rcases hor with ⟨_, e⟩ | ⟨b, base, cv, rfl, hm, hrc, hcv⟩
    · omega
    · have hml := mpAV_len l
      have hat := mpAV_at l k hk
      have one : ∀ (j : Nat) (v : Int), j < (mpAV l).length → (mpAV l).getD j .top = .int .i64 v → w.cell? ⟨b, base + j, none⟩ = some (.int .i64 v) := by
        intro j v hj hv
        have hj' : j < cv.length := by rw [hrc.1]; exact hj
        have h3 := hrc.2.2 j hj hj'
        rw [List.getD_eq_getElem?_getD, List.getElem?_eq_getElem hj] at hv
        have hv : (mpAV l)[j] = .int .i64 v := hv
        rw [hv] at h3
        rw [hcv j hj, List.getElem?_eq_getElem hj', h3.int_inv]
      have c1 := one (k * 3) _ (by omega) hat.1
      refine ⟨b, base, rfl, World.block_lt_of_cell? _ _ c1, c1, one (k * 3 + 1) _ (by omega) hat.2.1, one (k * 3 + 2) _ (by omega) hat.2.2⟩
  refine Calls.mono (print_walk hl hp hcell) ?_
  rintro e w' ⟨rfl, hb⟩
  obtain ⟨c1, c2⟩ := hc.belowW hb (fun e => by rw [hd] at e; cases e)
  refine ⟨_, H, T, L, _, ⟨rfl, rfl, rfl⟩, rfl, c1, .tup _ _ rfl (fun j h1 h2 => ?_), c2⟩
  match j, h1 with
  | 0, _ => exact .str _
  | 1, _ => exact .int _ _
end Go.Proofs.YtfdlngemkhiiiaaGreatDoor
