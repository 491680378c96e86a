/- VocabmapLists: the given statement, and its card.
   Conditions: the listed package variables hold what their text lays (the card ties them to the text). -/
import Derived.Test.YtfdlngemkhiiiaaDoorVWk4
import Derived.Test.YtfdlngemkhiiiaaDoorAmArg
import Derived.Test.YtfdlngemkhiiiaaDoorRows
import Derived.Test.YtfdlngemkhiiiaaDoorCards
import Derived.Test.YtfdlngemkhiiiaaDoorTie
import Derived.Lib.LaidTab
import Derived.LaidMore
import Derived.Stop.Joined
import Derived.SevenTiedAt
namespace Go.Proofs.YtfdlngemkhiiiaaDoor.vocabmapLists
open Go Go.Am Go.ChangeShapes Go.WideShapes Go.ChangeAt Go.RowKit
set_option linter.unusedVariables false

theorem own : ownKnob Tryd.prog.godebug = none := by kernel_rfl
/-- The listed variables. -/
abbrev laidL : List (String × DataW Unit) := Rows.vocabmapListsRow.laid

theorem of_laid {W : World} (h : laidMetH Tryd.prog laidL W) : ∃ o, W.heap[0]? = some o ∧ isPow o := by
  rw [MakeChecks.laidMetH_plain _ _ _ (by kernel_rfl)] at h
  obtain ⟨ps, ⟨g0, t0, cs0, f0, p0, q0, hg0, ht0, hv0, hd0, ⟨g1, t1, cs1, f1, p1, q1, hg1, ht1, hv1, hd1, ⟨g2, t2, cs2, f2, p2, q2, hg2, ht2, hv2, hd2, _, _⟩, _⟩, _⟩, _, _⟩ := h
  obtain rfl := Option.some.inj ((show Tryd.prog.globalNamed "internal/strconv.uint64pow10" = some 0 by kernel_rfl).symm.trans hg2)
  obtain rfl := Option.some.inj ((show (Tryd.prog.globals[0]?).map (·.type) = some 99 by kernel_rfl).symm.trans ht2)
  have e : cs2.toList = Lib.pow10Tab.map fun z => Value.int .u64 z := Lib.cells_of_tab Tryd.underlying99 Tryd.underlying83 (by kernel_rfl) (by kernel_rfl) (show DataW.trod _ Tryd.prog W 0 _ _ f2 99 cs2.toList = some (Lib.tabData .u64 Lib.pow10Tab, p2) from hd2)
  unfold World.var? at hv2
  rw [show Tryd.prog.globalNamed "internal/strconv.uint64pow10" = some 0 by kernel_rfl] at hv2
  simp only [Option.bind_some] at hv2
  split at hv2
  · rename_i cs t fr hh
    cases hv2
    refine ⟨_, hh, t, fr, ?_⟩
    rw [← e]
  · cases hv2

/-- The door's own heap meets the condition. -/
theorem door_met (os : Os) (args : Array Value) : laidMetH Tryd.prog laidL ((World.doorLaid Tryd.prog 400 os).forCall (fun _ _ => 0) ⟨#[], args, []⟩).memory :=
  laidMetH_of_parts3 (fuel := 8) (laidMet_of_run' 8 (by kernel_rfl) (by kernel_rfl)) (by kernel_rfl) (by kernel_rfl)

set_option maxRecDepth 100000 in
theorem contract (H : Type) (enc : TypeId × Value → H) (W : World) (base : Nat) (args : Array Value) (ds gs : List (DataW H)) (before : List MemPlace)
    (hL : laidMetH Tryd.prog laidL W)
    (hval : ∀ (j : Nat) t v, Tryd.f3.params[j]? = some t → args[j]? = some v → Value.okWide Tryd.prog W .any base t v)
    (hW : DataW.Whole enc Tryd.prog Tryd.f3.params.toList Rows.vocabmapListsSpec.vars false W args.toList ds gs before) :
    Calls Tryd.prog 3 args W fun e W' => ∃ v, e = .returned v ∧ Rows.vocabmapListsSpec.post enc Tryd.prog Tryd.f3 false true false false W args v W' := by
  have hW' := hW
  obtain ⟨p, q, hA0, hV, rfl, hfz, hnd⟩ := hW
  have hA : DataW.TrodAll enc Tryd.prog W 0 (fun _ => true) true Tryd.f3.params.toList args.toList ds p := hA0
  rw [Tryd.params3] at hA hval
  obtain ⟨v0, vs0, d0, ds0, p0, q0, hargs, rfl, rfl, h0, r0⟩ := trodAll_cons hA
  obtain ⟨v1, vs1, d1, ds1, p1, q1, rfl, rfl, rfl, h1, r1⟩ := trodAll_cons r0
  obtain ⟨rfl, rfl, rfl⟩ := trodAll_nil r1
  obtain rfl : args = #[v0, v1] := by cases args; simp_all
  obtain ⟨a0, w0, g0⟩ := av_maps Tryd.underlying22 Tryd.underlying34 rfl rfl rfl rfl rfl rfl Tryd.underlying3 Tryd.underlying3 Tryd.underlying3 (by kernel_rfl) (by kernel_rfl) (by kernel_rfl) (by kernel_rfl) (hval 0 22 v0 rfl rfl) h0
  obtain ⟨a1, w1, g1⟩ := av_i64 Tryd.underlying3 (hval 1 3 v1 rfl rfl) h1
  obtain ⟨o, ho, hpow⟩ := of_laid hL
  have hlt : 0 < W.heap.size := by
    rcases Nat.lt_or_ge 0 W.heap.size with h | h
    · exact h
    · rw [Array.getElem?_eq_none h] at ho; cases ho
  have hG : Gl (globs W [0]) 0 isPow := ⟨0, _, rfl, fun o' h => by rw [ho] at h; cases h; exact hpow⟩
  refine (ACall.lawG (w := W) (args := #[v0, v1]) [0] (by simp) (by simpa using hlt) rfl (lists_law a0 a1 w0 _ hG) rfl fun j hj hj' => ?_).mono fun e W' ⟨he, hg⟩ => ?_
  · match j, hj with
    | 0, _ => exact g0
    | 1, _ => exact g1
  · exact ⟨_, he, law_close hW' rfl rfl (by kernel_rfl) Tryd.underlying4 (by kernel_rfl) (by rw [Tryd.params3]; intro t ht; simp at ht; rcases ht with rfl | rfl <;> exact ⟨by kernel_rfl, of_decide_eq_true (by kernel_rfl)⟩) hg⟩

set_option maxRecDepth 100000 in
theorem lifted (os : Os) (started : os.Started) (H : Type) (enc : TypeId × Value → H) :
    ReturnsInHanded {} Tryd.checked os 3 .any (fun w args => (Rows.vocabmapListsSpec.pre enc Tryd.prog Tryd.f3 [] false w args ∧ laidMetH Tryd.prog laidL w) ∧ sizedMet enc Tryd.prog Tryd.f3 (OpenSpec.ofChange Rows.vocabmapListsSpec) false w args)
      (Rows.vocabmapListsSpec.post enc Tryd.prog Tryd.f3 false true false false) := by
  refine returnsInHanded_of_change_and (C := Tryd.checked) (X := fun w _ => laidMetH Tryd.prog laidL w) (fun _ _ _ hh h => h.of_heap hh) own started (by kernel_rfl) Tryd.func3
    (ChangeSpec.witness_shaped (enc := enc) (C := Tryd.checked) (os := os) (X := fun w _ => laidMetH Tryd.prog laidL w) false (World.doorLaid Tryd.prog 400 os) #[.slice none 0 0, .int .i64 0] 8 rfl (World.shaped_of_RefB (by kernel_rfl) (by kernel_rfl)) (by kernel_rfl) (by kernel_rfl) (by kernel_rfl) (door_met os _)) ?_
  intro W base args ds gs before hval0 hW _ _ hL _
  exact contract H enc W base args ds gs before hL hval0 hW

theorem over : Rows.vocabmapListsRow.holds Tryd.pinned (OpenSpec.ofChange Rows.vocabmapListsSpec) :=
  OpenClaim.holds_of_wide 3 Tryd.f3 rfl rfl rfl rfl rfl rfl rfl ⟨rfl, rfl, rfl, rfl, rfl⟩ rfl rfl rfl rfl rfl (by kernel_rfl) Tryd.func3 (by kernel_rfl)
    (of_decide_eq_true (by kernel_rfl)) (by unfold Func.isWrapper; first | (rw [if_pos (by decide +kernel)]; kernel_rfl) | (rw [if_neg (by decide +kernel)]; exact ⟨rfl, rfl⟩))
    (fun os started H enc _ => lifted os started H enc)

set_option maxRecDepth 100000 in
/-- The tied card. -/
theorem card : Claim7.holds Tryd.pinned (.plain (OpenSpec.ofChange Rows.vocabmapListsSpec)) Rows.vocabmapListsCard :=
  Claim7.holds_tied_plain_at .later [] [.data, .data, .data] true (true, "aaa2ee0e7aee76d176aedec4a90852cbf1f5f6ed950b0d5a279b79a386bfadba") false
    over (fun _ h => by cases h) (by kernel_rfl) (fun _ h => by cases h) vocabmapLists_row_tie rfl ⟨rfl, rfl⟩ (by kernel_rfl) rfl
    (fun f fn hf hfn => by
      obtain rfl : f = 3 := Option.some.inj ((show Tryd.prog.funcNamed "bookplate/bookplatelaw26.VocabmapLists" = some 3 by kernel_rfl).symm.trans hf) |>.symm
      obtain rfl : fn = Tryd.f3 := (Option.some.inj (Tryd.func3.symm.trans hfn)).symm
      exact ⟨by kernel_rfl, fun j t ht => by
        rw [Tryd.params3] at ht
        have h3 : t = 22 ∨ t = 3 := by
          rcases j with _ | _ | j
          · exact .inl (by simpa using ht.symm)
          · exact .inr (by simpa using ht.symm)
          · simp at ht
        rcases h3 with rfl | rfl
        · exact (show Tryd.prog.wantsStandIn 22 = false by kernel_rfl)
        · exact (show Tryd.prog.wantsStandIn 3 = false by kernel_rfl)⟩)
    (by kernel_rfl)
end Go.Proofs.YtfdlngemkhiiiaaDoor.vocabmapLists
namespace Go.Proofs.YtfdlngemkhiiiaaDoor
theorem vocabmapLists_card : Rows.VocabmapListsCardSaid := vocabmapLists.card
end Go.Proofs.YtfdlngemkhiiiaaDoor
