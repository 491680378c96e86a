/- CallnoLonger: the given statement, and its card.
   Conditions: the listed package variables hold what their text lays (the card ties them to the text). -/
import Derived.Test.YtnmlpohhommagaaGreatDoorCWk8
import Derived.Test.YtnmlpohhommagaaGreatDoorCArg
import Derived.Test.YtnmlpohhommagaaGreatDoorLLaid
import Derived.Test.YtnmlpohhommagaaGreatDoorAmArg
import Derived.Test.YtnmlpohhommagaaGreatDoorRows
import Derived.Test.YtnmlpohhommagaaGreatDoorCards
import Derived.Test.YtnmlpohhommagaaGreatDoorTie
import Derived.Lay
import Derived.LaidMore
import Derived.Stop.Joined
import Derived.SevenTiedAt
namespace Go.Proofs.YtnmlpohhommagaaGreatDoor.callnoLonger
open Go Go.Am Go.ChangeShapes Go.WideShapes Go.ChangeAt Go.RowKit
set_option linter.unusedVariables false
set_option maxRecDepth 100000

theorem own : ownKnob Tryz.prog.godebug = none := by kernel_rfl
/-- The listed variables. -/
abbrev laidL : List (String × DataW Unit) := Rows.callnoLongerRow.laid
abbrev gs : List Nat := [0, 3, 4, 5]

theorem libs {W : World} (hsh : W.ShapedOpen Tryz.prog) (hL : laidMetH Tryz.prog laidL W) : Lb (globs W gs) ∧ ∀ g ∈ gs, g < W.heap.size := by
  rw [MakeChecks.laidMetH_plain _ _ _ (by kernel_rfl)] at hL
  obtain ⟨m, hm⟩ := cell_of_shapedOpen_int (P := Tryz.prog) (g := 0) (t := 3) (zero := #[.int .i64 0]) hsh (of_decide_eq_true (by kernel_rfl)) (by kernel_rfl) rfl (by kernel_rfl) (by kernel_rfl) Tryz.underlying3
  have h1 := one_of_cell hm
  have h2 := err_of_laid (P := Tryz.prog) (n := "strconv.ErrSyntax") (g := 3) (t := 95) hL (.tail _ (.tail _ (.tail _ (.tail _ (.tail _ (.head _)))))) (by kernel_rfl) (by kernel_rfl) Tryz.underlying95
  have h3 := err_of_laid (P := Tryz.prog) (n := "strconv.ErrRange") (g := 4) (t := 95) hL (.tail _ (.tail _ (.tail _ (.tail _ (.head _))))) (by kernel_rfl) (by kernel_rfl) Tryz.underlying95
  have h4 := pow_of_laid (P := Tryz.prog) (n := "internal/strconv.uint64pow10") (g := 5) (t := 140) hL (.tail _ (.tail _ (.head _))) (by kernel_rfl) (by kernel_rfl) Tryz.underlying140 Tryz.underlying119 (by kernel_rfl) (by kernel_rfl)
  refine ⟨⟨gl_of_globs (by simp) h1, gl_of_globs (by simp) h2, gl_of_globs (by simp) h3, gl_of_globs (by simp) h4⟩, ?_⟩
  intro g hg
  simp only [List.mem_cons, List.mem_nil_iff, or_false] at hg
  rcases hg with rfl | rfl | rfl | rfl
  · exact heap_lt h1
  · exact heap_lt h2
  · exact heap_lt h3
  · exact heap_lt h4

set_option maxRecDepth 100000 in
theorem contract (H : Type) (enc : TypeId × Value → H) (W : World) (base : Nat) (args : Array Value) (ds gs0 : List (DataW H)) (before : List MemPlace)
    (hval : ∀ (j : Nat) t v, Tryz.f4.params[j]? = some t → args[j]? = some v → Value.okWide Tryz.prog W .any base t v)
    (hW : DataW.Whole enc Tryz.prog Tryz.f4.params.toList Rows.callnoLongerSpec.vars false W args.toList ds gs0 before)
    (hsh : W.ShapedOpen Tryz.prog) (hL : laidMetH Tryz.prog laidL W) :
    Calls Tryz.prog 4 args W fun e W' => ∃ v, e = .returned v ∧ Rows.callnoLongerSpec.post enc Tryz.prog Tryz.f4 false true false false W args v W' := by
  have hW' := hW
  obtain ⟨p, q, hA0, hV, rfl, hfz, hnd⟩ := hW
  have hA : DataW.TrodAll enc Tryz.prog W 0 (fun _ => true) true Tryz.f4.params.toList args.toList ds p := hA0
  rw [Tryz.params4] at hA hval
  obtain ⟨v0, vs0, d0, ds0, p0, q0, hargs, rfl, rfl, h0, r0⟩ := trodAll_cons hA
  obtain ⟨v1, vs1, d1, ds1, p1, q1, rfl, rfl, rfl, h1, r1⟩ := trodAll_cons r0
  obtain ⟨v2, vs2, d2, ds2, p2, q2, rfl, rfl, rfl, h2, r2⟩ := trodAll_cons r1
  obtain ⟨rfl, rfl, rfl⟩ := trodAll_nil r2
  obtain rfl : args = #[v0, v1, v2] := by cases args; simp_all
  obtain ⟨a0, w0, g0⟩ := av_cl (hval 0 24 v0 rfl rfl) h0
  obtain ⟨a1, w1, g1⟩ := av_str2 (hval 1 32 v1 rfl rfl) h1
  obtain ⟨a2, w2, g2⟩ := av_i64 Tryz.underlying3 (hval 2 3 v2 rfl rfl) h2
  obtain ⟨hb, hlt⟩ := libs hsh hL
  refine (ACall.lawG (w := W) (args := #[v0, v1, v2]) gs (by decide) hlt rfl (longer_law a0 a1.1 a1.2 a2 (Nat.le_trans w0 (by decide)) w1.1 w1.2 w2 _ hb) rfl fun j hj hj' => ?_).mono fun e W' ⟨he, hg⟩ => ?_
  · match j, hj with
    | 0, _ => exact g0
    | 1, _ => exact g1
    | 2, _ => exact g2
  · exact ⟨_, he, law_close hW' rfl rfl (by kernel_rfl) Tryz.underlying4 (by kernel_rfl) (by rw [Tryz.params4]; intro t ht; simp at ht; rcases ht with rfl | rfl | rfl <;> exact ⟨by kernel_rfl, of_decide_eq_true (by kernel_rfl)⟩) hg⟩

set_option maxRecDepth 100000 in
theorem lifted (os : Os) (started : os.Started) (H : Type) (enc : TypeId × Value → H) :
    ReturnsInHanded {} Tryz.checked os 4 .any (fun w args => (Rows.callnoLongerSpec.pre enc Tryz.prog Tryz.f4 [] false w args ∧ laidMetH Tryz.prog laidL w) ∧ sizedMet enc Tryz.prog Tryz.f4 (OpenSpec.ofChange Rows.callnoLongerSpec) false w args)
      (Rows.callnoLongerSpec.post enc Tryz.prog Tryz.f4 false true false false) := by
  refine handed_and_shaped (C := Tryz.checked) (X := fun w _ => laidMetH Tryz.prog laidL w) (fun _ _ _ hh h => h.of_heap hh) own started (by kernel_rfl) Tryz.func4
    (ChangeSpec.witness_shaped (enc := enc) (C := Tryz.checked) (os := os) (X := fun w _ => laidMetH Tryz.prog laidL w) false (World.laidAll Tryz.prog os laidL) #[.agg #[.int .i64 0, .string ⟨#[]⟩, .int .i64 0, .string ⟨#[]⟩, .slice none 0 0, .int .i64 0, .string ⟨#[]⟩], .agg #[.string ⟨#[]⟩, .string ⟨#[]⟩], .int .i64 0] 8 (World.laidAll_os _ _ _)
      (World.shaped_of_ZipB (by kernel_rfl) (by kernel_rfl)) (by kernel_rfl) (by kernel_rfl) (by kernel_rfl)
      (by rw [MakeChecks.laidMetH_plain _ _ _ (by kernel_rfl)]; exact laidMet_laidAll _ (by kernel_rfl) (by kernel_rfl))) ?_
  intro W base args ds gs0 before hval0 hW hsh hL
  exact contract H enc W base args ds gs0 before hval0 hW hsh hL

theorem over : Rows.callnoLongerRow.holds Tryz.pinned (OpenSpec.ofChange Rows.callnoLongerSpec) :=
  OpenClaim.holds_of_wide 4 Tryz.f4 rfl rfl rfl rfl rfl rfl rfl ⟨rfl, rfl, rfl, rfl, rfl⟩ rfl rfl rfl rfl rfl (by kernel_rfl) Tryz.func4 (by kernel_rfl)
    (of_decide_eq_true (by kernel_rfl)) (by unfold Func.isWrapper; first | (rw [if_pos (by decide +kernel)]; kernel_rfl) | (rw [if_neg (by decide +kernel)]; exact ⟨rfl, rfl⟩))
    (fun os started H enc _ => lifted os started H enc)

set_option maxRecDepth 100000 in
/-- The tied card. -/
theorem card : Claim7.holds Tryz.pinned (.plain (OpenSpec.ofChange Rows.callnoLongerSpec)) Rows.callnoLongerCard :=
  Claim7.holds_tied_plain_at .later [] [.data, .data, .data, .data, .sentinel, .sentinel, .pinned] true (true, "de7d1d200fe04d52cf39a81d6407922746e0951aa5bb365610bfa3341a55865c") true
    over (fun _ h => by cases h) (by kernel_rfl) (fun _ h => by cases h) callnoLonger_row_tie rfl ⟨rfl, rfl⟩ (by kernel_rfl) rfl
    (fun f fn hf hfn => by
      obtain rfl : f = 4 := Option.some.inj ((show Tryz.prog.funcNamed "bookplate/bookplatelaw52.CallnoLonger" = some 4 by kernel_rfl).symm.trans hf) |>.symm
      obtain rfl : fn = Tryz.f4 := (Option.some.inj (Tryz.func4.symm.trans hfn)).symm
      exact ⟨by kernel_rfl, fun j t ht => by
        rw [Tryz.params4] at ht
        have h3 : t = 24 ∨ t = 32 ∨ t = 3 := by
          rcases j with _ | _ | _ | j
          · exact .inl (by simpa using ht.symm)
          · exact .inr (.inl (by simpa using ht.symm))
          · exact .inr (.inr ((by simpa using ht.symm)))
          · simp at ht
        rcases h3 with rfl | rfl | rfl
        · exact (show Tryz.prog.wantsStandIn 24 = false by kernel_rfl)
        · exact (show Tryz.prog.wantsStandIn 32 = false by kernel_rfl)
        · exact (show Tryz.prog.wantsStandIn 3 = false by kernel_rfl)⟩)
    (by kernel_rfl)
end Go.Proofs.YtnmlpohhommagaaGreatDoor.callnoLonger
namespace Go.Proofs.YtnmlpohhommagaaGreatDoor
theorem callnoLonger_card : Rows.CallnoLongerCardSaid := callnoLonger.card
end Go.Proofs.YtnmlpohhommagaaGreatDoor
