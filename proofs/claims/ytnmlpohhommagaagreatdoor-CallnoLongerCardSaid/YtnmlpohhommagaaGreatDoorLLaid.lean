/- Rows that list package variables, with the world's shape kept; what the library's variables hold.
   Conditions: none. -/
import Derived.Test.YtnmlpohhommagaaGreatDoorLStd
import Derived.Test.YtnmlpohhommagaaGreatDoorVItoa
import Derived.Lib.LaidU8
import Derived.Lib.LaidTab
import Derived.HandedShaped
import Derived.Shelf.Vars
import Derived.Handed
namespace Go.Proofs.YtnmlpohhommagaaGreatDoor
open Go Go.Am
set_option linter.unusedVariables false
set_option maxRecDepth 100000

/-- The wrap of a row that lists variables: the contract is handed the world's shape too. -/
theorem handed_and_shaped {H : Type} {enc : TypeId × Value → H} {a : Assume} {C : Checked} {os : Os} {f : FuncId} {fn : Func} {s : ChangeSpec} {conds : List PathCond} {apart fresh handsOn again : Bool} {X : World → Array Value → Prop}
    (hX : ∀ (w w' : World) (args : Array Value), w.heap = w'.heap → X w args → X w' args)
    (own : ownKnob C.prog.godebug = none) (started : os.Started) (noInit : C.prog.inits.idxOf? f = none) (hfn : C.prog.funcs[f]? = some fn)
    (witness : ∃ (w : World) (tape : Tape) (i : Input), w.os = os ∧ (w.forCall tape i).Shaped C.prog ∧ i.vars = [] ∧ Input.okWide C.prog (w.forCall tape i) .any w.heap.size f i ∧
      ((s.pre enc C.prog fn conds apart (w.forCall tape i).memory i.args ∧ X (w.forCall tape i).memory i.args) ∧ sizedMet enc C.prog fn (OpenSpec.ofChange s) apart (w.forCall tape i).memory i.args) ∧ a.holds C.prog (lone (Frame.enter C.prog f i.args .normal) [] (w.forCall tape i)))
    (contract : ∀ (W : World) (base : Nat) (args : Array Value) (ds gs : List (DataW H)) (before : List MemPlace),
      (∀ (j : Nat) t v, fn.params[j]? = some t → args[j]? = some v → Value.okWide C.prog W .any base t v) →
      DataW.Whole enc C.prog fn.params.toList s.vars apart W args.toList ds gs before → W.ShapedOpen C.prog → X W args →
      Calls C.prog f args W fun e W' => ∃ v, e = .returned v ∧ s.post enc C.prog fn apart fresh handsOn again W args v W') :
    ReturnsInHanded a C os f .any (fun w args => (s.pre enc C.prog fn conds apart w args ∧ X w args) ∧ sizedMet enc C.prog fn (OpenSpec.ofChange s) apart w args) (s.post enc C.prog fn apart fresh handsOn again) := by
  refine returnsInHanded_of_calls own started noInit witness ?_
  intro w tape i _ hsh _ hok hpre hholds
  obtain ⟨_, _, _, fn', hfn', _, _, _, _, hval⟩ := hok
  have e : fn' = fn := Option.some.inj (hfn'.symm.trans hfn)
  subst e
  obtain ⟨⟨⟨ds, gs, before, hw, hc⟩, hx⟩, hz⟩ := hpre
  have hw' := DataW.Whole.of_heap (w' := w.forCall tape i) (by rfl) hw
  refine (contract (w.forCall tape i) w.heap.size i.args ds gs before hval hw' hsh (hX _ _ _ (by rfl) hx)).mono fun e W' ⟨v, he, hp⟩ => ?_
  subst he
  exact ChangeSpec.post_blind hp

theorem var_heap {P : Program} {w : World} {n : String} {g : Nat} {cs : Array Value} (hn : P.globalNamed n = some g) (h : w.var? P n = some cs) : ∃ t fr, w.heap[g]? = some (.cells cs t fr) := by
  unfold World.var? at h
  rw [hn] at h
  simp only [Option.bind_some] at h
  split at h
  · rename_i cs' t fr hh
    cases h
    exact ⟨t, fr, hh⟩
  · cases h
theorem one_of_cell {w : World} {g : Nat} {m : Int} (h : w.cell? ⟨g, 0, none⟩ = some (.int .i64 m)) : ∃ o, w.heap[g]? = some o ∧ isOne o := by
  unfold World.cell? at h
  simp only at h
  split at h
  · rename_i cs t fr hh
    exact ⟨_, hh, cs, m, t, fr, rfl, by simpa using h⟩
  · cases h
theorem trod_iface {H : Type} {enc : TypeId × Value → H} {P : Program} {w : World} {base : Nat} {sp : Nat → Bool} {held : Bool} {fuel : Nat} {t : TypeId} {ms : Array (String × TypeId)} {cs : List Value} {nm : String} {d : DataW H} {p : List MemPlace}
    (ht : P.underlying t = some (.interface ms)) (h : DataW.trod enc P w base sp held fuel t cs = some (.iface nm d, p)) : ∃ te pe, cs = [.iface te pe] := by
  cases fuel with
  | zero => simp [DataW.trod] at h
  | succ fuel =>
    match cs with
    | [] => simp [DataW.trod, ht] at h
    | [c] =>
      cases c <;> simp [DataW.trod, ht] at h
      exact ⟨_, _, rfl⟩
    | _ :: _ :: _ => simp [DataW.trod, ht] at h
theorem err_of_laid {P : Program} {w : World} {laid : List (String × DataW Unit)} (L : laidMet P laid w) {n nm : String} {d : DataW Unit} {g : Nat} {t : TypeId} {ms : Array (String × TypeId)} (hm : (n, .iface nm d) ∈ laid)
    (hn : P.globalNamed n = some g) (hty : (P.globals[g]?).map (·.type) = some t) (hu : P.underlying t = some (.interface ms)) : ∃ o, w.heap[g]? = some o ∧ isErr o := by
  obtain ⟨g', t', cs, fuel, p, h1, h2, h3, h4⟩ := Lib.laidMet.reads L hm
  obtain rfl := Option.some.inj (hn.symm.trans h1)
  obtain rfl := Option.some.inj (hty.symm.trans h2)
  obtain ⟨ty, fr, hh⟩ := var_heap hn h3
  obtain ⟨te, pe, e⟩ := trod_iface hu h4
  refine ⟨_, hh, .iface te pe, ty, fr, ?_, .inr ⟨te, pe, rfl⟩⟩
  congr 1
  exact Array.ext' (by simpa using e)
theorem pow_of_laid {P : Program} {w : World} {laid : List (String × DataW Unit)} (L : laidMet P laid w) {n : String} {g : Nat} {t e : TypeId} {k : Nat} (hm : (n, Lib.tabData .u64 Lib.pow10Tab) ∈ laid)
    (hn : P.globalNamed n = some g) (hty : (P.globals[g]?).map (·.type) = some t) (hu : P.underlying t = some (.array k e)) (he : P.underlying e = some (.int .u64)) (hce : P.cellsOf e = 1) (hct : P.cellsOf t = k) : ∃ o, w.heap[g]? = some o ∧ isPow o := by
  obtain ⟨g', t', cs, fuel, p, h1, h2, h3, h4⟩ := Lib.laidMet.reads L hm
  obtain rfl := Option.some.inj (hn.symm.trans h1)
  obtain rfl := Option.some.inj (hty.symm.trans h2)
  obtain ⟨ty, fr, hh⟩ := var_heap hn h3
  have e := Lib.cells_of_tab hu he hce hct h4
  refine ⟨_, hh, ty, fr, ?_⟩
  rw [← e]
/-- Boxes for package variables, of which one is told. -/
theorem gl_of_globs {w : World} {gs : List Nat} {g : Nat} {q : Obj → Prop} (hg : g ∈ gs) (h : ∃ o, w.heap[g]? = some o ∧ q o) : Gl (globs w gs) g q := by
  obtain ⟨i, hi, e⟩ := List.mem_iff_getElem.1 hg
  obtain ⟨o, ho, hq⟩ := h
  refine ⟨i, _, by rw [globs, List.getElem?_map, List.getElem?_eq_getElem hi, e]; rfl, fun o' h' => ?_⟩
  rw [ho] at h'
  cases h'
  exact hq
theorem heap_lt {w : World} {g : Nat} {q : Obj → Prop} (h : ∃ o, w.heap[g]? = some o ∧ q o) : g < w.heap.size := by
  obtain ⟨o, ho, _⟩ := h
  rcases Nat.lt_or_ge g w.heap.size with h | h
  · exact h
  · rw [Array.getElem?_eq_none h] at ho; cases ho
end Go.Proofs.YtnmlpohhommagaaGreatDoor
