/- The arguments of a row, as abstract values.
   Conditions: none; it speaks of every program. -/
import Derived.Test.YtnmlpohhommagaaGreatDoorAmLaw
namespace Go.Am
open Go Go.ChangeShapes Go.WideShapes Go.RowKit
set_option linter.unusedVariables false

section
variable {H : Type} {enc : TypeId × Value → H} {P : Program} {w : World} {b0 base : Nat} {sp : Nat → Bool} {held : Bool} {t e : TypeId} {v : Value} {d : DataW H} {ps : List MemPlace} {r : Reach}

theorem av_int {k : IntKind} (ht : P.underlying t = some (.int k)) (hval : Value.okWide P w r b0 t v) (h : DataW.Trod enc P w base sp held t v d ps) : ∃ n, (Lit.int k n).wf = true ∧ Rep (lay0 w) 0 [] w (.int k n) v := by
  obtain ⟨n, rfl⟩ := okWide_int ht hval
  obtain ⟨fuel, hf⟩ := h
  obtain ⟨m, h1, h2⟩ := rc_int ht hf
  exact ⟨m, h1, h2.rep⟩

theorem av_i64 (ht : P.underlying t = some (.int .i64)) (hval : Value.okWide P w r b0 t v) (h : DataW.Trod enc P w base sp held t v d ps) : ∃ n, (-9223372036854775808 ≤ n ∧ n ≤ 9223372036854775807) ∧ Rep (lay0 w) 0 [] w (.int .i64 n) v := by
  obtain ⟨n, h1, h2⟩ := av_int ht hval h
  exact ⟨n, i64_wf h1, h2⟩

theorem av_bool (ht : P.underlying t = some .bool) (hval : Value.okWide P w r b0 t v) (h : DataW.Trod enc P w base sp held t v d ps) : ∃ n, True ∧ Rep (lay0 w) 0 [] w (.bool n) v := by
  obtain ⟨n, rfl⟩ := okWide_bool ht hval
  obtain ⟨fuel, hf⟩ := h
  obtain ⟨m, h2⟩ := rc_bool ht hf
  exact ⟨m, trivial, h2.rep⟩

theorem av_str (ht : P.underlying t = some .string) (hval : Value.okWide P w r b0 t v) (h : DataW.Trod enc P w base sp held t v d ps) : ∃ s : List UInt8, s.length ≤ maxLen ∧ Rep (lay0 w) 0 [] w (.str s) v := by
  obtain ⟨n, rfl⟩ := okWide_string ht hval
  obtain ⟨fuel, hf⟩ := h
  obtain ⟨m, h1, h2⟩ := rc_str ht hf
  exact ⟨m, h1, h2.rep⟩

theorem av_bytes (ht : P.underlying t = some (.slice e)) (he : P.underlying e = some (.int .u8)) (hp : 0 < P.cellsOf e) (hval : Value.okWide P w r b0 t v) (h : DataW.Trod enc P w base sp held t v d ps) :
    ∃ s : List UInt8, s.length ≤ maxLen ∧ Rep (lay0 w) 0 [] w (.sl s.length (encB s) .none) v := by
  obtain ⟨a, l, c, rfl⟩ := okWide_slice ht hval
  obtain ⟨fuel, hf⟩ := h
  obtain ⟨m, h1, h2⟩ := rc_bytes ht he hp hf
  exact ⟨m, h1, h2.rep⟩

theorem av_ints (ht : P.underlying t = some (.slice e)) (he : P.underlying e = some (.int .i64)) (hp : 0 < P.cellsOf e) (hval : Value.okWide P w r b0 t v) (h : DataW.Trod enc P w base sp held t v d ps) :
    ∃ s : List Int, ((∀ z ∈ s, -9223372036854775808 ≤ z ∧ z ≤ 9223372036854775807) ∧ s.length ≤ maxLen) ∧ Rep (lay0 w) 0 [] w (.sl s.length (ints s) .none) v := by
  obtain ⟨a, l, c, rfl⟩ := okWide_slice ht hval
  obtain ⟨fuel, hf⟩ := h
  obtain ⟨m, h1, h2, h3⟩ := rc_ints ht he hp hf
  exact ⟨m, ⟨h1, h2⟩, h3.rep⟩

theorem av_texts (ht : P.underlying t = some (.slice e)) (he : P.underlying e = some .string) (hp : 0 < P.cellsOf e) (hval : Value.okWide P w r b0 t v) (h : DataW.Trod enc P w base sp held t v d ps) :
    ∃ s : List (List UInt8), ((∀ z ∈ s, z.length ≤ maxLen) ∧ s.length ≤ maxLen) ∧ Rep (lay0 w) 0 [] w (.sl s.length (strs s) .none) v := by
  obtain ⟨a, l, c, rfl⟩ := okWide_slice ht hval
  obtain ⟨fuel, hf⟩ := h
  obtain ⟨m, h1, h2, h3⟩ := rc_texts ht he hp hf
  exact ⟨m, ⟨h1, h2⟩, h3.rep⟩

/-- A slice of things of one form G. -/
theorem av_slice {G : List AV → Prop} (ht : P.underlying t = some (.slice e)) (hp : 0 < P.cellsOf e) (he : ∀ n c y, DataW.trod enc P w base sp held n e c = some y → ∃ a, G a ∧ RC w a c) (hval : Value.okWide P w r b0 t v) (h : DataW.Trod enc P w base sp held t v d ps) :
    ∃ es : List (List AV), ((∀ a ∈ es, G a) ∧ es.length ≤ maxLen) ∧ Rep (lay0 w) 0 [] w (.sl es.length es.flatten .none) v := by
  obtain ⟨a, l, c, rfl⟩ := okWide_slice ht hval
  obtain ⟨fuel, hf⟩ := h
  obtain ⟨m, h1, h2, h3⟩ := rc_slice ht hp he hf
  exact ⟨m, ⟨h1, h2⟩, h3.rep⟩
end
end Go.Am
