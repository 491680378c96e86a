/- A box of several cells, one of which is an empty end, gets a token for it.
   Conditions: none; it speaks of every program. -/
import Derived.Test.YtnmlpohhommagaaGreatDoorAmBox
import Derived.Test.YtnmlpohhommagaaGreatDoorAmTup
namespace Go.Am
open Go
set_option linter.unusedVariables false

section
variable {H : List Blk} {T : Toks} {L : Lay} {w : World}

theorem Con.ownC {n z k : Nat} {cs vs : List AV} (h : Con L (H ++ [.cells vs]) T w) (hk : vs[k]? = some (.sl n cs .full)) (hz : 0 < z) :
    Con (L.withTok T.length ⟨0, 0, 0⟩) (H ++ [.cells (vs.set k (.sl n cs (.own T.length)))]) (T ++ [(cs.length, z)]) w := by
  have h1 := h.own cs.length hz
  have ev := Ev.own (H := H ++ [.cells vs]) (T := T) (L := L) (w := w) cs.length z
  have el : (H ++ [Blk.cells vs]).length = (H ++ [Blk.cells (vs.set k (.sl n cs (.own T.length)))]).length := by simp
  refine ⟨fun i b hi => ?_, fun i j hi hj => h1.inj i j (by rw [el]; exact hi) (by rw [el]; exact hj), h1.tok, h1.tinj, fun t u z' i ht hu hi => h1.tbox t u z' i ht hu (by rw [el]; exact hi), h1.mz, h1.gl⟩
  rw [← el]
  rcases Nat.lt_or_ge i H.length with hl | hl
  · rw [List.getElem?_append_left hl] at hi
    exact h1.box i b (by rw [List.getElem?_append_left hl]; exact hi)
  · have hi' := (List.getElem?_eq_some_iff.1 hi).1
    have : i = H.length := by simp at hi'; omega
    subst this
    rw [new_at0] at hi
    simp at hi
    subst hi
    obtain ⟨c, t, fr, g1, g2, g3, g3', g4, g5⟩ := h.box H.length (.cells vs) (by simp)
    refine ⟨c, t, fr, g1, g2, by simpa using g3, g3', fun j hj hj' => ?_, g5⟩
    by_cases e : k = j
    · subst e
      have hj2 : k < vs.length := by simpa using hj
      rw [List.getElem?_eq_getElem hj2] at hk
      have := g4 k hj2 hj'
      rw [Option.some.inj hk] at this
      rw [List.getElem_set_self]
      exact this.own
    · rw [List.getElem_set_ne e]
      exact (g4 j (by simpa using hj) hj').keep ev.keeps

/-- The same in the midst of a walk, for the box that was made last. -/
theorem aw_ownC {C : Cx} {c : Code} {Q : Exit → St → Prop} {s : St} (z k : Nat) (H : List Blk) (vs : List AV) (n : Nat) (cs : List AV) (hz : 0 < z) (hk : vs[k]? = some (.sl n cs .full)) (hH : s.H = H ++ [.cells vs])
    (h : AW C c Q ⟨s.e, H ++ [.cells (vs.set k (.sl n cs (.own s.T.length)))], s.T ++ [(cs.length, z)]⟩) : AW C c Q s := by
  obtain ⟨e, H0, T⟩ := s
  simp only at hH h
  subst hH
  intro L w a hc
  have el : (H ++ [Blk.cells vs]).length = (H ++ [Blk.cells (vs.set k (.sl n cs (.own T.length)))]).length := by simp
  have ev := Ev.own (H := H ++ [.cells vs]) (T := T) (L := L) (w := w) cs.length z
  have ev' := ev.mono hc.nb hc.tb
  have ek : Keeps L (H ++ [Blk.cells vs]).length T w (L.withTok T.length ⟨0, 0, 0⟩) (H ++ [Blk.cells (vs.set k (.sl n cs (.own T.length)))]).length (T ++ [(cs.length, z)]) w := by
    rw [← el]; exact ev.keeps
  refine wp_mono (h (L.withTok T.length ⟨0, 0, 0⟩) w a ⟨by rw [← el]; exact hc.nb, by simp; have := hc.tb; simp at this; omega, hc.con.ownC hk hz, hc.size, hc.defers, fun t => (hc.env t).keep ek⟩) fun _ _ _ kk =>
    Post.step (s1 := ⟨e, H ++ [.cells (vs.set k (.sl n cs (.own T.length)))], T ++ [(cs.length, z)]⟩) (by rw [← el]; exact ev') kk
end

/-- Tags that are forgotten, those of an aggregate's cells too. -/
def untagA : AV → AV
  | .agg cs => .agg (cs.map untag)
  | v => untag v
theorem Rep.aggUntag {L : Lay} {N : Nat} {T : Toks} {w : World} {cs : List AV} {v : Value} (h : Rep L N T w (.agg cs) v) : Rep L N T w (.agg (cs.map Am.untag)) v := by
  cases h with
  | agg cs cv h1 h2 hr => exact .agg _ cv (by simpa using h1) h2 (fun j hj hj' => by
      rw [List.getElem_map]
      exact (hr j (by simpa using hj) hj').untag)
theorem Rep.untagA {L : Lay} {N : Nat} {T : Toks} {w : World} {v : AV} {c : Value} (h : Rep L N T w v c) : Rep L N T w (untagA v) c := by
  cases v with
  | agg cs => exact h.aggUntag
  | _ => exact h.untag
/-- What a call with more than one result has made is forgotten, in aggregates too. -/
theorem ACall.dropTA {P : Program} {f : FuncId} {args : List AV} {H : List Blk} {T : Toks} {rs : List AV} (h : ACall P f args H T (fun r H' T' => (∃ rH, H' = H ++ rH) ∧ (∃ rT, T' = T ++ rT) ∧ ∃ vs, r = .tup vs ∧ vs.map Am.untagA = rs)) (hb : ∀ v ∈ rs, Below H.length T.length v) : ACall P f args H T (Is (.tup rs) H T) := by
  refine ⟨h.1, fun L w ca hc hl' hr => (h.2 L w ca hc hl' hr).mono ?_⟩
  rintro e w' ⟨r', H', T', L', cv, ⟨⟨rH, e1⟩, ⟨rT, e2⟩, vs, e3, e4⟩, rfl, hcon, hrep, hev⟩
  subst e1; subst e2; subst e3
  refine ⟨_, H, T, L', cv, ⟨rfl, rfl, rfl⟩, rfl, Con.front P hcon hc.hok, ?_, hev.front (Nat.le_refl _) (Nat.le_refl _)⟩
  have hrep' : Rep L' (H ++ rH).length (T ++ rT) w' (.tup (vs.map Am.untagA)) cv := by
    cases hrep with
    | tup _ cv h1 hr =>
      refine .tup _ cv (by simpa using h1) (fun j hj hj' => ?_)
      rw [List.getElem_map]
      exact (hr j (by simpa using hj) hj').untagA
  rw [e4] at hrep'
  have := hrep'.drop (.tup _ hb)
  simpa using this
/-- The same of a call whose result is an aggregate. -/
theorem ACall.dropA {P : Program} {f : FuncId} {args : List AV} {H : List Blk} {T : Toks} {r0 : AV} (h : ACall P f args H T (fun r H' T' => (∃ rH, H' = H ++ rH) ∧ (∃ rT, T' = T ++ rT) ∧ Am.untagA r = r0)) (hb : Below H.length T.length r0) : ACall P f args H T (Is r0 H T) := by
  refine ⟨h.1, fun L w ca hc hl' hr => (h.2 L w ca hc hl' hr).mono ?_⟩
  rintro e w' ⟨r', H', T', L', cv, ⟨⟨rH, e1⟩, ⟨rT, e2⟩, e4⟩, rfl, hcon, hrep, hev⟩
  subst e1; subst e2
  refine ⟨_, H, T, L', cv, ⟨rfl, rfl, rfl⟩, rfl, Con.front P hcon hc.hok, ?_, hev.front (Nat.le_refl _) (Nat.le_refl _)⟩
  have hrep' := hrep.untagA
  rw [e4] at hrep'
  have := hrep'.drop hb
  simpa using this
end Go.Am
