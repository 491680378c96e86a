/- Calls with more than one result: what they have made is forgotten.
   Conditions: none; it speaks of every program. -/
import Derived.Test.YtnmlpohhommagaaGreatDoorAmGhost
namespace Go.Am
open Go
section
variable {P : Program} {f : FuncId} {args : List AV} {H : List Blk} {T : Toks}
theorem Rep.untags {L : Lay} {N : Nat} {T : Toks} {w : World} {vs : List AV} {c : Value} (h : Rep L N T w (.tup vs) c) : Rep L N T w (.tup (vs.map Am.untag)) c := by
  cases h with
  | tup _ cv h1 hr =>
    refine .tup _ cv (by simpa using h1) (fun j hj hj' => ?_)
    rw [List.getElem_map]
    exact (hr j (by simpa using hj) hj').untag

/-- What a call with more than one result has made is forgotten. -/
theorem ACall.dropT {rs : List AV} (h : ACall P f args H T (fun r H' T' => (∃ rH, H' = H ++ rH) ∧ (∃ rT, T' = T ++ rT) ∧ ∃ vs, r = .tup vs ∧ vs.map Am.untag = rs)) (hb : ∀ v ∈ rs, Below H.length T.length v) : ACall P f args H T (Is (.tup rs) H T) := by
  refine ⟨h.1, fun L w ca hc hl' hr => (h.2 L w ca hc hl' hr).mono ?_⟩
  rintro e w' ⟨r', H', T', L', cv, ⟨⟨rH, e1⟩, ⟨rT, e2⟩, vs, e3, e4⟩, rfl, hcon, hrep, hev⟩
  subst e1; subst e2; subst e3
  refine ⟨_, H, T, L', cv, ⟨rfl, rfl, rfl⟩, rfl, Con.front P hcon hc.hok, ?_, hev.front (Nat.le_refl _) (Nat.le_refl _)⟩
  have hrep' := hrep.untags
  rw [e4] at hrep'
  have := hrep'.drop (.tup _ hb)
  simpa using this
end
end Go.Am
