/- A region that draws its order, where several operations with effects may come in any order: each order is walked.
   Conditions: none; it speaks of every program. -/
import Derived.Test.YtnmlpohhommagaaGreatDoorAmDr2
namespace Go.Am
open Go
set_option linter.unusedVariables false

/-- How the orders are told apart: two operations at a time. -/
inductive Plan where
  | leaf (eff lo : List Nat) (na : List (List Nat))
  | both (a b : Nat) (p q : Plan)
  | swp (a b : Nat) (p : Plan)

def Plan.ck : Plan → List Oper → Bool
  | .leaf eff lo na, ops => drawCk ops eff lo na && effCk eff
  | .both a b p q, ops => (decide (a ≠ b) && decide (a < ops.length) && decide (b < ops.length) && (List.range ops.length).all fun i => decide (i = a) || decide (i = b) || (match ops[i]? with | some o => stillOp o.op | none => true)) && (p.ck (addE ops b a) && q.ck (swapE a b (addE ops a b)))
  | .swp a b p, ops => (decide (a ≠ b) && decide (a < ops.length) && decide (b < ops.length)) && p.ck (swapE a b ops)

def Plan.ob (C : Cx) (K : St → Prop) (s : St) : Plan → List Oper → Prop
  | .leaf eff lo na, ops => adraw ⟨C, ops.toArray, eff, lo, na, K⟩ ops [] [(s.H, s.T, 0)] (prune C.nv s.e)
  | .both a b p q, ops => p.ob C K s (addE ops b a) ∧ q.ob C K s (swapE a b (addE ops a b))
  | .swp a b p, ops => p.ob C K s (swapE a b ops)

theorem Plan.game {C : Cx} {Q : Exit → St → Prop} {s : St} (K : St → Prop) (L0 : Lay) (w0 : World) (a0 : Act) (hc0 : ConSt C s L0 w0 a0) : ∀ (p : Plan) (ops : List Oper), p.ck ops = true → p.ob C K s ops →
    wpAny C.P .any ops.toArray (Post C (ExitK K Q) L0 s w0) ops.toArray.size (Array.replicate ops.toArray.size false) a0 { w0 with drawn := w0.drawn + 1 } := by
  intro p
  induction p with
  | leaf eff lo na =>
    intro ops hck h
    simp only [Plan.ck, Bool.and_eq_true] at hck
    exact draw_game (Q := Q) K eff lo na hck.1 hck.2 h L0 w0 a0 hc0
  | both a b p q ihp ihq =>
    intro ops hck h
    simp only [Plan.ck, Bool.and_eq_true, decide_eq_true_eq, List.all_eq_true] at hck
    obtain ⟨⟨⟨⟨hab, ha⟩, hb⟩, hst⟩, hp, hq⟩ := hck
    have g1 := ihp _ hp h.1
    have g2 := ihq _ hq h.2
    have l1 : (addE ops b a).toArray.size = ops.toArray.size := by simp [addE]
    have l2 : (swapE a b (addE ops a b)).toArray.size = ops.toArray.size := by simp [addE, swapE]
    have l3 : (addE ops a b).length = ops.length := by simp [addE]
    rw [l1] at g1
    rw [l2] at g2
    have g3 := swapE_game (ops := addE ops a b) hab (by rw [l3]; exact ha) (by rw [l3]; exact hb) _ (Array.replicate ops.toArray.size false) (Array.replicate ops.toArray.size false) _ _ (by simp [l3]) (by simp [l3]) (fun i hi => by
      rw [l3] at hi
      have := sw_lt ha hb hi
      simp [hi, this]) g2
    exact both_game hab (fun i o ho hia hib => by
      have := hst i (List.mem_range.2 (List.getElem?_eq_some_iff.1 ho).1)
      rw [ho] at this
      simpa [hia, hib] using this) _ _ _ _ (by simp) (by simp [ha]) (by simp [hb]) g1 g3
  | swp a b p ihp =>
    intro ops hck h
    simp only [Plan.ck, Bool.and_eq_true, decide_eq_true_eq] at hck
    obtain ⟨⟨⟨hab, ha⟩, hb⟩, hp⟩ := hck
    have g2 := ihp _ hp h
    have l2 : (swapE a b ops).toArray.size = ops.toArray.size := by simp [swapE]
    rw [l2] at g2
    exact swapE_game hab ha hb _ (Array.replicate ops.toArray.size false) (Array.replicate ops.toArray.size false) _ _ (by simp) (by simp) (fun i hi => by
      have := sw_lt ha hb hi
      simp [hi, this]) g2

theorem aw_drawP {C : Cx} {id : Nat} {ops : List Oper} {Q : Exit → St → Prop} {s : St} {y : Code} (p : Plan) (hm : C.P.follows .mixedOrders = true) (hck : p.ck ops = true)
    (h : ∀ K : St → Prop, (∀ s, AW C y Q s → K s) → p.ob C K s ops) : AW C (.seq (.region id ops.toArray true) y) Q s :=
  aw_seq fun K hK => fun L0 w0 a0 hc0 => wp_region_any hm (Plan.game K L0 w0 a0 hc0 p ops hck (h K hK))
end Go.Am
