/- The library's Compare, Equal, IndexByte, Index (one byte), Cut (one byte) of byte slices as contracts of the abstract machine.
   Conditions: lengths that memory holds. -/
import Derived.Lib.BytesEntry
import Derived.Test.YtnmlpohhommagaaGreatDoorLStr
import Derived.Test.YtnmlpohhommagaaGreatDoorAmTup
import Derived.Test.YtnmlpohhommagaaGreatDoorAmFacts
namespace Go.Am
open Go
set_option linter.unusedVariables false
section
variable {P : Program} {L : Lay} {N : Nat} {T : Toks} {w : World}
theorem u8_val {x : UInt8} {v : Value} (h : Rep L N T w (.int .u8 (x.toNat : Nat)) v) : v = .int .u8 (x.toNat : Nat) := by
  generalize hk : AV.int .u8 ((x.toNat : Nat) : Int) = a at h
  cases h <;> cases hk
  rfl
theorem bytesOf_nat (s : List UInt8) : Lib.bytesOf (s.map fun x => ((x.toNat : Nat) : Int)) = s := by
  unfold Lib.bytesOf
  rw [List.map_map]
  have : ((fun x : Int => x.toNat.toUInt8) ∘ fun x : UInt8 => ((x.toNat : Nat) : Int)) = id := by
    funext x
    simp
  first
    | rw [this, List.map_id]
    | simp
/-- What the entries read off a byte slice. -/
theorem Rep.bytes {s : List UInt8} {tg : Tag} {v : Value} (h : Rep L N T w (.sl s.length (encB s) tg) v) : (Extern.Bytes.bytesOf v).run P w = .ok ⟨s.toArray⟩ w := by
  generalize hn : s.length = n at h
  generalize hc : encB s = cs at h
  cases h with
  | sl0 _ a cap ht =>
    obtain rfl : s = [] := List.eq_nil_of_length_eq_zero hn
    cases a with
    | none => rfl
    | some a => rfl
  | sl1 _ _ _ b base cap f hcap hm hf h1 hr ht =>
    subst hn
    have hl : cs.length = s.length := by rw [← hc]; simp [encB]
    have g := Lib.run_loadBytesX (P := P) w (s.map fun x => ((x.toNat : Nat) : Int)) ⟨b, base, none⟩ .empty (fun j x hj => by
      obtain ⟨hjl, hjx⟩ := List.getElem?_eq_some_iff.1 hj
      rw [List.length_map] at hjl
      rw [List.getElem_map] at hjx
      have e : (⟨b, base, none⟩ : Addr).add j = ⟨b, base + j, none⟩ := by unfold Addr.add; split <;> simp_all
      rw [e, hf j (by omega)]
      have h2 := hr j (by omega)
      have h3 : cs[j]'(by omega) = .int .u8 ((s[j].toNat : Nat) : Int) := by
        subst hc
        simp [encB]
      rw [h3] at h2
      rw [u8_val h2, hjx])
    rw [List.length_map] at g
    show (Extern.Bytes.loadBytes ⟨b, base, none⟩ s.length .empty).run P w = _
    rw [g, bytesOf_nat]
    congr 1
    apply ByteArray.ext
    show (#[] : Array UInt8) ++ s.toArray = s.toArray
    simp
end
end Go.Am
namespace Lst
open Go.Lib
theorem index1_none {c : UInt8} : ∀ {s : List UInt8}, cutL c s = none → indexByte s c = -1
  | [], _ => rfl
  | b :: l, h => by
    rw [cutL_cons] at h
    split at h
    · cases h
    · rename_i hb
      rw [Option.map_eq_none_iff] at h
      have hp : (b == c) = false := beq_eq_false_iff_ne.2 hb
      rw [indexByte, hp, index1_none h]
      rfl
theorem index1_some {c : UInt8} : ∀ {s : List UInt8} {x : List UInt8 × List UInt8}, cutL c s = some x → indexByte s c = x.1.length ∧ s = x.1 ++ c :: x.2
  | [], x, h => by cases h
  | b :: l, x, h => by
    rw [cutL_cons] at h
    split at h
    · rename_i hb
      subst hb
      cases h
      refine ⟨?_, rfl⟩
      rw [indexByte]
      simp
    · rename_i hb
      rw [Option.map_eq_some_iff] at h
      obtain ⟨y, hy, rfl⟩ := h
      obtain ⟨h1, h2⟩ := index1_some hy
      have hp : (b == c) = false := beq_eq_false_iff_ne.2 hb
      have hne : ((y.1.length : Int) == -1) = false := beq_eq_false_iff_ne.2 (by omega)
      refine ⟨?_, by rw [List.cons_append, ← h2]⟩
      rw [indexByte, hp, h1, hne]
      simp
end Lst
namespace Go.Proofs.YtnmlpohhommagaaGreatDoor
open Go Go.Am Go.Shelf Lst
set_option linter.unusedVariables false
set_option maxRecDepth 100000

theorem run_compareV {v u : Value} {x y : List UInt8} {w : World} (h0 : (Extern.Bytes.bytesOf v).run Tryz.prog w = .ok ⟨x.toArray⟩ w) (h1 : (Extern.Bytes.bytesOf u).run Tryz.prog w = .ok ⟨y.toArray⟩ w) :
    (Extern.BytealgCompare.compare #[v, u]).run Tryz.prog w = .ok (.int .i64 (Lib.compareBytes x y)) w := by
  change Sem.run Tryz.prog (do pure (goInt (Extern.BytealgCompare.cmp (← Extern.Bytes.bytesOf v) (← Extern.Bytes.bytesOf u)))) w = _
  simp only [Sem.run_bind, Sem.run_pure, h0, h1, Result.andThen]
  rw [Lib.cmp_eq]
  rfl

set_option maxHeartbeats 1000000 in
theorem compareB_ok (x y : List UInt8) (t1 t2 : Tag) (H : List Blk) (T : Toks) :
    ACall Tryz.prog 17 [.sl x.length (encB x) t1, .sl y.length (encB y) t2] H T (Is (.int .i64 (Lib.compareBytes x y)) H T) := by
  refine ⟨fun _ _ => Tryz.call17 _ _, fun L w ca hc hl hr => ?_⟩
  obtain ⟨v, u, rfl⟩ := two hl
  have h0 := (show Rep L H.length T w (.sl x.length (encB x) t1) v from hr 0 (by simp) (by simp)).bytes (P := Tryz.prog)
  have h1 := (show Rep L H.length T w (.sl y.length (encB y) t2) u from hr 1 (by simp) (by simp)).bytes (P := Tryz.prog)
  have h : Calls Tryz.prog 17 #[v, u] w fun e w' => e = .returned (.int .i64 (Lib.compareBytes x y)) ∧ w' = w := by
    go_enter Tryz.func17, Tryz.ntmps17
    go_wp2
    rw [run_callFunc_extern Tryz.func40 (by kernel_rfl) (by kernel_rfl) (by kernel_rfl) (e := Extern.BytealgCompare.compare) (by kernel_rfl), run_compareV h0 h1]
    simp only [Result.andThen]
    rw [Oper.upon_value]
    go_wp2
    go_ret
    exact ⟨rfl, rfl⟩
  refine Calls.mono h ?_
  rintro e w' ⟨rfl, rfl⟩
  exact ⟨_, H, T, L, _, ⟨rfl, rfl, rfl⟩, rfl, hc, .int _ _, Ev.refl (Nat.le_refl _) (Nat.le_refl _)⟩

theorem run_indexByteV {v : Value} {s : List UInt8} {w : World} (h0 : (Extern.Bytes.bytesOf v).run Tryz.prog w = .ok ⟨s.toArray⟩ w) (cv : Int) :
    (Extern.BytealgIndexByte.indexByte #[v, .int .u8 cv]).run Tryz.prog w = .ok (.int .i64 (Lib.indexByte s cv.toNat.toUInt8)) w := by
  have hs := Lib.run_indexByteString (P := Tryz.prog) ⟨s.toArray⟩ cv w
  change Sem.run Tryz.prog (do
    let b ← Extern.Bytes.bytesOf v
    let c ← Extern.Bytes.asByte (.int .u8 cv)
    match (List.range b.size).find? fun i => b[i]! == c with
    | some i => pure (goInt i)
    | none => pure (goInt (-1))) w = _
  change Sem.run Tryz.prog (do
    let b ← Extern.Bytes.bytesOf (.string ⟨s.toArray⟩)
    let c ← Extern.Bytes.asByte (.int .u8 cv)
    match (List.range b.size).find? fun i => b[i]! == c with
    | some i => pure (goInt i)
    | none => pure (goInt (-1))) w = _ at hs
  have h1 : (Extern.Bytes.bytesOf (.string ⟨s.toArray⟩)).run Tryz.prog w = .ok ⟨s.toArray⟩ w := rfl
  simp only [Sem.run_bind, h0, h1, Result.andThen] at hs ⊢
  exact hs

set_option maxHeartbeats 1000000 in
theorem indexByteB_ok (s : List UInt8) (c : UInt8) (t1 : Tag) (H : List Blk) (T : Toks) :
    ACall Tryz.prog 115 [.sl s.length (encB s) t1, .int .u8 (c.toNat : Nat)] H T (Is (.int .i64 (Lib.indexByte s c)) H T) := by
  refine ⟨fun _ _ => Tryz.call115 _ _, fun L w ca hc hl hr => ?_⟩
  obtain ⟨v, u, rfl⟩ := two hl
  have h0 := (show Rep L H.length T w (.sl s.length (encB s) t1) v from hr 0 (by simp) (by simp)).bytes (P := Tryz.prog)
  obtain rfl := u8_val (show Rep L H.length T w (.int .u8 (c.toNat : Nat)) u from hr 1 (by simp) (by simp))
  have h : Calls Tryz.prog 115 #[v, .int .u8 (c.toNat : Nat)] w fun e w' => e = .returned (.int .i64 (Lib.indexByte s c)) ∧ w' = w := by
    have hcc : ((c.toNat : Nat) : Int).toNat.toUInt8 = c := by simp
    go_enter Tryz.func115, Tryz.ntmps115
    go_wp2
    rw [run_callFunc_extern Tryz.func129 (by kernel_rfl) (by kernel_rfl) (by kernel_rfl) (e := Extern.BytealgIndexByte.indexByte) (by kernel_rfl), run_indexByteV h0, hcc]
    simp only [Result.andThen]
    rw [Oper.upon_value]
    go_wp2
    go_ret
    exact ⟨rfl, rfl⟩
  refine Calls.mono h ?_
  rintro e w' ⟨rfl, rfl⟩
  exact ⟨_, H, T, L, _, ⟨rfl, rfl, rfl⟩, rfl, hc, .int _ _, Ev.refl (Nat.le_refl _) (Nat.le_refl _)⟩

set_option maxHeartbeats 4000000 in
theorem indexB_ok (s : List UInt8) (c : UInt8) (t1 t2 : Tag) (H : List Blk) (T : Toks) :
    ACall Tryz.prog 98 [.sl s.length (encB s) t1, .sl 1 (encB [c]) t2] H T (Is (.int .i64 (Lib.indexByte s c)) H T) := by
  refine ACall.untag1 (ACall.untag2 ?_)
  show ACall _ _ [.sl s.length (encB s) .none, .sl 1 [.int .u8 (c.toNat : Nat)] .none] _ _ _
  have cb := indexByteB_ok s c .none H T
  refine acall_enter 40 [] Tryz.ntmps98 Tryz.func98 rfl (fun _ _ => Tryz.call98 _ _) (by simp) (fun HO => ?_)
  refine aw_reg fun K hK => ?_; simp (maxSteps := 1000000) (disch := omega) [-List.getD_eq_getElem?_getD]; refine hK _ ?_; clear hK K
  refine aw_reg fun K hK => ?_; simp (maxSteps := 1000000) (disch := omega) [-List.getD_eq_getElem?_getD]; refine hK _ ?_; clear hK K
  refine aw_then fun K1 hK1 => ?_
  refine aw_block ?_
  refine aw_reg fun K hK => ?_; simp (maxSteps := 1000000) (disch := omega) [-List.getD_eq_getElem?_getD]; refine hK _ ?_; clear hK K
  refine aw_if rfl (fun h => absurd h (by simp)) (fun h => ?_)
  refine aw_reg fun K hK => ?_; simp (maxSteps := 1000000) (disch := omega) [-List.getD_eq_getElem?_getD]; refine hK _ ?_; clear hK K
  refine aw_if rfl (fun h => ?_) (fun h => absurd h (by simp))
  refine aw_reg fun K hK => ?_; simp (maxSteps := 1000000) (disch := omega) [-List.getD_eq_getElem?_getD]
  refine acall_is (cb) ?_; simp (maxSteps := 1000000) (disch := omega) [-List.getD_eq_getElem?_getD]
  refine hK _ ?_; clear hK K
  refine aw_ret ?_; simp (maxSteps := 1000000) (disch := omega) [-List.getD_eq_getElem?_getD]
  exact ⟨rfl, rfl, rfl⟩

set_option maxHeartbeats 4000000 in
theorem cutB_ok (c : UInt8) (s : List UInt8) (hs : s.length ≤ 4611686018427387904) (t1 t2 : Tag) (H : List Blk) (T : Toks) :
    ACall Tryz.prog 83 [.sl s.length (encB s) t1, .sl 1 (encB [c]) t2] H T (Is (.tup [.sl (cutT c s).1.length (encB (cutT c s).1) .none, .sl (cutT c s).2.1.length (encB (cutT c s).2.1) .none, .bool (cutT c s).2.2]) H T) := by
  refine ACall.untag1 (ACall.untag2 ?_)
  refine ACall.dropT ?_ (by simp)
  show ACall _ _ [.sl s.length (encB s) .none, .sl 1 [.int .u8 (c.toNat : Nat)] .none] _ _ _
  have cb := indexB_ok s c .none .none H T
  rw [show encB [c] = [.int .u8 (c.toNat : Nat)] from rfl] at cb
  unfold cutT
  cases h : cutL c s with
  | none =>
    rw [index1_none h] at cb
    refine acall_enter 8 [] Tryz.ntmps83 Tryz.func83 rfl (fun _ _ => Tryz.call83 _ _) (by simp) (fun HO => ?_)
    refine aw_reg fun K hK => ?_; simp (maxSteps := 1000000) (disch := omega) [-List.getD_eq_getElem?_getD]; refine hK _ ?_; clear hK K
    refine aw_then fun K1 hK1 => ?_
    refine aw_reg fun K hK => ?_; simp (maxSteps := 1000000) (disch := omega) [-List.getD_eq_getElem?_getD]
    refine acall_is (cb) ?_; simp (maxSteps := 1000000) (disch := omega) [-List.getD_eq_getElem?_getD]
    refine hK _ ?_; clear hK K
    refine aw_reg fun K hK => ?_; simp (maxSteps := 1000000) (disch := omega) [-List.getD_eq_getElem?_getD]; refine hK _ ?_; clear hK K
    refine aw_if rfl (fun h => absurd h (by simp)) (fun h => ?_)
    refine aw_skip ?_; simp (maxSteps := 1000000) (disch := omega) [-List.getD_eq_getElem?_getD]
    refine hK1 _ ?_; clear hK1
    refine aw_reg fun K hK => ?_; simp (maxSteps := 1000000) (disch := omega) [-List.getD_eq_getElem?_getD]; refine hK _ ?_; clear hK K
    refine aw_ret ?_; simp (maxSteps := 1000000) (disch := omega) [-List.getD_eq_getElem?_getD]
  | some x =>
    obtain ⟨a, r⟩ := x
    obtain ⟨h1, h2⟩ := index1_some h
    simp only at h1 h2
    rw [h1] at cb
    have hl : s.length = a.length + 1 + r.length := by rw [h2]; simp; omega
    have e1 : (encB s).take a.length = encB a := by rw [h2]; simp [encB]
    have e0 : encB s = (encB a ++ [.int .u8 (c.toNat : Nat)]) ++ encB r := by rw [h2]; simp [encB]
    have e2 : (encB s).drop (a.length + 1) = encB r := by rw [e0]; exact List.drop_left' (by simp [encB])
    have e3 : s.length - (a.length + 1) = r.length := by omega
    have e4 : (encB r).take r.length = encB r := List.take_of_length_le (by simp [encB])
    have el : (encB s).length = s.length := by simp [encB]
    have n1 : ((a.length : Int) + 1) = ((a.length + 1 : Nat) : Int) := by omega
    have n2 : a.length ≤ s.length := by omega
    have n3 : a.length + 1 ≤ s.length := by omega
    clear h h2 e0
    generalize encB s = S at *
    refine acall_enter 8 [] Tryz.ntmps83 Tryz.func83 rfl (fun _ _ => Tryz.call83 _ _) (by simp) (fun HO => ?_)
    refine aw_reg fun K hK => ?_; simp (maxSteps := 1000000) (disch := omega) [-List.getD_eq_getElem?_getD]; refine hK _ ?_; clear hK K
    refine aw_then fun K1 hK1 => ?_
    refine aw_reg fun K hK => ?_; simp (maxSteps := 1000000) (disch := omega) [-List.getD_eq_getElem?_getD]
    refine acall_is (cb) ?_; simp (maxSteps := 1000000) (disch := omega) [-List.getD_eq_getElem?_getD]
    refine hK _ ?_; clear hK K
    refine aw_reg fun K hK => ?_; simp (maxSteps := 1000000) (disch := omega) [-List.getD_eq_getElem?_getD]; refine hK _ ?_; clear hK K
    refine aw_if rfl (fun h => ?_) (fun h => absurd h (by simp))
    refine aw_draw [] [] [] (by kernel_rfl) (by kernel_rfl) (by kernel_rfl) fun K hK => ?_
    simp (maxSteps := 1000000) (disch := omega) [-List.getD_eq_getElem?_getD, e1, e2, e3, e4, el, n2, n3]
    refine hK _ ?_; clear hK K
    refine aw_ret ?_; simp (maxSteps := 1000000) (disch := omega) [-List.getD_eq_getElem?_getD]
end Go.Proofs.YtnmlpohhommagaaGreatDoor
