/- Conversions, composite values, new slices, and append, over abstract values; they are what the model does.
  Conditions: none; it speaks of every program. -/
import Derived.Test.YtneohapkboaplaaGreatAmIdx
set_option linter.unusedVariables false
namespace Go.Am
open Go
def encB (s : List UInt8) : List AV := s.map fun b => .int .u8 (b.toNat : Int)
def toU8 : AV → Option UInt8
 | .int .u8 n => some (UInt8.ofNat n.toNat)
 | _ => none
def bytesOf (cs : List AV) : Option (List UInt8) := cs.mapM toU8
theorem bytesOf_encB (s : List UInt8) : bytesOf (encB s) = some s := by
 induction s with
 | nil => rfl
 | cons b r ih =>
  unfold bytesOf encB at ih ⊢
  simp only [List.map_cons, List.mapM_cons, ih]
  simp [toU8]
def asrc (H : List Blk) (z : Nat) (x : AV) : Option (Nat × List AV) :=
 match x with
 | .sl m cs _ => if cs.length = m * z then some (m, cs) else none
 | .msl i o m => match H[i]? with
  | some (.cells vs) => if o + m * z ≤ vs.length then some (m, (vs.drop o).take (m * z)) else none
  | _ => none
 | .str s => if z = 1 then some (s.length, encB s) else none
 | _ => none
section
variable {P : Program} {L : Lay} {H : List Blk} {T : Toks} {w : World}
theorem encB_rep (s : List UInt8) : RepC L H.length T w (encB s) (s.map fun b => Value.int .u8 (b.toNat : Int)) := by
 refine ⟨by simp [encB], fun j hj => by simp [Value.oneCell'], fun j hj hj' => ?_⟩
 simp only [encB, List.getElem_map]
 exact .int _ _
theorem run_src {z : Nat} {x : AV} {c : Value} {m : Nat} {ys : List AV} (hc : Con L H T w) (hx : Rep L H.length T w x c) (h : asrc H z x = some (m, ys)) :
  ∃ cv : List Value, ys.length = m * z ∧ RepC L H.length T w ys cv ∧ (Builtin.lenOf c).run P w = .ok m w ∧ (Builtin.firstCells z m c).run P w = .ok cv.toArray w := by
 unfold asrc at h
 split at h
 ·rename_i m' cs tg
  split at h
  ·rename_i hl
   cases h
   obtain ⟨a, cap, rfl, hcap, _, ⟨rfl, rfl⟩ | ⟨b, base, cv, rfl, hm, hr, hcell⟩⟩ := hx.sl_inv
   ·refine ⟨[], hl, RepC.nil, rfl, ?_⟩
    cases a with
    | none => rfl
    | some a => simp [Builtin.firstCells, loadCells, loadCellsFrom]
   ·have hcv := hr.1
    refine ⟨cv, hl, hr, rfl, ?_⟩
    have := run_loadCells_list (P := P) w ⟨b, base, none⟩ cv (fun j v hj => by
     have hlt := (List.getElem?_eq_some_iff.1 hj).1
     rw [addr_add, hcell j (by omega)]; exact hj)
    simp only [Builtin.firstCells]
    rw [← hl, ← hcv]; exact this
  ·cases h
 ·rename_i i o m'
  split at h
  ·rename_i vs hi
   split at h
   ·rename_i hl
    cases h
    obtain ⟨cap, rfl, hcap, hlt⟩ := hx.msl_inv
    obtain ⟨c, hr, hcell⟩ := (hc.box i _ hi).at
    refine ⟨(c.toList.drop o).take (m * z), ?_, (hr.drop o).take _, rfl, ?_⟩
    ·simp; omega
    ·have hlen : ((c.toList.drop o).take (m * z)).length = m * z := by have := hr.1; simp at this ⊢; omega
     have := run_loadCells_list (P := P) w ⟨L.phi i, o, none⟩ ((c.toList.drop o).take (m * z)) (fun j v hj => by
      have hlt := (List.getElem?_eq_some_iff.1 hj).1
      have hlt' : j < m * z := by omega
      rw [List.getElem?_take, if_pos hlt', List.getElem?_drop] at hj
      rw [addr_add, hcell]; simpa using hj)
     simp only [Builtin.firstCells]
     rw [hlen] at this; exact this
   ·cases h
  ·cases h
 ·rename_i s
  split at h
  ·rename_i hz
   cases h
   rw [hx.str_inv]
   refine ⟨s.map fun b => Value.int .u8 (b.toNat : Int), by simp [encB, hz], encB_rep s, by simp [Builtin.lenOf, ByteArray.size], ?_⟩
   have e : (⟨s.toArray⟩ : ByteArray).extract 0 s.length = ⟨s.toArray⟩ := by rw [ByteArray.extract_mk]; simp
   simp [Builtin.firstCells, e]
  ·cases h
 ·cases h
theorem bytesOf_rep {N : Nat} : ∀ {cs : List AV} {cv : List Value} {s : List UInt8}, RepC L N T w cs cv → bytesOf cs = some s → ∃ ns : List Int, cv = ns.map (Value.int .u8) ∧ s = ns.map fun n => UInt8.ofNat n.toNat := by
 intro cs
 induction cs with
 | nil => intro cv s hr h; cases h; exact ⟨[], List.eq_nil_of_length_eq_zero hr.1, rfl⟩
 | cons x r ih =>
  intro cv s hr h
  match cv, hr with
  | c :: cr, hr =>
   have h0 : Rep L N T w x c := hr.2.2 0 (by simp) (by simp)
   have hrr : RepC L N T w r cr := by simpa using hr.drop 1
   unfold bytesOf at h
   rw [List.mapM_cons] at h
   cases hx : toU8 x with
   | none => rw [hx] at h; cases h
   | some b =>
    cases hy : r.mapM toU8 with
    | none => rw [hx, hy] at h; cases h
    | some bs =>
     rw [hx, hy] at h
     cases h
     obtain ⟨ns, e1, e2⟩ := ih hrr hy
     unfold toU8 at hx
     split at hx
     ·rename_i nn hh
      cases hx
      rw [h0.int_inv]
      exact ⟨nn :: ns, by simp [e1], by simp [e2]⟩
     ·cases hx
  | [], hr => simp [RepC] at hr
def isSl : AV → Bool
 | .sl _ _ _ | .msl _ _ _ => true
 | _ => false
def aconv (P : Program) (H : List Blk) (src dst : TypeId) (x : AV) : Option AV :=
 match P.underlying src, P.underlying dst, x with
 | some _, some (.int k), .int _ n => some (.int k (k.wrap n))
 | some _, some .string, .int _ n => some (.str (Utf8.encode n).data.toList)
 | some _, some .string, .str s => some (.str s)
 | some (.slice e), some .string, x =>
  match P.underlying e with
  | some (.int .u8) => if isSl x then (match asrc H 1 x with
   | some (_, cs) => (bytesOf cs).map .str
   | none => none) else none
  | _ => none
 | _, _, _ => none
theorem run_conv {src dst : TypeId} {x r : AV} {c : Value} (hc : Con L H T w) (h : aconv P H src dst x = some r) (hx : Rep L H.length T w x c) : ∃ cv, (convert src dst c).run P w = .ok cv w ∧ Rep L H.length T w r cv := by
 unfold aconv at h
 split at h
 ·rename_i d k k' n h1 h2
  cases h
  rw [hx.int_inv]
  exact ⟨_, by simp only [convert, Sem.run_bind, run_underlying h1, run_underlying h2, Result.andThen_ok]; cases d <;> rfl, .int _ _⟩
 ·rename_i d k' n h1 h2
  cases h
  rw [hx.int_inv]
  exact ⟨.string ⟨(Utf8.encode n).data.toList.toArray⟩, by simp only [convert, Sem.run_bind, run_underlying h1, run_underlying h2, Result.andThen_ok]; cases d <;> rfl, .str _⟩
 ·rename_i d s h1 h2
  cases h
  rw [hx.str_inv]
  exact ⟨_, by simp only [convert, Sem.run_bind, run_underlying h1, run_underlying h2, Result.andThen_ok]; cases d <;> rfl, .str _⟩
 ·rename_i e _ _ h1 h2 _ _
  split at h
  ·rename_i he
   split at h
   ·rename_i hsl0
    split at h
    ·rename_i m cs hs
     cases hb : bytesOf cs with
     | none => rw [hb] at h; cases h
     | some s =>
      rw [hb] at h
      cases h
      obtain ⟨cv, hl, hr, hlen, hfirst⟩ := run_src (P := P) hc hx hs
      obtain ⟨ns, e1, e2⟩ := bytesOf_rep hr hb
      have hsl : ∃ a n cap, c = .slice a n cap := by
       cases hx <;> first | exact ⟨_, _, _, rfl⟩ | (simp [isSl] at hsl0; done)
      obtain ⟨a, n, cap, rfl⟩ := hsl
      have hn : n = m := by
       simp [Builtin.lenOf] at hlen; exact hlen
      subst hn
      refine ⟨.string ⟨s.toArray⟩, ?_, .str s⟩
      rw [run_convert_bytes_string w src dst _ a n cap h1 he h2]
      cases a with
      | none =>
       simp [Builtin.firstCells] at hfirst
       subst hfirst
       cases ns with
       | nil => subst e2; rfl
       | cons _ _ => cases e1
      | some a =>
       simp only [Builtin.firstCells, Nat.mul_one] at hfirst
       rw [e1] at hfirst
       rw [run_bytesToString w a n cap ns hfirst, foldl_push_bytes]
       subst e2
       simp
    ·cases h
   ·cases h
  ·cases h
 ·cases h
theorem run_bytes {src dst e : TypeId} {s : List UInt8} {c : Value} (hc : Con L H T w) (h1 : P.underlying src = some .string) (h2 : P.underlying dst = some (.slice e)) (h3 : P.underlying e = some (.int .u8)) (hx : Rep L H.length T w (.str s) c) :
  ∃ cv w' L', (convert src dst c).run P w = .ok cv w' ∧ Con L' H T w' ∧ Rep L' H.length T w' (.sl s.length (encB s) .none) cv ∧ Ev H.length T.length L H.length T w L' H.length T w' := by
 rw [hx.str_inv]
 have hsz : (⟨s.toArray⟩ : ByteArray).size = s.length := by simp [ByteArray.size]
 obtain ⟨cap, hcap, hle⟩ : ∃ cap, (Question.appendCap s.length 0 e).cut (w.tape w.drawn (.appendCap s.length 0 e)) = cap ∧ s.length ≤ cap := ⟨_, rfl, by simp [Question.cut]⟩
 let cells : Array Value := (s.map fun b => Value.int .u8 (b.toNat : Int)).toArray ++ Array.replicate (cap - s.length) (.int .u8 0)
 have hcs : cells.size = cap := by simp [cells]; omega
 have hd : Con L H T w.drew := hc.drew rfl
 have ed : Ev H.length T.length L H.length T w L H.length T w.drew := Ev.drew rfl rfl rfl rfl (Nat.le_succ _)
 obtain ⟨k1, k2, k3⟩ := hd.newRow cells e (cap, cap + 1) (vs := encB s) (encB s).length (Nat.le_refl _) (by
  have : (cells.toList.take (encB s).length) = s.map fun b => Value.int .u8 (b.toNat : Int) := by
   simp [cells, encB]
  rw [this]; exact encB_rep s) s.length cap hle .none (.inl rfl)
 refine ⟨_, _, _, ?_, k1, k3, ed.trans k2⟩
 simp only [convert, Sem.run_bind, run_underlying h1, run_underlying h2, run_underlying h3, Result.andThen_ok, Conv.stringToBytes, hsz, run_choose, Question.forced, Bool.false_eq_true, if_false, hcap]
 have hmap : (⟨s.toArray⟩ : ByteArray).data.map (fun b => Value.int .u8 (b.toNat : Int)) = (s.map fun b => Value.int .u8 (b.toNat : Int)).toArray := by simp
 simp only [hmap, newRow, Sem.run_bind, run_newObj, Result.andThen_ok, Sem.run_pure, markStringish, run_shape, run_freeze]
 have hsh : World.shape? { w.drew with heap := w.heap.push (.cells cells e) } w.heap.size = some (e, cap) := by
  simp [World.shape?, hcs]
 show (Result.andThen _ _) = _
 simp only [World.drew] at hsh ⊢
 rw [hsh]
 simp only [run_freeze, Result.andThen_ok, Sem.run_pure]
 congr 1
 simp only [World.freeze, World.alloc, Nat.one_ne_zero, if_false]
 congr 1
 apply Array.ext_getElem?
 intro i
 rw [Array.getElem?_modify, Array.getElem?_push, Array.getElem?_push]
 by_cases hi : w.heap.size = i
 ·subst hi; simp [cells]
 ·rw [if_neg hi, if_neg (fun e => hi e.symm), if_neg (fun e => hi e.symm)]
end
end Go.Am
