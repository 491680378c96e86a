/- Operations that neither read nor write memory, over abstract values, and that they are what the model does.
  Conditions: none; it speaks of every program. -/
import Derived.Test.YtneohapkboaplaaGreatAmGrow
import Derived.ChangeKeysEq
set_option linter.unusedVariables false
namespace Go.Am
open Go
def ofC1 : Value → AV
 | .bool b => .bool b
 | .int k n => .int k n
 | .string s => .str s.data.toList
 | .pointer none => .nilp
 | .slice _ 0 0 => .sl 0 [] .full
 | .nilFunc => .nilf
 | .nilIface => .nili
 | _ => .top
def ofC : Value → AV
 | .agg cs => if cs.all (·.oneCell') then .agg (cs.toList.map ofC1) else .top
 | v => ofC1 v
def aev (e : Env) : Operand → AV
 | .tmp t => eget e t
 | .const v => ofC v
 | .func f => .fn f [] []
 | .global _ => .top
def cellAV : AV → Bool
 | .top | .agg _ | .tup _ => false
 | _ => true
section
variable {L : Lay} {N : Nat} {T : Toks} {w : World}
theorem Rep.ofC1 (v : Value) : Rep L N T w (ofC1 v) v := by
 unfold Am.ofC1
 split
 ·exact .bool _
 ·exact .int _ _
 ·rename_i s; exact .str s.data.toList
 ·exact .nilp
 ·exact .sl0 .full _ 0 rfl
 ·exact .nilf
 ·exact .nili
 ·exact .top _
theorem Rep.ofC (v : Value) : Rep L N T w (ofC v) v := by
 unfold Am.ofC
 split
 ·rename_i cs
  split
  ·rename_i h
   rw [Array.all_eq_true] at h
   refine .agg _ cs (by simp) (fun j hj => h j hj) (fun j hj hj' => ?_)
   simp only [List.getElem_map, Array.getElem_toList]
   exact .ofC1 _
  ·exact .top _
 ·exact .ofC1 _
theorem EnvRep.aev {e : Env} {a : Act} (h : EnvRep L N T w e a) (x : Operand) : Rep L N T w (aev e x) (a.eval x) := by
 cases x with
 | tmp t => exact h t
 | const v => exact .ofC v
 | func f => exact .fn f [] [] #[] #[] rfl rfl (fun j hj => by simp at hj) (fun j hj => by simp at hj)
 | global g => exact .top _
theorem Rep.int_inv {k : IntKind} {n : Int} {c : Value} (h : Rep L N T w (.int k n) c) : c = .int k n := by cases h; rfl
theorem Rep.bool_inv {b : Bool} {c : Value} (h : Rep L N T w (.bool b) c) : c = .bool b := by cases h; rfl
theorem Rep.str_inv {s : List UInt8} {c : Value} (h : Rep L N T w (.str s) c) : c = .string ⟨s.toArray⟩ := by cases h; rfl
theorem Rep.nili_inv {c : Value} (h : Rep L N T w .nili c) : c = .nilIface := by cases h; rfl
theorem Rep.ifc_inv {c : Value} (h : Rep L N T w .ifc c) : ∃ t v, c = .iface t v := by cases h; exact ⟨_, _, rfl⟩
theorem Rep.ptr_inv {i o : Nat} {c : Value} (h : Rep L N T w (.ptr i o) c) : c = .pointer (some ⟨L.phi i, o, none⟩) ∧ i < N := by cases h; exact ⟨rfl, ‹_›⟩
theorem Rep.cell {v : AV} {c : Value} (h : Rep L N T w v c) (hc : cellAV v = true) : c.oneCell' = true := by
 cases h <;> simp [cellAV] at hc <;> rfl
end
def Good (P : Program) (x : Sem Next) (H : List Blk) (T : Toks) (L : Lay) (w : World) (r : AV) (H' : List Blk) (T' : Toks) : Prop :=
 ∃ n cv w' L', x.run P w = .ok n w' ∧ (n = .value cv ∨ (n = .skip ∧ cv = undef)) ∧ Con L' H' T' w' ∧ Rep L' H'.length T' w' r cv ∧ Ev H.length T.length L H.length T w L' H'.length T' w'
theorem Good.now {P : Program} {x : Sem Next} {H : List Blk} {T : Toks} {L : Lay} {w : World} {r : AV} {cv : Value} (hc : Con L H T w) (hx : x.run P w = .ok (.value cv) w) (hr : Rep L H.length T w r cv) : Good P x H T L w r H T :=
 ⟨_, cv, w, L, hx, .inl rfl, hc, hr, Ev.refl (Nat.le_refl _) (Nat.le_refl _)⟩
def aint (op : BinOp) (k : IntKind) (a b : Int) : Option AV :=
 match op with
 | .add => some (.int k (k.wrap (a + b)))
 | .sub => some (.int k (k.wrap (a - b)))
 | .mul => some (.int k (k.wrap (a * b)))
 | .quo => if b = 0 then none else some (.int k (k.wrap (a.tdiv b)))
 | .rem => if b = 0 then none else some (.int k (a.tmod b))
 | .and => some (.int k (bits .and k a b))
 | .or => some (.int k (bits .or k a b))
 | .xor => some (.int k (bits .xor k a b))
 | .andNot => some (.int k (bits .andNot k a b))
 | .eql => some (.bool (a == b))
 | .neq => some (.bool (a != b))
 | .lss => some (.bool (decide (a < b)))
 | .leq => some (.bool (decide (a ≤ b)))
 | .gtr => some (.bool (decide (a > b)))
 | .geq => some (.bool (decide (a ≥ b)))
 | _ => none
def astr (op : BinOp) (a b : List UInt8) : Option AV :=
 match op with
 | .add => if a.length + b.length ≤ 9223372036854775807 then some (.str (a ++ b)) else none
 | .eql => some (.bool (a == b))
 | .neq => some (.bool (!(a == b)))
 | .lss => some (.bool (Op.bytesLess a b))
 | .leq => some (.bool (Op.bytesLess a b || a == b))
 | .gtr => some (.bool (!(Op.bytesLess a b || a == b)))
 | .geq => some (.bool (!Op.bytesLess a b))
 | _ => none
def abin (op : BinOp) (x y : AV) : Option AV :=
 match x, y with
 | .int k a, .int k' b =>
  match op with
  | .shl => if 0 ≤ b then some (.int k (k.wrap (a * 2 ^ min b.toNat k.bits))) else none
  | .shr => if 0 ≤ b then some (.int k (a.fdiv (2 ^ min b.toNat k.bits))) else none
  | op => if k = k' then aint op k a b else none
 | .str a, .str b => astr op a b
 | .bool a, .bool b => match op with
  | .eql => some (.bool (a == b))
  | .neq => some (.bool (!(a == b)))
  | _ => none
 | .nilp, .nilp => match op with | .eql => some (.bool true) | .neq => some (.bool false) | _ => none
 | .ptr _ _, .nilp | .vptr _ _, .nilp | .nilp, .ptr _ _ | .nilp, .vptr _ _ => match op with | .eql => some (.bool false) | .neq => some (.bool true) | _ => none
 | _, _ => none
def aun (op : UnOp) (x : AV) : Option AV :=
 match op, x with
 | .neg, .int k n => some (.int k (k.wrap (0 - n)))
 | .xor, .int k n => some (.int k (bits .xor k (if k.signed then -1 else k.max) n))
 | .not, .bool b => some (.bool (!b))
 | _, _ => none
section
variable {P : Program} {w : World}
theorem run_aint {op : BinOp} {k : IntKind} {a b : Int} {r : AV} (h : aint op k a b = some r) (t : TypeId) (h1 : op ≠ .shl) (h2 : op ≠ .shr) :
  ∃ cv, (binOp op t (.int k a) (.int k b)).run P w = .ok cv w ∧ ∀ (L : Lay) (N : Nat) (T : Toks) (w' : World), Rep L N T w' r cv := by
 cases op <;> simp only [aint, Option.some.injEq, reduceCtorEq] at h
 case quo =>
  split at h
  ·cases h
  ·rename_i hb
   cases h
   exact ⟨_, by simp [binOp, Op.intDiv, hb], fun _ _ _ _ => .int _ _⟩
 case rem =>
  split at h
  ·cases h
  ·rename_i hb
   cases h
   exact ⟨_, by simp [binOp, Op.intDiv, hb], fun _ _ _ _ => .int _ _⟩
 all_goals
  subst h
  first
   | exact ⟨_, by simp [binOp, Op.intArith]; rfl, fun _ _ _ _ => .int _ _⟩
   | exact ⟨_, by simp [binOp, Op.intCmp], fun _ _ _ _ => .bool _⟩
   | exact ⟨_, by simp [binOp, Op.intBits]; rfl, fun _ _ _ _ => .int _ _⟩
theorem toList_mk (s : List UInt8) : (⟨s.toArray⟩ : ByteArray).toList = s := by
 rw [show (⟨s.toArray⟩ : ByteArray).toList = (⟨s.toArray⟩ : ByteArray).data.toList from ByteArray.toList_eq _]
theorem mk_append (a b : List UInt8) : (⟨a.toArray⟩ : ByteArray) ++ ⟨b.toArray⟩ = ⟨(a ++ b).toArray⟩ := by
 apply ByteArray.ext
 simp
theorem run_astr {op : BinOp} {a b : List UInt8} {r : AV} (h : astr op a b = some r) (t : TypeId) :
  ∃ cv, (binOp op t (.string ⟨a.toArray⟩) (.string ⟨b.toArray⟩)).run P w = .ok cv w ∧ ∀ (L : Lay) (N : Nat) (T : Toks) (w' : World), Rep L N T w' r cv := by
 have hi : IntKind.i64.max = 9223372036854775807 := by decide
 cases op <;> simp only [astr, Option.some.injEq, reduceCtorEq] at h
 case add =>
  split at h
  ·rename_i hb
   cases h
   refine ⟨.string ⟨(a ++ b).toArray⟩, ?_, fun _ _ _ _ => .str _⟩
   have : ¬ ((a.length + b.length : Nat) : Int) > IntKind.i64.max := by rw [hi]; omega
   simp only [binOp, Op.stringOp]
   rw [if_neg (by simpa [ByteArray.size] using this), mk_append]
   rfl
  ·cases h
 all_goals
  subst h
  exact ⟨_, by simp only [binOp, Op.stringOp, toList_mk]; rfl, fun _ _ _ _ => .bool _⟩
theorem run_eqGuard_int (op : BinOp) (t : TypeId) (x y : Operand) (a b : Value) (h : (∀ cs, a ≠ .agg cs) ∧ a ≠ .nilIface) : (eqGuard op t x y a b).run P w = .ok () w := by
 unfold eqGuard
 cases a <;> first | exact absurd rfl h.2 | exact absurd rfl (h.1 _) | (cases op <;> simp)
theorem run_aun {op : UnOp} {x r : AV} {c : Value} {L : Lay} {N : Nat} {T : Toks} (h : aun op x = some r) (hx : Rep L N T w x c) :
  ∃ cv, (Op.unary op c).run P w = .ok cv w ∧ ∀ (L : Lay) (N : Nat) (T : Toks) (w' : World), Rep L N T w' r cv := by
 unfold aun at h
 split at h
 ·cases h; rw [hx.int_inv]; exact ⟨_, rfl, fun _ _ _ _ => .int _ _⟩
 ·cases h; rw [hx.int_inv]; exact ⟨_, rfl, fun _ _ _ _ => .int _ _⟩
 ·cases h; rw [hx.bool_inv]; exact ⟨_, rfl, fun _ _ _ _ => .bool _⟩
 ·cases h
def eqType (P : Program) (t : TypeId) (x : AV) : Bool :=
 match P.underlying t, x with
 | some .bool, .bool _ => true
 | some (.pointer _), .nilp | some (.pointer _), .ptr _ _ | some (.pointer _), .vptr _ _ => true
 | some _, .int _ _ | some _, .str _ => true
 | _, _ => false
theorem run_eql (t : TypeId) (x y : Value) (b : Bool) (op : BinOp) (ho : op = .eql ∨ op = .neq) (hb : binOp .eql t x y = (do pure (.bool (← Op.equal t x y)))) (hb' : binOp .neq t x y = (do pure (.bool (!(← Op.equal t x y)))))
  (h : ∀ d : Nat, (Op.equalIn (d + 1) t x y).run P w = .ok b w) : (binOp op t x y).run P w = .ok (.bool (if op = .eql then b else !b)) w := by
 have h1 : (Op.equal t x y).run P w = .ok b w := h 9999
 rcases ho with rfl | rfl
 ·rw [hb]; simp only [Sem.run_bind, h1, Result.andThen_ok]; rfl
 ·rw [hb']; simp only [Sem.run_bind, h1, Result.andThen_ok]; rfl
theorem run_abin {op : BinOp} {x y r : AV} {cx cy : Value} {L : Lay} {N : Nat} {T : Toks} (t : TypeId) (h : abin op x y = some r) (ht : eqType P t x = true) (hx : Rep L N T w x cx) (hy : Rep L N T w y cy) (ox oy : Operand) :
    ∃ cv, (eqGuard op t ox oy cx cy >>= fun _ => binOp op t cx cy).run P w = .ok cv w ∧ ∀ (L : Lay) (N : Nat) (T : Toks) (w' : World), Rep L N T w' r cv := by
  have hg : (∀ cs, cx ≠ .agg cs) ∧ cx ≠ .nilIface := by
    cases hx <;> first | (exfalso; simp [eqType] at ht; done) | exact ⟨fun _ e => (by cases e), fun e => (by cases e)⟩
  simp only [Sem.run_bind, run_eqGuard_int op t ox oy cx cy hg, Result.andThen_ok]
  unfold abin at h
  split at h
  · rw [hx.int_inv, hy.int_inv]
    split at h
    · split at h
      · rename_i hb
        cases h
        refine ⟨_, ?_, fun _ _ _ _ => .int _ _⟩
        simp only [binOp, Op.shift]
        rw [if_neg (by omega)]
        rfl
      · cases h
    · split at h
      · rename_i hb
        cases h
        refine ⟨_, ?_, fun _ _ _ _ => .int _ _⟩
        simp only [binOp, Op.shift]
        rw [if_neg (by omega)]
        rfl
      · cases h
    · split at h
      · rename_i hk
        subst hk
        exact run_aint h t ‹_› ‹_›
      · cases h
  · rw [hx.str_inv, hy.str_inv]
    exact run_astr h t
  · rename_i a b
    rw [hx.bool_inv, hy.bool_inv]
    have hu : P.underlying t = some .bool := by
      unfold eqType at ht; split at ht <;> simp_all
    have he : ∀ d : Nat, (Op.equalIn (d + 1) t (.bool a) (.bool b)).run P w = .ok (a == b) w := fun d => by simp [Op.equalIn, run_underlying hu]
    split at h <;> cases h
    · exact ⟨_, run_eql t _ _ _ .eql (.inl rfl) rfl rfl he, fun _ _ _ _ => .bool _⟩
    · exact ⟨_, run_eql t _ _ _ .neq (.inr rfl) rfl rfl he, fun _ _ _ _ => .bool _⟩
  all_goals first
    | (have hu : ∃ e, P.underlying t = some (.pointer e) := by
        unfold eqType at ht; split at ht <;> simp_all
       obtain ⟨e, hu⟩ := hu
       cases hx
       cases hy
       split at h <;> cases h
       · exact ⟨_, run_eql t _ _ _ .eql (.inl rfl) rfl rfl (fun d => by simp only [Op.equalIn, Sem.run_bind, run_underlying hu, Result.andThen_ok]; rfl), fun _ _ _ _ => .bool _⟩
       · exact ⟨_, run_eql t _ _ _ .neq (.inr rfl) rfl rfl (fun d => by simp only [Op.equalIn, Sem.run_bind, run_underlying hu, Result.andThen_ok]; rfl), fun _ _ _ _ => .bool _⟩)
    | cases h
end
end Go.Am
