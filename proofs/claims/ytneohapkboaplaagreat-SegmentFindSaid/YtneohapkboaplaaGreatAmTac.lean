/- The rules as they are used in a walk, encodings of lists, and the rewriting rules of the walk.
  Conditions: none; it speaks of every program. -/
import Derived.Test.YtneohapkboaplaaGreatAmRun
set_option linter.unusedVariables false
namespace Go.Am
open Go
theorem aw_reg {C : Cx} {id : Nat} {ops : List Oper} {y : Code} {Q : Exit → St → Prop} {s : St}
  (h : ∀ K : St → Prop, (∀ s, AW C y Q s → K s) → aops C ops.toArray K ops ⟨prune C.nv s.e, s.H, s.T⟩) : AW C (.seq (.region id ops.toArray false) y) Q s :=
 aw_seq fun K hK => aw_region (h K hK)
theorem aw_reg0 {C : Cx} {id : Nat} {ops : List Oper} {Q : Exit → St → Prop} {s : St}
  (h : ∀ K : St → Prop, (∀ s, Q .normal s → K s) → aops C ops.toArray K ops ⟨prune C.nv s.e, s.H, s.T⟩) : AW C (.region id ops.toArray false) Q s :=
 (aw_region (Q := Q) (h (fun s => Q .normal s) fun _ h => h)).mono fun e s q => by cases e <;> exact q
theorem aw_if {C : Cx} {c : Operand} {x y : Code} {Q : Exit → St → Prop} {s : St} {t : Bool} (hc : aev s.e c = .bool t) (h1 : t = true → AW C x Q s) (h2 : t = false → AW C y Q s) : AW C (.cond c x y) Q s :=
 aw_cond hc (by cases t <;> simp <;> first | exact h1 rfl | exact h2 rfl)
theorem aw_ift {C : Cx} {c : Operand} {x y : Code} {Q : Exit → St → Prop} {s : St} (hc : aev s.e c = .bool true) (h : AW C x Q s) : AW C (.cond c x y) Q s := aw_if hc (fun _ => h) (fun h => absurd h (by simp))
theorem aw_iff {C : Cx} {c : Operand} {x y : Code} {Q : Exit → St → Prop} {s : St} (hc : aev s.e c = .bool false) (h : AW C y Q s) : AW C (.cond c x y) Q s := aw_if hc (fun h => absurd h (by simp)) (fun _ => h)
theorem aw_then {C : Cx} {x y : Code} {Q : Exit → St → Prop} {s : St} (h : ∀ K : St → Prop, (∀ s, AW C y Q s → K s) → AW C x (ExitK K Q) s) : AW C (.seq x y) Q s := aw_seq h
theorem acall_is {C : Cx} {K : St → Prop} {dst : Option Tmp} {g : FuncId} {as : List AV} {s : St} {r : AV} {H' : List Blk} {T' : Toks} (h : ACall C.P g as s.H s.T (Is r H' T')) (k : putK C dst r s.e H' T' K) : ACallAt C K dst g as s :=
 ⟨_, h, fun _ _ _ ⟨e1, e2, e3⟩ => by subst e1; subst e2; subst e3; exact k⟩
@[simp] theorem wrap64 {x : Int} (h1 : -9223372036854775808 ≤ x) (h2 : x ≤ 9223372036854775807) : IntKind.i64.wrap x = x := by
 rw [IntKind.wrap_i64]; omega
@[simp] theorem wrapU64 {x : Int} (h1 : 0 ≤ x) (h2 : x ≤ 18446744073709551615) : IntKind.u64.wrap x = x := by
 show x % 18446744073709551616 = x
 exact Int.emod_eq_of_lt h1 (by omega)
def ints (xs : List Int) : List AV := xs.map (.int .i64)
def strs (xs : List (List UInt8)) : List AV := xs.map .str
section
variable {n t : Nat}
@[simp] theorem length_ints (xs : List Int) : (ints xs).length = xs.length := by simp [ints]
@[simp] theorem length_strs (xs : List (List UInt8)) : (strs xs).length = xs.length := by simp [strs]
@[simp] theorem ints_nil : ints [] = [] := rfl
@[simp] theorem strs_nil : strs [] = [] := rfl
@[simp] theorem encB_nil : encB [] = [] := rfl
theorem ints_append (a b : List Int) : ints a ++ ints b = ints (a ++ b) := by simp [ints]
theorem ints_snoc (a : List Int) (x : Int) : ints a ++ [.int .i64 x] = ints (a ++ [x]) := by simp [ints]
theorem strs_snoc (a : List (List UInt8)) (x : List UInt8) : strs a ++ [.str x] = strs (a ++ [x]) := by simp [strs]
theorem getD_ints {xs : List Int} {k : Nat} (h : k < xs.length) : (ints xs).getD k .top = .int .i64 (xs.getD k 0) := by
 simp [ints, h]
theorem getD_strs {xs : List (List UInt8)} {k : Nat} (h : k < xs.length) : (strs xs).getD k .top = .str (xs.getD k []) := by
 simp [strs, h]
def BelowAll (n t : Nat) (cs : List AV) : Prop := ∀ c ∈ cs, Below n t c
@[simp] theorem below_top : Below n t .top := .top
@[simp] theorem below_bool (b : Bool) : Below n t (.bool b) := .bool b
@[simp] theorem below_int (k : IntKind) (x : Int) : Below n t (.int k x) := .int k x
@[simp] theorem below_str (s : List UInt8) : Below n t (.str s) := .str s
@[simp] theorem below_ptr {i o : Nat} : Below n t (.ptr i o) ↔ i < n := ⟨fun h => by cases h; assumption, fun h => .ptr i o h⟩
@[simp] theorem below_msl {i o m : Nat} : Below n t (.msl i o m) ↔ i < n := ⟨fun h => by cases h; assumption, fun h => .msl i o m h⟩
@[simp] theorem below_mref {i : Nat} : Below n t (.mref i) ↔ i < n := ⟨fun h => by cases h; assumption, fun h => .mref i h⟩
@[simp] theorem below_csl {i m cap : Nat} : Below n t (.csl i m cap) ↔ i < n := ⟨fun h => by cases h; assumption, fun h => .csl i m cap h⟩
@[simp] theorem below_tup {cs : List AV} : Below n t (.tup cs) ↔ BelowAll n t cs := ⟨fun h => by cases h; assumption, fun h => .tup cs h⟩
@[simp] theorem below_sl_none {m : Nat} {cs : List AV} : Below n t (.sl m cs .none) ↔ BelowAll n t cs := ⟨fun h => by cases h; assumption, fun h => .sl m cs .none h (fun x e => by cases e)⟩
@[simp] theorem below_sl_full {m : Nat} {cs : List AV} : Below n t (.sl m cs .full) ↔ BelowAll n t cs := ⟨fun h => by cases h; assumption, fun h => .sl m cs .full h (fun x e => by cases e)⟩
@[simp] theorem below_sl_own {m k : Nat} {cs : List AV} : Below n t (.sl m cs (.own k)) ↔ BelowAll n t cs ∧ k < t :=
 ⟨fun h => by cases h with | sl _ _ _ h1 h2 => exact ⟨h1, h2 k rfl⟩, fun h => .sl m cs (.own k) h.1 (fun x e => by cases e; exact h.2)⟩
@[simp] theorem below_fn {f : FuncId} {a b : List AV} : Below n t (.fn f a b) ↔ BelowAll n t a ∧ BelowAll n t b := ⟨fun h => by cases h; exact ⟨‹_›, ‹_›⟩, fun h => .fn f a b h.1 h.2⟩
@[simp] theorem below_ints {xs : List Int} : BelowAll n t (ints xs) := by
 intro c hc
 simp only [ints, List.mem_map] at hc
 obtain ⟨x, _, rfl⟩ := hc
 exact .int _ _
@[simp] theorem below_strs {xs : List (List UInt8)} : BelowAll n t (strs xs) := by
 intro c hc
 simp only [strs, List.mem_map] at hc
 obtain ⟨x, _, rfl⟩ := hc
 exact .str _
end
@[simp] theorem belowAll_nil {n t : Nat} : BelowAll n t [] := fun _ h => by simp at h
@[simp] theorem belowAll_cons {n t : Nat} {c : AV} {cs : List AV} : BelowAll n t (c :: cs) ↔ Below n t c ∧ BelowAll n t cs := by simp [BelowAll]
@[simp] theorem belowAll_append {n t : Nat} {a b : List AV} : BelowAll n t (a ++ b) ↔ BelowAll n t a ∧ BelowAll n t b := by
 simp only [BelowAll, List.mem_append]
 exact ⟨fun h => ⟨fun c hc => h c (.inl hc), fun c hc => h c (.inr hc)⟩, fun h c hc => hc.elim (h.1 c) (h.2 c)⟩
@[simp] theorem belowAll_rep {n t k : Nat} {c : AV} (h : Below n t c) : BelowAll n t (List.replicate k c) := fun x hx => by rw [List.eq_of_mem_replicate hx]; exact h
theorem BelowAll.set {n t k : Nat} {c : AV} {cs : List AV} (h : BelowAll n t cs) (hc : Below n t c) : BelowAll n t (cs.set k c) := fun x hx => by
 rcases List.mem_or_eq_of_mem_set hx with h1 | h1
 ·exact h x h1
 ·rw [h1]; exact hc
def envLe (n t : Nat) (e : Env) : Env → Prop
 | [] => True
 | (s, v) :: r => (v = eget e s ∨ v = untag (eget e s)) ∧ Below n t v ∧ envLe n t e r
theorem envLe_get {n t : Nat} {e : Env} : ∀ {e' : Env}, envLe n t e e' → ∀ s, eget e' s = .top ∨ ((eget e' s = eget e s ∨ eget e' s = untag (eget e s)) ∧ Below n t (eget e' s)) := by
 intro e'
 induction e' with
 | nil => intro _ s; exact .inl rfl
 | cons x r ih =>
  obtain ⟨s0, v⟩ := x
  intro h s
  by_cases hs : s0 = s
  ·subst hs; simp only [eget, if_true]; exact .inr ⟨h.1, h.2.1⟩
  ·simp only [eget, if_neg hs]; exact ih h.2.2 s
@[simp] theorem aev_tmp {e : Env} {t : Tmp} : aev e (.tmp t) = eget e t := rfl
@[simp] theorem aev_const {e : Env} {v : Value} : aev e (.const v) = ofC v := rfl
@[simp] theorem aev_func {e : Env} {f : FuncId} : aev e (.func f) = .fn f [] [] := rfl
def gvB : AV → Option (Option Bool)
 | .bool b => some (some b)
 | .tup [] => some none
 | _ => none
def gvO (e : Env) : Option Tmp → Option (Option Bool)
 | some d => gvB (eget e d)
 | none => none
@[simp] theorem gval_eq {all : Array Oper} {j : Nat} {e : Env} : gval all j e = gvO e ((all[j]?).bind (·.dst)) := by
 unfold gval gvO
 cases (all[j]?).bind (·.dst) with
 | none => rfl
 | some d =>
  simp only
  generalize eget e d = x
  cases x <;> first | rfl | (rename_i cs; cases cs <;> rfl)
@[simp] theorem gvO_some {e : Env} {d : Tmp} : gvO e (some d) = gvB (eget e d) := rfl
@[simp] theorem gvO_none {e : Env} : gvO e none = none := rfl
@[simp] theorem gvB_bool {b : Bool} : gvB (.bool b) = some (some b) := rfl
@[simp] theorem gvB_none : gvB (.tup []) = some none := rfl
section
variable {C : Cx} {all : Array Oper} {K : St → Prop} {o : Oper} {r : List Oper} {e : Env} {H : List Blk} {T : Toks}
@[simp] theorem aops_nil : aops C all K [] ⟨e, H, T⟩ = K ⟨e, H, T⟩ := rfl
@[simp] theorem aops_cons : aops C all K (o :: r) ⟨e, H, T⟩ = (
  let exec : Prop := match acallee o e with
   | some (g, as) => ACallAt C (aops C all K r) o.dst g as ⟨e, H, T⟩
   | none => match anil C.P o e with
    | some (n, q) => ∀ b : Bool, (0 < n → b = !q) → putK C o.dst (.bool b) e H T (aops C all K r)
    | none => match abox C.P C.bx o e H with
     | some (m, ys) => ∀ k : Nat, putK C o.dst (.msl H.length 0 m) e (H ++ [.cells (ys ++ List.replicate k .top)]) T (aops C all K r)
     | none => match acap0 C.P C.bx o e H with
      | some (m, ys, z) => ∀ nc : Nat, m ≤ nc → putK C o.dst (.csl H.length m nc) e (H ++ [.cells (ys ++ List.replicate ((nc - m) * z) .top)]) T (aops C all K r)
      | none => match acap o e with
       | some (t, t2, i, n, cap, x) => AppC C (aops C all K r) o.dst t t2 i n cap x e H T
       | none => match anextM o e H with
        | some (i, m, n, seen, es) => NextC C (aops C all K r) o.dst i m n seen es e H T
        | none => match aop C.P o e H T with
         | some (v, H', T') => putK C o.dst v e H' T' (aops C all K r)
         | none => False
  match o.guard with
  | none => exec
  | some (j, want) => match gval all j e with
   | some b => if b = some want then exec else putK C o.dst (.tup []) e H T (aops C all K r)
   | none => False) := rfl
end
attribute [simp] anilI aclear anil acallee anextM aop prune envOf putK ofC ofC1 eput eget aconv abin aint astr aun eqType aload isAggT arow axs cellAV untag afieldAddr amove aindexAddr aindex afield abound aslice asrc isSl
 abuild afill setMany abuildSlice abuildBox aappend notInt sameOpd alen amm ammf abuiltin abox acap acap0 aappBox aapp0 abinS eqStruct eqFlds ares aresL ares1 RetQ ExitK BlockQ bytesOf_encB amade_one envLe
end Go.Am
