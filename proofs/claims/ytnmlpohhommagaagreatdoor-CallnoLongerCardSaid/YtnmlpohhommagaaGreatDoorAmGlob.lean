/- Package variables that keep what they hold; calls behind which only new blocks stand.
   Conditions: none; it speaks of every program. -/
import Derived.Test.YtnmlpohhommagaaGreatDoorAmFrz
import Derived.Test.YtnmlpohhommagaaGreatDoorAmLaw
namespace Go.Am
open Go
set_option linter.unusedVariables false

section
variable {L : Lay} {H : List Blk} {T : Toks} {w w' : World}

/-- Below the old heap's size nothing has turned: what is represented stays so. -/
theorem Con.belowW (h : Con L H T w) (hb : Go.RowKit.Below w.heap.size w w') (hd : L.dr = true → w.drawn ≤ w'.drawn) :
    Con L H T w' ∧ Ev H.length T.length L H.length T w L H.length T w' := by
  have cell : ∀ b o, o < L.m b → w'.cell? ⟨b, o, none⟩ = w.cell? ⟨b, o, none⟩ := by
    intro b o ho
    refine cell_heap (hb.block b ?_) o
    rcases Nat.lt_or_ge b w.heap.size with h1 | h1
    · exact h1
    · have := h.mz b h1; omega
  have kp : Keeps L H.length T w L H.length T w' := ⟨Nat.le_refl _, fun _ _ => rfl, fun t u z h => ⟨u, h, Nat.le_refl _, fun _ => rfl⟩, fun _ => Nat.le_refl _, cell, rfl⟩
  refine ⟨⟨fun i b hi => ?_, h.inj, fun t u z ht => ?_, h.tinj, h.tbox, fun b hbz => h.mz b (Nat.le_trans hb.size hbz), h.gl.keep kp.m kp.com⟩, ?_⟩
  · exact (h.box i b hi).stay kp (List.getElem?_eq_some_iff.1 hi).1 (hb.block _ (h.phi_lt (List.getElem?_eq_some_iff.1 hi).1)) id
  · obtain ⟨h1, h2⟩ := h.tok t u z ht
    refine ⟨h1, fun hs => ?_⟩
    rw [hb.block _ (h.tau_lt ht hs)]
    exact h2 hs
  · exact ⟨Nat.le_refl _, fun _ _ => rfl, fun t u z _ h => ⟨u, h, Nat.le_refl _, fun _ => rfl⟩, Nat.le_refl _, fun _ => Nat.le_refl _, cell, hb.size, fun b hbl _ => hb.block b hbl, fun b h => .inl h, hb.os, hb.tape, hb.output, hd, rfl⟩

/-- A package variable among the boxes. -/
theorem Con.glob {i g : Nat} {p : Obj → Prop} (h : Con L H T w) (hi : H[i]? = some (.glob g p)) : L.dr = false ∧ ∃ o, w.heap[g]? = some o ∧ p o := by
  obtain ⟨_, h2, h3⟩ := h.box i _ hi
  exact ⟨h2, h3⟩

/-- Some blocks are package variables of which this is known. -/
def Gl (H : List Blk) (g : Nat) (q : Obj → Prop) : Prop := ∃ (i : Nat) (p : Obj → Prop), H[i]? = some (.glob g p) ∧ ∀ o, p o → q o
theorem Gl.app {g : Nat} {q : Obj → Prop} (h : Gl H g q) (G : List Blk) : Gl (H ++ G) g q := by
  obtain ⟨i, p, h1, h2⟩ := h
  exact ⟨i, p, by rw [List.getElem?_append_left (List.getElem?_eq_some_iff.1 h1).1]; exact h1, h2⟩
theorem Gl.set {g : Nat} {q : Obj → Prop} (h : Gl H g q) {k : Nat} {b b' : Blk} (hk : H[k]? = some b) (hb : ∀ g p, b ≠ .glob g p) : Gl (H.set k b') g q := by
  obtain ⟨i, p, h1, h2⟩ := h
  refine ⟨i, p, ?_, h2⟩
  rw [List.getElem?_set_ne]
  · exact h1
  · rintro rfl
    rw [hk] at h1
    exact hb _ _ (Option.some.inj h1)
theorem Gl.at {g : Nat} {q : Obj → Prop} (h : Gl H g q) (c : Con L H T w) : L.dr = false ∧ ∃ o, w.heap[g]? = some o ∧ q o := by
  obtain ⟨i, p, h1, h2⟩ := h
  obtain ⟨h3, o, h4, h5⟩ := c.glob h1
  exact ⟨h3, o, h4, h2 o h5⟩
end

/-- The layout at a law's beginning, with package variables as boxes. -/
def layG (w : World) (gs : List Nat) : Lay := ⟨fun i => gs.getD i 0, fun _ => ⟨0, 0, 0⟩, m0 w, false⟩

theorem Rep.layG {w : World} {gs : List Nat} {N : Nat} {v : AV} {c : Value} (h : Rep (lay0 w) 0 [] w v c) : Rep (layG w gs) N [] w v c := by
  induction h with
  | top v => exact .top v
  | bool b => exact .bool b
  | int k n => exact .int k n
  | str s => exact .str s
  | nilp => exact .nilp
  | ptr i o h => exact absurd h (Nat.not_lt_zero _)
  | vptr cs o b base f hm hc h1 hr ih => exact .vptr cs o b base f hm hc h1 ih
  | sl0 tg a cap ht =>
    refine .sl0 tg a cap ?_
    cases tg with
    | none => trivial
    | full => exact ht
    | own x => obtain ⟨u0, z, h, _⟩ := ht; simp at h
  | sl1 n cs tg b base cap f hcap hm hc h1 hr ht ih =>
    refine .sl1 n cs tg b base cap f hcap hm hc h1 ih ?_
    cases tg with
    | none => trivial
    | full => exact ht
    | own x => obtain ⟨u0, z, h, _⟩ := ht; simp at h
  | msl i o n cap h hcap => exact absurd h (Nat.not_lt_zero _)
  | csl i n cap h hcap => exact absurd h (Nat.not_lt_zero _)
  | mref i h => exact absurd h (Nat.not_lt_zero _)
  | fn f first caps fv cv h1 h2 hr1 hr2 ih1 ih2 => exact .fn f first caps fv cv h1 h2 ih1 ih2
  | nilf => exact .nilf
  | nili => exact .nili
  | ifc t v => exact .ifc t v
  | agg cs cv h1 h2 hr ih => exact .agg cs cv h1 h2 ih
  | tup cs cv h1 hr ih => exact .tup cs cv h1 ih

/-- Package variables, each with the object that it is. -/
def globs (w : World) (gs : List Nat) : List Blk := gs.map fun g => .glob g fun o => w.heap[g]? = some o

theorem conG {w : World} {gs : List Nat} (hg : gints = []) (hn : gs.Nodup) (h : ∀ g ∈ gs, g < w.heap.size) : Con (layG w gs) (globs w gs) [] w := by
  have hphi : ∀ i, i < gs.length → ∃ h : i < gs.length, (layG w gs).phi i = gs[i] := fun i hi => ⟨hi, by show gs.getD i 0 = _; rw [List.getD_eq_getElem?_getD, List.getElem?_eq_getElem hi]; rfl⟩
  refine ⟨fun i b hb => ?_, fun i j hi hj e => ?_, fun t u z h => by simp at h, fun t u z t' u' z' h => by simp at h, fun t u z i h => by simp at h, fun b hb => ?_, fun x hx => ?_⟩
  · have hi := (List.getElem?_eq_some_iff.1 hb).1
    have hi' : i < gs.length := by simpa [globs] using hi
    obtain ⟨_, e⟩ := hphi i hi'
    rw [globs, List.getElem?_map, List.getElem?_eq_getElem hi'] at hb
    cases hb
    have hlt := h _ (List.getElem_mem hi')
    exact ⟨e, rfl, _, Array.getElem?_eq_getElem hlt, Array.getElem?_eq_getElem hlt⟩
  · have hi' : i < gs.length := by simpa [globs] using hi
    have hj' : j < gs.length := by simpa [globs] using hj
    obtain ⟨_, e1⟩ := hphi i hi'
    obtain ⟨_, e2⟩ := hphi j hj'
    rw [e1, e2] at e
    have hp := List.pairwise_iff_getElem.1 hn
    rcases Nat.lt_trichotomy i j with hij | hij | hij
    · exact absurd e (hp i j hi' hj' hij)
    · exact hij
    · exact absurd e.symm (hp j i hj' hi' hij)
  · show m0 w b = 0
    unfold m0
    rw [Array.getElem?_eq_none hb]
  · rw [hg] at hx; cases hx

/-- A contract with package variables as boxes, at the arguments of a row. -/
theorem ACall.lawG {P : Program} {f : FuncId} {avs : List AV} {w : World} {args : Array Value} (gs : List Nat) (hn : gs.Nodup) (hlt : ∀ g ∈ gs, g < w.heap.size) (hg : gints = [])
    (h : ACall P f avs (globs w gs) [] (fun r H' _ => r = .bool true ∧ ∃ G, H' = globs w gs ++ G)) (hs : args.size = avs.length)
    (hr : ∀ (j : Nat) (h : j < avs.length) (h' : j < args.size), Rep (lay0 w) 0 [] w (avs[j]'h) (args[j]'h')) :
    Calls P f args w fun e w' => e = .returned (.bool true) ∧ Go.RowKit.Below w.heap.size w w' := by
  refine (h.2 (layG w gs) w args (conG hg hn hlt) hs (fun j h1 h2 => (hr j h1 h2).layG)).mono ?_
  rintro e w' ⟨r, H', T', L', cv, ⟨rfl, G, rfl⟩, rfl, hcon, hrep, hev⟩
  cases hrep with
  | bool _ =>
    refine ⟨rfl, hev.os, hev.tape, hev.output, hev.size, fun k hk => ?_⟩
    by_cases hm : k ∈ gs
    · obtain ⟨i, hi, e⟩ := List.mem_iff_getElem.1 hm
      have hb := hcon.box i (.glob k fun o => w.heap[k]? = some o) (by
        rw [List.getElem?_append_left (by simpa [globs] using hi), globs, List.getElem?_map, List.getElem?_eq_getElem hi, e]; rfl)
      obtain ⟨_, _, o, h1, h2⟩ := hb
      rw [h1, h2]
    · refine hev.frame k hk (fun hw => ?_)
      rcases hw with ⟨i, hi, e⟩ | ⟨t, u, z, ht, _⟩
      · have hi' : i < gs.length := by simpa [globs] using hi
        apply hm
        have : (layG w gs).phi i = gs[i] := by show gs.getD i 0 = _; rw [List.getD_eq_getElem?_getD, List.getElem?_eq_getElem hi']; rfl
        rw [← e, this]
        exact List.getElem_mem hi'
      · simp at ht

/-- A layout with package variables as boxes, and immutable places as given. -/
def layM (gs : List Nat) (m : Nat → Nat) : Lay := ⟨fun i => gs.getD i 0, fun _ => ⟨0, 0, 0⟩, m, false⟩

theorem conM {w : World} {gs : List Nat} {m : Nat → Nat} (hm : ∀ b, w.heap.size ≤ b → m b = 0) (hg : gints = []) (hn : gs.Nodup) (h : ∀ g ∈ gs, g < w.heap.size) : Con (layM gs m) (globs w gs) [] w := by
  have c := conG hg hn h
  refine ⟨fun i b hb => ?_, c.inj, fun t u z h => by simp at h, fun t u z t' u' z' h => by simp at h, fun t u z i h => by simp at h, hm, fun x hx => by rw [hg] at hx; cases hx⟩
  have hi := (List.getElem?_eq_some_iff.1 hb).1
  have hi' : i < gs.length := by simpa [globs] using hi
  have h1 := c.box i b hb
  rw [globs, List.getElem?_map, List.getElem?_eq_getElem hi'] at hb
  cases hb
  exact h1

/-- A contract that asks for package variables alone, at any world. -/
theorem ACall.at {P : Program} {f : FuncId} {args : List AV} {r : AV} {w : World} {ca : Array Value} (gs : List Nat) (m : Nat → Nat) (hm : ∀ b, w.heap.size ≤ b → m b = 0) (hn : gs.Nodup) (hlt : ∀ g ∈ gs, g < w.heap.size) (hg : gints = [])
    (h : ACall P f args (globs w gs) [] (Is r (globs w gs) [])) (hs : ca.size = args.length)
    (hr : ∀ (j : Nat) (h : j < args.length) (h' : j < ca.size), Rep (layM gs m) (globs w gs).length [] w (args[j]'h) (ca[j]'h')) :
    Calls P f ca w fun e w' => (∃ cv L', e = .returned cv ∧ Rep L' (globs w gs).length [] w' r cv) ∧ Go.RowKit.Below w.heap.size w w' := by
  refine (h.2 (layM gs m) w ca (conM hm hg hn hlt) hs hr).mono ?_
  rintro e w' ⟨r', H', T', L', cv, ⟨rfl, rfl, rfl⟩, rfl, hcon, hrep, hev⟩
  refine ⟨⟨cv, L', rfl, hrep⟩, hev.os, hev.tape, hev.output, hev.size, fun k hk => ?_⟩
  by_cases hmem : k ∈ gs
  · obtain ⟨i, hi, e⟩ := List.mem_iff_getElem.1 hmem
    have hb := hcon.box i (.glob k fun o => w.heap[k]? = some o) (by
      rw [globs, List.getElem?_map, List.getElem?_eq_getElem hi, e]; rfl)
    obtain ⟨_, _, o, h1, h2⟩ := hb
    rw [h1, h2]
  · refine hev.frame k hk (fun hw => ?_)
    rcases hw with ⟨i, hi, e⟩ | ⟨t, u, z, ht, _⟩
    · have hi' : i < gs.length := by simpa [globs] using hi
      apply hmem
      have : (layM gs m).phi i = gs[i] := by show gs.getD i 0 = _; rw [List.getD_eq_getElem?_getD, List.getElem?_eq_getElem hi']; rfl
      rw [← e, this]
      exact List.getElem_mem hi'
    · simp at ht

/-- What is immutable and needs no box is so wherever its memory stands. -/
theorem Rep.toM {L : Lay} {H : List Blk} {T : Toks} {w W : World} {v : AV} {c : Value} (hc : Con L H T w) (hd : L.dr = false) (hb : Go.RowKit.Below w.heap.size w W) (h : Rep L H.length T w v c) (hv : Below 0 0 v) (gs : List Nat) (N : Nat) : Rep (layM gs L.m) N [] W v c := by
  have h1 : Rep L 0 [] w v c := by simpa using h.drop hv
  have kp : Keeps L 0 [] w (layM gs L.m) N [] W := by
    refine ⟨Nat.zero_le _, fun i hi => absurd hi (Nat.not_lt_zero _), fun t u z h => by simp at h, fun b => Nat.le_refl _, fun b o ho => ?_, hd.symm⟩
    refine cell_heap (hb.block b ?_) o
    rcases Nat.lt_or_ge b w.heap.size with h1 | h1
    · exact h1
    · have := hc.mz b h1; omega
  exact h1.keep kp
end Go.Am
