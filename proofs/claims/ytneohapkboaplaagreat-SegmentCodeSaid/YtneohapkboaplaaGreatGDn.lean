/- Decode of the reference (layer 39): the walk.
  Conditions: at most 600 bytes; sizes, as the theorem says. -/
import Derived.Test.YtneohapkboaplaaGreatGDm
import Derived.Test.YtneohapkboaplaaGreatGRA
set_option linter.all false
set_option maxRecDepth 100000
set_option maxHeartbeats 32000000
open List (getD_eq_getElem?_getD length_append)
namespace Go.Proofs.YtneohapkboaplaaGreat
open Go Go.Am gH dc eB
open gB hiding aR
section
variable (bs : Bs) (s : Rd) (hs : s.at_ ≤ bs.length) (hb : bs.length ≤ 1099511627776) (H R : List aG) (z : aG) (T : ay)
include hs hb
theorem MY (lo hi:Int):al Tryz.prog 133 [.ptr (H.length+1) 0,.int .i64 lo,.int .i64 hi] (H++z::.cells (rd bs s)::R) T (Is (.int .i64 (aI bs lo hi s).1) (H++z::.cells (rd bs (aI bs lo hi s).2)::R) T):=by
 have:=lM bs s lo hi hs hb (H++z::.cells (rd bs s)::R) T (H.length+1) (by simp)
 rwa [oc] at this
theorem JN (mx:Int):al Tryz.prog 134 [.ptr (H.length+1) 0,.int .i64 mx] (H++z::.cells (rd bs s)::R) T (Is (.str (bD bs mx s).1) (H++z::.cells (rd bs (bD bs mx s).2)::R) T):=by
 have:=Jo bs s mx hs hb (H++z::.cells (rd bs s)::R) T (H.length+1) (by simp)
 rwa [oc] at this
theorem JO (mx lo hi:Int):al Tryz.prog 132 [.ptr (H.length+1) 0,.int .i64 mx,.int .i64 lo,.int .i64 hi] (H++z::.cells (rd bs s)::R) T (Is (.sl (eu bs mx (aI bs lo hi) s).1.length (ints (eu bs mx (aI bs lo hi) s).1) .none) (H++z::.cells (rd bs (eu bs mx (aI bs lo hi) s).2)::R) T):=by
 have:=Kk bs s mx lo hi hs hb (H++z::.cells (rd bs s)::R) T (H.length+1) (by simp)
 rwa [oc] at this
theorem JQ:al Tryz.prog 136 [.ptr (H.length+1) 0] (H++z::.cells (rd bs s)::R) T (Is (.int .i64 (dt bs s)) (H++z::.cells (rd bs s)::R) T):=
 Ap bs s hs hb (H++z::.cells (rd bs s)::R) T (H.length+1) (by simp)
end
def BB (x:Bs):PL×Int:=dec x sf gd
theorem xW (x:Bs):(∃l,BB x=(l,0)∧bc l=true∧x=eL l)∨BB x=([],5):=EF fun s=>by unfold gd;omega
abbrev lr (bs:Bs)(s:Rd):Int:=((bs.length:Nat):Int)
abbrev Md (bs:Bs)(s:Rd):Int:=3
abbrev uq (bs:Bs):Sg×Int:=Ci BB lr lr Md lr bs
def rN (bs:Bs):Int×Rd:=aI bs 0 ((bs.length:Nat):Int) (gT bs).2
def rT (bs:Bs):List Tm×Rd:=bO (jP (lr bs) BB bs) (rN bs).1.toNat (rN bs).2 []
def rM (bs:Bs):Int×Rd:=aI bs 0 3 (rT bs).2
def rC (bs:Bs):List Cl×Rd:=bO (DR (lr bs) bs) (rM bs).1.toNat (rM bs).2 []
theorem KS (bs:Bs):uq bs=if dt bs (rC bs).2≠0∨aW ⟨(gT bs).1,(rT bs).1,(rC bs).1⟩=false then (gh,5) else (⟨(gT bs).1,(rT bs).1,(rC bs).1⟩,0):=rfl
theorem MH {bs:Bs}{s:Rd}(h:s.at_≤bs.length):(jP (lr bs) BB bs s).2.at_≤bs.length:=by
 unfold jP;simp only;exact iS _ _ _ (iS _ _ _ (bI _ _ _ _ h))
theorem wB {bs:Bs}{m:Int}{s:Rd}:(bD bs m s).1.length≤bs.length:=by
 unfold bD
 split
 ·simp
 ·simp only[List.length_take,List.length_drop];omega
theorem Br (bs : Bs) (hb : bs.length ≤ 600) (hS : dt bs (rC bs).2 = 0 → re ⟨(gT bs).1, (rT bs).1, (rC bs).1⟩) (H : List aG) (T : ay) (tg : Tag) :
    al Tryz.prog 53 [.sl bs.length (bu bs) tg] H T (Is (.cJ [il (uq bs).1, .int .i64 (uq bs).2]) H T) := by
  refine al.cg ?_;refine al.r9 ?_;show al Tryz.prog _ _ H T (BQ H T _);have fW : bs.length ≤ 1099511627776 := by omega
  have cI := fun s hs z R T lo hi => MY bs s hs fW H R z T lo hi;have cX := fun s hs z R T mx => JN bs s hs fW H R z T mx;have DO : (gT bs).2.at_ ≤ bs.length := zK (fun s h => bI _ _ _ _ h) _ (Nat.zero_le _);have cL : al Tryz.prog 132 [.ptr (H.length + 1) 0, .int .i64 2000, .int .i64 1, .int .i64 1000000000] (H ++ zB :: [.cells (rd bs ⟨0, false⟩)]) T (Is (.sl (gT bs).1.length (ints (gT bs).1) .none) (H ++ zB :: [.cells (rd bs (gT bs).2)]) T) := JO bs ⟨0, false⟩ (Nat.zero_le _) fW H [] zB T 2000 1 1000000000;have PN : rd bs ⟨0, false⟩ = [.sl bs.length (bu bs) .none, .int .i64 0, .bool false] := rfl;rw [PN] at cL;rw [KS];have hN0 : 0 ≤ (rN bs).1 := dR _ _ _;have hN1 : (rN bs).1 ≤ ((bs.length : Nat) : Int) := qh _ _ _ (by omega);have Ch : (rN bs).2.at_ ≤ bs.length := bI _ _ _ _ DO;have Sz : rN bs = aI bs 0 ((bs.length : Nat) : Int) (gT bs).2 := rfl;have Lx : rM bs = aI bs 0 3 (rT bs).2 := rfl;have hM0 : 0 ≤ (rM bs).1 := dR _ _ _;have hM1 : (rM bs).1 ≤ 3 := qh _ _ _ (by omega);have Su : rT bs = bO (jP (lr bs) BB bs) (rN bs).1.toNat (rN bs).2 [] := rfl;have Pk : rC bs = bO (DR (lr bs) bs) (rM bs).1.toNat (rM bs).2 [] := rfl;have Cg : (rT bs).2.at_ ≤ bs.length := uI (fun s h => MH h) _ _ _ Ch;have Iu : (rM bs).2.at_ ≤ bs.length := bI _ _ _ _ Cg;generalize Xc : gT bs = D at *;obtain ⟨aw, s1⟩ := D;generalize rN bs = N0 at *;obtain ⟨nn, s2⟩ := N0;simp only at cL DO hN0 hN1 Ch Sz Su hS ⊢;refine aj 16 [] Tryz.ntmps53 Tryz.func53 rfl (fun _ _ => Tryz.call53 _ _) (by simp) (fun HO => ?_);refine ae fun K hK => ?_; simp (maxSteps := 1000000) (disch := omega) [-getD_eq_getElem?_getD]; refine hK _ ?_; clear hK K;refine ae fun K hK => ?_; simp (maxSteps := 1000000) (disch := omega) [-getD_eq_getElem?_getD]; refine hK _ ?_; clear hK K;refine ae fun K hK => ?_; simp (maxSteps := 1000000) (disch := omega) [-getD_eq_getElem?_getD];refine ah (cL) ?_; simp (maxSteps := 1000000) (disch := omega) [-getD_eq_getElem?_getD];refine hK _ ?_; clear hK K;refine fP 3 1 (H ++ [zB, .cells (rd bs s1)]) [.sl aw.length (ints aw) .none, .sl 0 [] .full, .sl 0 [] .full] 0 [] (by omega) rfl (by simp) ?_;refine fP 2 2 (H ++ [zB, .cells (rd bs s1)]) [.sl aw.length (ints aw) .none, .sl 0 [] (.own T.length), .sl 0 [] .full] 0 [] (by omega) rfl (by simp) ?_;simp (maxSteps := 1000000) (disch := omega) [-getD_eq_getElem?_getD];have qU : ∀ (s : Rd) (ts : List Tm) (cs : List AV) (m : Nat) (U : ay), T.length + 2 ≤ U.length → aL (H.length + 3) U.length cs → bM (H ++ [zB, .cells (rd bs s), sB aw ts cs m T.length]) U := by
    intro s ts cs m U hU hc;have h1 := ((HO.snoc (vs := [.sl 0 [] .full, .sl 0 [] .full, .sl 0 [] .full]) (by simp)).snoc (vs := rd bs s) (by simp [rd])).df (T' := U) (by omega);have h2 := h1.snoc (vs := [.sl aw.length (ints aw) .none, .sl ts.length (bX ts) (.own T.length), .sl m cs (.own (T.length + 1))]) (by simp [hc]; omega);simpa using h2
  refine ae fun K hK => ?_; simp (maxSteps := 1000000) (disch := omega) [-getD_eq_getElem?_getD];refine ah (cI _ DO _ _ _ _ _) ?_; simp (maxSteps := 1000000) (disch := omega) [-getD_eq_getElem?_getD];refine hK _ ?_; clear hK K;rw [← Sz];simp only;refine af fun K1 aO => ?_;refine ae fun K hK => ?_; simp (maxSteps := 1000000) (disch := omega) [-getD_eq_getElem?_getD]; refine hK _ ?_; clear hK K;apply ai;have o7 : bs.length ≤ 9223372036854775807 := by omega
  refine aK (X := Nat × Rd × List Tm) (fun x => ⟨[(0, .sl bs.length (bu bs) .none), (2, .ptr H.length 0), (3, .int .i64 0), (4, .ptr (H.length + 1) 0), (5, .ptr (H.length + 2) 0), (6, .int .i64 nn), (7, .int .i64 (x.1 : Nat))], H ++ [zB, .cells (rd bs x.2.1), sB aw x.2.2 [] 0 T.length], T ++ [(x.2.2.length * 3, 3), (0, 2)]⟩)
    (fun x => (x.1 ≤ nn.toNat ∧ x.2.1.at_ ≤ bs.length ∧ x.2.2.length = x.1) ∧ rT bs = bO (jP (lr bs) BB bs) (nn.toNat - x.1) x.2.1 x.2.2) (fun x => nn.toNat - x.1) (0, s2, []) ?_ ?_ ?_
  · exact ⟨⟨Nat.zero_le _, Ch, rfl⟩, Su⟩
  · refine ag [] [] ?_ ?_ ?_ ?_ (qU s2 [] [] 0 (T ++ [(0 * 3, 3), (0, 2)]) (by simp) (by simp)) ?_
    all_goals simp [bX]
  · rintro ⟨i, ⟨sa, sb⟩, ts⟩ ⟨⟨i1, i2, i3⟩, i4⟩;simp only at i1 i2 i3 i4;have done : ∀ e, (rT bs = (ts, ⟨sa, sb⟩)) → b9 (H.length + 3) (T.length + 2) e [(0, .sl bs.length (bu bs) .none), (2, .ptr H.length 0), (3, .int .i64 0), (4, .ptr (H.length + 1) 0), (5, .ptr (H.length + 2) 0)] → K1 ⟨e, H ++ [zB, .cells (rd bs ⟨sa, sb⟩), sB aw ts [] 0 T.length], T ++ [(ts.length * 3, 3), (0, 2)]⟩ := by
      intro e Se he;refine aO _ (aQ ⟨[(0, .sl bs.length (bu bs) .none), (2, .ptr H.length 0), (3, .int .i64 0), (4, .ptr (H.length + 1) 0), (5, .ptr (H.length + 2) 0)], H ++ [zB, .cells (rd bs ⟨sa, sb⟩), sB aw ts [] 0 T.length], T ++ [(ts.length * 3, 3), (0, 2)]⟩ (ag [] [] (by simp) (by simp) (by simp) (by simp) (qU ⟨sa, sb⟩ ts [] 0 _ (by simp) (by simp)) (by simpa using he)) ?_);rw [Se] at hS Lx Cg ⊢;simp only at hS Lx Cg;clear Se i4 he aO;generalize rM bs = M0 at *;obtain ⟨mm, s4⟩ := M0;simp only at hM0 hM1 Iu Pk Lx;refine ae fun K hK => ?_; simp (maxSteps := 1000000) (disch := omega) [-getD_eq_getElem?_getD];refine ah (cI ⟨sa, sb⟩ i2 zB _ _ _ _) ?_; simp (maxSteps := 1000000) (disch := omega) [-getD_eq_getElem?_getD];refine hK _ ?_; clear hK K;rw [← Lx];simp only;refine af fun K1 aO => ?_;refine ae fun K hK => ?_; simp (maxSteps := 1000000) (disch := omega) [-getD_eq_getElem?_getD]; refine hK _ ?_; clear hK K;apply ai;have Sv : (T ++ [(ts.length * 3, 3), (0, 2)]).length = T.length + 2 := by simp
      have xo : gP T (T ++ [(ts.length * 3, 3), (0, 2)]) := ⟨_, rfl⟩
      have Pj : (T ++ [(ts.length * 3, 3), (0, 2)])[T.length + 1]? = some (0 * 2, 2) := by simp
      generalize T ++ [(ts.length * 3, 3), (0, 2)] = U0 at *;refine aK (X := Nat × List (Cl × Nat) × Rd × ay) (fun x => ⟨[(0, .sl bs.length (bu bs) .none), (2, .ptr H.length 0), (3, .int .i64 0), (4, .ptr (H.length + 1) 0), (5, .ptr (H.length + 2) 0), (6, .int .i64 mm), (11, .int .i64 (x.1 : Nat))], H ++ [zB, .cells (rd bs x.2.2.1), sB aw ts (cS x.2.1) x.1 T.length], x.2.2.2⟩)
        (fun x => (x.1 ≤ mm.toNat ∧ x.2.2.1.at_ ≤ bs.length ∧ x.2.1.length = x.1) ∧ (∀ c ∈ x.2.1, c.2 < x.2.2.2.length) ∧ T.length + 2 ≤ x.2.2.2.length ∧ gP T x.2.2.2 ∧ x.2.2.2[T.length + 1]? = some (x.1 * 2, 2) ∧ rC bs = bO (DR (lr bs) bs) (mm.toNat - x.1) x.2.2.1 (x.2.1.map (·.1))) (fun x => mm.toNat - x.1) (0, [], s4, U0) ?_ ?_ ?_
      · exact ⟨⟨Nat.zero_le _, Iu, rfl⟩, by simp, by show T.length + 2 ≤ U0.length; omega, xo, Pj, Pk⟩
      · refine ag [] [] ?_ ?_ ?_ ?_ (qU s4 ts [] 0 U0 (by omega) (by simp)) ?_
        all_goals simp [cS]
        all_goals omega
      · rintro ⟨j, P, ⟨qa, qb⟩, U⟩ ⟨⟨j1, j2, j3⟩, p1, p2, p3, p4, p5⟩;simp only at j1 j2 j3 p1 p2 p3 p4 p5;have xy : aL (H.length + 3) U.length (cS P) := iV p1;have lT := p3.le;have IV : ∀ e, (rC bs = (P.map (·.1), ⟨qa, qb⟩)) → b9 (H.length + 3) U.length e [(0, .sl bs.length (bu bs) .none), (2, .ptr H.length 0), (3, .int .i64 0), (4, .ptr (H.length + 1) 0), (5, .ptr (H.length + 2) 0)] → K1 ⟨e, H ++ [zB, .cells (rd bs ⟨qa, qb⟩), sB aw ts (cS P) j T.length], U⟩ := by
          intro e NW he;refine aO _ (aQ ⟨[(0, .sl bs.length (bu bs) .none), (2, .ptr H.length 0), (3, .int .i64 0), (4, .ptr (H.length + 1) 0), (5, .ptr (H.length + 2) 0)], H ++ [zB, .cells (rd bs ⟨qa, qb⟩), sB aw ts (cS P) j T.length], U⟩ (ag [] [] (by simp) (by simp) (by simp) (by show T.length ≤ U.length; omega) (qU ⟨qa, qb⟩ ts (cS P) j U p2 xy) (by simpa using he)) ?_);clear he aO p5;generalize hqq : (⟨qa, qb⟩ : Rd) = q at *;have L8 := fun R T => JQ bs q (by rw [← hqq]; exact j2) fW H R zB T;have HO5 : bM (H ++ [zB, .cells (rd bs q)]) T := by
            have := (HO.snoc (vs := [.sl 0 [] .full, .sl 0 [] .full, .sl 0 [] .full]) (by simp)).snoc (vs := rd bs q) (by simp [rd]);simpa using this
          obtain ⟨XT, Z6⟩ := p3;rw [Z6, show H ++ [zB, aG.cells (rd bs q), sB aw ts (cS P) j T.length] = (H ++ [zB, aG.cells (rd bs q)]) ++ [sB aw ts (cS P) j T.length] by simp];refine Cz (H := H ++ [zB, .cells (rd bs q)]) (T := T) (e' := [(2, .ptr H.length 0), (3, .int .i64 0), (4, .ptr (H.length + 1) 0), (5, .dI (cG ⟨aw, ts, P.map (·.1)⟩) 0)]) ?_ ?_ HO5 ?_ ?_
          · simp
          · simp
          · refine ⟨gn.same (by simp), gn.same (by simp), gn.same (by simp), ?_, trivial⟩;refine gn.ptr (vs := [.sl aw.length (ints aw) .none, .sl ts.length (bX ts) (.own T.length), .sl j (cS P) (.own (T.length + 1))]) (by simp) (by simp) (by simp) fun j' hj => ?_
            match j', hj with
            | 0, _ => exact .same (by simp)
            | 1, _ => exact .keep (.inr rfl) (by simp)
            | 2, _ =>
              show gn _ _ _ (.sl j (cS P) (.own (T.length + 1))) (.sl (P.map (·.1)).length (eA (P.map (·.1))) .none)
              rw [List.length_map, j3]
              exact xL
          clear hqq;generalize P.map (·.1) = cs at *
          by_cases hD : dt bs q = 0
          rotate_left
          · have b1 : (dt bs q != 0) = true := by simpa using hD
            rw [NW, if_pos (.inl hD)];generalize dt bs q = dv at *;refine af fun K1 aO => ?_;refine ae fun K hK => ?_; simp (maxSteps := 1000000) (disch := omega) [-getD_eq_getElem?_getD];refine ah (L8 _ _) ?_; simp (maxSteps := 1000000) (disch := omega) [-getD_eq_getElem?_getD, b1, hD];refine hK _ ?_; clear hK K;refine aP rfl (fun h => ?_) (fun h => absurd h (by simp [hD]));refine ae fun K hK => ?_; simp (maxSteps := 1000000) (disch := omega) [-getD_eq_getElem?_getD]; refine hK _ ?_; clear hK K;apply an; simp (maxSteps := 1000000) (disch := omega) [-getD_eq_getElem?_getD];exact ⟨⟨_, rfl⟩, ⟨[], by simp⟩, ka _⟩
          have gN := hS (by rw [NW]; exact hD);rw [NW] at gN;rw [NW];simp only [hD, ne_eq, not_true_eq_false, false_or];rw [hD] at L8;have cv := fun H T => u5 ⟨aw, ts, cs⟩ gN H T
          cases hv : aW ⟨aw, ts, cs⟩ with
          | false =>
            rw [hv] at cv
            simp only [if_true]
            refine af fun K1 aO => ?_
            refine ae fun K hK => ?_; simp (maxSteps := 1000000) (disch := omega) [-getD_eq_getElem?_getD]
            refine ah (L8 _ _) ?_; simp (maxSteps := 1000000) (disch := omega) [-getD_eq_getElem?_getD]
            refine ah (cv _ _) ?_; simp (maxSteps := 1000000) (disch := omega) [-getD_eq_getElem?_getD]
            refine hK _ ?_; clear hK K
            refine aP rfl (fun _ => ?_) (fun hh => absurd hh (by simp))
            refine ae fun K hK => ?_; simp (maxSteps := 1000000) (disch := omega) [-getD_eq_getElem?_getD]; refine hK _ ?_; clear hK K
            apply an; simp (maxSteps := 1000000) (disch := omega) [-getD_eq_getElem?_getD]
            exact ⟨⟨_, rfl⟩, ⟨[], by simp⟩, ka _⟩
          | true =>
            rw [hv] at cv
            simp only [Bool.true_eq_false, if_false]
            refine af fun K1 aO => ?_
            refine ae fun K hK => ?_; simp (maxSteps := 1000000) (disch := omega) [-getD_eq_getElem?_getD]
            refine ah (L8 _ _) ?_; simp (maxSteps := 1000000) (disch := omega) [-getD_eq_getElem?_getD]
            refine ah (cv _ _) ?_; simp (maxSteps := 1000000) (disch := omega) [-getD_eq_getElem?_getD]
            refine hK _ ?_; clear hK K
            refine aP rfl (fun h => absurd h (by simp)) (fun h => ?_)
            apply ak; simp (maxSteps := 1000000) (disch := omega) [-getD_eq_getElem?_getD]
            refine aO _ ?_; clear aO
            refine ae fun K hK => ?_; simp (maxSteps := 1000000) (disch := omega) [-getD_eq_getElem?_getD]; refine hK _ ?_; clear hK K
            apply an; simp (maxSteps := 1000000) (disch := omega) [-getD_eq_getElem?_getD]
            refine ⟨⟨_, rfl⟩, ⟨[], by simp⟩, .same ?_⟩
            simp
        refine af fun K2 aY => ?_
        by_cases da : j < mm.toNat
        rotate_left
        · have bk : decide ((j : Int) < mm) = false := decide_eq_false (by omega);have nk : ¬ (j : Int) < mm := by omega
          have DM : mm.toNat - j = 0 := by omega
          rw [DM] at p5;refine ae fun K hK => ?_; simp (maxSteps := 1000000) (disch := omega) [-getD_eq_getElem?_getD, bk, nk]; refine hK _ ?_; clear hK K;refine aP rfl (fun h => absurd h (by simp)) (fun h => ?_);apply aD; simp (maxSteps := 1000000) (disch := omega) [-getD_eq_getElem?_getD];refine IV _ p5 ?_;simp
        have bk : decide ((j : Int) < mm) = true := decide_eq_true (by omega);have nk : (j : Int) < mm := by omega
        cases qb with
        | true =>
          rw [dL _ _ _ _ rfl] at p5
          refine ae fun K hK => ?_; simp (maxSteps := 1000000) (disch := omega) [-getD_eq_getElem?_getD, bk, nk, rd]; refine hK _ ?_; clear hK K
          refine aP rfl (fun h => absurd h (by simp)) (fun h => ?_)
          apply aD; simp (maxSteps := 1000000) (disch := omega) [-getD_eq_getElem?_getD]
          refine IV _ p5 ?_
          simp
        | false =>
          clear IV
          rw [eF _ _ _ _ (by omega) rfl] at p5
          have Rf : DR (lr bs) bs ⟨qa, false⟩ = (⟨(aI bs 5 7 ⟨qa, false⟩).1, (bO (DE bs) (aI bs 0 ((bs.length : Nat) : Int) (aI bs 5 7 ⟨qa, false⟩).2).1.toNat (aI bs 0 ((bs.length : Nat) : Int) (aI bs 5 7 ⟨qa, false⟩).2).2 []).1⟩, (bO (DE bs) (aI bs 0 ((bs.length : Nat) : Int) (aI bs 5 7 ⟨qa, false⟩).2).1.toNat (aI bs 0 ((bs.length : Nat) : Int) (aI bs 5 7 ⟨qa, false⟩).2).2 []).2) := rfl
          rw [Rf] at p5
          clear Rf
          have e1 := bI bs 5 7 ⟨qa, false⟩ j2
          have k1 := fun R T => cI ⟨qa, false⟩ j2 zB R T 5 7
          generalize aI bs 5 7 ⟨qa, false⟩ = a at *
          obtain ⟨av, aq⟩ := a
          simp only at *
          have e2 := bI bs 0 ((bs.length : Nat) : Int) aq e1
          have k3 := fun R T => cI aq e1 zB R T 0 ((bs.length : Nat) : Int)
          have n0' : 0 ≤ (aI bs 0 ((bs.length : Nat) : Int) aq).1 := dR _ _ _
          have n1' : (aI bs 0 ((bs.length : Nat) : Int) aq).1 ≤ ((bs.length : Nat) : Int) := qh _ _ _ (by omega)
          generalize aI bs 0 ((bs.length : Nat) : Int) aq = kk at *
          obtain ⟨kv, r0⟩ := kk
          simp only at *
          obtain ⟨W3, Ph⟩ : ∃ W3, W3 = bO (DE bs) kv.toNat r0 [] := ⟨_, rfl⟩
          rw [← Ph] at p5
          refine ae fun K hK => ?_; simp (maxSteps := 1000000) (disch := omega) [-getD_eq_getElem?_getD, bk, nk, rd]; refine hK _ ?_; clear hK K
          refine aP rfl (fun _ => ?_) (fun hh => absurd hh (by simp))
          apply ak; simp (maxSteps := 1000000) (disch := omega) [-getD_eq_getElem?_getD]
          refine aY _ ?_; clear aY
          refine af fun K3 bA => ?_
          apply ai
          refine ae fun K hK => ?_; simp (maxSteps := 1000000) (disch := omega) [-getD_eq_getElem?_getD]
          refine ah (k1 _ _) ?_; simp (maxSteps := 1000000) (disch := omega) [-getD_eq_getElem?_getD]
          refine hK _ ?_; clear hK K
          refine fP 2 1 (H ++ [zB, .cells (rd bs aq), sB aw ts (cS P) j T.length]) [.int .i64 av, .sl 0 [] .full] 0 [] (by omega) rfl (by simp) ?_
          simp (maxSteps := 1000000) (disch := omega) [-getD_eq_getElem?_getD]
          have mi : ∀ (r : Rd) (k : Nat) (cs : List AV) (V : ay), U.length + 1 ≤ V.length → aL (H.length + 4) V.length cs → bM (H ++ [zB, .cells (rd bs r), sB aw ts (cS P) j T.length, .cells [.int .i64 av, .sl k cs (.own U.length)]]) V := by
            intro r k cs V hV hc;have h1 := qU r ts (cS P) j V (by omega) (fun v hv => (xy v hv).more (Nat.le_refl _) (by omega));have h2 := h1.snoc (vs := [.int .i64 av, .sl k cs (.own U.length)]) (by simp [hc]; omega);simpa using h2
          refine ae fun K hK => ?_; simp (maxSteps := 1000000) (disch := omega) [-getD_eq_getElem?_getD]
          refine ah (k3 _ _) ?_; simp (maxSteps := 1000000) (disch := omega) [-getD_eq_getElem?_getD]
          refine hK _ ?_; clear hK K
          refine af fun K4 ec => ?_
          refine ae fun K hK => ?_; simp (maxSteps := 1000000) (disch := omega) [-getD_eq_getElem?_getD]; refine hK _ ?_; clear hK K
          apply ai
          refine aK (X := Nat × Rd × List Nm) (fun x => ⟨[(0, .sl bs.length (bu bs) .none), (2, .ptr H.length 0), (3, .int .i64 0), (4, .ptr (H.length + 1) 0), (5, .ptr (H.length + 2) 0), (6, .int .i64 mm), (11, .int .i64 (j : Nat)), (12, .ptr (H.length + 3) 0), (13, .int .i64 kv), (14, .int .i64 (x.1 : Nat))], H ++ [zB, .cells (rd bs x.2.1), sB aw ts (cS P) j T.length, .cells [.int .i64 av, .sl x.1 (br x.2.2) (.own U.length)]], U ++ [(x.1 * 2, 2)]⟩)
            (fun x => (x.1 ≤ kv.toNat ∧ x.2.1.at_ ≤ bs.length ∧ x.2.2.length = x.1) ∧ W3 = bO (DE bs) (kv.toNat - x.1) x.2.1 x.2.2) (fun x => kv.toNat - x.1) (0, r0, []) ?_ ?_ ?_
          · exact ⟨⟨Nat.zero_le _, e2, rfl⟩, Ph⟩
          · refine ag [] [] ?_ ?_ ?_ ?_ (mi r0 0 (br []) (U ++ [(0 * 2, 2)]) (by simp) (by simp)) ?_
            all_goals simp [br]
            all_goals omega
          · rintro ⟨h, ⟨ra, rb⟩, xs⟩ ⟨⟨h1, h2, h3⟩, h4⟩
            simp only at h1 h2 h3 h4;have BJ : (br xs).length = h * 2 := by rw [cj, h3]
            have IU : ∀ e, (W3 = (xs, ⟨ra, rb⟩)) → b9 (H.length + 4) (U.length + 1) e [(0, .sl bs.length (bu bs) .none), (2, .ptr H.length 0), (3, .int .i64 0), (4, .ptr (H.length + 1) 0), (5, .ptr (H.length + 2) 0), (6, .int .i64 mm), (11, .int .i64 (j : Nat)), (12, .ptr (H.length + 3) 0)] → K4 ⟨e, H ++ [zB, .cells (rd bs ⟨ra, rb⟩), sB aw ts (cS P) j T.length, .cells [.int .i64 av, .sl h (br xs) (.own U.length)]], U ++ [(h * 2, 2)]⟩ := by
              intro e hw he;have tZ := mi ⟨ra, rb⟩ h (br xs) (U ++ [(h * 2, 2)]) (by simp) (by simp);refine ec _ (aQ ⟨[(0, .sl bs.length (bu bs) .none), (2, .ptr H.length 0), (3, .int .i64 0), (4, .ptr (H.length + 1) 0), (5, .ptr (H.length + 2) 0), (6, .int .i64 mm), (11, .int .i64 (j : Nat)), (12, .ptr (H.length + 3) 0)], H ++ [zB, .cells (rd bs ⟨ra, rb⟩), sB aw ts (cS P) j T.length, .cells [.int .i64 av, .sl h (br xs) (.own U.length)]], U ++ [(h * 2, 2)]⟩ (ag [] [] (by simp) (by simp) (by simp) (by simp; omega) tZ (by simpa using he)) ?_);rw [hw] at p5;simp only at p5;have Lw : (U ++ [(h * 2, 2)])[T.length + 1]? = some (j * 2, 2) := by rw [List.getElem?_append_left (by omega)]; exact p4
              have oT : gP T (U ++ [(h * 2, 2)]) := p3.app _;have H3 : (U ++ [(h * 2, 2)]).length = U.length + 1 := by simp
              have pV : (cS P).length = j * 2 := by rw [nQ, j3]
              have kH := oE P ((⟨av, xs⟩ : Cl), U.length);simp only [h3] at kH;have DQ : (P ++ [((⟨av, xs⟩ : Cl), U.length)]).map (·.1) = P.map (·.1) ++ [(⟨av, xs⟩ : Cl)] := by rw [List.map_append]; rfl
              rw [← DQ] at p5;have LZ : (P ++ [((⟨av, xs⟩ : Cl), U.length)]).length = j + 1 := by rw [length_append, j3]; rfl
              have vU : ∀ c ∈ P ++ [((⟨av, xs⟩ : Cl), U.length)], c.2 < U.length + 1 := fun c hc => by
                rcases List.mem_append.1 hc with h | h
                · have := p1 c h; omega
                · rw [List.mem_singleton.1 h]; exact Nat.lt_succ_self _
              have pN : aL (H.length + 3) (U.length + 1) (cS (P ++ [((⟨av, xs⟩ : Cl), U.length)])) := iV vU;generalize Z9 : P ++ [((⟨av, xs⟩ : Cl), U.length)] = P2 at *;clear mi DQ he ec;generalize cS P = ca at *;have lU : T.length + 1 < (U ++ [(h * 2, 2)]).length := by omega
              obtain ⟨u, hu⟩ : ∃ u, u = U.length := ⟨_, rfl⟩
              rw [← hu] at kH pN vU H3 tZ;simp only [← hu];generalize Z7 : U ++ [(h * 2, 2)] = U2 at *;have eU := bT Lw;refine ar fun K hK => ?_; simp (maxSteps := 1000000) (disch := omega) [-getD_eq_getElem?_getD, eU, pV, kH]; refine hK _ ?_; clear hK K;have Fh := qU ⟨ra, rb⟩ ts (cS P2) (j + 1) (U2.set (T.length + 1) ((j + 1) * 2, 2)) (by simp; omega) (by simp [H3, pN]);refine bA _ ?_; clear bA;refine ar fun K hK => ?_; simp (maxSteps := 1000000) (disch := omega) [-getD_eq_getElem?_getD];refine hK _ ?_; clear hK K;refine ⟨(j + 1, P2, ⟨ra, rb⟩, U2.set (T.length + 1) ((j + 1) * 2, 2)), ⟨⟨by show j + 1 ≤ _; omega, h2, LZ⟩, fun c hc => by have := vU c hc; simp only [List.length_set]; omega, by simp only [List.length_set]; omega, oT.set (by omega) _, List.getElem?_set_self (by omega), ?_⟩, by show mm.toNat - (j + 1) < mm.toNat - j; omega, ?_⟩
              · show rC bs = bO _ (mm.toNat - (j + 1)) _ _;rw [show mm.toNat - (j + 1) = mm.toNat - j - 1 by omega];exact p5
              · refine ag [.cells [.int .i64 av, .sl h (br xs) (.own u)]] [] ?_ ?_ ?_ ?_ Fh ?_
                all_goals simp
                all_goals omega
            refine af fun K5 gO => ?_
            by_cases ko : h < kv.toNat
            rotate_left
            · have ck : decide ((h : Int) < kv) = false := decide_eq_false (by omega);have mk : ¬ (h : Int) < kv := by omega
              have ZV : kv.toNat - h = 0 := by omega
              rw [ZV] at h4;refine ae fun K hK => ?_; simp (maxSteps := 1000000) (disch := omega) [-getD_eq_getElem?_getD, ck, mk]; refine hK _ ?_; clear hK K;refine aP rfl (fun h => absurd h (by simp)) (fun h => ?_);apply aD; simp (maxSteps := 1000000) (disch := omega) [-getD_eq_getElem?_getD];refine IU _ h4 ?_;simp
            have ck : decide ((h : Int) < kv) = true := decide_eq_true (by omega);have mk : (h : Int) < kv := by omega
            cases rb with
            | true =>
              rw [dL _ _ _ _ rfl] at h4
              refine ae fun K hK => ?_; simp (maxSteps := 1000000) (disch := omega) [-getD_eq_getElem?_getD, ck, mk, rd]; refine hK _ ?_; clear hK K
              refine aP rfl (fun h => absurd h (by simp)) (fun h => ?_)
              apply aD; simp (maxSteps := 1000000) (disch := omega) [-getD_eq_getElem?_getD]
              refine IU _ h4 ?_
              simp
            | false =>
              clear IU
              rw [eF _ _ _ _ (by omega) rfl] at h4
              have RP : DE bs ⟨ra, false⟩ = (((aI bs 0 1000000000000 ⟨ra, false⟩).1, (aI bs 1 1000000000 (aI bs 0 1000000000000 ⟨ra, false⟩).2).1), (aI bs 1 1000000000 (aI bs 0 1000000000000 ⟨ra, false⟩).2).2) := rfl
              rw [RP] at h4
              clear RP
              have f1 := bI bs 0 1000000000000 ⟨ra, false⟩ h2
              have m1 := fun R T => cI ⟨ra, false⟩ h2 zB R T 0 1000000000000
              generalize aI bs 0 1000000000000 ⟨ra, false⟩ = a at *
              obtain ⟨nv, r1⟩ := a
              simp only at *
              have f2 := bI bs 1 1000000000 r1 f1
              have m2 := fun R T => cI r1 f1 zB R T 1 1000000000
              generalize aI bs 1 1000000000 r1 = a at *
              obtain ⟨dv, r2⟩ := a
              simp only at *
              have kH := ow xs (nv, dv)
              simp only at kH
              refine ae fun K hK => ?_; simp (maxSteps := 1000000) (disch := omega) [-getD_eq_getElem?_getD, ck, mk, rd]; refine hK _ ?_; clear hK K
              refine aP rfl (fun _ => ?_) (fun hh => absurd hh (by simp))
              apply ak; simp (maxSteps := 1000000) (disch := omega) [-getD_eq_getElem?_getD]
              refine gO _ ?_; clear gO
              refine af fun K6 lp => ?_
              apply ai
              refine ae fun K hK => ?_; simp (maxSteps := 1000000) (disch := omega) [-getD_eq_getElem?_getD]
              refine ah (m1 _ _) ?_; simp (maxSteps := 1000000) (disch := omega) [-getD_eq_getElem?_getD]
              refine hK _ ?_; clear hK K
              refine ae fun K hK => ?_; simp (maxSteps := 1000000) (disch := omega) [-getD_eq_getElem?_getD]
              refine ah (m2 _ _) ?_; simp (maxSteps := 1000000) (disch := omega) [-getD_eq_getElem?_getD]
              refine hK _ ?_; clear hK K
              refine ar fun K hK => ?_; simp (maxSteps := 1000000) (disch := omega) [-getD_eq_getElem?_getD, BJ, kH]; refine hK _ ?_; clear hK K
              refine lp _ ?_; clear lp
              refine ar fun K hK => ?_; simp (maxSteps := 1000000) (disch := omega) [-getD_eq_getElem?_getD]
              refine hK _ ?_; clear hK K
              refine ⟨(h + 1, r2, xs ++ [(nv, dv)]), ⟨⟨by show h + 1 ≤ _; omega, f2, by rw [length_append, h3]; rfl⟩, ?_⟩, by show kv.toNat - (h + 1) < kv.toNat - h; omega, ?_⟩
              · show W3 = bO _ (kv.toNat - (h + 1)) _ _
                rw [show kv.toNat - (h + 1) = kv.toNat - h - 1 by omega];exact h4
              · have xp := mi r2 (h + 1) (br (xs ++ [(nv, dv)])) (U ++ [((h + 1) * 2, 2)]) (by simp) (by simp)
                refine ag [.cells [.int .i64 nv, .int .i64 dv]] [] ?_ ?_ ?_ ?_ xp ?_
                all_goals simp
                all_goals omega
    refine af fun K2 aY => ?_
    by_cases hk : i < nn.toNat
    rotate_left
    · have bk : decide ((i : Int) < nn) = false := decide_eq_false (by omega);have nk : ¬ (i : Int) < nn := by omega
      have yx : nn.toNat - i = 0 := by omega
      rw [yx] at i4;refine ae fun K hK => ?_; simp (maxSteps := 1000000) (disch := omega) [-getD_eq_getElem?_getD, bk, nk]; refine hK _ ?_; clear hK K;refine aP rfl (fun h => absurd h (by simp)) (fun h => ?_);apply aD; simp (maxSteps := 1000000) (disch := omega) [-getD_eq_getElem?_getD];refine done _ i4 ?_;simp
    have bk : decide ((i : Int) < nn) = true := decide_eq_true (by omega);have nk : (i : Int) < nn := by omega
    cases sb with
    | true =>
      rw [dL _ _ _ _ rfl] at i4
      refine ae fun K hK => ?_; simp (maxSteps := 1000000) (disch := omega) [-getD_eq_getElem?_getD, bk, nk, rd]; refine hK _ ?_; clear hK K
      refine aP rfl (fun h => absurd h (by simp)) (fun h => ?_)
      apply aD; simp (maxSteps := 1000000) (disch := omega) [-getD_eq_getElem?_getD]
      refine done _ i4 ?_
      simp
    | false =>
      clear done
      rw [eF _ _ _ _ (by omega) rfl] at i4
      have qM : jP (lr bs) BB bs ⟨sa, false⟩ = (⟨(aI bs 1 4 ⟨sa, false⟩).1, (bD bs 100 (aI bs 1 4 ⟨sa, false⟩).2).1, (BB (bD bs (lr bs ⟨sa, false⟩) (bD bs 100 (aI bs 1 4 ⟨sa, false⟩).2).2).1).1⟩,
        ⟨(bD bs (lr bs ⟨sa, false⟩) (bD bs 100 (aI bs 1 4 ⟨sa, false⟩).2).2).2.at_, (bD bs (lr bs ⟨sa, false⟩) (bD bs 100 (aI bs 1 4 ⟨sa, false⟩).2).2).2.bad || decide ((BB (bD bs (lr bs ⟨sa, false⟩) (bD bs 100 (aI bs 1 4 ⟨sa, false⟩).2).2).1).2 ≠ 0)⟩) := rfl
      rw [qM] at i4
      simp only [lr] at i4
      clear qM
      have e1 := bI bs 1 4 ⟨sa, false⟩ i2
      have k1 := fun R T => cI ⟨sa, false⟩ i2 zB R T 1 4
      generalize aI bs 1 4 ⟨sa, false⟩ = a at *
      obtain ⟨av, aq⟩ := a
      simp only at *
      have e2 := iS bs 100 aq e1
      have k2 := fun R T => cX aq e1 zB R T 100
      generalize bD bs 100 aq = b at *
      obtain ⟨bv, bq⟩ := b
      simp only at *
      have e3 := iS bs ((bs.length : Nat) : Int) bq e2
      have k4 := fun R T => cX bq e2 zB R T ((bs.length : Nat) : Int)
      have yu := wB (bs := bs) (m := ((bs.length : Nat) : Int)) (s := bq)
      generalize bD bs ((bs.length : Nat) : Int) bq = c at *
      obtain ⟨x, ⟨ca, cb⟩⟩ := c
      simp only at *
      have k5 := fun H T => Dp x (by omega) H T .none
      rw [show dec x sf gd = BB x from rfl] at k5
      generalize BB x = l at *
      obtain ⟨l, el⟩ := l
      simp only at *
      have Ig : (bX ts).length = i * 3 := by rw [bH, i3]
      have kH := wh ts ⟨av, bv, l⟩
      simp only at kH
      refine ae fun K hK => ?_; simp (maxSteps := 1000000) (disch := omega) [-getD_eq_getElem?_getD, bk, nk, rd]; refine hK _ ?_; clear hK K
      refine aP rfl (fun _ => ?_) (fun hh => absurd hh (by simp))
      apply ak; simp (maxSteps := 1000000) (disch := omega) [-getD_eq_getElem?_getD]
      refine aY _ ?_; clear aY
      refine af fun K3 bA => ?_
      apply ai
      refine ae fun K hK => ?_; simp (maxSteps := 1000000) (disch := omega) [-getD_eq_getElem?_getD]
      refine ah (k1 _ _) ?_; simp (maxSteps := 1000000) (disch := omega) [-getD_eq_getElem?_getD]
      refine hK _ ?_; clear hK K
      refine ae fun K hK => ?_; simp (maxSteps := 1000000) (disch := omega) [-getD_eq_getElem?_getD]
      refine ah (k2 _ _) ?_; simp (maxSteps := 1000000) (disch := omega) [-getD_eq_getElem?_getD]
      refine hK _ ?_; clear hK K
      refine ae fun K hK => ?_; simp (maxSteps := 1000000) (disch := omega) [-getD_eq_getElem?_getD]
      refine ah (k4 _ _) ?_; simp (maxSteps := 1000000) (disch := omega) [-getD_eq_getElem?_getD]
      refine ah (k5 _ _) ?_; simp (maxSteps := 1000000) (disch := omega) [-getD_eq_getElem?_getD]
      refine hK _ ?_; clear hK K
      cases cb with
      | true =>
        simp only [Bool.true_or] at i4
        refine ae fun K hK => ?_; simp (maxSteps := 1000000) (disch := omega) [-getD_eq_getElem?_getD, rd]; refine hK _ ?_; clear hK K
        refine ae fun K hK => ?_; simp (maxSteps := 1000000) (disch := omega) [-getD_eq_getElem?_getD]; refine hK _ ?_; clear hK K
        refine ar fun K hK => ?_; simp (maxSteps := 1000000) (disch := omega) [-getD_eq_getElem?_getD, Ig, i3, kH]; refine hK _ ?_; clear hK K
        refine bA _ ?_; clear bA
        refine ar fun K hK => ?_; simp (maxSteps := 1000000) (disch := omega) [-getD_eq_getElem?_getD]
        refine hK _ ?_; clear hK K
        have mY : (ts ++ [(⟨av, bv, l⟩ : Tm)]).length = i + 1 := by rw [length_append, i3]; rfl
        have xp := qU ⟨ca, true⟩ (ts ++ [(⟨av, bv, l⟩ : Tm)]) [] 0 (T ++ [((ts ++ [(⟨av, bv, l⟩ : Tm)]).length * 3, 3), (0, 2)]) (by simp) (by simp)
        refine ⟨(i + 1, ⟨ca, true⟩, ts ++ [(⟨av, bv, l⟩ : Tm)]), ⟨⟨by show i + 1 ≤ _; omega, e3, mY⟩, ?_⟩, by show nn.toNat - (i + 1) < nn.toNat - i; omega, ?_⟩
        · show rT bs = bO _ (nn.toNat - (i + 1)) _ _
          rw [show nn.toNat - (i + 1) = nn.toNat - i - 1 by omega];exact i4
        · generalize ts ++ [(⟨av, bv, l⟩ : Tm)] = Zj at *
          refine ag [.cells [.int .i64 av, .str bv, .sl l.length (bp l) .none]] [] ?_ ?_ ?_ ?_ xp ?_
          all_goals simp [sB, mY, rd]
      | false =>
        by_cases mZ : el = 0
        · subst mZ
          simp only [Bool.false_or, ne_eq, not_true_eq_false, decide_false] at i4;refine ae fun K hK => ?_; simp (maxSteps := 1000000) (disch := omega) [-getD_eq_getElem?_getD, rd]; refine hK _ ?_; clear hK K;refine ae fun K hK => ?_; simp (maxSteps := 1000000) (disch := omega) [-getD_eq_getElem?_getD]; refine hK _ ?_; clear hK K;refine ar fun K hK => ?_; simp (maxSteps := 1000000) (disch := omega) [-getD_eq_getElem?_getD, Ig, i3, kH]; refine hK _ ?_; clear hK K;refine bA _ ?_; clear bA;refine ar fun K hK => ?_; simp (maxSteps := 1000000) (disch := omega) [-getD_eq_getElem?_getD];refine hK _ ?_; clear hK K;have mY : (ts ++ [(⟨av, bv, l⟩ : Tm)]).length = i + 1 := by rw [length_append, i3]; rfl
          have xp := qU ⟨ca, false⟩ (ts ++ [(⟨av, bv, l⟩ : Tm)]) [] 0 (T ++ [((ts ++ [(⟨av, bv, l⟩ : Tm)]).length * 3, 3), (0, 2)]) (by simp) (by simp);refine ⟨(i + 1, ⟨ca, false⟩, ts ++ [(⟨av, bv, l⟩ : Tm)]), ⟨⟨by show i + 1 ≤ _; omega, e3, mY⟩, ?_⟩, by show nn.toNat - (i + 1) < nn.toNat - i; omega, ?_⟩
          · show rT bs = bO _ (nn.toNat - (i + 1)) _ _;rw [show nn.toNat - (i + 1) = nn.toNat - i - 1 by omega];exact i4
          · generalize ts ++ [(⟨av, bv, l⟩ : Tm)] = Zj at *;refine ag [.cells [.int .i64 av, .str bv, .sl l.length (bp l) .none]] [] ?_ ?_ ?_ ?_ xp ?_
            all_goals simp [sB, mY, rd]
        · have b1 : (el != 0) = true := by simpa using mZ
          have b2 : decide (el ≠ 0) = true := decide_eq_true mZ;rw [b2, Bool.false_or] at i4;refine ae fun K hK => ?_; simp (maxSteps := 1000000) (disch := omega) [-getD_eq_getElem?_getD, rd, b1, mZ]; refine hK _ ?_; clear hK K;refine ae fun K hK => ?_; simp (maxSteps := 1000000) (disch := omega) [-getD_eq_getElem?_getD]; refine hK _ ?_; clear hK K;refine ar fun K hK => ?_; simp (maxSteps := 1000000) (disch := omega) [-getD_eq_getElem?_getD, Ig, i3, kH]; refine hK _ ?_; clear hK K;refine bA _ ?_; clear bA;refine ar fun K hK => ?_; simp (maxSteps := 1000000) (disch := omega) [-getD_eq_getElem?_getD];refine hK _ ?_; clear hK K;have mY : (ts ++ [(⟨av, bv, l⟩ : Tm)]).length = i + 1 := by rw [length_append, i3]; rfl
          have xp := qU ⟨ca, true⟩ (ts ++ [(⟨av, bv, l⟩ : Tm)]) [] 0 (T ++ [((ts ++ [(⟨av, bv, l⟩ : Tm)]).length * 3, 3), (0, 2)]) (by simp) (by simp);refine ⟨(i + 1, ⟨ca, true⟩, ts ++ [(⟨av, bv, l⟩ : Tm)]), ⟨⟨by show i + 1 ≤ _; omega, e3, mY⟩, ?_⟩, by show nn.toNat - (i + 1) < nn.toNat - i; omega, ?_⟩
          · show rT bs = bO _ (nn.toNat - (i + 1)) _ _;rw [show nn.toNat - (i + 1) = nn.toNat - i - 1 by omega];exact i4
          · generalize ts ++ [(⟨av, bv, l⟩ : Tm)] = Zj at *;refine ag [.cells [.int .i64 av, .str bv, .sl l.length (bp l) .none]] [] ?_ ?_ ?_ ?_ xp ?_
            all_goals simp [sB, mY, rd]
end Go.Proofs.YtneohapkboaplaaGreat
