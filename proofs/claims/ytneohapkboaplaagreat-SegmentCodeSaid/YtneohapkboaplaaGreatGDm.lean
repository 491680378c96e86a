/- segment.Decode (layer 39): the walk.
  Conditions: sizes, as the theorem says. -/
import Derived.Test.YtneohapkboaplaaGreatGDk
set_option linter.all false
set_option maxRecDepth 100000
set_option maxHeartbeats 32000000
open List (getD_eq_getElem?_getD length_append)
namespace Go.Proofs.YtneohapkboaplaaGreat
open Go Go.Am gH dc eB
open gB hiding aR
def qK (f:Rd→Tm×Rd)(s2:Rd):Nat→Rd×List Tm
 |0=>(s2,[])
 |i+1=>((f (qK f s2 i).1).2,(qK f s2 i).2++[(f (qK f s2 i).1).1])
theorem Ed (f:Rd→Tm×Rd)(s2:Rd):∀i,(qK f s2 i).2.length=i
 |0=>rfl
 |i+1=>by rw[qK,length_append,Ed f s2 i];rfl
def LG (bs:Bs)(s:Rd):Bs:=(bD bs (db bs (bD bs 100 (aI bs 1 4 s).2).2) (bD bs 100 (aI bs 1 4 s).2).2).1
def Zm (x:Bs):Prop:=x.length≤10000∧(aI x 0 ((x.length:Nat):Int) ⟨0,false⟩).1≤1000
def gT (bs:Bs):List Int×Rd:=eu bs 2000 (aI bs 1 1000000000) ⟨0,false⟩
def dN (bs:Bs):Int×Rd:=aI bs 0 (db bs (gT bs).2) (gT bs).2
def dT (bs:Bs):List Tm×Rd:=bO (jP (db bs) jJ bs) (dN bs).1.toNat (dN bs).2 []
def dM (bs:Bs):Int×Rd:=aI bs 0 (db bs (dT bs).2) (dT bs).2
def dC (bs:Bs):List Cl×Rd:=bO (DR (db bs) bs) (dM bs).1.toNat (dM bs).2 []
theorem Au (bs:Bs):gX bs=if dt bs (dC bs).2≠0∨aW ⟨(gT bs).1,(dT bs).1,(dC bs).1⟩=false then (gh,5) else (⟨(gT bs).1,(dT bs).1,(dC bs).1⟩,0):=rfl
theorem Qh {bs:Bs}{s:Rd}(h:s.at_≤bs.length):(jP (db bs) jJ bs s).2.at_≤bs.length:=by
 unfold jP;simp only;exact iS _ _ _ (iS _ _ _ (bI _ _ _ _ h))
theorem wC {bs:Bs}{s:Rd}(h:s.bad=true):dt bs s≠0:=fun e=>by rw[(mj.1 e).1] at h;cases h
def Pp {α:Type}(f:Rd→α×Rd)(w:List α×Rd)(k:Nat)(q:Rd)(out:List α):Prop:=(q.bad=false→w=bO f k q out)∧(q.bad=true→w.2.bad=true)
theorem zR {α:Type}{f:Rd→α×Rd}{w:List α×Rd}{k:Nat}{q:Rd}{out:List α}(h:Pp f w k q out)(hk:0<k)(x:α)(q':Rd)(hq:q.bad=true→q'.bad=true)(h1:q.bad=false→q'.bad=false→f q=(x,q'))(h2:q.bad=false→q'.bad=true→(f q).2.bad=true) :
  Pp f w (k-1) q' (out++[x]):=by
 constructor
 ·intro hb
  cases Lm:q.bad with
  |true=>rw[hq Lm] at hb;cases hb
  |false=>rw[h.1 Lm,eF _ _ _ _ hk Lm,h1 Lm hb]
 ·intro hb
  cases Lm:q.bad with
  |true=>exact h.2 Lm
  |false=>
   rw[h.1 Lm,eF _ _ _ _ hk Lm,dL _ _ _ _ (h2 Lm hb)];exact h2 Lm hb
theorem El {α:Type}{f:Rd→α×Rd}{w:List α×Rd}{q:Rd}{out:List α}(h:Pp f w 0 q out):(q.bad=false→w=(out,q))∧(q.bad=true→w.2.bad=true):=h
abbrev zB:aG:=.cells [.sl 0 [] .full,.sl 0 [] .full,.sl 0 [] .full]
abbrev sB (aw:List Int)(ts:List Tm)(cs:List AV)(m t:Nat):aG:=.cells [.sl aw.length (ints aw) .none,.sl ts.length (bX ts) (.own t),.sl m cs (.own (t+1))]
theorem nZ (bs : Bs) (hb : bs.length ≤ 2000000) (hX : ∀ i, i < (dN bs).1.toNat → (qK (jP (db bs) jJ bs) (dN bs).2 i).1.bad = false → Zm (LG bs (qK (jP (db bs) jJ bs) (dN bs).2 i).1))
    (hS : dt bs (dC bs).2 = 0 → re ⟨(gT bs).1, (dT bs).1, (dC bs).1⟩) (H : List aG) (T : ay) (tg : Tag) :
    al Tryz.prog 52 [.sl bs.length (bu bs) tg] H T (Is (.cJ [il (gX bs).1, .int .i64 (gX bs).2]) H T) := by
  refine al.cg ?_;refine al.r9 ?_;show al Tryz.prog _ _ H T (BQ H T _);have fW : bs.length ≤ 1099511627776 := by omega
  have cI := fun s hs z R T lo hi => M6 bs s hs fW H R z T lo hi;have cX := fun s hs z R T mx => JW bs s hs fW H R z T mx;have cR := fun s hs z R T => JX bs s hs fW H R z T;have DO : (gT bs).2.at_ ≤ bs.length := zK (fun s h => bI _ _ _ _ h) _ (Nat.zero_le _);have cL : al Tryz.prog 126 [.ptr (H.length + 1) 0, .int .i64 2000, .int .i64 1, .int .i64 1000000000] (H ++ zB :: [.cells (rd bs ⟨0, false⟩)]) T (Is (.sl (gT bs).1.length (ints (gT bs).1) .none) (H ++ zB :: [.cells (rd bs (gT bs).2)]) T) := JY bs ⟨0, false⟩ (Nat.zero_le _) fW H [] zB T 2000 1 1000000000;have cF := EB bs fW (H ++ [zB]) T;rw [Au];have hN0 : 0 ≤ (dN bs).1 := dR _ _ _;have hN1 : (dN bs).1.toNat ≤ bs.length := x6 bs _;have Ch : (dN bs).2.at_ ≤ bs.length := bI _ _ _ _ DO;have hNb : (dN bs).2.bad = true → (dN bs).1.toNat = 0 := fun h => by
    unfold dN at h ⊢;generalize (gT bs).2 = s at *
    cases hs : s.bad with
    | true => rw [fl hs]; rfl
    | false =>
      obtain ⟨a, b⟩ := s
      simp only at hs
      subst hs
      rw [JP h]; rfl
  have Sz : dN bs = aI bs 0 ((bs.length - (gT bs).2.at_ : Nat) : Int) (gT bs).2 := rfl;have Lx : dM bs = aI bs 0 ((bs.length - (dT bs).2.at_ : Nat) : Int) (dT bs).2 := rfl;have hM0 : 0 ≤ (dM bs).1 := dR _ _ _;have hM1 : (dM bs).1.toNat ≤ bs.length := x6 bs _;have Su : dT bs = bO (jP (db bs) jJ bs) (dN bs).1.toNat (dN bs).2 [] := rfl;have Pk : dC bs = bO (DR (db bs) bs) (dM bs).1.toNat (dM bs).2 [] := rfl;have Cg : (dT bs).2.at_ ≤ bs.length := uI (fun s h => Qh h) _ _ _ Ch;have Iu : (dM bs).2.at_ ≤ bs.length := bI _ _ _ _ Cg;have IL : (dT bs).2.bad = true → dt bs (dC bs).2 ≠ 0 := fun h => by
    rw [Pk];have : (dM bs).2.bad = true := by rw [Lx, fl h]; exact h
    rw [dL _ _ _ _ this];exact wC this
  generalize Xc : gT bs = D at *;obtain ⟨aw, s1⟩ := D;generalize dN bs = N0 at *;obtain ⟨nn, s2⟩ := N0;simp only at cL DO hN0 hN1 Ch hNb Sz Su hX hS ⊢;refine aj 63 [] Tryz.ntmps52 Tryz.func52 rfl (fun _ _ => Tryz.call52 _ _) (by simp) (fun HO => ?_);refine ae fun K hK => ?_; simp (maxSteps := 1000000) (disch := omega) [-getD_eq_getElem?_getD]; refine hK _ ?_; clear hK K;refine ae fun K hK => ?_; simp (maxSteps := 1000000) (disch := omega) [-getD_eq_getElem?_getD];refine ah (cF) ?_; simp (maxSteps := 1000000) (disch := omega) [-getD_eq_getElem?_getD];refine hK _ ?_; clear hK K;refine ae fun K hK => ?_; simp (maxSteps := 1000000) (disch := omega) [-getD_eq_getElem?_getD];refine ah (cL) ?_; simp (maxSteps := 1000000) (disch := omega) [-getD_eq_getElem?_getD];refine hK _ ?_; clear hK K;refine fP 3 1 (H ++ [zB, .cells (rd bs s1)]) [.sl aw.length (ints aw) .none, .sl 0 [] .full, .sl 0 [] .full] 0 [] (by omega) rfl (by simp) ?_;refine fP 2 2 (H ++ [zB, .cells (rd bs s1)]) [.sl aw.length (ints aw) .none, .sl 0 [] (.own T.length), .sl 0 [] .full] 0 [] (by omega) rfl (by simp) ?_;simp (maxSteps := 1000000) (disch := omega) [-getD_eq_getElem?_getD];have qU : ∀ (s : Rd) (ts : List Tm) (cs : List AV) (m : Nat) (U : ay), T.length + 2 ≤ U.length → aL (H.length + 3) U.length cs → bM (H ++ [zB, .cells (rd bs s), sB aw ts cs m T.length]) U := by
    intro s ts cs m U hU hc;have h1 := ((HO.snoc (vs := [.sl 0 [] .full, .sl 0 [] .full, .sl 0 [] .full]) (by simp)).snoc (vs := rd bs s) (by simp [rd])).df (T' := U) (by omega);have h2 := h1.snoc (vs := [.sl aw.length (ints aw) .none, .sl ts.length (bX ts) (.own T.length), .sl m cs (.own (T.length + 1))]) (by simp [hc]; omega);simpa using h2
  refine af fun K1 aO => ?_;refine ae fun K hK => ?_; simp (maxSteps := 1000000) (disch := omega) [-getD_eq_getElem?_getD];refine ah (cR _ DO _ _ _) ?_; simp (maxSteps := 1000000) (disch := omega) [-getD_eq_getElem?_getD];refine ah (cI _ DO _ _ _ _ _) ?_; simp (maxSteps := 1000000) (disch := omega) [-getD_eq_getElem?_getD];refine hK _ ?_; clear hK K;rw [← Sz];simp only;apply ai;refine aK (X := Nat) (fun i => ⟨[(2, .ptr H.length 0), (3, .int .i64 0), (4, .ptr (H.length + 1) 0), (5, .ptr (H.length + 2) 0), (19, .int .i64 nn), (20, .int .i64 (i : Nat))], H ++ [zB, .cells (rd bs (qK (jP (db bs) jJ bs) s2 i).1), sB aw (qK (jP (db bs) jJ bs) s2 i).2 [] 0 T.length], T ++ [((qK (jP (db bs) jJ bs) s2 i).2.length * 3, 3), (0, 2)]⟩)
    (fun i => i ≤ nn.toNat ∧ (qK (jP (db bs) jJ bs) s2 i).1.at_ ≤ bs.length ∧ ((qK (jP (db bs) jJ bs) s2 i).1.bad = false ∨ nn.toNat = 0) ∧ dT bs = bO (jP (db bs) jJ bs) (nn.toNat - i) (qK (jP (db bs) jJ bs) s2 i).1 (qK (jP (db bs) jJ bs) s2 i).2) (fun i => nn.toNat - i) 0 ?_ ?_ ?_
  · refine ⟨Nat.zero_le _, Ch, ?_, Su⟩
    cases hq : s2.bad with
    | false => exact .inl hq
    | true => exact .inr (hNb hq)
  · refine ag [] [] ?_ ?_ ?_ ?_ (qU s2 [] [] 0 (T ++ [(0 * 3, 3), (0, 2)]) (by simp) (by simp)) ?_
    all_goals simp [qK, bX]
  · rintro i ⟨i1, i2, i3, i4⟩;have lV := Ed (jP (db bs) jJ bs) s2 i;have Xd := hX i;have jy : qK (jP (db bs) jJ bs) s2 (i + 1) = ((jP (db bs) jJ bs (qK (jP (db bs) jJ bs) s2 i).1).2, (qK (jP (db bs) jJ bs) s2 i).2 ++ [(jP (db bs) jJ bs (qK (jP (db bs) jJ bs) s2 i).1).1]) := rfl;generalize hP : qK (jP (db bs) jJ bs) s2 i = P at *;obtain ⟨s, ts⟩ := P;simp only at i2 i3 i4 lV Xd jy ⊢;refine ae fun K hK => ?_; simp (maxSteps := 1000000) (disch := omega) [-getD_eq_getElem?_getD]; refine hK _ ?_; clear hK K;refine af fun K2 aY => ?_;refine aP rfl (fun hk => ?_) (fun hk => ?_)
    · simp [-getD_eq_getElem?_getD] at hk;have Pb : i < nn.toNat := by omega
      have hsb : s.bad = false := i3.resolve_right (by omega);obtain ⟨x1, x2⟩ := Xd Pb hsb;have dA := eF (jP (db bs) jJ bs) (nn.toNat - i) s ts (by omega) hsb;rw [dA] at i4;have fx := Jq (lim := db bs) (bs := bs) (s := s);have OE := MF (lim := db bs) (bs := bs) (s := s);have WZ : (jP (db bs) jJ bs s).1 = ⟨(aI bs 1 4 s).1, (bD bs 100 (aI bs 1 4 s).2).1, (jJ (bD bs (db bs (bD bs 100 (aI bs 1 4 s).2).2) (bD bs 100 (aI bs 1 4 s).2).2).1).1⟩ := rfl;have e1 := bI bs 1 4 s i2;have k1 := fun R T => cI s i2 zB R T 1 4;unfold LG at x1 x2;clear dA hX Xd;generalize aI bs 1 4 s = a at *;obtain ⟨av, aq⟩ := a;simp only at *;have e2 := iS bs 100 aq e1;have k2 := fun R T => cX aq e1 zB R T 100;generalize bD bs 100 aq = b at *;obtain ⟨bv, bq⟩ := b;simp only at *;have e3 := iS bs (db bs bq) bq e2;have k3 := fun R T => cR bq e2 zB R T;have k4 := fun R T => cX bq e2 zB R T (db bs bq);generalize bD bs (db bs bq) bq = c at *;obtain ⟨x, cq⟩ := c;simp only at *;have BE : jJ x = dec x (kJ x) (gy x) := if_pos (by omega);have k5 := fun H T => Hh x x1 x2 H T .none;rw [← BE] at k5;clear BE;generalize jJ x = l at *;obtain ⟨l, el⟩ := l;simp only at *;generalize jP (db bs) jJ bs s = tt at *;obtain ⟨tv, tq⟩ := tt;simp only at *;subst WZ;apply ak; simp (maxSteps := 1000000) (disch := omega) [-getD_eq_getElem?_getD];refine aY _ ?_; clear aY;refine af fun K3 bA => ?_;apply ai;refine ae fun K hK => ?_; simp (maxSteps := 1000000) (disch := omega) [-getD_eq_getElem?_getD];refine ah (k1 _ _) ?_; simp (maxSteps := 1000000) (disch := omega) [-getD_eq_getElem?_getD];refine ah (k2 _ _) ?_; simp (maxSteps := 1000000) (disch := omega) [-getD_eq_getElem?_getD];refine hK _ ?_; clear hK K;refine ae fun K hK => ?_; simp (maxSteps := 1000000) (disch := omega) [-getD_eq_getElem?_getD];refine ah (k3 _ _) ?_; simp (maxSteps := 1000000) (disch := omega) [-getD_eq_getElem?_getD];refine ah (k4 _ _) ?_; simp (maxSteps := 1000000) (disch := omega) [-getD_eq_getElem?_getD];refine ah (k5 _ _) ?_; simp (maxSteps := 1000000) (disch := omega) [-getD_eq_getElem?_getD];refine hK _ ?_; clear hK K;refine af fun K4 ec => ?_
      by_cases mZ : el = 0
      · subst mZ;obtain ⟨g1, g2⟩ := fx rfl;subst g2;refine ae fun K hK => ?_; simp (maxSteps := 1000000) (disch := omega) [-getD_eq_getElem?_getD]; refine hK _ ?_; clear hK K;refine aP rfl (fun h => absurd h (by simp)) (fun h => ?_);apply ak; simp (maxSteps := 1000000) (disch := omega) [-getD_eq_getElem?_getD];refine ec _ ?_; clear ec;refine ae fun K hK => ?_; simp (maxSteps := 1000000) (disch := omega) [-getD_eq_getElem?_getD]; refine hK _ ?_; clear hK K;have Ig : (bX ts).length = i * 3 := by rw [bH, lV]
        have kH := wh ts ⟨av, bv, l⟩;simp only at kH;refine ar fun K hK => ?_; simp (maxSteps := 1000000) (disch := omega) [-getD_eq_getElem?_getD, Ig, lV, kH]; refine hK _ ?_; clear hK K;refine bA _ ?_; clear bA;refine ar fun K hK => ?_; simp (maxSteps := 1000000) (disch := omega) [-getD_eq_getElem?_getD];refine hK _ ?_; clear hK K;refine ⟨i + 1, ⟨by omega, ?_, ?_, ?_⟩, by omega, ?_⟩
        · rw [jy]; exact e3
        · rw [jy]; exact .inl g1
        · rw [jy, i4]; congr 1
        · rw [jy];simp only;have mY : (ts ++ [(⟨av, bv, l⟩ : Tm)]).length = i + 1 := by rw [length_append, lV]; rfl
          rw [mY];have xp := qU tq (ts ++ [(⟨av, bv, l⟩ : Tm)]) [] 0 (T ++ [((i + 1) * 3, 3), (0, 2)]) (by simp) (by simp);generalize ts ++ [(⟨av, bv, l⟩ : Tm)] = Zj at *;refine ag [.cells [.int .i64 av, .str bv, .sl l.length (bp l) .none]] [] ?_ ?_ ?_ ?_ xp ?_
          all_goals simp [sB, mY]
      · have b1 : (el != 0) = true := by simpa using mZ
        have hbT : (dT bs).2.bad = true := by
          rw [i4, dL _ _ _ _ (OE mZ)];exact OE mZ
        have mc := IL hbT;refine ae fun K hK => ?_; simp (maxSteps := 1000000) (disch := omega) [-getD_eq_getElem?_getD, b1, mZ]; refine hK _ ?_; clear hK K;refine aP rfl (fun h => ?_) (fun h => absurd h (by simp [mZ]));refine ae fun K hK => ?_; simp (maxSteps := 1000000) (disch := omega) [-getD_eq_getElem?_getD]; refine hK _ ?_; clear hK K;apply an; simp (maxSteps := 1000000) (disch := omega) [-getD_eq_getElem?_getD];exact ⟨⟨_, rfl⟩, ⟨_, rfl⟩, ka _⟩
    · simp [-getD_eq_getElem?_getD] at hk;have yx : i = nn.toNat := by omega
      subst yx;rw [Nat.sub_self] at i4;have Se : dT bs = (ts, s) := i4;clear hX Xd jy;rw [Se] at hS Lx Cg IL ⊢;simp only at hS Lx Cg IL;generalize dM bs = M0 at *;obtain ⟨mm, s4⟩ := M0;simp only at hM0 hM1 Iu Pk Lx;have aan : ts.length = nn.toNat := lV;apply aD; simp (maxSteps := 1000000) (disch := omega) [-getD_eq_getElem?_getD];refine aO _ ?_; clear aO;refine af fun K1 aO => ?_;refine ae fun K hK => ?_; simp (maxSteps := 1000000) (disch := omega) [-getD_eq_getElem?_getD];refine ah (cR s i2 zB _ _) ?_; simp (maxSteps := 1000000) (disch := omega) [-getD_eq_getElem?_getD];refine ah (cI s i2 zB _ _ _ _) ?_; simp (maxSteps := 1000000) (disch := omega) [-getD_eq_getElem?_getD];refine hK _ ?_; clear hK K;rw [← Lx];simp only;apply ai;have Sv : (T ++ [(nn.toNat * 3, 3), (0, 2)]).length = T.length + 2 := by simp
      have xo : gP T (T ++ [(nn.toNat * 3, 3), (0, 2)]) := ⟨_, rfl⟩
      have Pj : (T ++ [(nn.toNat * 3, 3), (0, 2)])[T.length + 1]? = some (0 * 2, 2) := by simp
      rw [aan];generalize T ++ [(nn.toNat * 3, 3), (0, 2)] = U0 at *;refine aK (X := Nat × List (Cl × Nat) × Rd × ay) (fun x => ⟨[(2, .ptr H.length 0), (3, .int .i64 0), (4, .ptr (H.length + 1) 0), (5, .ptr (H.length + 2) 0), (51, .int .i64 mm), (52, .int .i64 (x.1 : Nat))], H ++ [zB, .cells (rd bs x.2.2.1), sB aw ts (cS x.2.1) x.1 T.length], x.2.2.2⟩)
        (fun x => (x.1 ≤ mm.toNat ∧ x.2.2.1.at_ ≤ bs.length ∧ x.2.1.length = x.1) ∧ (∀ c ∈ x.2.1, c.2 < x.2.2.2.length) ∧ T.length + 2 ≤ x.2.2.2.length ∧ gP T x.2.2.2 ∧ x.2.2.2[T.length + 1]? = some (x.1 * 2, 2) ∧ Pp (DR (db bs) bs) (dC bs) (mm.toNat - x.1) x.2.2.1 (x.2.1.map (·.1))) (fun x => mm.toNat - x.1) (0, [], s4, U0) ?_ ?_ ?_
      · refine ⟨⟨Nat.zero_le _, Iu, rfl⟩, by simp, by show T.length + 2 ≤ U0.length; omega, xo, Pj, fun _ => Pk, fun h => ?_⟩;rw [Pk, dL _ _ _ _ h]; exact h
      · refine ag [] [] ?_ ?_ ?_ ?_ (qU s4 ts [] 0 U0 (by omega) (by simp)) ?_
        all_goals simp [cS]
        all_goals omega
      · rintro ⟨j, P, q, U⟩ ⟨⟨j1, j2, j3⟩, p1, p2, p3, p4, p5⟩;simp only at j1 j2 j3 p1 p2 p3 p4 p5;have xy : aL (H.length + 3) U.length (cS P) := iV p1;have lT := p3.le;refine ae fun K hK => ?_; simp (maxSteps := 1000000) (disch := omega) [-getD_eq_getElem?_getD]; refine hK _ ?_; clear hK K;refine af fun K2 aY => ?_;refine aP rfl (fun da => ?_) (fun da => ?_)
        · simp [-getD_eq_getElem?_getD] at da;have hkj : j < mm.toNat := by omega
          have e1 := bI bs 5 7 q j2;have k1 := fun R T => cI q j2 zB R T 5 7;have Rf : DR (db bs) bs q = (⟨(aI bs 5 7 q).1, (bO (DE bs) (aI bs 0 (db bs (aI bs 5 7 q).2) (aI bs 5 7 q).2).1.toNat (aI bs 0 (db bs (aI bs 5 7 q).2) (aI bs 5 7 q).2).2 []).1⟩, (bO (DE bs) (aI bs 0 (db bs (aI bs 5 7 q).2) (aI bs 5 7 q).2).1.toNat (aI bs 0 (db bs (aI bs 5 7 q).2) (aI bs 5 7 q).2).2 []).2) := rfl;have st1 : q.bad = true → aI bs 5 7 q = (0, q) := fl;generalize aI bs 5 7 q = a at *;obtain ⟨av, aq⟩ := a;simp only at *;have e2 := bI bs 0 (db bs aq) aq e1;have k2 := fun R T => cR aq e1 zB R T;have k3 := fun R T => cI aq e1 zB R T 0 (db bs aq);have n0' : 0 ≤ (aI bs 0 (db bs aq) aq).1 := dR _ _ _;have n1' := x6 bs aq;have st2 : aq.bad = true → aI bs 0 (db bs aq) aq = (0, aq) := fl;generalize aI bs 0 (db bs aq) aq = kk at *;obtain ⟨kv, r0⟩ := kk;simp only at *;have stay : q.bad = true → kv = 0 ∧ r0 = q := fun h => by
            have h1 := Prod.mk.inj (st1 h);have h2 : aq.bad = true := by rw [h1.2]; exact h
            have h3 := Prod.mk.inj (st2 h2);exact ⟨h3.1, h3.2.trans h1.2⟩
          clear st1 st2;apply ak; simp (maxSteps := 1000000) (disch := omega) [-getD_eq_getElem?_getD];refine aY _ ?_; clear aY;refine af fun K3 bA => ?_;apply ai;refine ae fun K hK => ?_; simp (maxSteps := 1000000) (disch := omega) [-getD_eq_getElem?_getD];refine ah (k1 _ _) ?_; simp (maxSteps := 1000000) (disch := omega) [-getD_eq_getElem?_getD];refine hK _ ?_; clear hK K;refine fP 2 1 (H ++ [zB, .cells (rd bs aq), sB aw ts (cS P) j T.length]) [.int .i64 av, .sl 0 [] .full] 0 [] (by omega) rfl (by simp) ?_;simp (maxSteps := 1000000) (disch := omega) [-getD_eq_getElem?_getD];have mi : ∀ (r : Rd) (k : Nat) (cs : List AV) (V : ay), U.length + 1 ≤ V.length → aL (H.length + 4) V.length cs → bM (H ++ [zB, .cells (rd bs r), sB aw ts (cS P) j T.length, .cells [.int .i64 av, .sl k cs (.own U.length)]]) V := by
            intro r k cs V hV hc;have h1 := qU r ts (cS P) j V (by omega) (fun v hv => (xy v hv).more (Nat.le_refl _) (by omega));have h2 := h1.snoc (vs := [.int .i64 av, .sl k cs (.own U.length)]) (by simp [hc]; omega);simpa using h2
          refine af fun K4 ec => ?_;refine ae fun K hK => ?_; simp (maxSteps := 1000000) (disch := omega) [-getD_eq_getElem?_getD];refine ah (k2 _ _) ?_; simp (maxSteps := 1000000) (disch := omega) [-getD_eq_getElem?_getD];refine ah (k3 _ _) ?_; simp (maxSteps := 1000000) (disch := omega) [-getD_eq_getElem?_getD];refine hK _ ?_; clear hK K;apply ai;obtain ⟨W3, Ph⟩ : ∃ W3, W3 = bO (DE bs) kv.toNat r0 [] := ⟨_, rfl⟩
          rw [← Ph] at Rf;refine aK (X := Nat × List Nm × Rd) (fun x => ⟨[(2, .ptr H.length 0), (3, .int .i64 0), (4, .ptr (H.length + 1) 0), (5, .ptr (H.length + 2) 0), (51, .int .i64 mm), (52, .int .i64 (j : Nat)), (9, .ptr (H.length + 3) 0), (60, .int .i64 kv), (61, .int .i64 (x.1 : Nat))], H ++ [zB, .cells (rd bs x.2.2), sB aw ts (cS P) j T.length, .cells [.int .i64 av, .sl x.1 (br x.2.1) (.own U.length)]], U ++ [(x.1 * 2, 2)]⟩)
            (fun x => (x.1 ≤ kv.toNat ∧ x.2.2.at_ ≤ bs.length ∧ x.2.1.length = x.1) ∧ Pp (DE bs) W3 (kv.toNat - x.1) x.2.2 x.2.1) (fun x => kv.toNat - x.1) (0, [], r0) ?_ ?_ ?_
          · refine ⟨⟨Nat.zero_le _, e2, rfl⟩, fun _ => Ph, fun h => ?_⟩;rw [Ph, dL _ _ _ _ h]; exact h
          · refine ag [] [] ?_ ?_ ?_ ?_ (mi r0 0 (br []) (U ++ [(0 * 2, 2)]) (by simp) (by simp)) ?_
            all_goals simp [br]
            all_goals omega
          · rintro ⟨h, xs, r⟩ ⟨⟨h1, h2, h3⟩, h4⟩;simp only at h1 h2 h3 h4;have BJ : (br xs).length = h * 2 := by rw [cj, h3]
            refine ae fun K hK => ?_; simp (maxSteps := 1000000) (disch := omega) [-getD_eq_getElem?_getD]; refine hK _ ?_; clear hK K;refine af fun K5 gO => ?_;refine aP rfl (fun ko => ?_) (fun ko => ?_)
            · simp [-getD_eq_getElem?_getD] at ko;have hkh : h < kv.toNat := by omega
              have f1 := bI bs 0 1000000000000 r h2;have m1 := fun R T => cI r h2 zB R T 0 1000000000000;have RP : DE bs r = (((aI bs 0 1000000000000 r).1, (aI bs 1 1000000000 (aI bs 0 1000000000000 r).2).1), (aI bs 1 1000000000 (aI bs 0 1000000000000 r).2).2) := rfl;have st1 : r.bad = true → aI bs 0 1000000000000 r = (0, r) := fl;generalize aI bs 0 1000000000000 r = a at *;obtain ⟨nv, r1⟩ := a;simp only at *;have f2 := bI bs 1 1000000000 r1 f1;have m2 := fun R T => cI r1 f1 zB R T 1 1000000000;have st2 : r1.bad = true → aI bs 1 1000000000 r1 = (0, r1) := fl;generalize aI bs 1 1000000000 r1 = a at *;obtain ⟨dv, r2⟩ := a;simp only at *;have Tx : r.bad = true → r2.bad = true := fun hh => by
                have g1 := Prod.mk.inj (st1 hh);have g2 : r1.bad = true := by rw [g1.2]; exact hh
                have g3 := Prod.mk.inj (st2 g2);rw [g3.2]; exact g2
              clear st1 st2;have dA := zR h4 (by omega) (nv, dv) r2 Tx (fun _ _ => RP) (fun _ hh => by rw [RP]; exact hh);have kH := ow xs (nv, dv);simp only at kH;apply ak; simp (maxSteps := 1000000) (disch := omega) [-getD_eq_getElem?_getD];refine gO _ ?_; clear gO;refine af fun K6 lp => ?_;apply ai;refine ae fun K hK => ?_; simp (maxSteps := 1000000) (disch := omega) [-getD_eq_getElem?_getD];refine ah (m1 _ _) ?_; simp (maxSteps := 1000000) (disch := omega) [-getD_eq_getElem?_getD];refine hK _ ?_; clear hK K;refine cE [4, 7, 9] [0, 0, 0, 0, 0, 1, 1, 1, 2, 2] [[0, 1, 2], [], []] au (by kernel_rfl) (by kernel_rfl) fun K hK => ?_; simp (maxSteps := 1000000) (disch := omega) [-getD_eq_getElem?_getD, BJ, kH];refine dz (m2 _ _) rfl ?_; simp (maxSteps := 1000000) (disch := omega) [-getD_eq_getElem?_getD, BJ, kH];refine hK _ ?_; clear hK K;refine lp _ ?_; clear lp;refine ar fun K hK => ?_; simp (maxSteps := 1000000) (disch := omega) [-getD_eq_getElem?_getD];refine hK _ ?_; clear hK K;refine ⟨(h + 1, xs ++ [(nv, dv)], r2), ⟨⟨by show h + 1 ≤ _; omega, f2, by rw [length_append, h3]; rfl⟩, ?_⟩, by show kv.toNat - (h + 1) < kv.toNat - h; omega, ?_⟩
              · show Pp _ _ (kv.toNat - (h + 1)) _ _;rw [show kv.toNat - (h + 1) = kv.toNat - h - 1 by omega];exact dA
              · have xp := mi r2 (h + 1) (br (xs ++ [(nv, dv)])) (U ++ [((h + 1) * 2, 2)]) (by simp) (by simp);refine ag [] [] ?_ ?_ ?_ ?_ xp ?_
                all_goals simp
                all_goals omega
            · simp [-getD_eq_getElem?_getD] at ko;have ZV : h = kv.toNat := by omega
              subst ZV;rw [Nat.sub_self] at h4;obtain ⟨w1, w2⟩ := El h4;have hqr : q.bad = true → r.bad = true := fun hh => by
                obtain ⟨g1, g2⟩ := stay hh
                cases hr : r.bad with
                | true => rfl
                | false =>
                  have g3 := w1 hr
                  rw [Ph, g1, g2] at g3
                  have g4 := (Prod.mk.inj g3).2
                  rw [← g4] at hr
                  rw [hr] at hh; cases hh
              have dA := zR p5 (by omega) (⟨av, xs⟩ : Cl) r hqr (fun _ hh => by rw [Rf, w1 hh]) (fun _ hh => by rw [Rf]; exact w2 hh);have Lw : (U ++ [(kv.toNat * 2, 2)])[T.length + 1]? = some (j * 2, 2) := by rw [List.getElem?_append_left (by omega)]; exact p4
              have oT : gP T (U ++ [(kv.toNat * 2, 2)]) := p3.app _;have H3 : (U ++ [(kv.toNat * 2, 2)]).length = U.length + 1 := by simp
              have tZ := mi r kv.toNat (br xs) (U ++ [(kv.toNat * 2, 2)]) (by simp) (by simp);have pV : (cS P).length = j * 2 := by rw [nQ, j3]
              have kH := oE P ((⟨av, xs⟩ : Cl), U.length);simp only [h3] at kH;have DQ : (P ++ [((⟨av, xs⟩ : Cl), U.length)]).map (·.1) = P.map (·.1) ++ [(⟨av, xs⟩ : Cl)] := by rw [List.map_append]; rfl
              rw [← DQ] at dA;have LZ : (P ++ [((⟨av, xs⟩ : Cl), U.length)]).length = j + 1 := by rw [length_append, j3]; rfl
              have vU : ∀ c ∈ P ++ [((⟨av, xs⟩ : Cl), U.length)], c.2 < U.length + 1 := fun c hc => by
                rcases List.mem_append.1 hc with h | h
                · have := p1 c h; omega
                · rw [List.mem_singleton.1 h]; exact Nat.lt_succ_self _
              have pN : aL (H.length + 3) (U.length + 1) (cS (P ++ [((⟨av, xs⟩ : Cl), U.length)])) := iV vU;generalize Z9 : P ++ [((⟨av, xs⟩ : Cl), U.length)] = P2 at *;clear mi DQ;generalize cS P = ca at *;have lU : T.length + 1 < (U ++ [(kv.toNat * 2, 2)]).length := by omega
              obtain ⟨u, hu⟩ : ∃ u, u = U.length := ⟨_, rfl⟩
              rw [← hu] at kH pN vU H3 tZ;simp only [← hu];generalize Z7 : U ++ [(kv.toNat * 2, 2)] = U2 at *;have eU := bT Lw;refine aQ ⟨[(2, .ptr H.length 0), (3, .int .i64 0), (4, .ptr (H.length + 1) 0), (5, .ptr (H.length + 2) 0), (51, .int .i64 mm), (52, .int .i64 (j : Nat)), (9, .ptr (H.length + 3) 0)], H ++ [zB, .cells (rd bs r), sB aw ts ca j T.length, .cells [.int .i64 av, .sl kv.toNat (br xs) (.own u)]], U2⟩ (ag [] [] (by simp) (by simp) (by simp) (by simp; omega) tZ (by simp)) ?_;apply aD; simp (maxSteps := 1000000) (disch := omega) [-getD_eq_getElem?_getD];refine ec _ ?_; clear ec;refine ar fun K hK => ?_; simp (maxSteps := 1000000) (disch := omega) [-getD_eq_getElem?_getD, eU, pV, kH]; refine hK _ ?_; clear hK K;have Fh := qU r ts (cS P2) (j + 1) (U2.set (T.length + 1) ((j + 1) * 2, 2)) (by simp; omega) (by simp [H3, pN]);refine bA _ ?_; clear bA;refine ar fun K hK => ?_; simp (maxSteps := 1000000) (disch := omega) [-getD_eq_getElem?_getD];refine hK _ ?_; clear hK K;refine ⟨(j + 1, P2, r, U2.set (T.length + 1) ((j + 1) * 2, 2)), ⟨⟨by show j + 1 ≤ _; omega, h2, LZ⟩, fun c hc => by have := vU c hc; simp only [List.length_set]; omega, by simp only [List.length_set]; omega, oT.set (by omega) _, List.getElem?_set_self (by omega), ?_⟩, by show mm.toNat - (j + 1) < mm.toNat - j; omega, ?_⟩
              · show Pp _ _ (mm.toNat - (j + 1)) _ _;rw [show mm.toNat - (j + 1) = mm.toNat - j - 1 by omega];exact dA
              · refine ag [.cells [.int .i64 av, .sl kv.toNat (br xs) (.own u)]] [] ?_ ?_ ?_ ?_ Fh ?_
                all_goals simp
                all_goals omega
        · simp [-getD_eq_getElem?_getD] at da;have DM : j = mm.toNat := by omega
          subst DM;rw [Nat.sub_self] at p5;obtain ⟨w1, w2⟩ := El p5;have L8 := fun R T => JZ bs q j2 fW H R zB T;have HO5 : bM (H ++ [zB, .cells (rd bs q)]) T := by
            have := (HO.snoc (vs := [.sl 0 [] .full, .sl 0 [] .full, .sl 0 [] .full]) (by simp)).snoc (vs := rd bs q) (by simp [rd]);simpa using this
          obtain ⟨XT, Z6⟩ := p3;refine aQ ⟨[(2, .ptr H.length 0), (3, .int .i64 0), (4, .ptr (H.length + 1) 0), (5, .ptr (H.length + 2) 0)], H ++ [zB, .cells (rd bs q), sB aw ts (cS P) mm.toNat T.length], U⟩ (ag [] [] (by simp) (by simp) (by simp) (by show T.length ≤ U.length; omega) (qU q ts (cS P) mm.toNat U p2 xy) (by simp)) ?_;apply aD; simp (maxSteps := 1000000) (disch := omega) [-getD_eq_getElem?_getD];refine aO _ ?_; clear aO;rw [Z6, show H ++ [zB, aG.cells (rd bs q), sB aw ts (cS P) mm.toNat T.length] = (H ++ [zB, aG.cells (rd bs q)]) ++ [sB aw ts (cS P) mm.toNat T.length] by simp];refine Cz (H := H ++ [zB, .cells (rd bs q)]) (T := T) (e' := [(2, .ptr H.length 0), (3, .int .i64 0), (4, .ptr (H.length + 1) 0), (5, .dI (cG ⟨aw, ts, P.map (·.1)⟩) 0)]) ?_ ?_ HO5 ?_ ?_
          · simp
          · simp
          · refine ⟨gn.same (by simp), gn.same (by simp), gn.same (by simp), ?_, trivial⟩;refine gn.ptr (vs := [.sl aw.length (ints aw) .none, .sl ts.length (bX ts) (.own T.length), .sl mm.toNat (cS P) (.own (T.length + 1))]) (by simp) (by simp) (by simp) fun j hj => ?_
            match j, hj with
            | 0, _ => exact .same (by simp)
            | 1, _ => exact .keep (.inr rfl) (by simp)
            | 2, _ =>
              show gn _ _ _ (.sl mm.toNat (cS P) (.own (T.length + 1))) (.sl (P.map (·.1)).length (eA (P.map (·.1))) .none)
              rw [List.length_map, j3]
              exact xL
          generalize P.map (·.1) = cs at *;have OF : dt bs q ≠ 0 → dt bs (dC bs).2 ≠ 0 := fun h => by
            cases hq : q.bad with
            | true => exact wC (w2 hq)
            | false => rw [w1 hq]; exact h
          by_cases hD : dt bs q = 0
          rotate_left
          · have b1 : (dt bs q != 0) = true := by simpa using hD
            rw [if_pos (.inl (OF hD))];clear OF;generalize dt bs q = dv at *;refine af fun K1 aO => ?_;refine ae fun K hK => ?_; simp (maxSteps := 1000000) (disch := omega) [-getD_eq_getElem?_getD];refine ah (L8 _ _) ?_; simp (maxSteps := 1000000) (disch := omega) [-getD_eq_getElem?_getD, b1, hD];refine hK _ ?_; clear hK K;refine aP rfl (fun h => ?_) (fun h => absurd h (by simp [hD]));refine ae fun K hK => ?_; simp (maxSteps := 1000000) (disch := omega) [-getD_eq_getElem?_getD]; refine hK _ ?_; clear hK K;apply an; simp (maxSteps := 1000000) (disch := omega) [-getD_eq_getElem?_getD];exact ⟨⟨_, rfl⟩, ⟨[], by simp⟩, ka _⟩
          have NW : dC bs = (cs, q) := w1 (mj.1 hD).1;have gN := hS (by rw [NW]; exact hD);rw [NW] at gN;rw [NW, Se];simp only [hD, ne_eq, not_true_eq_false, false_or];rw [hD] at L8;have cv := fun H T => jL ⟨aw, ts, cs⟩ gN H T
          cases hv : aW ⟨aw, ts, cs⟩ with
          | false =>
            rw [hv] at cv
            simp only [if_true]
            refine af fun K1 aO => ?_
            refine ae fun K hK => ?_; simp (maxSteps := 1000000) (disch := omega) [-getD_eq_getElem?_getD]
            refine ah (L8 _ _) ?_; simp (maxSteps := 1000000) (disch := omega) [-getD_eq_getElem?_getD]
            refine ah (cv _ _) ?_; simp (maxSteps := 1000000) (disch := omega) [-getD_eq_getElem?_getD]
            refine hK _ ?_; clear hK K
            refine aP rfl (fun h => ?_) (fun h => absurd h (by simp))
            refine ae fun K hK => ?_; simp (maxSteps := 1000000) (disch := omega) [-getD_eq_getElem?_getD]; refine hK _ ?_; clear hK K
            apply an; simp (maxSteps := 1000000) (disch := omega) [-getD_eq_getElem?_getD]
            exact ⟨⟨_, rfl⟩, ⟨[], by simp⟩, ka _⟩
          | true =>
            rw [hv] at cv
            simp only [Bool.true_eq_false, if_false]
            refine af fun K1 aO => ?_
            refine ae fun K hK => ?_; simp (maxSteps := 1000000) (disch := omega) [-getD_eq_getElem?_getD]
            refine ah (L8 _ _) ?_; simp (maxSteps := 1000000) (disch := omega) [-getD_eq_getElem?_getD]
            refine ah (cv _ _) ?_; simp (maxSteps := 1000000) (disch := omega) [-getD_eq_getElem?_getD]
            refine hK _ ?_; clear hK K
            refine aP rfl (fun h => absurd h (by simp)) (fun h => ?_)
            apply ak; simp (maxSteps := 1000000) (disch := omega) [-getD_eq_getElem?_getD]
            refine aO _ ?_; clear aO
            refine ae fun K hK => ?_; simp (maxSteps := 1000000) (disch := omega) [-getD_eq_getElem?_getD]; refine hK _ ?_; clear hK K
            apply an; simp (maxSteps := 1000000) (disch := omega) [-getD_eq_getElem?_getD]
            refine ⟨⟨_, rfl⟩, ⟨[], by simp⟩, .same ?_⟩
            simp
end Go.Proofs.YtneohapkboaplaaGreat
