/- IndexOrder (layer 40): it returns true.
  Conditions: none. -/
import Derived.Test.YtoejlmpbebjemaaGreatXOrd
import Derived.Test.YtoejlmpbebjemaaGreatXWd
import Derived.Test.YtoejlmpbebjemaaGreatXDo
import Derived.Test.YtoejlmpbebjemaaGreatXP
import Derived.Test.YtoejlmpbebjemaaGreatGSW
import Derived.Test.YtoejlmpbebjemaaGreatGLA
import Derived.Test.YtoejlmpbebjemaaGreatGZc
set_option linter.all false
set_option maxRecDepth 100000
set_option maxHeartbeats 16000000
open List (getD_eq_getElem?_getD)
namespace Go.Proofs.YtoejlmpbebjemaaGreat
open Go Go.Am im cL eT
attribute [-simp] getD_eq_getElem?_getD in
def LC (a b:List (Int×List Int))(ha:a.length<=5000)(hb:b.length<=5000)(VP:∀p∈a,p.2.length<=maxLen)(hpb:∀p∈b,p.2.length<=maxLen)(H:List az)(T:au) :
  ar Tryz.prog 39 [.sl a.length (bA a) .none,.sl b.length (bA b) .none] H T (Is (.bool (decide (a=b))) H T):=by
 have ct:=λH T=>zZ a ha H T .none;have cs:=λH T=>PK a b ha hb VP hpb H T .none .none;refine ah 5 [] Tryz.ntmps39 Tryz.func39 rfl (λ_ _=>Tryz.call39 _ _) (by simp) (λHO=>?_);apply ae;intro K Z;simp(disch:=omega);apply Z;refine ae λK hK=>?_;simp(disch:=omega) ;refine ak (ct _ _) ?_;simp(disch:=omega) ;refine ak (cs _ _) ?_;simp(disch:=omega) ;apply hK;apply ay;simp(disch:=omega) ;exact⟨rfl,rfl,rfl⟩
def Fe:gA [.bool false,.int .i64 0,.sl 0 [] .full,.sl 0 [] .full] 4=[.bool false,.int .i64 0,.sl 0 [] .full,.sl 0 [] .full]:=rfl
def Na:gA [.bool false,.int .i64 0,.sl 0 [] .full,.sl 0 [] .full] 12=[.bool false,.int .i64 0,.sl 0 [] .full,.sl 0 [] .full,.bool false,.int .i64 0,.sl 0 [] .full,.sl 0 [] .full,.bool false,.int .i64 0,.sl 0 [] .full,.sl 0 [] .full]:=rfl
def Ed (l:List qQ)(o:qQ):iM l++Yd o=iM (l++[o]):=nO (f:=Yd) l o
def LN {l:List Dc}{i:Nat}(h:i<l.length):fy (l.take (i+1))=fy (l.take i)++[(false,l.getD i d0)]:=by
 unfold fy;rw[aU l i d0 h,ahx];rfl
def PY {l:List Dc}{i:Nat}(h:i<l.length):l.reverse.take (i+1)=l.reverse.take i++[l.getD (l.length-1-i) d0]:=by
 rw[aU l.reverse i d0 (by simpa using h)]
 congr 2
 simp[ahg,List.getElem?_reverse h]
def D7 (l:List Dc){n:Nat}(h:l.length<=n):(fy l).length<=n:=by rw[kh];exact h
def Hf {m:Nat}{x:List Sd}(h:BX m x)(f:Int)(p:Bs):(iZ x f p).length<=x.length*1000:=by
 unfold iZ;refine aho (ahU _ _) (aho (qe _) ?_);rw[nM];exact tL h f p x.length (ahj _)
theorem zb (l : List Dc) (hl : l.length <= maxLen) (hs : ∀ d ∈ l, o5 d) (f lo hi : Int) (w : Bs) (hw : w.length <= maxLen) :
    ar Tryz.prog 8 [.sl l.length (aM l) .none, .agg [.int .i64 f, .str w, .int .i64 lo, .int .i64 hi]] [] [] (λr _ _ => r = .bool true) := by
  have ca := λH => M4 H [];have cs := λH => Ug l hl hs H [] .none;refine ah 14 [] Tryz.ntmps8 Tryz.func8 rfl (λ_ _ => Tryz.call8 _ _) (by simp) (λHO => ?_);refine ae λK hK => ?_; simp (maxSteps := 1000000) (disch := omega) [-getD_eq_getElem?_getD]; refine hK _ ?_; clear hK K;refine af λK1 aO => ?_;refine ae λK hK => ?_; simp (maxSteps := 1000000) (disch := omega) [-getD_eq_getElem?_getD];refine ak (ca _) ?_; simp (maxSteps := 1000000) (disch := omega) [-getD_eq_getElem?_getD];refine hK _ ?_; clear hK K;refine aT rfl (λh => absurd h (by simp)) (λh => ?_);apply aq;refine aO _ ?_; clear aO;refine af λK1 aO => ?_
  cases hb : Df l with
  | false =>
    rw [hb] at cs
    refine ae λK hK => ?_; simp (maxSteps := 1000000) (disch := omega) [-getD_eq_getElem?_getD]
    refine ak (cs _) ?_; simp (maxSteps := 1000000) (disch := omega) [-getD_eq_getElem?_getD]
    refine hK _ ?_; clear hK K
    refine aT rfl (λh => ?_) (λh => absurd h (by simp))
    refine ae λK hK => ?_; simp (maxSteps := 1000000) (disch := omega) [-getD_eq_getElem?_getD]; refine hK _ ?_; clear hK K
    apply ay; simp (maxSteps := 1000000) (disch := omega) [-getD_eq_getElem?_getD]
  | true =>
  rw [hb] at cs;obtain ⟨h8, Rl⟩ := MB hb;have cr := λH => M0 l (by omega) hs (λhvd => by have := iP dn 60 l λd hd => (uB (Rl d hd) (hvd d hd)).1; omega) (by have := iP (λd : Dc => d.ns) 20 l λd hd => DX (Rl d hd); omega) H [] .none;have hz := λh => IF (l := l) h;generalize cZ l = r at *;obtain ⟨s, e⟩ := r;simp only at hz cr;refine ae λK hK => ?_; simp (maxSteps := 1000000) (disch := omega) [-getD_eq_getElem?_getD];refine ak (cs _) ?_; simp (maxSteps := 1000000) (disch := omega) [-getD_eq_getElem?_getD];refine hK _ ?_; clear hK K;refine aT rfl (λh => absurd h (by simp)) (λh => ?_);apply aq;refine aO _ ?_; clear aO;refine af λK1 aO => ?_;refine ae λK hK => ?_; simp (maxSteps := 1000000) (disch := omega) [-getD_eq_getElem?_getD];refine ak (cr _) ?_; simp (maxSteps := 1000000) (disch := omega) [-getD_eq_getElem?_getD];refine hK _ ?_; clear hK K
  by_cases he : e = 0
  rotate_left
  · have b1 : (e != 0) = true := by simpa using he
    refine ae λK hK => ?_; simp (maxSteps := 1000000) (disch := omega) [-getD_eq_getElem?_getD, b1]; refine hK _ ?_; clear hK K;refine aT rfl (λh => ?_) (λh => absurd h (by simp));refine ae λK hK => ?_; simp (maxSteps := 1000000) (disch := omega) [-getD_eq_getElem?_getD]; refine hK _ ?_; clear hK K;apply ay; simp (maxSteps := 1000000) (disch := omega) [-getD_eq_getElem?_getD]
  subst he;obtain ⟨hv, hn⟩ := hz rfl
  by_cases h0 : l = []
  · subst h0;refine ae λK hK => ?_; simp (maxSteps := 1000000) (disch := omega) [-getD_eq_getElem?_getD]; refine hK _ ?_; clear hK K;refine aT rfl (λh => ?_) (λh => absurd h (by simp));refine ae λK hK => ?_; simp (maxSteps := 1000000) (disch := omega) [-getD_eq_getElem?_getD]; refine hK _ ?_; clear hK K;apply ay; simp (maxSteps := 1000000) (disch := omega) [-getD_eq_getElem?_getD]
  have eV := ait.2 h0;have b0 : ((l.length : Int) == 0) = false := by simpa using h0
  refine ae λK hK => ?_; simp (maxSteps := 1000000) (disch := omega) [-getD_eq_getElem?_getD, b0, h0, eV]; refine hK _ ?_; clear hK K;refine aT rfl (λh => absurd h (by simp)) (λh => ?_);apply aq;refine aO _ ?_; clear aO;refine ae λK hK => ?_; simp (maxSteps := 1000000) (disch := omega) [-getD_eq_getElem?_getD]; refine hK _ ?_; clear hK K;refine m9 7 0 4 [] (by omega) (by simp) ?_;simp (maxSteps := 1000000) (disch := omega) [-getD_eq_getElem?_getD];refine m9 8 0 4 [] (by omega) (by simp) ?_;simp (maxSteps := 1000000) (disch := omega) [-getD_eq_getElem?_getD];have ff : ∀ T : au, bJ [.cells [.int .i64 f, .str w, .int .i64 lo, .int .i64 hi], .cells (dC s)] T := λT => by
    have := ((HO.snoc (vs := [.int .i64 f, .str w, .int .i64 lo, .int .i64 hi]) (by simp)).snoc (vs := dC s) (by simp)).kC (T' := T) (by simp);simpa using this
  refine af λK1 aO => ?_;refine ae λK hK => ?_; simp (maxSteps := 1000000) (disch := omega) [-getD_eq_getElem?_getD]; refine hK _ ?_; clear hK K;apply aj;refine aI (X := Nat) (λi => ⟨[(0, .sl l.length (aM l) .none), (3, .ptr 0 0), (7, .sl (fy (l.take i)).length (iM (fy (l.take i))) (.own 0)), (8, .sl (fy (l.reverse.take i)).length (iM (fy (l.reverse.take i))) (.own 1)), (9, .int .i64 (i : Nat))], [.cells [.int .i64 f, .str w, .int .i64 lo, .int .i64 hi], .cells (dC s)], [((fy (l.take i)).length * 4, 4), ((fy (l.reverse.take i)).length * 4, 4)]⟩)
    (λi => i <= l.length) (λi => l.length - i) 0 ?_ ?_ ?_
  · exact ahu _
  · refine ag [] [] ?_ ?_ ?_ ?_ (ff _) ?_
    all_goals simp [fy, iM]
  · intro i g1;refine af λK2 bc => ?_
    by_cases hk : i < l.length
    · have b1 : decide ((i : Int) < (l.length : Int)) = true := ahm (by omega);have c1 := fJ l i hk;have c2 := fJ l (l.length - 1 - i) (by omega);have e2 : ((l.length : Int) - 1 - (i : Int)) = ((l.length - 1 - i : Nat) : Int) := by omega
      have n1 := LN hk;have n2 : fy (l.reverse.take (i + 1)) = fy (l.reverse.take i) ++ [(false, l.getD (l.length - 1 - i) d0)] := by rw [PY hk]; simp [fy]
      have m1 : (fy (l.take i)).length <= 8 := D7 _ (by rw [ahJ]; omega);have m2 : (fy (l.reverse.take i)).length <= 8 := D7 _ (by rw [ahJ, List.length_reverse]; omega);have s1 := Ed (fy (l.take i)) (false, l.getD i d0);have s2 := Ed (fy (l.reverse.take i)) (false, l.getD (l.length - 1 - i) d0);have y1 := iz (fy (l.take i));have y2 := iz (fy (l.reverse.take i));have hj : l.length - 1 - i < l.length := by omega
      generalize hp : fy (l.take (i + 1)) = p1 at *;generalize hq : fy (l.reverse.take (i + 1)) = q1 at *;generalize fy (l.take i) = p at *;generalize fy (l.reverse.take i) = q at *;generalize l.getD i d0 = d1 at *;generalize l.getD (l.length - 1 - i) d0 = d2 at *;generalize l.length - 1 - i = j at *;refine ae λK hK => ?_; simp (maxSteps := 1000000) (disch := omega) [-getD_eq_getElem?_getD, b1, hk]; refine hK _ ?_; clear hK K;refine aT rfl (λh => ?_) (λh => absurd h (by simp));apply aq;refine bc _ ?_; clear bc;refine af λK3 bD => ?_;apply aj;refine cT [7, 19] [0, 0, 0, 0, 0, 0, 0, 0, 0, 0, 0, 0, 0, 0, 0, 0, 0, 0, 0, 1, 2, 2] [[], []] aw (by kernel_rfl) (by kernel_rfl) λK hK => ?_; simp (maxSteps := 1000000) (disch := omega) [-getD_eq_getElem?_getD, Fe, y1, y2, c1, c2, e2, hk, hj, ba];refine hK _ ?_; clear hK K;refine bD _ ?_; clear bD;refine aB λK hK => ?_; simp (maxSteps := 1000000) (disch := omega) [-getD_eq_getElem?_getD]; refine hK _ ?_; clear hK K;refine ⟨i + 1, by show i + 1 <= _; omega, by show l.length - (i + 1) < l.length - i; omega, ?_⟩;refine ag [] [] ?_ ?_ ?_ ?_ (ff _) ?_
      all_goals simp [hp, hq, n1, n2, <- s1, <- s2]
    · have b1 : decide ((i : Int) < (l.length : Int)) = false := ahn (by omega);have : i = l.length := by omega
      subst this;have er : l.reverse.take l.length = l.reverse := aiV (by simp);rw [ahE, er];refine ae λK hK => ?_; simp (maxSteps := 1000000) (disch := omega) [-getD_eq_getElem?_getD, b1, hk]; refine hK _ ?_; clear hK K;refine aT rfl (λh => absurd h (by simp)) (λh => ?_);apply aF; simp (maxSteps := 1000000) (disch := omega) [-getD_eq_getElem?_getD];refine aO _ ?_; clear aO;have c0 := fJ l 0 eV;have a0 := (iU l 0 eV).1;have aL := (iU l (l.length - 1) (by omega)).1;rw [Nat.zero_mul, List.drop_zero] at c0;rw [Nat.zero_mul] at a0;have eL : ((l.length : Int) - 1) = ((l.length - 1 : Nat) : Int) := by omega
      have XQ : l.length - 1 < l.length := by omega
      have m0 := aS l 0 d0 eV;have mL := aS l (l.length - 1) d0 XQ;have hwe : ∀ d ∈ l, CX 60 d := λd hd => z8 (Rl d hd) (hv d hd);have cp := λH T => BN (m := 60) (B := 11) (fy l) (by rw [kh]; omega) (λo ho => by obtain ⟨d, hd, rfl⟩ := ahl.1 ho; exact hs d hd) (λo ho _ => by obtain ⟨d, hd, rfl⟩ := ahl.1 ho; exact hwe d hd) (by omega) (by omega) H T (.own 0);have yQ : ∀ o ∈ kN l, o5 o.2 /\ CX 60 o.2 := λo ho => by
        obtain ⟨d, hd, e | e⟩ := M3 h0 ho
        · rw [e]; exact ⟨hs d hd, hwe d hd⟩
        · rw [e]; exact ⟨⟨(hs d hd).z, (hs d hd).w, (hs d hd).n⟩, z8 (Lb (Rl d hd)) (zX (hv d hd))⟩
      have cq := λH T => BN (m := 60) (B := 11) (kN l) (by rw [qH]; omega) (λo ho => (yQ o ho).1) (λo ho _ => (yQ o ho).2) (by omega) (by omega) H T (.own 1);have bx1 := (Jy (m := 60) (B := 11) (l := fy l) (by rw [kh]; omega) (λo ho _ => by obtain ⟨d, hd, rfl⟩ := ahl.1 ho; exact hwe d hd) (by omega) (by omega))
      have Sa := (Jy (m := 60) (B := 11) (l := kN l) (by rw [qH]; omega) (λo ho _ => (yQ o ho).2) (by omega) (by omega))
      have hall := L3 h8 h0 hv hn;have aeK : ∀ d ∈ fC (fl (fy l)), o5 d := λd hd => by
        have h1 := (eZ d).1 hd;rw [(uY (B := 19) (by rw [kh]; omega) (by omega)).mem_iff, show d ∈ ue (fy l) ↔ d ∈ l from xV hv hn d] at h1;exact hs d h1
      have hbk : iM (fy l.reverse) ++ [.bool false, .int .i64 (l.getD 0 d0).id, .sl (l.getD 0 d0).zs.length (fu (l.getD 0 d0).zs) .none, .sl (l.getD 0 d0).ns.length (br (l.getD 0 d0).ns) .none, .bool false, .int .i64 1000000000, .sl (l.getD 0 d0).zs.length (fu (l.getD 0 d0).zs) .none, .sl (l.getD 0 d0).ns.length (br (l.getD 0 d0).ns) .none, .bool true, .int .i64 1000000000, .sl (l.getD 0 d0).zs.length (fu (l.getD 0 d0).zs) .none, .sl (l.getD 0 d0).ns.length (br (l.getD 0 d0).ns) .none] = iM (kN l) := by
        unfold kN iM;rw [ahZ];rfl
      have vO : (kN l).length = (fy l.reverse).length + 3 := by rw [qH, kh, List.length_reverse]
      have zt : (fy l).length = l.length := kh l;have hql : (fy l.reverse).length = l.length := by rw [kh, List.length_reverse]
      have y2 := iz (fy l.reverse);generalize hX : fl (fy l) = X at *;generalize hY : fl (kN l) = Y at *;generalize fy l.reverse = q at *;generalize kN l = bk at *;generalize fy l = p at *
      by_cases hL : (l.getD (l.length - 1) d0).id = 1000000000
      · generalize l.getD (l.length - 1) d0 = zL at *;generalize l.getD 0 d0 = z at *;generalize l.length - 1 = jL at *;have bL : (zL.id == 1000000000) = true := by simpa using hL
        refine ae λK hK => ?_; simp (maxSteps := 1000000) (disch := omega) [-getD_eq_getElem?_getD, c0, eV, ba]; refine hK _ ?_; clear hK K;refine ae λK hK => ?_; simp (maxSteps := 1000000) (disch := omega) [-getD_eq_getElem?_getD]; refine hK _ ?_; clear hK K;refine af λK1 aO => ?_;refine ae λK hK => ?_; simp (maxSteps := 1000000) (disch := omega) [-getD_eq_getElem?_getD, aL, eL, XQ, ba, bL, hL]; refine hK _ ?_; clear hK K;refine aT rfl (λh => ?_) (λh => absurd h (by simp));refine ae λK hK => ?_; simp (maxSteps := 1000000) (disch := omega) [-getD_eq_getElem?_getD]; refine hK _ ?_; clear hK K;apply ay; simp (maxSteps := 1000000) (disch := omega) [-getD_eq_getElem?_getD]
      by_cases tU : (l.getD 0 d0).id = 1000000000
      · generalize l.getD (l.length - 1) d0 = zL at *;generalize l.getD 0 d0 = z at *;generalize l.length - 1 = jL at *;have bL : (zL.id == 1000000000) = false := by simpa using hL
        have bz : (z.id == 1000000000) = true := by simpa using tU
        refine ae λK hK => ?_; simp (maxSteps := 1000000) (disch := omega) [-getD_eq_getElem?_getD, c0, eV, ba]; refine hK _ ?_; clear hK K;refine ae λK hK => ?_; simp (maxSteps := 1000000) (disch := omega) [-getD_eq_getElem?_getD]; refine hK _ ?_; clear hK K;refine af λK1 aO => ?_;refine ae λK hK => ?_; simp (maxSteps := 1000000) (disch := omega) [-getD_eq_getElem?_getD, aL, eL, XQ, ba, bL, hL, a0, bz, tU, eV]; refine hK _ ?_; clear hK K;refine aT rfl (λh => ?_) (λh => absurd h (by simp));refine ae λK hK => ?_; simp (maxSteps := 1000000) (disch := omega) [-getD_eq_getElem?_getD]; refine hK _ ?_; clear hK K;apply ay; simp (maxSteps := 1000000) (disch := omega) [-getD_eq_getElem?_getD]
      generalize l.getD (l.length - 1) d0 = zL at *;have hM0 : (l.getD 0 d0).id ≠ 1000000000 := tU;generalize l.getD 0 d0 = z at *;generalize l.length - 1 = jL at *;have bL : (zL.id == 1000000000) = false := by simpa using hL
      have bz : (z.id == 1000000000) = false := by simpa using tU
      refine ae λK hK => ?_; simp (maxSteps := 1000000) (disch := omega) [-getD_eq_getElem?_getD, c0, eV, ba]; refine hK _ ?_; clear hK K;refine ae λK hK => ?_; simp (maxSteps := 1000000) (disch := omega) [-getD_eq_getElem?_getD]; refine hK _ ?_; clear hK K;refine af λK1 aO => ?_;refine ae λK hK => ?_; simp (maxSteps := 1000000) (disch := omega) [-getD_eq_getElem?_getD, aL, eL, XQ, ba, bL, hL, a0, bz, tU, eV]; refine hK _ ?_; clear hK K;refine aT rfl (λh => absurd h (by simp)) (λh => ?_);apply aq;refine aO _ ?_; clear aO;refine aJ [10] [0, 0, 0, 0, 0, 0, 0, 0, 0, 0, 0, 1] [[]] aw (by kernel_rfl) (by kernel_rfl) λK hK => ?_; simp (maxSteps := 1000000) (disch := omega) [-getD_eq_getElem?_getD, c0, eV, ba, Fe, Na, y2, hbk];refine hK _ ?_; clear hK K;rw [vO] at cq;have XY : ∀ T : au, bJ [.cells [.int .i64 f, .str w, .int .i64 lo, .int .i64 hi], .cells (dC s), .cells (dP (vP z)), .cells (iE (bf X) (bX X)), .cells (iE (bf Y) (bX Y))] T := λT => by
        have := ((((ff T).snoc (vs := dP (vP z)) (by simp)).snoc (vs := iE (bf X) (bX X)) (by simp)).snoc (vs := iE (bf Y) (bX Y)) (by simp))
        simpa using this
      refine ae λK hK => ?_; simp (maxSteps := 1000000) (disch := omega) [-getD_eq_getElem?_getD];refine ak (cp _ _) ?_; simp (maxSteps := 1000000) (disch := omega) [-getD_eq_getElem?_getD];refine ak (cq _ _) ?_; simp (maxSteps := 1000000) (disch := omega) [-getD_eq_getElem?_getD];refine hK _ ?_; clear hK K;refine af λK1 aO => ?_;refine ae λK hK => ?_; simp (maxSteps := 1000000) (disch := omega) [-getD_eq_getElem?_getD]; refine hK _ ?_; clear hK K;apply aj;refine aI (X := Nat) (λi => ⟨[(0, .sl l.length (aM l) .none), (3, .ptr 0 0), (11, .ptr 3 0), (12, .ptr 4 0), (13, .int .i64 (i : Nat))], [.cells [.int .i64 f, .str w, .int .i64 lo, .int .i64 hi], .cells (dC s), .cells (dP (vP z)), .cells (iE (bf X) (bX X)), .cells (iE (bf Y) (bX Y))], [(p.length * 4, 4), ((q.length + 3) * 4, 4)]⟩)
        (λi => i <= l.length /\ ∀ j, j < i -> (l.getD j d0).id ≠ 1000000000) (λi => l.length - i) 0 ?_ ?_ ?_
      · exact ⟨ahu _, λj hj => absurd hj (ahO _)⟩
      · refine ag [] [] ?_ ?_ ?_ ?_ (XY _) ?_
        all_goals simp [vP]
      · rintro i ⟨g1, g2⟩;refine af λK2 bc => ?_
        by_cases hk : i < l.length
        · have b1 : decide ((i : Int) < (l.length : Int)) = true := ahm (by omega);have ai := (iU l i hk).1;refine ae λK hK => ?_; simp (maxSteps := 1000000) (disch := omega) [-getD_eq_getElem?_getD, b1, hk]; refine hK _ ?_; clear hK K;refine aT rfl (λh => ?_) (λh => absurd h (by simp));apply aq;refine bc _ ?_; clear bc;refine af λK3 bD => ?_;apply aj
          by_cases hi : (l.getD i d0).id = 1000000000
          · generalize l.getD i d0 = d1 at *;have b2 : (d1.id == 1000000000) = true := by simpa using hi
            refine ae λK hK => ?_; simp (maxSteps := 1000000) (disch := omega) [-getD_eq_getElem?_getD, ai, hk, ba, b2]; refine hK _ ?_; clear hK K;refine aT rfl (λh => ?_) (λh => absurd h (by simp));refine ae λK hK => ?_; simp (maxSteps := 1000000) (disch := omega) [-getD_eq_getElem?_getD]; refine hK _ ?_; clear hK K;apply ay; simp (maxSteps := 1000000) (disch := omega) [-getD_eq_getElem?_getD]
          · have Np : ∀ j, j < i + 1 -> (l.getD j d0).id ≠ 1000000000 := λj hj => by
              rcases ahr j i with h1 | h1
              · exact g2 j h1
              · have : j = i := by omega
                subst this; exact hi
            generalize l.getD i d0 = d1 at *;have b2 : (d1.id == 1000000000) = false := by simpa using hi
            refine ae λK hK => ?_; simp (maxSteps := 1000000) (disch := omega) [-getD_eq_getElem?_getD, ai, hk, ba, b2, hi]; refine hK _ ?_; clear hK K;refine aT rfl (λh => absurd h (by simp)) (λh => ?_);apply aq;refine bD _ ?_; clear bD;refine aB λK hK => ?_; simp (maxSteps := 1000000) (disch := omega) [-getD_eq_getElem?_getD]; refine hK _ ?_; clear hK K;refine ⟨i + 1, ⟨by show i + 1 <= _; omega, Np⟩, by show l.length - (i + 1) < l.length - i; omega, ?_⟩;refine ag [] [] ?_ ?_ ?_ ?_ (XY _) ?_
            all_goals simp
        · have b1 : decide ((i : Int) < (l.length : Int)) = false := ahn (by omega);have : i = l.length := by omega
          subst this;have hXY : fC X = fC Y := hall λd hd => by
            obtain ⟨j, hj, rfl⟩ := bH d0 hd;exact g2 j hj
          obtain ⟨bx1, x7⟩ := bx1;obtain ⟨Sa, y7⟩ := Sa;have fS : ∀ d ∈ fC X, o5 d := λd hd => aeK d hd;have vb : (fC X).length <= 19 := by rw [show (fC X).length = (alive X).length from dW _]; exact bx1.a
          have hfq := nZ bx1.g (f, w);have cdx := λH T => rp bx1 (by omega) H T;have cdy := λH T => rp Sa (by omega) H T;rw [<- hXY] at cdy;have csd := λH T => Fw (fC X) (aho vb (by decide)) fS H T .none .none;have cfx := λH T => tE bx1 (by omega) (by omega) f w H T;have cfy := λH T => tE Sa (by omega) (by omega) f w H T;rw [<- H4 bx1.g Sa.g hXY] at cfy;have hq1 : (eF X (f, w) X.length).length <= 5000 := by rw [hfq]; exact aho (nR _ _) (by omega)
          have hq2 : ∀ p ∈ eF X (f, w) X.length, p.2.length <= maxLen := λp hp => by
            rw [hfq] at hp;refine aho (bx1.post (by omega) (λd hd => ?_) (f, w) p hp) (by decide);obtain ⟨s, hs, h⟩ := qm.1 hd;exact ⟨s, hs, mf h⟩
          have cth := λH T => zZ (eF X (f, w) X.length) hq1 H T .none;have csm := λH T => LC (eF X (f, w) X.length) (eF X (f, w) X.length) hq1 hq1 hq2 hq2 H T;rw [ahm rfl] at csm;have cwx := λH T => zS bx1 (by omega) (by omega) f w hw H T;have cwy := λH T => zS Sa (by omega) (by omega) f w hw H T;rw [<- FD bx1.g Sa.g hXY] at cwy;have sr : (iZ X f w).length <= maxLen := aho (Hf bx1 f w) (aho (ail _ x7) (by decide));have cst := λH T => Ck (iZ X f w) (iZ X f w) sr sr H T .none .none;rw [beq_self_eq_true] at cst;have cbx := λH T => JX bx1 (by omega) f lo hi H T;have cby := λH T => JX Sa (by omega) f lo hi H T;rw [<- LZ bx1.g Sa.g hXY] at cby;have Zz : (ll X f lo hi X.length).length <= maxLen := aho (x6 bx1.g f lo hi (ahj _)) (aho bx1.a (by decide));have csi := λH T => p9 (ll X f lo hi X.length) (ll X f lo hi X.length) Zz Zz H T .none .none;rw [beq_self_eq_true] at csi;generalize eF X (f, w) X.length = fq at *;generalize iZ X f w = wq at *;generalize ll X f lo hi X.length = bq at *;generalize fC X = D at *;refine ae λK hK => ?_; simp (maxSteps := 1000000) (disch := omega) [-getD_eq_getElem?_getD, b1, hk]; refine hK _ ?_; clear hK K;refine aT rfl (λh => absurd h (by simp)) (λh => ?_);apply aF; simp (maxSteps := 1000000) (disch := omega) [-getD_eq_getElem?_getD];refine aO _ ?_; clear aO;refine aJ [] [0, 0, 0, 0, 0, 0, 0, 0, 0, 0, 0, 0, 0, 0, 0, 0, 0, 0, 0, 0, 0, 0, 0, 0, 0, 0, 0, 0, 0, 0, 0, 0, 0, 0, 0, 0, 0, 0, 0, 0, 0, 0, 0, 0, 0, 0, 0, 0, 0, 0, 0, 0, 0, 0, 0, 0] [] aw (by kernel_rfl) (by kernel_rfl) λK hK => ?_; simp (maxSteps := 1000000) (disch := omega) [-getD_eq_getElem?_getD];refine aC (cdx _ _) rfl ?_; simp (maxSteps := 1000000) (disch := omega) [-getD_eq_getElem?_getD];refine aC (cdy _ _) rfl ?_; simp (maxSteps := 1000000) (disch := omega) [-getD_eq_getElem?_getD];refine aC (csd _ _) rfl ?_; simp (maxSteps := 1000000) (disch := omega) [-getD_eq_getElem?_getD];refine aC (cfx _ _) rfl ?_; simp (maxSteps := 1000000) (disch := omega) [-getD_eq_getElem?_getD];refine aC (cfy _ _) rfl ?_; simp (maxSteps := 1000000) (disch := omega) [-getD_eq_getElem?_getD];refine aC (cth _ _) rfl ?_; simp (maxSteps := 1000000) (disch := omega) [-getD_eq_getElem?_getD];refine aC (csm _ _) rfl ?_; simp (maxSteps := 1000000) (disch := omega) [-getD_eq_getElem?_getD];refine aC (cwx _ _) rfl ?_; simp (maxSteps := 1000000) (disch := omega) [-getD_eq_getElem?_getD];refine aC (cwy _ _) rfl ?_; simp (maxSteps := 1000000) (disch := omega) [-getD_eq_getElem?_getD];refine aC (cst _ _) rfl ?_; simp (maxSteps := 1000000) (disch := omega) [-getD_eq_getElem?_getD];refine aC (cbx _ _) rfl ?_; simp (maxSteps := 1000000) (disch := omega) [-getD_eq_getElem?_getD];refine aC (cby _ _) rfl ?_; simp (maxSteps := 1000000) (disch := omega) [-getD_eq_getElem?_getD];refine aC (csi _ _) rfl ?_; simp (maxSteps := 1000000) (disch := omega) [-getD_eq_getElem?_getD];refine hK _ ?_; clear hK K;apply ay; simp (maxSteps := 1000000) (disch := omega) [-getD_eq_getElem?_getD]
end Go.Proofs.YtoejlmpbebjemaaGreat
