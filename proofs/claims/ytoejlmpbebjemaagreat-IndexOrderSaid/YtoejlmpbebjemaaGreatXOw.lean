/- IndexOrder (layer 40): it returns true.
  Conditions: none. -/
import Derived.Test.YtoejlmpbebjemaaGreatXOrd
import Derived.Test.YtoejlmpbebjemaaGreatXWd
import Derived.Test.YtoejlmpbebjemaaGreatXDo
import Derived.Test.YtoejlmpbebjemaaGreatXP
import Derived.Test.YtoejlmpbebjemaaGreatGSW
import Derived.Test.YtoejlmpbebjemaaGreatGLA
import Derived.Test.YtoejlmpbebjemaaGreatGZc
set_option linter.all false
set_option maxRecDepth 100000
set_option maxHeartbeats 16000000
open List (getD_eq_getElem?_getD)
namespace Go.Proofs.YtoejlmpbebjemaaGreat
open Go Go.Am ia cO eN
attribute [-simp] getD_eq_getElem?_getD in
def KJ (a b:List (Int×List Int))(ha:a.length<=5000)(hb:b.length<=5000)(UR:∀p∈a,p.2.length<=maxLen)(UQ:∀p∈b,p.2.length<=maxLen)(H:List aA)(T:au) :
  ar Tryz.prog 39 [.sl a.length (bD a) .none,.sl b.length (bD b) .none] H T (Is (.bool (decide (a=b))) H T):=by
 have ct:=λH T=>zP a ha H T .none;have cs:=λH T=>OR a b ha hb UR UQ H T .none .none;refine ah 5 [] Tryz.ntmps39 Tryz.func39 rfl (λ_ _=>Tryz.call39 _ _) (by simp) (λHO=>?_);apply ae;intro K Z;simp(disch:=omega);apply Z;refine ae λK hK=>?_;simp(disch:=omega) ;refine ak (ct _ _) ?_;simp(disch:=omega) ;refine ak (cs _ _) ?_;simp(disch:=omega) ;apply hK;apply az;simp(disch:=omega) ;exact⟨rfl,rfl,rfl⟩
def EI:gh [.bool false,.int .i64 0,.sl 0 [] .full,.sl 0 [] .full] 4=[.bool false,.int .i64 0,.sl 0 [] .full,.sl 0 [] .full]:=rfl
def Mk:gh [.bool false,.int .i64 0,.sl 0 [] .full,.sl 0 [] .full] 12=[.bool false,.int .i64 0,.sl 0 [] .full,.sl 0 [] .full,.bool false,.int .i64 0,.sl 0 [] .full,.sl 0 [] .full,.bool false,.int .i64 0,.sl 0 [] .full,.sl 0 [] .full]:=rfl
def DH (l:List qM)(o:qM):iF l++Xs o=iF (l++[o]):=nL (f:=Xs) l o
def KV {l:List Dc}{i:Nat}(h:i<l.length):fk (l.take (i+1))=fk (l.take i)++[(false,l.getD i d0)]:=by
 unfold fk;rw[aV l i d0 h,agS];rfl
def O2 {l:List Dc}{i:Nat}(h:i<l.length):l.reverse.take (i+1)=l.reverse.take i++[l.getD (l.length-1-i) d0]:=by
 rw[aV l.reverse i d0 (by simpa using h)]
 congr 2
 simp[agB,List.getElem?_reverse h]
def DB (l:List Dc){n:Nat}(h:l.length<=n):(fk l).length<=n:=by rw[j9];exact h
def GF {m:Nat}{x:List Sd}(h:BX m x)(f:Int)(p:Bs):(iT x f p).length<=x.length*1000:=by
 unfold iT;refine agJ (ahf _ _) (agJ (p7 _) ?_);rw[nJ];exact tu h f p x.length (agE _)
theorem yV (l : List Dc) (hl : l.length <= maxLen) (hs : ∀ d ∈ l, oY d) (f lo hi : Int) (w : Bs) (hw : w.length <= maxLen) :
    ar Tryz.prog 8 [.sl l.length (aN l) .none, .agg [.int .i64 f, .str w, .int .i64 lo, .int .i64 hi]] [] [] (λr _ _ => r = .bool true) := by
  have ca := λH => Me H [];have cs := λH => S9 l hl hs H [] .none;refine ah 14 [] Tryz.ntmps8 Tryz.func8 rfl (λ_ _ => Tryz.call8 _ _) (by simp) (λHO => ?_);refine ae λK hK => ?_; simp (maxSteps := 1000000) (disch := omega) [-getD_eq_getElem?_getD]; refine hK _ ?_; clear hK K;refine af λK1 aP => ?_;refine ae λK hK => ?_; simp (maxSteps := 1000000) (disch := omega) [-getD_eq_getElem?_getD];refine ak (ca _) ?_; simp (maxSteps := 1000000) (disch := omega) [-getD_eq_getElem?_getD];refine hK _ ?_; clear hK K;refine aU rfl (λh => absurd h (by simp)) (λh => ?_);apply aq;refine aP _ ?_; clear aP;refine af λK1 aP => ?_
  cases hb : CM l with
  | false =>
    rw [hb] at cs
    refine ae λK hK => ?_; simp (maxSteps := 1000000) (disch := omega) [-getD_eq_getElem?_getD]
    refine ak (cs _) ?_; simp (maxSteps := 1000000) (disch := omega) [-getD_eq_getElem?_getD]
    refine hK _ ?_; clear hK K
    refine aU rfl (λh => ?_) (λh => absurd h (by simp))
    refine ae λK hK => ?_; simp (maxSteps := 1000000) (disch := omega) [-getD_eq_getElem?_getD]; refine hK _ ?_; clear hK K
    apply az; simp (maxSteps := 1000000) (disch := omega) [-getD_eq_getElem?_getD]
  | true =>
  rw [hb] at cs;obtain ⟨h8, Qr⟩ := LM hb;have cr := λH => Mb l (by omega) hs (λhvd => by have := iI dm 60 l λd hd => (um (Qr d hd) (hvd d hd)).1; omega) (by have := iI (λd : Dc => d.ns) 20 l λd hd => Dt (Qr d hd); omega) H [] .none;have hz := λh => HQ (l := l) h;generalize cZ l = r at *;obtain ⟨s, e⟩ := r;simp only at hz cr;refine ae λK hK => ?_; simp (maxSteps := 1000000) (disch := omega) [-getD_eq_getElem?_getD];refine ak (cs _) ?_; simp (maxSteps := 1000000) (disch := omega) [-getD_eq_getElem?_getD];refine hK _ ?_; clear hK K;refine aU rfl (λh => absurd h (by simp)) (λh => ?_);apply aq;refine aP _ ?_; clear aP;refine af λK1 aP => ?_;refine ae λK hK => ?_; simp (maxSteps := 1000000) (disch := omega) [-getD_eq_getElem?_getD];refine ak (cr _) ?_; simp (maxSteps := 1000000) (disch := omega) [-getD_eq_getElem?_getD];refine hK _ ?_; clear hK K
  by_cases he : e = 0
  rotate_left
  · have b1 : (e != 0) = true := by simpa using he
    refine ae λK hK => ?_; simp (maxSteps := 1000000) (disch := omega) [-getD_eq_getElem?_getD, b1]; refine hK _ ?_; clear hK K;refine aU rfl (λh => ?_) (λh => absurd h (by simp));refine ae λK hK => ?_; simp (maxSteps := 1000000) (disch := omega) [-getD_eq_getElem?_getD]; refine hK _ ?_; clear hK K;apply az; simp (maxSteps := 1000000) (disch := omega) [-getD_eq_getElem?_getD]
  subst he;obtain ⟨hv, hn⟩ := hz rfl
  by_cases h0 : l = []
  · subst h0;refine ae λK hK => ?_; simp (maxSteps := 1000000) (disch := omega) [-getD_eq_getElem?_getD]; refine hK _ ?_; clear hK K;refine aU rfl (λh => ?_) (λh => absurd h (by simp));refine ae λK hK => ?_; simp (maxSteps := 1000000) (disch := omega) [-getD_eq_getElem?_getD]; refine hK _ ?_; clear hK K;apply az; simp (maxSteps := 1000000) (disch := omega) [-getD_eq_getElem?_getD]
  have eO := ahN.2 h0;have b0 : ((l.length : Int) == 0) = false := by simpa using h0
  refine ae λK hK => ?_; simp (maxSteps := 1000000) (disch := omega) [-getD_eq_getElem?_getD, b0, h0, eO]; refine hK _ ?_; clear hK K;refine aU rfl (λh => absurd h (by simp)) (λh => ?_);apply aq;refine aP _ ?_; clear aP;refine ae λK hK => ?_; simp (maxSteps := 1000000) (disch := omega) [-getD_eq_getElem?_getD]; refine hK _ ?_; clear hK K;refine mX 7 0 4 [] (by omega) (by simp) ?_;simp (maxSteps := 1000000) (disch := omega) [-getD_eq_getElem?_getD];refine mX 8 0 4 [] (by omega) (by simp) ?_;simp (maxSteps := 1000000) (disch := omega) [-getD_eq_getElem?_getD];have eV : ∀ T : au, bN [.cells [.int .i64 f, .str w, .int .i64 lo, .int .i64 hi], .cells (dA s)] T := λT => by
    have := ((HO.snoc (vs := [.int .i64 f, .str w, .int .i64 lo, .int .i64 hi]) (by simp)).snoc (vs := dA s) (by simp)).ko (T' := T) (by simp);simpa using this
  refine af λK1 aP => ?_;refine ae λK hK => ?_; simp (maxSteps := 1000000) (disch := omega) [-getD_eq_getElem?_getD]; refine hK _ ?_; clear hK K;apply aj;refine aJ (X := Nat) (λi => ⟨[(0, .sl l.length (aN l) .none), (3, .ptr 0 0), (7, .sl (fk (l.take i)).length (iF (fk (l.take i))) (.own 0)), (8, .sl (fk (l.reverse.take i)).length (iF (fk (l.reverse.take i))) (.own 1)), (9, .int .i64 (i : Nat))], [.cells [.int .i64 f, .str w, .int .i64 lo, .int .i64 hi], .cells (dA s)], [((fk (l.take i)).length * 4, 4), ((fk (l.reverse.take i)).length * 4, 4)]⟩)
    (λi => i <= l.length) (λi => l.length - i) 0 ?_ ?_ ?_
  · exact agP _
  · refine ag [] [] ?_ ?_ ?_ ?_ (eV _) ?_
    all_goals simp [fk, iF]
  · intro i g1;refine af λK2 bp => ?_
    by_cases hk : i < l.length
    · have b1 : decide ((i : Int) < (l.length : Int)) = true := agH (by omega);have c1 := fC l i hk;have c2 := fC l (l.length - 1 - i) (by omega);have e2 : ((l.length : Int) - 1 - (i : Int)) = ((l.length - 1 - i : Nat) : Int) := by omega
      have n1 := KV hk;have n2 : fk (l.reverse.take (i + 1)) = fk (l.reverse.take i) ++ [(false, l.getD (l.length - 1 - i) d0)] := by rw [O2 hk]; simp [fk]
      have m1 : (fk (l.take i)).length <= 8 := DB _ (by rw [ag5]; omega);have m2 : (fk (l.reverse.take i)).length <= 8 := DB _ (by rw [ag5, List.length_reverse]; omega);have s1 := DH (fk (l.take i)) (false, l.getD i d0);have s2 := DH (fk (l.reverse.take i)) (false, l.getD (l.length - 1 - i) d0);have y1 := iq (fk (l.take i));have y2 := iq (fk (l.reverse.take i));have hj : l.length - 1 - i < l.length := by omega
      generalize hp : fk (l.take (i + 1)) = p1 at *;generalize hq : fk (l.reverse.take (i + 1)) = q1 at *;generalize fk (l.take i) = p at *;generalize fk (l.reverse.take i) = q at *;generalize l.getD i d0 = d1 at *;generalize l.getD (l.length - 1 - i) d0 = d2 at *;generalize l.length - 1 - i = j at *;refine ae λK hK => ?_; simp (maxSteps := 1000000) (disch := omega) [-getD_eq_getElem?_getD, b1, hk]; refine hK _ ?_; clear hK K;refine aU rfl (λh => ?_) (λh => absurd h (by simp));apply aq;refine bp _ ?_; clear bp;refine af λK3 bG => ?_;apply aj;refine cT [7, 19] [0, 0, 0, 0, 0, 0, 0, 0, 0, 0, 0, 0, 0, 0, 0, 0, 0, 0, 0, 1, 2, 2] [[], []] aw (by kernel_rfl) (by kernel_rfl) λK hK => ?_; simp (maxSteps := 1000000) (disch := omega) [-getD_eq_getElem?_getD, EI, y1, y2, c1, c2, e2, hk, hj, bf];refine hK _ ?_; clear hK K;refine bG _ ?_; clear bG;refine aC λK hK => ?_; simp (maxSteps := 1000000) (disch := omega) [-getD_eq_getElem?_getD]; refine hK _ ?_; clear hK K;refine ⟨i + 1, by show i + 1 <= _; omega, by show l.length - (i + 1) < l.length - i; omega, ?_⟩;refine ag [] [] ?_ ?_ ?_ ?_ (eV _) ?_
      all_goals simp [hp, hq, n1, n2, <- s1, <- s2]
    · have b1 : decide ((i : Int) < (l.length : Int)) = false := agI (by omega);have : i = l.length := by omega
      subst this;have er : l.reverse.take l.length = l.reverse := aih (by simp);rw [agZ, er];refine ae λK hK => ?_; simp (maxSteps := 1000000) (disch := omega) [-getD_eq_getElem?_getD, b1, hk]; refine hK _ ?_; clear hK K;refine aU rfl (λh => absurd h (by simp)) (λh => ?_);apply aG; simp (maxSteps := 1000000) (disch := omega) [-getD_eq_getElem?_getD];refine aP _ ?_; clear aP;have c0 := fC l 0 eO;have a0 := (iO l 0 eO).1;have aL := (iO l (l.length - 1) (by omega)).1;rw [Nat.zero_mul, List.drop_zero] at c0;rw [Nat.zero_mul] at a0;have eL : ((l.length : Int) - 1) = ((l.length - 1 : Nat) : Int) := by omega
      have W4 : l.length - 1 < l.length := by omega
      have m0 := aT l 0 d0 eO;have mL := aT l (l.length - 1) d0 W4;have hwe : ∀ d ∈ l, Cz 60 d := λd hd => zS (Qr d hd) (hv d hd);have cp := λH T => Bt (m := 60) (B := 11) (fk l) (by rw [j9]; omega) (λo ho => by obtain ⟨d, hd, rfl⟩ := agG.1 ho; exact hs d hd) (λo ho _ => by obtain ⟨d, hd, rfl⟩ := agG.1 ho; exact hwe d hd) (by omega) (by omega) H T (.own 0);have yE : ∀ o ∈ kI l, oY o.2 /\ Cz 60 o.2 := λo ho => by
        obtain ⟨d, hd, e | e⟩ := Md h0 ho
        · rw [e]; exact ⟨hs d hd, hwe d hd⟩
        · rw [e]; exact ⟨⟨(hs d hd).z, (hs d hd).w, (hs d hd).n⟩, zS (Kh (Qr d hd)) (zN (hv d hd))⟩
      have cq := λH T => Bt (m := 60) (B := 11) (kI l) (by rw [qD]; omega) (λo ho => (yE o ho).1) (λo ho _ => (yE o ho).2) (by omega) (by omega) H T (.own 1);have F5 := (IJ (m := 60) (B := 11) (l := fk l) (by rw [j9]; omega) (λo ho _ => by obtain ⟨d, hd, rfl⟩ := agG.1 ho; exact hwe d hd) (by omega) (by omega))
      have Rg := (IJ (m := 60) (B := 11) (l := kI l) (by rw [qD]; omega) (λo ho _ => (yE o ho).2) (by omega) (by omega))
      have fh := Ld h8 h0 hv hn;have ad0 : ∀ d ∈ fl (fc (fk l)), oY d := λd hd => by
        have h1 := (eQ d).1 hd;rw [(uN (B := 19) (by rw [j9]; omega) (by omega)).mem_iff, show d ∈ tT (fk l) ↔ d ∈ l from xH hv hn d] at h1;exact hs d h1
      have hbk : iF (fk l.reverse) ++ [.bool false, .int .i64 (l.getD 0 d0).id, .sl (l.getD 0 d0).zs.length (fg (l.getD 0 d0).zs) .none, .sl (l.getD 0 d0).ns.length (bA (l.getD 0 d0).ns) .none, .bool false, .int .i64 1000000000, .sl (l.getD 0 d0).zs.length (fg (l.getD 0 d0).zs) .none, .sl (l.getD 0 d0).ns.length (bA (l.getD 0 d0).ns) .none, .bool true, .int .i64 1000000000, .sl (l.getD 0 d0).zs.length (fg (l.getD 0 d0).zs) .none, .sl (l.getD 0 d0).ns.length (bA (l.getD 0 d0).ns) .none] = iF (kI l) := by
        unfold kI iF;rw [ahk];rfl
      have vF : (kI l).length = (fk l.reverse).length + 3 := by rw [qD, j9, List.length_reverse]
      have zb : (fk l).length = l.length := j9 l;have hql : (fk l.reverse).length = l.length := by rw [j9, List.length_reverse]
      have y2 := iq (fk l.reverse);generalize hX : fc (fk l) = X at *;generalize hY : fc (kI l) = Y at *;generalize fk l.reverse = q at *;generalize kI l = bk at *;generalize fk l = p at *
      by_cases hL : (l.getD (l.length - 1) d0).id = 1000000000
      · generalize l.getD (l.length - 1) d0 = zL at *;generalize l.getD 0 d0 = z at *;generalize l.length - 1 = jL at *;have bL : (zL.id == 1000000000) = true := by simpa using hL
        refine ae λK hK => ?_; simp (maxSteps := 1000000) (disch := omega) [-getD_eq_getElem?_getD, c0, eO, bf]; refine hK _ ?_; clear hK K;refine ae λK hK => ?_; simp (maxSteps := 1000000) (disch := omega) [-getD_eq_getElem?_getD]; refine hK _ ?_; clear hK K;refine af λK1 aP => ?_;refine ae λK hK => ?_; simp (maxSteps := 1000000) (disch := omega) [-getD_eq_getElem?_getD, aL, eL, W4, bf, bL, hL]; refine hK _ ?_; clear hK K;refine aU rfl (λh => ?_) (λh => absurd h (by simp));refine ae λK hK => ?_; simp (maxSteps := 1000000) (disch := omega) [-getD_eq_getElem?_getD]; refine hK _ ?_; clear hK K;apply az; simp (maxSteps := 1000000) (disch := omega) [-getD_eq_getElem?_getD]
      by_cases tH : (l.getD 0 d0).id = 1000000000
      · generalize l.getD (l.length - 1) d0 = zL at *;generalize l.getD 0 d0 = z at *;generalize l.length - 1 = jL at *;have bL : (zL.id == 1000000000) = false := by simpa using hL
        have bz : (z.id == 1000000000) = true := by simpa using tH
        refine ae λK hK => ?_; simp (maxSteps := 1000000) (disch := omega) [-getD_eq_getElem?_getD, c0, eO, bf]; refine hK _ ?_; clear hK K;refine ae λK hK => ?_; simp (maxSteps := 1000000) (disch := omega) [-getD_eq_getElem?_getD]; refine hK _ ?_; clear hK K;refine af λK1 aP => ?_;refine ae λK hK => ?_; simp (maxSteps := 1000000) (disch := omega) [-getD_eq_getElem?_getD, aL, eL, W4, bf, bL, hL, a0, bz, tH, eO]; refine hK _ ?_; clear hK K;refine aU rfl (λh => ?_) (λh => absurd h (by simp));refine ae λK hK => ?_; simp (maxSteps := 1000000) (disch := omega) [-getD_eq_getElem?_getD]; refine hK _ ?_; clear hK K;apply az; simp (maxSteps := 1000000) (disch := omega) [-getD_eq_getElem?_getD]
      generalize l.getD (l.length - 1) d0 = zL at *;have hM0 : (l.getD 0 d0).id ≠ 1000000000 := tH;generalize l.getD 0 d0 = z at *;generalize l.length - 1 = jL at *;have bL : (zL.id == 1000000000) = false := by simpa using hL
      have bz : (z.id == 1000000000) = false := by simpa using tH
      refine ae λK hK => ?_; simp (maxSteps := 1000000) (disch := omega) [-getD_eq_getElem?_getD, c0, eO, bf]; refine hK _ ?_; clear hK K;refine ae λK hK => ?_; simp (maxSteps := 1000000) (disch := omega) [-getD_eq_getElem?_getD]; refine hK _ ?_; clear hK K;refine af λK1 aP => ?_;refine ae λK hK => ?_; simp (maxSteps := 1000000) (disch := omega) [-getD_eq_getElem?_getD, aL, eL, W4, bf, bL, hL, a0, bz, tH, eO]; refine hK _ ?_; clear hK K;refine aU rfl (λh => absurd h (by simp)) (λh => ?_);apply aq;refine aP _ ?_; clear aP;refine aK [10] [0, 0, 0, 0, 0, 0, 0, 0, 0, 0, 0, 1] [[]] aw (by kernel_rfl) (by kernel_rfl) λK hK => ?_; simp (maxSteps := 1000000) (disch := omega) [-getD_eq_getElem?_getD, c0, eO, bf, EI, Mk, y2, hbk];refine hK _ ?_; clear hK K;rw [vF] at cq;have Xc : ∀ T : au, bN [.cells [.int .i64 f, .str w, .int .i64 lo, .int .i64 hi], .cells (dA s), .cells (dO (vG z)), .cells (iv (br X) (cj X)), .cells (iv (br Y) (cj Y))] T := λT => by
        have := ((((eV T).snoc (vs := dO (vG z)) (by simp)).snoc (vs := iv (br X) (cj X)) (by simp)).snoc (vs := iv (br Y) (cj Y)) (by simp))
        simpa using this
      refine ae λK hK => ?_; simp (maxSteps := 1000000) (disch := omega) [-getD_eq_getElem?_getD];refine ak (cp _ _) ?_; simp (maxSteps := 1000000) (disch := omega) [-getD_eq_getElem?_getD];refine ak (cq _ _) ?_; simp (maxSteps := 1000000) (disch := omega) [-getD_eq_getElem?_getD];refine hK _ ?_; clear hK K;refine af λK1 aP => ?_;refine ae λK hK => ?_; simp (maxSteps := 1000000) (disch := omega) [-getD_eq_getElem?_getD]; refine hK _ ?_; clear hK K;apply aj;refine aJ (X := Nat) (λi => ⟨[(0, .sl l.length (aN l) .none), (3, .ptr 0 0), (11, .ptr 3 0), (12, .ptr 4 0), (13, .int .i64 (i : Nat))], [.cells [.int .i64 f, .str w, .int .i64 lo, .int .i64 hi], .cells (dA s), .cells (dO (vG z)), .cells (iv (br X) (cj X)), .cells (iv (br Y) (cj Y))], [(p.length * 4, 4), ((q.length + 3) * 4, 4)]⟩)
        (λi => i <= l.length /\ ∀ j, j < i -> (l.getD j d0).id ≠ 1000000000) (λi => l.length - i) 0 ?_ ?_ ?_
      · exact ⟨agP _, λj hj => absurd hj (ag9 _)⟩
      · refine ag [] [] ?_ ?_ ?_ ?_ (Xc _) ?_
        all_goals simp [vG]
      · rintro i ⟨g1, g2⟩;refine af λK2 bp => ?_
        by_cases hk : i < l.length
        · have b1 : decide ((i : Int) < (l.length : Int)) = true := agH (by omega);have ai := (iO l i hk).1;refine ae λK hK => ?_; simp (maxSteps := 1000000) (disch := omega) [-getD_eq_getElem?_getD, b1, hk]; refine hK _ ?_; clear hK K;refine aU rfl (λh => ?_) (λh => absurd h (by simp));apply aq;refine bp _ ?_; clear bp;refine af λK3 bG => ?_;apply aj
          by_cases hi : (l.getD i d0).id = 1000000000
          · generalize l.getD i d0 = d1 at *;have b2 : (d1.id == 1000000000) = true := by simpa using hi
            refine ae λK hK => ?_; simp (maxSteps := 1000000) (disch := omega) [-getD_eq_getElem?_getD, ai, hk, bf, b2]; refine hK _ ?_; clear hK K;refine aU rfl (λh => ?_) (λh => absurd h (by simp));refine ae λK hK => ?_; simp (maxSteps := 1000000) (disch := omega) [-getD_eq_getElem?_getD]; refine hK _ ?_; clear hK K;apply az; simp (maxSteps := 1000000) (disch := omega) [-getD_eq_getElem?_getD]
          · have Mx : ∀ j, j < i + 1 -> (l.getD j d0).id ≠ 1000000000 := λj hj => by
              rcases agM j i with h1 | h1
              · exact g2 j h1
              · have : j = i := by omega
                subst this; exact hi
            generalize l.getD i d0 = d1 at *;have b2 : (d1.id == 1000000000) = false := by simpa using hi
            refine ae λK hK => ?_; simp (maxSteps := 1000000) (disch := omega) [-getD_eq_getElem?_getD, ai, hk, bf, b2, hi]; refine hK _ ?_; clear hK K;refine aU rfl (λh => absurd h (by simp)) (λh => ?_);apply aq;refine bG _ ?_; clear bG;refine aC λK hK => ?_; simp (maxSteps := 1000000) (disch := omega) [-getD_eq_getElem?_getD]; refine hK _ ?_; clear hK K;refine ⟨i + 1, ⟨by show i + 1 <= _; omega, Mx⟩, by show l.length - (i + 1) < l.length - i; omega, ?_⟩;refine ag [] [] ?_ ?_ ?_ ?_ (Xc _) ?_
            all_goals simp
        · have b1 : decide ((i : Int) < (l.length : Int)) = false := agI (by omega);have : i = l.length := by omega
          subst this;have hXY : fl X = fl Y := fh λd hd => by
            obtain ⟨j, hj, rfl⟩ := bK d0 hd;exact g2 j hj
          obtain ⟨F5, x7⟩ := F5;obtain ⟨Rg, y7⟩ := Rg;have fK : ∀ d ∈ fl X, oY d := λd hd => ad0 d hd;have uW : (fl X).length <= 19 := by rw [show (fl X).length = (alive X).length from dV _]; exact F5.a
          have hfq := nV F5.g (f, w);have cdx := λH T => ri F5 (by omega) H T;have cdy := λH T => ri Rg (by omega) H T;rw [<- hXY] at cdy;have csd := λH T => EZ (fl X) (agJ uW (by decide)) fK H T .none .none;have cfx := λH T => th F5 (by omega) (by omega) f w H T;have cfy := λH T => th Rg (by omega) (by omega) f w H T;rw [<- Hg F5.g Rg.g hXY] at cfy;have hq1 : (eC X (f, w) X.length).length <= 5000 := by rw [hfq]; exact agJ (nO _ _) (by omega)
          have hq2 : ∀ p ∈ eC X (f, w) X.length, p.2.length <= maxLen := λp hp => by
            rw [hfq] at hp;refine agJ (F5.post (by omega) (λd hd => ?_) (f, w) p hp) (by decide);obtain ⟨s, hs, h⟩ := qi.1 hd;exact ⟨s, hs, lY h⟩
          have cth := λH T => zP (eC X (f, w) X.length) hq1 H T .none;have csm := λH T => KJ (eC X (f, w) X.length) (eC X (f, w) X.length) hq1 hq1 hq2 hq2 H T;rw [agH rfl] at csm;have cwx := λH T => zI F5 (by omega) (by omega) f w hw H T;have cwy := λH T => zI Rg (by omega) (by omega) f w hw H T;rw [<- E9 F5.g Rg.g hXY] at cwy;have sa : (iT X f w).length <= maxLen := agJ (GF F5 f w) (agJ (ahF _ x7) (by decide));have cst := λH T => BU (iT X f w) (iT X f w) sa sa H T .none .none;rw [beq_self_eq_true] at cst;have cbx := λH T => Jb F5 (by omega) f lo hi H T;have cby := λH T => Jb Rg (by omega) f lo hi H T;rw [<- Lc F5.g Rg.g hXY] at cby;have YP : (kX X f lo hi X.length).length <= maxLen := agJ (xO F5.g f lo hi (agE _)) (agJ F5.a (by decide));have csi := λH T => pV (kX X f lo hi X.length) (kX X f lo hi X.length) YP YP H T .none .none;rw [beq_self_eq_true] at csi;generalize eC X (f, w) X.length = fq at *;generalize iT X f w = wq at *;generalize kX X f lo hi X.length = bq at *;generalize fl X = D at *;refine ae λK hK => ?_; simp (maxSteps := 1000000) (disch := omega) [-getD_eq_getElem?_getD, b1, hk]; refine hK _ ?_; clear hK K;refine aU rfl (λh => absurd h (by simp)) (λh => ?_);apply aG; simp (maxSteps := 1000000) (disch := omega) [-getD_eq_getElem?_getD];refine aP _ ?_; clear aP;refine aK [] [0, 0, 0, 0, 0, 0, 0, 0, 0, 0, 0, 0, 0, 0, 0, 0, 0, 0, 0, 0, 0, 0, 0, 0, 0, 0, 0, 0, 0, 0, 0, 0, 0, 0, 0, 0, 0, 0, 0, 0, 0, 0, 0, 0, 0, 0, 0, 0, 0, 0, 0, 0, 0, 0, 0, 0] [] aw (by kernel_rfl) (by kernel_rfl) λK hK => ?_; simp (maxSteps := 1000000) (disch := omega) [-getD_eq_getElem?_getD];refine aD (cdx _ _) rfl ?_; simp (maxSteps := 1000000) (disch := omega) [-getD_eq_getElem?_getD];refine aD (cdy _ _) rfl ?_; simp (maxSteps := 1000000) (disch := omega) [-getD_eq_getElem?_getD];refine aD (csd _ _) rfl ?_; simp (maxSteps := 1000000) (disch := omega) [-getD_eq_getElem?_getD];refine aD (cfx _ _) rfl ?_; simp (maxSteps := 1000000) (disch := omega) [-getD_eq_getElem?_getD];refine aD (cfy _ _) rfl ?_; simp (maxSteps := 1000000) (disch := omega) [-getD_eq_getElem?_getD];refine aD (cth _ _) rfl ?_; simp (maxSteps := 1000000) (disch := omega) [-getD_eq_getElem?_getD];refine aD (csm _ _) rfl ?_; simp (maxSteps := 1000000) (disch := omega) [-getD_eq_getElem?_getD];refine aD (cwx _ _) rfl ?_; simp (maxSteps := 1000000) (disch := omega) [-getD_eq_getElem?_getD];refine aD (cwy _ _) rfl ?_; simp (maxSteps := 1000000) (disch := omega) [-getD_eq_getElem?_getD];refine aD (cst _ _) rfl ?_; simp (maxSteps := 1000000) (disch := omega) [-getD_eq_getElem?_getD];refine aD (cbx _ _) rfl ?_; simp (maxSteps := 1000000) (disch := omega) [-getD_eq_getElem?_getD];refine aD (cby _ _) rfl ?_; simp (maxSteps := 1000000) (disch := omega) [-getD_eq_getElem?_getD];refine aD (csi _ _) rfl ?_; simp (maxSteps := 1000000) (disch := omega) [-getD_eq_getElem?_getD];refine hK _ ?_; clear hK K;apply az; simp (maxSteps := 1000000) (disch := omega) [-getD_eq_getElem?_getD]
end Go.Proofs.YtoejlmpbebjemaaGreat
