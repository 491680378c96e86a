/- slices.Equal, slices.EqualFunc, segment.Equal (layer 39).
  Conditions: the sizes of SzS. -/
import Derived.Test.YtneohapkboaplaaGreatGV
set_option linter.all false
set_option maxRecDepth 100000
namespace Go.Proofs.YtneohapkboaplaaGreat
open Go Go.Am Sug Seg
open Classical in
noncomputable def eqB {α:Type}(a b:α):Bool:=decide (a=b)
theorem eqB_true {α:Type}{a b:α}(h:a=b):eqB a b=true:=by unfold eqB;simp[h]
theorem eqB_false {α:Type}{a b:α}(h:a≠b):eqB a b=false:=by unfold eqB;simp[h]
theorem list_ext {α:Type}(d:α){a b:List α}(hl:a.length=b.length)(h:∀j,j<a.length→a.getD j d=b.getD j d):a=b:=by
 apply List.ext_getElem hl;intro i h1 h2;have:=h i h1
 rwa [List.getD_eq_getElem?_getD,List.getD_eq_getElem?_getD,List.getElem?_eq_getElem h1,List.getElem?_eq_getElem h2] at this
set_option maxHeartbeats 4000000 in
theorem eqI_ok (a b : List Int) (ha : a.length ≤ 1000000) (hb : b.length ≤ 1000000) (H : List Blk) (T : Toks) : ACall Tryz.prog 94 [.sl a.length (ints a) .none, .sl b.length (ints b) .none] H T (Is (.bool (eqB a b)) H T) := by
  refine ACall.drop' ?_ (by simp);have ha' : a.length ≤ 9223372036854775807 := by omega
  refine acall_enter 14 [] Tryz.ntmps94 Tryz.func94 rfl (fun _ _ => Tryz.call94 _ _) (by simp) (fun HO => ?_);refine aw_reg fun K hK => ?_; simp (maxSteps := 1000000) (disch := omega) [-List.getD_eq_getElem?_getD]; refine hK _ ?_; clear hK K;refine aw_then fun K1 hK1 => ?_
  by_cases hl : a.length = b.length
  rotate_left
  · have bl : ((a.length : Int) != (b.length : Int)) = true := by simpa using fun h => hl (by omega)
    refine aw_reg fun K hK => ?_; simp (maxSteps := 1000000) (disch := omega) [-List.getD_eq_getElem?_getD, bl]; refine hK _ ?_; clear hK K;refine aw_if rfl (fun h => ?_) (fun h => absurd h (by simp));refine aw_reg fun K hK => ?_; simp (maxSteps := 1000000) (disch := omega) [-List.getD_eq_getElem?_getD]; refine hK _ ?_; clear hK K;apply aw_ret; simp (maxSteps := 1000000) (disch := omega) [-List.getD_eq_getElem?_getD];rw [eqB_false fun h => hl (by rw [h])]
  have bl : ((a.length : Int) != (b.length : Int)) = false := by simp [hl]
  refine aw_reg fun K hK => ?_; simp (maxSteps := 1000000) (disch := omega) [-List.getD_eq_getElem?_getD, bl]; refine hK _ ?_; clear hK K;refine aw_if rfl (fun h => absurd h (by simp)) (fun h => ?_);apply aw_skip; simp (maxSteps := 1000000) (disch := omega) [-List.getD_eq_getElem?_getD];refine hK1 _ ?_; clear hK1;refine aw_then fun K1 hK1 => ?_;refine aw_reg fun K hK => ?_; simp (maxSteps := 1000000) (disch := omega) [-List.getD_eq_getElem?_getD]; refine hK _ ?_; clear hK K;apply aw_block;refine aw_loop (X := Nat) (fun i => ⟨[(0, .sl a.length (ints a) .none), (1, .sl b.length (ints b) .none), (11, .sl a.length (ints a) .none), (12, .int .i64 (a.length : Nat)), (13, .int .i64 (i : Nat))], H, T⟩)
    (fun i => i ≤ a.length ∧ ∀ j, j < i → a.getD j 0 = b.getD j 0) (fun i => a.length - i) 0 ?_ ?_ ?_
  · exact ⟨Nat.zero_le _, fun j hj => absurd hj (Nat.not_lt_zero _)⟩
  · refine weak_to [] [] ?_ ?_ ?_ ?_ HO ?_
    all_goals simp
  · rintro i ⟨i1, i2⟩;refine aw_reg fun K hK => ?_; simp (maxSteps := 1000000) (disch := omega) [-List.getD_eq_getElem?_getD]; refine hK _ ?_; clear hK K;refine aw_then fun K2 hK2 => ?_;refine aw_if rfl (fun hk => ?_) (fun hk => ?_)
    · simp [-List.getD_eq_getElem?_getD] at hk;have hkb : i < b.length := by omega
      have hxa := getD_ints (xs := a) (k := i) hk;have hxb := getD_ints (xs := b) (k := i) hkb;apply aw_skip; simp (maxSteps := 1000000) (disch := omega) [-List.getD_eq_getElem?_getD];refine hK2 _ ?_; clear hK2;refine aw_then fun K3 hK3 => ?_;apply aw_block;refine aw_reg fun K hK => ?_; simp (maxSteps := 1000000) (disch := omega) [-List.getD_eq_getElem?_getD]; refine hK _ ?_; clear hK K
      by_cases hx : a.getD i 0 = b.getD i 0
      · have step : ∀ j, j < i + 1 → a.getD j 0 = b.getD j 0 := fun j hj => by
          rcases Nat.lt_or_ge j i with h | h
          · exact i2 j h
          · have : j = i := by omega
            subst this; exact hx
        rw [← hx] at hxb;generalize a.getD i 0 = x at *;refine aw_draw [] [] [] drawMixed (by kernel_rfl) (by kernel_rfl) fun K hK => ?_; simp (maxSteps := 1000000) (disch := omega) [-List.getD_eq_getElem?_getD, hxa, hxb, hkb];refine hK _ ?_;refine aw_if rfl (fun h => absurd h (by simp)) (fun h => ?_);apply aw_skip; simp (maxSteps := 1000000) (disch := omega) [-List.getD_eq_getElem?_getD];refine hK3 _ ?_; clear hK3;refine aw_reg0 fun K hK => ?_; simp (maxSteps := 1000000) (disch := omega) [-List.getD_eq_getElem?_getD];refine hK _ ?_; clear hK K;refine ⟨i + 1, ⟨by omega, step⟩, by omega, ?_⟩;refine weak_to [] [] ?_ ?_ ?_ ?_ HO ?_
        all_goals simp
      · have hne : a ≠ b := fun h => hx (by rw [h]);generalize a.getD i 0 = x at *;generalize b.getD i 0 = y at *;have bx : (x != y) = true := by simpa using hx
        refine aw_draw [] [] [] drawMixed (by kernel_rfl) (by kernel_rfl) fun K hK => ?_; simp (maxSteps := 1000000) (disch := omega) [-List.getD_eq_getElem?_getD, hxa, hxb, hkb, bx];refine hK _ ?_;refine aw_if rfl (fun h => ?_) (fun h => absurd h (by simp));refine aw_reg fun K hK => ?_; simp (maxSteps := 1000000) (disch := omega) [-List.getD_eq_getElem?_getD]; refine hK _ ?_; clear hK K;apply aw_ret; simp (maxSteps := 1000000) (disch := omega) [-List.getD_eq_getElem?_getD];rw [eqB_false hne]
    · simp [-List.getD_eq_getElem?_getD] at hk;have hie : i = a.length := by omega
      subst hie;apply aw_exit; simp (maxSteps := 1000000) (disch := omega) [-List.getD_eq_getElem?_getD];refine hK1 _ ?_; clear hK1;refine aw_reg fun K hK => ?_; simp (maxSteps := 1000000) (disch := omega) [-List.getD_eq_getElem?_getD]; refine hK _ ?_; clear hK K;apply aw_ret; simp (maxSteps := 1000000) (disch := omega) [-List.getD_eq_getElem?_getD];rw [eqB_true (list_ext 0 hl i2)]
attribute [-simp] List.getD_eq_getElem?_getD in
set_option maxHeartbeats 4000000 in
theorem eqN_ok (a b:List Nm)(ha:a.length≤1000000)(hb:b.length≤1000000)(H:List Blk)(T:Toks):ACall Tryz.prog 98 [.sl a.length (nmAV a) .none,.sl b.length (nmAV b) .none] H T (Is (.bool (eqB a b)) H T):=by
 refine ACall.drop' ?_ (by simp);have ha':a.length≤9223372036854775807:=by omega
 refine acall_enter 14 [] Tryz.ntmps98 Tryz.func98 rfl (fun _ _=>Tryz.call98 _ _) (by simp) (fun HO=>?_);apply aw_reg;intro K h;simp(disch:=omega);apply h;clear h K;refine aw_then fun K1 hK1=>?_
 by_cases hl:a.length=b.length
 rotate_left
 ·have bl:((a.length:Int)!=(b.length:Int))=true:=by simpa using fun h=>hl (by omega)
  refine aw_reg fun K hK=>?_;simp(disch:=omega)[bl];apply hK;clear hK K;apply aw_ift rfl;apply aw_reg;intro K h;simp(disch:=omega);apply h;clear h K;apply aw_ret;simp(disch:=omega) ;rw[eqB_false fun h=>hl (by rw[h])]
 have bl:((a.length:Int)!=(b.length:Int))=false:=by simp[hl]
 refine aw_reg fun K hK=>?_;simp(disch:=omega)[bl];apply hK;clear hK K;apply aw_iff rfl;apply aw_skip;simp(disch:=omega) ;apply hK1;clear hK1;refine aw_then fun K1 hK1=>?_;apply aw_reg;intro K h;simp(disch:=omega);apply h;clear h K;apply aw_block;refine aw_loop (X:=Nat) (fun i=>⟨[(0,.sl a.length (nmAV a) .none),(1,.sl b.length (nmAV b) .none),(11,.sl a.length (nmAV a) .none),(12,.int .i64 (a.length:Nat)),(13,.int .i64 (i:Nat))],H,T⟩)
  (fun i=>i≤a.length∧∀j,j<i→a.getD j n0=b.getD j n0) (fun i=>a.length-i) 0 ?_ ?_ ?_
 ·exact⟨Nat.zero_le _,fun j hj=>absurd hj (Nat.not_lt_zero _)⟩
 ·refine weak_to [] [] ?_ ?_ ?_ ?_ HO ?_
  all_goals simp
 ·rintro i ⟨i1,i2⟩;apply aw_reg;intro K h;simp(disch:=omega);apply h;clear h K;refine aw_then fun K2 hK2=>?_;refine aw_if rfl (fun hk=>?_) (fun hk=>?_)
  ·simp  at hk;have hkb:i<b.length:=by omega
   have hxa:=nmAV_cut a i hk;have hxb:=nmAV_cut b i hkb;apply aw_skip;simp(disch:=omega) ;apply hK2;clear hK2;refine aw_then fun K3 hK3=>?_;apply aw_block;apply aw_reg;intro K h;simp(disch:=omega);apply h;clear h K
   by_cases hx:a.getD i n0=b.getD i n0
   ·have step:∀j,j<i+1→a.getD j n0=b.getD j n0:=fun j hj=>by
     rcases Nat.lt_or_ge j i with h|h
     ·exact i2 j h
     ·have:j=i:=by omega
      subst this;exact hx
    rw[←hx] at hxb;generalize a.getD i n0=x at *;refine aw_draw [] [] [] drawMixed (by kernel_rfl) (by kernel_rfl) fun K hK=>?_;simp(disch:=omega)[hxa,hxb,nmAV_len,hkb];refine hK _ ?_;apply aw_iff rfl;apply aw_skip;simp(disch:=omega) ;apply hK3;clear hK3;refine aw_reg0 fun K hK=>?_;simp(disch:=omega) ;apply hK;clear hK K;refine⟨i+1,⟨by omega,step⟩,by omega,?_⟩;refine weak_to [] [] ?_ ?_ ?_ ?_ HO ?_
    all_goals simp
   ·have hne:a≠b:=fun h=>hx (by rw[h]);generalize a.getD i n0=x at *;generalize b.getD i n0=y at *;have bx:(x.1==y.1&&x.2==y.2)=false:=by
     obtain⟨x1,x2⟩:=x;obtain⟨y1,y2⟩:=y;simpa using hx
    refine aw_draw [] [] [] drawMixed (by kernel_rfl) (by kernel_rfl) fun K hK=>?_;simp(disch:=omega)[hxa,hxb,nmAV_len,hkb,bx];refine hK _ ?_;apply aw_ift rfl;apply aw_reg;intro K h;simp(disch:=omega);apply h;clear h K;apply aw_ret;simp(disch:=omega) ;rw[eqB_false hne]
  ·simp  at hk;have hie:i=a.length:=by omega
   subst hie;apply aw_exit;simp(disch:=omega) ;apply hK1;clear hK1;apply aw_reg;intro K h;simp(disch:=omega);apply h;clear h K;apply aw_ret;simp(disch:=omega) ;rw[eqB_true (list_ext n0 hl i2)]
section
variable {H : List Blk} {T : Toks}
attribute [-simp] List.getD_eq_getElem?_getD in
set_option maxHeartbeats 4000000 in
theorem eqfP_ok (fid:FuncId)(caps:List AV)(hbc:BelowAll H.length T.length caps)(a b:List Ps)(ha:a.length≤1000000)(hb:b.length≤1000000)
  (hc:∀x∈a,∀y∈b,∀G,ACall Tryz.prog fid ([.agg (psC x),.agg (psC y)]++caps) (H++G) T (Is (.bool (eqB x y)) (H++G) T)):ACall Tryz.prog 96 [.sl a.length (psAV a) .none,.sl b.length (psAV b) .none,.fn fid [] caps] H T (Is (.bool (eqB a b)) H T):=by
 refine ACall.drop' ?_ (by simp);have ha':a.length≤9223372036854775807:=by omega
 refine acall_enter 18 [] Tryz.ntmps96 Tryz.func96 rfl (fun _ _=>Tryz.call96 _ _) (by simp) (fun HO=>?_);apply aw_reg;intro K h;simp(disch:=omega);apply h;clear h K;refine aw_then fun K1 hK1=>?_
 by_cases hl:a.length=b.length
 rotate_left
 ·have bl:((a.length:Int)!=(b.length:Int))=true:=by simpa using fun h=>hl (by omega)
  refine aw_reg fun K hK=>?_;simp(disch:=omega)[bl];apply hK;clear hK K;apply aw_ift rfl;apply aw_reg;intro K h;simp(disch:=omega);apply h;clear h K;apply aw_ret;simp(disch:=omega) ;rw[eqB_false fun h=>hl (by rw[h])]
 have bl:((a.length:Int)!=(b.length:Int))=false:=by simp[hl]
 refine aw_reg fun K hK=>?_;simp(disch:=omega)[bl];apply hK;clear hK K;apply aw_iff rfl;apply aw_skip;simp(disch:=omega) ;apply hK1;clear hK1;refine aw_then fun K1 hK1=>?_;apply aw_reg;intro K h;simp(disch:=omega);apply h;clear h K;apply aw_block;refine aw_loop (X:=Nat) (fun i=>⟨[(0,.sl a.length (psAV a) .none),(1,.sl b.length (psAV b) .none),(2,.fn fid [] caps),(15,.sl a.length (psAV a) .none),(16,.int .i64 (a.length:Nat)),(17,.int .i64 (i:Nat))],H,T⟩)
  (fun i=>i≤a.length∧∀j,j<i→a.getD j p0=b.getD j p0) (fun i=>a.length-i) 0 ?_ ?_ ?_
 ·exact⟨Nat.zero_le _,fun j hj=>absurd hj (Nat.not_lt_zero _)⟩
 ·refine weak_to [] [] ?_ ?_ ?_ ?_ HO ?_
  all_goals simp
  all_goals exact hbc
 ·rintro i ⟨i1,i2⟩;apply aw_reg;intro K h;simp(disch:=omega);apply h;clear h K;refine aw_then fun K2 hK2=>?_;refine aw_if rfl (fun hk=>?_) (fun hk=>?_)
  ·simp  at hk;have hkb:i<b.length:=by omega
   have hxa:=psAV_cut a i hk;have hxb:=psAV_cut b i hkb;have c:=hc _ (getD_mem a i p0 hk) _ (getD_mem b i p0 hkb) [.cells (psC (a.getD i p0)),.cells (psC (b.getD i p0))];have hne:a.getD i p0≠b.getD i p0→a≠b:=fun hx h=>hx (by rw[h]);have step:a.getD i p0=b.getD i p0→∀j,j<i+1→a.getD j p0=b.getD j p0:=fun hx j hj=>by
    rcases Nat.lt_or_ge j i with h|h
    ·exact i2 j h
    ·have:j=i:=by omega
     subst this;exact hx
   generalize a.getD i p0=x at *;generalize b.getD i p0=y at *;apply aw_skip;simp(disch:=omega) ;apply hK2;clear hK2;refine aw_then fun K3 hK3=>?_;apply aw_block;refine aw_reg fun K hK=>?_;simp(disch:=omega)[hxa,psAV_len];apply hK;clear hK K;refine aw_reg fun K hK=>?_;simp(disch:=omega)[hxb,psAV_len,hkb];apply hK;clear hK K
   by_cases hx:x=y
   ·rw[eqB_true hx] at c;refine aw_reg fun K hK=>?_;simp(disch:=omega) ;refine acall_is (c) ?_;simp(disch:=omega) ;apply hK;clear hK K;apply aw_iff rfl;apply aw_skip;simp(disch:=omega) ;apply hK3;clear hK3;refine aw_reg0 fun K hK=>?_;simp(disch:=omega) ;apply hK;clear hK K;refine⟨i+1,⟨by omega,step hx⟩,by omega,?_⟩;refine weak_to [.cells (psC x),.cells (psC y)] [] ?_ ?_ ?_ ?_ HO ?_
    all_goals simp
    all_goals exact hbc
   ·rw[eqB_false hx] at c;refine aw_reg fun K hK=>?_;simp(disch:=omega) ;refine acall_is (c) ?_;simp(disch:=omega) ;apply hK;clear hK K;apply aw_ift rfl;apply aw_reg;intro K h;simp(disch:=omega);apply h;clear h K;apply aw_ret;simp(disch:=omega) ;rw[eqB_false (hne hx)]
  ·simp  at hk;have hie:i=a.length:=by omega
   subst hie;apply aw_exit;simp(disch:=omega) ;apply hK1;clear hK1;apply aw_reg;intro K h;simp(disch:=omega);apply h;clear h K;apply aw_ret;simp(disch:=omega) ;rw[eqB_true (list_ext p0 hl i2)]
attribute [-simp] List.getD_eq_getElem?_getD in
set_option maxHeartbeats 4000000 in
theorem eqfT_ok (fid:FuncId)(caps:List AV)(hbc:BelowAll H.length T.length caps)(a b:List Tm)(ha:a.length≤1000000)(hb:b.length≤1000000)
  (hc:∀x∈a,∀y∈b,∀G,ACall Tryz.prog fid ([.agg (tmC x),.agg (tmC y)]++caps) (H++G) T (Is (.bool (eqB x y)) (H++G) T)):ACall Tryz.prog 99 [.sl a.length (tmAV a) .none,.sl b.length (tmAV b) .none,.fn fid [] caps] H T (Is (.bool (eqB a b)) H T):=by
 refine ACall.drop' ?_ (by simp);have ha':a.length≤9223372036854775807:=by omega
 refine acall_enter 18 [] Tryz.ntmps99 Tryz.func99 rfl (fun _ _=>Tryz.call99 _ _) (by simp) (fun HO=>?_);apply aw_reg;intro K h;simp(disch:=omega);apply h;clear h K;refine aw_then fun K1 hK1=>?_
 by_cases hl:a.length=b.length
 rotate_left
 ·have bl:((a.length:Int)!=(b.length:Int))=true:=by simpa using fun h=>hl (by omega)
  refine aw_reg fun K hK=>?_;simp(disch:=omega)[bl];apply hK;clear hK K;apply aw_ift rfl;apply aw_reg;intro K h;simp(disch:=omega);apply h;clear h K;apply aw_ret;simp(disch:=omega) ;rw[eqB_false fun h=>hl (by rw[h])]
 have bl:((a.length:Int)!=(b.length:Int))=false:=by simp[hl]
 refine aw_reg fun K hK=>?_;simp(disch:=omega)[bl];apply hK;clear hK K;apply aw_iff rfl;apply aw_skip;simp(disch:=omega) ;apply hK1;clear hK1;refine aw_then fun K1 hK1=>?_;apply aw_reg;intro K h;simp(disch:=omega);apply h;clear h K;apply aw_block;refine aw_loop (X:=Nat) (fun i=>⟨[(0,.sl a.length (tmAV a) .none),(1,.sl b.length (tmAV b) .none),(2,.fn fid [] caps),(15,.sl a.length (tmAV a) .none),(16,.int .i64 (a.length:Nat)),(17,.int .i64 (i:Nat))],H,T⟩)
  (fun i=>i≤a.length∧∀j,j<i→a.getD j t0=b.getD j t0) (fun i=>a.length-i) 0 ?_ ?_ ?_
 ·exact⟨Nat.zero_le _,fun j hj=>absurd hj (Nat.not_lt_zero _)⟩
 ·refine weak_to [] [] ?_ ?_ ?_ ?_ HO ?_
  all_goals simp
  all_goals exact hbc
 ·rintro i ⟨i1,i2⟩;apply aw_reg;intro K h;simp(disch:=omega);apply h;clear h K;refine aw_then fun K2 hK2=>?_;refine aw_if rfl (fun hk=>?_) (fun hk=>?_)
  ·simp  at hk;have hkb:i<b.length:=by omega
   have hxa:=tmAV_cut a i hk;have hxb:=tmAV_cut b i hkb;have c:=hc _ (getD_mem a i t0 hk) _ (getD_mem b i t0 hkb) [.cells (tmC (a.getD i t0)),.cells (tmC (b.getD i t0))];have hne:a.getD i t0≠b.getD i t0→a≠b:=fun hx h=>hx (by rw[h]);have step:a.getD i t0=b.getD i t0→∀j,j<i+1→a.getD j t0=b.getD j t0:=fun hx j hj=>by
    rcases Nat.lt_or_ge j i with h|h
    ·exact i2 j h
    ·have:j=i:=by omega
     subst this;exact hx
   generalize a.getD i t0=x at *;generalize b.getD i t0=y at *;apply aw_skip;simp(disch:=omega) ;apply hK2;clear hK2;refine aw_then fun K3 hK3=>?_;apply aw_block;refine aw_reg fun K hK=>?_;simp(disch:=omega)[hxa,tmAV_len];apply hK;clear hK K;refine aw_reg fun K hK=>?_;simp(disch:=omega)[hxb,tmAV_len,hkb];apply hK;clear hK K
   by_cases hx:x=y
   ·rw[eqB_true hx] at c;refine aw_reg fun K hK=>?_;simp(disch:=omega) ;refine acall_is (c) ?_;simp(disch:=omega) ;apply hK;clear hK K;apply aw_iff rfl;apply aw_skip;simp(disch:=omega) ;apply hK3;clear hK3;refine aw_reg0 fun K hK=>?_;simp(disch:=omega) ;apply hK;clear hK K;refine⟨i+1,⟨by omega,step hx⟩,by omega,?_⟩;refine weak_to [.cells (tmC x),.cells (tmC y)] [] ?_ ?_ ?_ ?_ HO ?_
    all_goals simp
    all_goals exact hbc
   ·rw[eqB_false hx] at c;refine aw_reg fun K hK=>?_;simp(disch:=omega) ;refine acall_is (c) ?_;simp(disch:=omega) ;apply hK;clear hK K;apply aw_ift rfl;apply aw_reg;intro K h;simp(disch:=omega);apply h;clear h K;apply aw_ret;simp(disch:=omega) ;rw[eqB_false (hne hx)]
  ·simp  at hk;have hie:i=a.length:=by omega
   subst hie;apply aw_exit;simp(disch:=omega) ;apply hK1;clear hK1;apply aw_reg;intro K h;simp(disch:=omega);apply h;clear h K;apply aw_ret;simp(disch:=omega) ;rw[eqB_true (list_ext t0 hl i2)]
attribute [-simp] List.getD_eq_getElem?_getD in
set_option maxHeartbeats 4000000 in
theorem eqfC_ok (fid:FuncId)(caps:List AV)(hbc:BelowAll H.length T.length caps)(a b:List Cl)(ha:a.length≤1000000)(hb:b.length≤1000000)
  (hc:∀x∈a,∀y∈b,∀G,ACall Tryz.prog fid ([.agg (clC x),.agg (clC y)]++caps) (H++G) T (Is (.bool (eqB x y)) (H++G) T)):ACall Tryz.prog 100 [.sl a.length (clAV a) .none,.sl b.length (clAV b) .none,.fn fid [] caps] H T (Is (.bool (eqB a b)) H T):=by
 refine ACall.drop' ?_ (by simp);have ha':a.length≤9223372036854775807:=by omega
 refine acall_enter 18 [] Tryz.ntmps100 Tryz.func100 rfl (fun _ _=>Tryz.call100 _ _) (by simp) (fun HO=>?_);apply aw_reg;intro K h;simp(disch:=omega);apply h;clear h K;refine aw_then fun K1 hK1=>?_
 by_cases hl:a.length=b.length
 rotate_left
 ·have bl:((a.length:Int)!=(b.length:Int))=true:=by simpa using fun h=>hl (by omega)
  refine aw_reg fun K hK=>?_;simp(disch:=omega)[bl];apply hK;clear hK K;apply aw_ift rfl;apply aw_reg;intro K h;simp(disch:=omega);apply h;clear h K;apply aw_ret;simp(disch:=omega) ;rw[eqB_false fun h=>hl (by rw[h])]
 have bl:((a.length:Int)!=(b.length:Int))=false:=by simp[hl]
 refine aw_reg fun K hK=>?_;simp(disch:=omega)[bl];apply hK;clear hK K;apply aw_iff rfl;apply aw_skip;simp(disch:=omega) ;apply hK1;clear hK1;refine aw_then fun K1 hK1=>?_;apply aw_reg;intro K h;simp(disch:=omega);apply h;clear h K;apply aw_block;refine aw_loop (X:=Nat) (fun i=>⟨[(0,.sl a.length (clAV a) .none),(1,.sl b.length (clAV b) .none),(2,.fn fid [] caps),(15,.sl a.length (clAV a) .none),(16,.int .i64 (a.length:Nat)),(17,.int .i64 (i:Nat))],H,T⟩)
  (fun i=>i≤a.length∧∀j,j<i→a.getD j c0=b.getD j c0) (fun i=>a.length-i) 0 ?_ ?_ ?_
 ·exact⟨Nat.zero_le _,fun j hj=>absurd hj (Nat.not_lt_zero _)⟩
 ·refine weak_to [] [] ?_ ?_ ?_ ?_ HO ?_
  all_goals simp
  all_goals exact hbc
 ·rintro i ⟨i1,i2⟩;apply aw_reg;intro K h;simp(disch:=omega);apply h;clear h K;refine aw_then fun K2 hK2=>?_;refine aw_if rfl (fun hk=>?_) (fun hk=>?_)
  ·simp  at hk;have hkb:i<b.length:=by omega
   have hxa:=clAV_cut a i hk;have hxb:=clAV_cut b i hkb;have c:=hc _ (getD_mem a i c0 hk) _ (getD_mem b i c0 hkb) [.cells (clC (a.getD i c0)),.cells (clC (b.getD i c0))];have hne:a.getD i c0≠b.getD i c0→a≠b:=fun hx h=>hx (by rw[h]);have step:a.getD i c0=b.getD i c0→∀j,j<i+1→a.getD j c0=b.getD j c0:=fun hx j hj=>by
    rcases Nat.lt_or_ge j i with h|h
    ·exact i2 j h
    ·have:j=i:=by omega
     subst this;exact hx
   generalize a.getD i c0=x at *;generalize b.getD i c0=y at *;apply aw_skip;simp(disch:=omega) ;apply hK2;clear hK2;refine aw_then fun K3 hK3=>?_;apply aw_block;refine aw_reg fun K hK=>?_;simp(disch:=omega)[hxa,clAV_len];apply hK;clear hK K;refine aw_reg fun K hK=>?_;simp(disch:=omega)[hxb,clAV_len,hkb];apply hK;clear hK K
   by_cases hx:x=y
   ·rw[eqB_true hx] at c;refine aw_reg fun K hK=>?_;simp(disch:=omega) ;refine acall_is (c) ?_;simp(disch:=omega) ;apply hK;clear hK K;apply aw_iff rfl;apply aw_skip;simp(disch:=omega) ;apply hK3;clear hK3;refine aw_reg0 fun K hK=>?_;simp(disch:=omega) ;apply hK;clear hK K;refine⟨i+1,⟨by omega,step hx⟩,by omega,?_⟩;refine weak_to [.cells (clC x),.cells (clC y)] [] ?_ ?_ ?_ ?_ HO ?_
    all_goals simp
    all_goals exact hbc
   ·rw[eqB_false hx] at c;refine aw_reg fun K hK=>?_;simp(disch:=omega) ;refine acall_is (c) ?_;simp(disch:=omega) ;apply hK;clear hK K;apply aw_ift rfl;apply aw_reg;intro K h;simp(disch:=omega);apply h;clear h K;apply aw_ret;simp(disch:=omega) ;rw[eqB_false (hne hx)]
  ·simp  at hk;have hie:i=a.length:=by omega
   subst hie;apply aw_exit;simp(disch:=omega) ;apply hK1;clear hK1;apply aw_reg;intro K h;simp(disch:=omega);apply h;clear h K;apply aw_ret;simp(disch:=omega) ;rw[eqB_true (list_ext c0 hl i2)]
end
theorem eqB_iff {α β:Type}{a b:α}{c d:β}(h:a=b↔c=d):eqB a b=eqB c d:=by
 by_cases h1:a=b
 ·rw[eqB_true h1,eqB_true (h.1 h1)]
 ·rw[eqB_false h1,eqB_false fun e=>h1 (h.2 e)]
attribute [-simp] List.getD_eq_getElem?_getD in
set_option maxHeartbeats 4000000 in
theorem eqPs_ok (x y:Ps)(hx:x.2.length≤1000000)(hy:y.2.length≤1000000)(H:List Blk)(T:Toks):ACall Tryz.prog 93 [.agg (psC x),.agg (psC y)] H T (Is (.bool (eqB x y)) H T):=by
 refine ACall.drop' ?_ (by simp);obtain⟨x1,x2⟩:=x;obtain⟨y1,y2⟩:=y;have c:=fun H=>eqI_ok x2 y2 hx hy H T;refine acall_enter 5 [] Tryz.ntmps93 Tryz.func93 rfl (fun _ _=>Tryz.call93 _ _) (by simp) (fun HO=>?_);apply aw_reg;intro K h;simp(disch:=omega);apply h;clear h K
 by_cases h1:x1=y1
 ·subst h1;have bb:(x1==x1)=true:=by simp
  rw[eqB_iff (a:=x2) (b:=y2) (c:=(x1,x2)) (d:=(x1,y2)) (by simp)] at c;refine aw_reg fun K hK=>?_;simp(disch:=omega)[bb];refine acall_is (c _) ?_;simp(disch:=omega) ;apply hK;clear hK K;apply aw_ret;simp(disch:=omega) 
 ·have bb:(x1==y1)=false:=by simpa using h1
  refine aw_reg fun K hK=>?_;simp(disch:=omega)[bb];apply hK;clear hK K;apply aw_ret;simp(disch:=omega) ;rw[eqB_false (by simpa using fun h=>absurd h h1)]
attribute [-simp] List.getD_eq_getElem?_getD in
set_option maxHeartbeats 4000000 in
theorem eqCl_ok (x y:Cl)(hx:x.x.length≤1000000)(hy:y.x.length≤1000000)(H:List Blk)(T:Toks):ACall Tryz.prog 97 [.agg (clC x),.agg (clC y)] H T (Is (.bool (eqB x y)) H T):=by
 refine ACall.drop' ?_ (by simp);obtain⟨x1,x2⟩:=x;obtain⟨y1,y2⟩:=y;have c:=fun H=>eqN_ok x2 y2 hx hy H T;refine acall_enter 5 [] Tryz.ntmps97 Tryz.func97 rfl (fun _ _=>Tryz.call97 _ _) (by simp) (fun HO=>?_);apply aw_reg;intro K h;simp(disch:=omega);apply h;clear h K
 by_cases h1:x1=y1
 ·subst h1;have bb:(x1==x1)=true:=by simp
  rw[eqB_iff (a:=x2) (b:=y2) (c:=(⟨x1,x2⟩:Cl)) (d:=⟨x1,y2⟩) (by simp)] at c;refine aw_reg fun K hK=>?_;simp(disch:=omega)[bb];refine acall_is (c _) ?_;simp(disch:=omega) ;apply hK;clear hK K;apply aw_ret;simp(disch:=omega) 
 ·have bb:(x1==y1)=false:=by simpa using h1
  refine aw_reg fun K hK=>?_;simp(disch:=omega)[bb];apply hK;clear hK K;apply aw_ret;simp(disch:=omega) ;rw[eqB_false (by simpa using fun h=>absurd h h1)]
attribute [-simp] List.getD_eq_getElem?_getD in
set_option maxHeartbeats 4000000 in
theorem eqTm_ok (x y:Tm)(hx:x.w.length≤maxLen∧x.l.length≤400∧∀p∈x.l,p.2.length≤400)(hy:y.w.length≤maxLen∧y.l.length≤400∧∀p∈y.l,p.2.length≤400)(H:List Blk)(T:Toks)(b:Nat)(hb:H[b]?=some (.cells [.fn 93 [] []])) :
  ACall Tryz.prog 95 [.agg (tmC x),.agg (tmC y),.ptr b 0] H T (Is (.bool (eqB x y)) H T):=by
 refine ACall.drop' ?_ (by simp);obtain⟨x1,xw,xl⟩:=x;obtain⟨y1,yw,yl⟩:=y;obtain⟨hx1,hx2,hx3⟩:=hx;obtain⟨hy1,hy2,hy3⟩:=hy;simp only at hx1 hx2 hx3 hy1 hy2 hy3;have lb:=(List.getElem?_eq_some_iff.1 hb).1;have eb:=at_of hb;have c1:=fun H=>byWord_ok (x1,xw) (y1,yw) (.sl xl.length (psAV xl) .none) (.sl yl.length (psAV yl) .none) H T;have c2:=fun H=>eqfP_ok (H:=H) (T:=T) 93 [] (by simp) xl yl (by omega) (by omega) (fun x hx y hy G=>by
  have h1:=hx3 x hx;have h2:=hy3 y hy;simpa using eqPs_ok x y (by omega) (by omega) (H++G) T)
 have hkey:=cmpK_zero (x1,xw) (y1,yw);generalize cmpK (x1,xw) (y1,yw)=k at *;refine acall_enter 6 [] Tryz.ntmps95 Tryz.func95 rfl (fun _ _=>Tryz.call95 _ _) (by simp) (fun HO=>?_);apply aw_reg;intro K h;simp(disch:=omega);apply h;clear h K
 by_cases h1:(x1,xw)=(y1,yw)
 ·have hk0:=hkey.2 h1;subst hk0;simp only[Prod.mk.injEq] at h1;obtain⟨rfl,rfl⟩:=h1;rw[eqB_iff (a:=xl) (b:=yl) (c:=(⟨x1,xw,xl⟩:Tm)) (d:=⟨x1,xw,yl⟩) (by simp)] at c2;refine aw_reg fun K hK=>?_;simp(disch:=omega) ;refine acall_is (c1 _) ?_;simp(disch:=omega)[lb,eb,List.getElem?_append_left];refine acall_is (c2 _) ?_;simp(disch:=omega) ;apply hK;clear hK K;apply aw_ret;simp(disch:=omega) 
 ·have hk0:¬k=0:=fun h=>h1 (hkey.1 h);have bb:(k==0)=false:=by simpa using hk0
  refine aw_reg fun K hK=>?_;simp(disch:=omega) ;refine acall_is (c1 _) ?_;simp(disch:=omega)[bb];apply hK;clear hK K;apply aw_ret;simp(disch:=omega) ;rw[eqB_false (by
   intro h;simp only[Tm.mk.injEq] at h;exact h1 (by rw[h.1,h.2.1]))]
attribute [-simp] List.getD_eq_getElem?_getD in
set_option maxHeartbeats 8000000 in
theorem equalP_ok (a b:Sg)(ha:SzS a)(hb:SzS b)(H:List Blk)(T:Toks):ACall Tryz.prog 37 [sgAV a,sgAV b] H T (Is (.bool (eqB a b)) H T):=by
 refine ACall.drop' ?_ (by simp);obtain⟨ad,atm,ac⟩:=a;obtain⟨bd,btm,bc⟩:=b;obtain⟨a1,a2,a3,a4,a5⟩:=ha;obtain⟨b1,b2,b3,b4,b5⟩:=hb;simp only at a1 a2 a3 a4 a5 b1 b2 b3 b4 b5;have cI:=fun H=>eqI_ok ad bd (by omega) (by omega) H T;have cC:=fun H=>eqfC_ok (H:=H) (T:=T) 97 [] (by simp) ac bc (by omega) (by omega) (fun x hx y hy G=>by
  have h1:=a5 x hx;have h2:=b5 y hy;simpa using eqCl_ok x y (by omega) (by omega) (H++G) T)
 have cT:=fun(H:List Blk) (p:Nat) (hp:H[p]?=some (.cells [.fn 93 [] []]))=>eqfT_ok (H:=H) (T:=T) 95 [.ptr p 0] (by simpa using(List.getElem?_eq_some_iff.1 hp).1) atm btm (by omega) (by omega) (fun x hx y hy G=>by
  simpa using eqTm_ok x y (a3 x hx) (b3 y hy) (H++G) T p (by rw[List.getElem?_append_left (List.getElem?_eq_some_iff.1 hp).1];exact hp))
 refine acall_enter 8 [] Tryz.ntmps37 Tryz.func37 rfl (fun _ _=>Tryz.call37 _ _) (by simp) (fun HO=>?_);apply aw_reg;intro K h;simp(disch:=omega);apply h;clear h K;apply aw_reg;intro K h;simp(disch:=omega);apply h;clear h K;apply aw_reg;intro K h;simp(disch:=omega);apply h;clear h K;apply aw_reg;intro K h;simp(disch:=omega);apply h;clear h K
 by_cases h1:ad=bd
 rotate_left
 ·rw[eqB_false h1] at cI;refine aw_reg fun K hK=>?_;simp(disch:=omega) ;refine acall_is (cI _) ?_;simp(disch:=omega) ;apply hK;clear hK K;apply aw_ret;simp(disch:=omega) ;rw[eqB_false fun h=>h1 (congrArg Sg.docs h)]
 rw[eqB_true h1] at cI
 by_cases h2:atm=btm
 rotate_left
 ·rw[eqB_false h2] at cT;refine aw_reg fun K hK=>?_;simp(disch:=omega) ;refine acall_is (cI _) ?_;simp(disch:=omega) ;refine acall_is (cT _ (H.length+2) (by simp)) ?_;simp(disch:=omega) ;apply hK;clear hK K;apply aw_ret;simp(disch:=omega) ;rw[eqB_false fun h=>h2 (congrArg Sg.tms h)]
 rw[eqB_true h2] at cT;rw[eqB_iff (a:=ac) (b:=bc) (c:=(⟨ad,atm,ac⟩:Sg)) (d:=⟨bd,btm,bc⟩) (by simp[h1,h2])] at cC;refine aw_reg fun K hK=>?_;simp(disch:=omega) ;refine acall_is (cI _) ?_;simp(disch:=omega) ;refine acall_is (cT _ (H.length+2) (by simp)) ?_;simp(disch:=omega) ;refine acall_is (cC _) ?_;simp(disch:=omega) ;apply hK;clear hK K;apply aw_ret;simp(disch:=omega) 
end Go.Proofs.YtneohapkboaplaaGreat
