/- segment.Decode (layer 39).
  Conditions: sizes, as the theorem says. -/
import Derived.Test.YtneohapkboaplaaGreatGEn
import Derived.Test.YtneohapkboaplaaGreatGZw
set_option linter.all false
set_option maxRecDepth 100000
namespace Go.Proofs.YtneohapkboaplaaGreat
open Go Go.Am gH dc eB
open gB hiding aR
section
variable (bs : Bs) (s : Rd) (hs : s.at_ ≤ bs.length) (hb : bs.length ≤ 1099511627776) (H R : List aG) (z : aG) (T : ay)
theorem oc (x y:aG):(H++z::x::R).set (H.length+1) y=H++z::y::R:=by
 rw[List.set_append_right _ _ (by omega),show H.length+1-H.length=1 by omega];rfl
include hs hb
theorem M6 (lo hi:Int):al Tryz.prog 127 [.ptr (H.length+1) 0,.int .i64 lo,.int .i64 hi] (H++z::.cells (rd bs s)::R) T (Is (.int .i64 (aI bs lo hi s).1) (H++z::.cells (rd bs (aI bs lo hi s).2)::R) T):=by
 have:=qe bs s lo hi hs hb (H++z::.cells (rd bs s)::R) T (H.length+1) (by simp)
 rwa [oc] at this
theorem JW (mx:Int):al Tryz.prog 129 [.ptr (H.length+1) 0,.int .i64 mx] (H++z::.cells (rd bs s)::R) T (Is (.str (bD bs mx s).1) (H++z::.cells (rd bs (bD bs mx s).2)::R) T):=by
 have:=Jj bs s mx hs hb (H++z::.cells (rd bs s)::R) T (H.length+1) (by simp)
 rwa [oc] at this
theorem JY (mx lo hi:Int):al Tryz.prog 126 [.ptr (H.length+1) 0,.int .i64 mx,.int .i64 lo,.int .i64 hi] (H++z::.cells (rd bs s)::R) T (Is (.sl (eu bs mx (aI bs lo hi) s).1.length (ints (eu bs mx (aI bs lo hi) s).1) .none) (H++z::.cells (rd bs (eu bs mx (aI bs lo hi) s).2)::R) T):=by
 have:=Jk bs s mx lo hi hs hb (H++z::.cells (rd bs s)::R) T (H.length+1) (by simp)
 rwa [oc] at this
theorem JX:al Tryz.prog 128 [.ptr (H.length+1) 0] (H++z::.cells (rd bs s)::R) T (Is (.int .i64 ((bs.length-s.at_:Nat):Int)) (H++z::.cells (rd bs s)::R) T):=
 zl bs s hs hb (H++z::.cells (rd bs s)::R) T (H.length+1) (by simp)
theorem JZ:al Tryz.prog 131 [.ptr (H.length+1) 0] (H++z::.cells (rd bs s)::R) T (Is (.int .i64 (dt bs s)) (H++z::.cells (rd bs s)::R) T):=
 zm bs s hs hb (H++z::.cells (rd bs s)::R) T (H.length+1) (by simp)
end
def jJ (x:Bs):PL×Int:=if x.length≤1000000000 then dec x (kJ x) (gy x) else ([],5)
theorem qi (x:Bs):(∃l,jJ x=(l,0)∧bc l=true∧x=eL l)∨jJ x=([],5):=by
 unfold jJ
 split
 ·refine EF fun s=>?_;unfold gy;omega
 ·exact .inr rfl
theorem M4:(jJ []).2≠0:=by decide
theorem Gw {bs:Bs}{m:Int}{s:Rd}(h:(bD bs m s).2.bad=true):(bD bs m s).1=[]:=by
 unfold bD at h ⊢
 split
 ·rfl
 ·rename_i h1;rw[if_neg h1] at h;exact absurd (.inl h) h1
theorem MF {lim:Rd→Int}{bs:Bs}{s:Rd}(h:(jJ (bD bs (lim (bD bs 100 (aI bs 1 4 s).2).2) (bD bs 100 (aI bs 1 4 s).2).2).1).2≠0):(jP lim jJ bs s).2.bad=true:=by
 unfold jP;simp only;rw[decide_eq_true h,Bool.or_true]
theorem Jq {lim:Rd→Int}{bs:Bs}{s:Rd}(h:(jJ (bD bs (lim (bD bs 100 (aI bs 1 4 s).2).2) (bD bs 100 (aI bs 1 4 s).2).2).1).2=0) :
  (bD bs (lim (bD bs 100 (aI bs 1 4 s).2).2) (bD bs 100 (aI bs 1 4 s).2).2).2.bad=false∧(jP lim jJ bs s).2=(bD bs (lim (bD bs 100 (aI bs 1 4 s).2).2) (bD bs 100 (aI bs 1 4 s).2).2).2:=by
 have hb:(bD bs (lim (bD bs 100 (aI bs 1 4 s).2).2) (bD bs 100 (aI bs 1 4 s).2).2).2.bad=false:=by
  cases hq:(bD bs (lim (bD bs 100 (aI bs 1 4 s).2).2) (bD bs 100 (aI bs 1 4 s).2).2).2.bad with
  |false=>rfl
  |true=>rw[Gw hq] at h;exact absurd h M4
 refine⟨hb,?_⟩;unfold jP;simp only;rw[h,decide_eq_false (by simp),Bool.or_false]
abbrev db (bs:Bs)(s:Rd):Int:=((bs.length-s.at_:Nat):Int)
abbrev gX (bs:Bs):Sg×Int:=Ci jJ db db db db bs
theorem x6 (bs:Bs)(s:Rd):(aI bs 0 (db bs s) s).1.toNat≤bs.length:=by
 have h1:(aI bs 0 (db bs s) s).1≤((bs.length-s.at_:Nat):Int):=qh bs (db bs s) s (Int.natCast_nonneg _);omega
end Go.Proofs.YtneohapkboaplaaGreat
