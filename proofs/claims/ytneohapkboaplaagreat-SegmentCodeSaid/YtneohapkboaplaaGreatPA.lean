/- Valid lists of layer 38. Valid lists of the reference of layer 38, and comparisons. The merging of two ascending lists: laws on lists. Merging in layer 38: what is done with an element. Merging in layer 38: the walk over two lists of numbers. Merging in layer 38: the walk over two lists of numbers. And, Or, Without of layer 38. Membership in the reference of layer 38. And and Without of the reference of layer 38, and that they are the program's. Or of the reference of layer 38, and that it is the program's.
  Conditions: lengths below 1000 or 5000, as each theorem says. -/
import Derived.Test.YtneohapkboaplaaGreatAmFacts
import Derived.Test.YtneohapkboaplaaGreatAmB
set_option linter.all false
set_option maxRecDepth 100000
set_option maxHeartbeats 4000000
open Nat (zero_le le_trans lt_or_ge)
open List (getD_eq_getElem?_getD getElem?_eq_getElem drop_length)
namespace Go.Proofs.YtneohapkboaplaaGreat
open Go Go.Am
theorem au:Tryz.prog.follows .mixedOrders=true:=by kernel_rfl
def fH (l:List Int)(lo hi:Int)(k:Nat):Bool:=decide (lo≤l.getD k 0)&&decide (l.getD k 0≤hi)&&(decide (k=0)||decide (l.getD (k-1) 0<l.getD k 0))
def jd (l:List Int)(lo hi:Int):Bool:=(List.range l.length).all (fH l lo hi)
theorem EM {l:List Int}{lo hi:Int}{k:Nat}(hk:k<l.length)(h:fH l lo hi k=false):jd l lo hi=false:=by
 unfold jd;rw[List.all_eq_false];exact⟨k,by simpa using hk,by simp[h]⟩
theorem ye {l:List Int}{lo hi:Int}(h:∀j,j<l.length→fH l lo hi j=true):jd l lo hi=true:=by
 unfold jd;rw[List.all_eq_true];intro j hj;exact h j (by simpa using hj)
attribute [-simp] getD_eq_getElem?_getD in
theorem Jf (l:List Int)(lo hi:Int)(hl:l.length≤maxLen)(H:List aG)(T:ay)(tg:Tag):al Tryz.prog 147 [.sl l.length (ints l) tg,.int .i64 lo,.int .i64 hi] H T (Is (.bool (jd l lo hi)) H T):=by
 refine al.cg ?_;have ik:maxLen≤9223372036854775807:=by decide
 have oM:=le_trans hl ik;refine aj 12 [] Tryz.ntmps147 Tryz.func147 rfl (fun _ _=>Tryz.call147 _ _) (by simp) (fun HO=>?_);apply ae;intro K h;simp(disch:=omega);apply h;clear h K;refine af fun K1 aO=>?_;apply ae;intro K h;simp(disch:=omega);apply h;clear h K;apply ai;refine aK (X:=Nat) (fun k=>⟨[(0,.sl l.length (ints l) .none),(1,.int .i64 lo),(2,.int .i64 hi),(9,.sl l.length (ints l) .none),(10,.int .i64 (l.length:Nat)),(11,.int .i64 (k:Nat))],H,T⟩) (fun k=>k≤l.length∧∀j,j<k→fH l lo hi j=true) (fun k=>l.length-k) 0 ?_ ?_ ?_
 ·exact⟨zero_le _,fun j hj=>absurd hj (Nat.not_lt_zero _)⟩
 ·refine ag [] [] ?_ ?_ ?_ ?_ HO ?_
  all_goals simp
 ·rintro k ⟨h1,h2⟩;apply ae;intro K h;simp(disch:=omega);apply h;clear h K;refine af fun K2 aY=>?_;refine aP rfl (fun hk=>?_) (fun hk=>?_)
  ·simp  at hk;apply ak;simp(disch:=omega) ;apply aY;clear aY;refine af fun K3 bA=>?_;apply ai;refine ae fun K hK=>?_;simp(disch:=omega)[aT];apply hK;clear hK K;refine ae fun K hK=>?_;have key:∀e b,b=(!fH l lo hi k)→b9 H.length T.length e [(0,.sl l.length (ints l) .none),(1,.int .i64 lo),(2,.int .i64 hi),(9,.sl l.length (ints l) .none),(10,.int .i64 (l.length:Nat)),(11,.int .i64 (k:Nat)),(36,.bool b)]→K ⟨e,H,T⟩:=by
    intro e b hb he;refine hK _ (aQ ⟨[(0,.sl l.length (ints l) .none),(1,.int .i64 lo),(2,.int .i64 hi),(9,.sl l.length (ints l) .none),(10,.int .i64 (l.length:Nat)),(11,.int .i64 (k:Nat)),(36,.bool b)],H,T⟩ (ag [] [] (by simp) (by simp) (by simp) (by simp) HO he) ?_)
    cases fC:fH l lo hi k with
    |false=>
     rw[fC] at hb;subst hb;apply aH rfl;apply ae;intro K h;simp(disch:=omega);apply h;clear h K;apply an;simp(disch:=omega) ;rw[EM hk fC];exact⟨rfl,rfl,rfl⟩
    |true=>
     rw[fC] at hb;subst hb;apply aC rfl;apply ak;simp(disch:=omega) ;apply bA;clear bA;refine ar fun K hK=>?_;simp(disch:=omega) ;apply hK;clear hK K;refine⟨k+1,⟨by show k+1≤_;omega,fun j hj=>?_⟩,by show l.length-(k+1)<l.length-k;omega,?_⟩
     ·rcases lt_or_ge j k with h3|h3
      ·exact h2 j h3
      ·have:j=k:=by omega
       subst this;exact fC
     ·refine ag [] [] ?_ ?_ ?_ ?_ HO ?_
      all_goals simp
   clear hK
   by_cases c1:l.getD k 0<lo
   ·have b1:decide (l.getD k 0<lo)=true:=by simpa using c1
    simp(disch:=omega)[b1,c1];refine key _ true ?_ (by simp);have:¬lo≤l.getD k 0:=by omega
    simp only[fH,decide_eq_false this];rfl
   ·have b1:decide (l.getD k 0<lo)=false:=by simpa using c1
    by_cases c2:hi<l.getD k 0
    ·have b2:decide (hi<l.getD k 0)=true:=by simpa using c2
     simp(disch:=omega)[b1,c1,b2,c2];refine key _ true ?_ (by simp);have:¬l.getD k 0≤hi:=by omega
     simp only[fH,decide_eq_false this,Bool.and_false];rfl
    ·have b2:decide (hi<l.getD k 0)=false:=by simpa using c2
     have e1:lo≤l.getD k 0:=by omega
     have e2:l.getD k 0≤hi:=by omega
     rcases Nat.eq_zero_or_pos k with h0|h0
     ·subst h0;simp(disch:=omega)[b1,c1,b2,c2];refine key _ false ?_ (by simp);simp only[fH,decide_eq_true e1,decide_eq_true e2];rfl
     ·have b3:decide ((0:Int)<(k:Int))=true:=by simp;omega
      have c3:(0:Int)<k:=by omega
      have ek:((k:Int)-1).toNat=k-1:=by omega
      have gR:=aT (xs:=l) (k:=k-1) (by omega)
      by_cases c4:l.getD k 0≤l.getD (k-1) 0
      ·have b4:decide (l.getD k 0≤l.getD (k-1) 0)=true:=by simpa using c4
       simp(disch:=omega)[b1,c1,b2,c2,b3,c3,h0,ek,gR,b4,c4];refine key _ true ?_ (by simp);have e3:¬l.getD (k-1) 0<l.getD k 0:=by omega
       have e4:¬k=0:=by omega
       simp only[fH,decide_eq_true e1,decide_eq_true e2,decide_eq_false e3,decide_eq_false e4];rfl
      ·have b4:decide (l.getD k 0≤l.getD (k-1) 0)=false:=by simpa using c4
       simp(disch:=omega)[b1,c1,b2,c2,b3,c3,h0,ek,gR,b4,c4];refine key _ false ?_ (by simp);have e3:l.getD (k-1) 0<l.getD k 0:=by omega
       simp only[fH,decide_eq_true e1,decide_eq_true e2,decide_eq_true e3,Bool.or_true];rfl
  ·simp  at hk;apply aD;simp(disch:=omega) ;apply aO;clear aO;apply ae;intro K h;simp(disch:=omega);apply h;clear h K;apply an;simp(disch:=omega) ;rw[ye (fun j hj=>h2 j (by omega))];exact⟨rfl,rfl,rfl⟩
attribute [-simp] getD_eq_getElem?_getD in
theorem jI (l:List Int)(hl:l.length≤maxLen)(H:List aG)(T:ay)(tg:Tag):al Tryz.prog 71 [.sl l.length (ints l) tg] H T (Is (.bool (jd l 1 1000000000)) H T):=by
 refine aj 3 [] Tryz.ntmps71 Tryz.func71 rfl (fun _ _=>Tryz.call71 _ _) (by simp) (fun HO=>?_);apply ae;intro K h;simp(disch:=omega);apply h;clear h K;refine ae fun K hK=>?_;simp(disch:=omega) ;refine ah (Jf l 1 1000000000 hl H T tg) ?_;simp(disch:=omega) ;apply hK;clear hK K;apply an;simp(disch:=omega) ;exact⟨rfl,rfl,rfl⟩
attribute [-simp] getD_eq_getElem?_getD in
theorem EN (l:List Int)(lo hi:Int)(hl:l.length≤maxLen)(H:List aG)(T:ay)(tg:Tag):al Tryz.prog 157 [.sl l.length (ints l) tg,.int .i64 lo,.int .i64 hi] H T (Is (.bool (jd l lo hi)) H T):=by
 refine al.cg ?_;have ik:maxLen≤9223372036854775807:=by decide
 have oM:=le_trans hl ik;refine aj 8 [] Tryz.ntmps157 Tryz.func157 rfl (fun _ _=>Tryz.call157 _ _) (by simp) (fun HO=>?_);apply ae;intro K h;simp(disch:=omega);apply h;clear h K;refine af fun K1 aO=>?_;apply ae;intro K h;simp(disch:=omega);apply h;clear h K;apply ai;refine aK (X:=Nat) (fun k=>⟨[(0,.sl l.length (ints l) .none),(1,.int .i64 lo),(2,.int .i64 hi),(7,.int .i64 (k:Nat))],H,T⟩) (fun k=>k≤l.length∧∀j,j<k→fH l lo hi j=true) (fun k=>l.length-k) 0 ?_ ?_ ?_
 ·exact⟨zero_le _,fun j hj=>absurd hj (Nat.not_lt_zero _)⟩
 ·refine ag [] [] ?_ ?_ ?_ ?_ HO ?_
  all_goals simp
 ·rintro k ⟨h1,h2⟩;refine af fun K2 aY=>?_;apply ae;intro K h;simp(disch:=omega);apply h;clear h K;refine aP rfl (fun hk=>?_) (fun hk=>?_)
  ·simp  at hk;apply ak;simp(disch:=omega) ;apply aY;clear aY;refine af fun K3 bA=>?_;apply ai;refine aM [] [] [] au (by kernel_rfl) (by kernel_rfl) fun K hK=>?_;have key:∀e b,b=(!fH l lo hi k)→b9 H.length T.length e [(0,.sl l.length (ints l) .none),(1,.int .i64 lo),(2,.int .i64 hi),(7,.int .i64 (k:Nat)),(43,.bool b)]→K ⟨e,H,T⟩:=by
    intro e b hb he;refine hK _ (aQ ⟨[(0,.sl l.length (ints l) .none),(1,.int .i64 lo),(2,.int .i64 hi),(7,.int .i64 (k:Nat)),(43,.bool b)],H,T⟩ (ag [] [] (by simp) (by simp) (by simp) (by simp) HO he) ?_)
    cases fC:fH l lo hi k with
    |false=>
     rw[fC] at hb;subst hb;apply aH rfl;apply ae;intro K h;simp(disch:=omega);apply h;clear h K;apply an;simp(disch:=omega) ;rw[EM hk fC];exact⟨rfl,rfl,rfl⟩
    |true=>
     rw[fC] at hb;subst hb;apply aC rfl;apply ak;simp(disch:=omega) ;apply bA;clear bA;refine ar fun K hK=>?_;simp(disch:=omega) ;apply hK;clear hK K;refine⟨k+1,⟨by show k+1≤_;omega,fun j hj=>?_⟩,by show l.length-(k+1)<l.length-k;omega,?_⟩
     ·rcases lt_or_ge j k with h3|h3
      ·exact h2 j h3
      ·have:j=k:=by omega
       subst this;exact fC
     ·refine ag [] [] ?_ ?_ ?_ ?_ HO ?_
      all_goals simp
   clear hK
   by_cases c1:l.getD k 0<lo
   ·have b1:decide (l.getD k 0<lo)=true:=by simpa using c1
    simp(disch:=omega)[aT,b1,c1];refine key _ true ?_ (by simp);have:¬lo≤l.getD k 0:=by omega
    simp only[fH,decide_eq_false this];rfl
   ·have b1:decide (l.getD k 0<lo)=false:=by simpa using c1
    by_cases c2:hi<l.getD k 0
    ·have b2:decide (hi<l.getD k 0)=true:=by simpa using c2
     simp(disch:=omega)[aT,b1,c1,b2,c2];refine key _ true ?_ (by simp);have:¬l.getD k 0≤hi:=by omega
     simp only[fH,decide_eq_false this,Bool.and_false];rfl
    ·have b2:decide (hi<l.getD k 0)=false:=by simpa using c2
     have e1:lo≤l.getD k 0:=by omega
     have e2:l.getD k 0≤hi:=by omega
     rcases Nat.eq_zero_or_pos k with h0|h0
     ·subst h0;simp(disch:=omega)[aT,b1,c1,b2,c2];refine key _ false ?_ (by simp);simp only[fH,decide_eq_true e1,decide_eq_true e2];rfl
     ·have b3:decide ((0:Int)<(k:Int))=true:=by simp;omega
      have c3:(0:Int)<k:=by omega
      have ek:((k:Int)-1).toNat=k-1:=by omega
      have gR:=aT (xs:=l) (k:=k-1) (by omega)
      by_cases c4:l.getD k 0≤l.getD (k-1) 0
      ·have b4:decide (l.getD k 0≤l.getD (k-1) 0)=true:=by simpa using c4
       simp(disch:=omega)[aT,b1,c1,b2,c2,b3,c3,h0,ek,gR,b4,c4];refine key _ true ?_ (by simp);have e3:¬l.getD (k-1) 0<l.getD k 0:=by omega
       have e4:¬k=0:=by omega
       simp only[fH,decide_eq_true e1,decide_eq_true e2,decide_eq_false e3,decide_eq_false e4];rfl
      ·have b4:decide (l.getD k 0≤l.getD (k-1) 0)=false:=by simpa using c4
       simp(disch:=omega)[aT,b1,c1,b2,c2,b3,c3,h0,ek,gR,b4,c4];refine key _ false ?_ (by simp);have e3:l.getD (k-1) 0<l.getD k 0:=by omega
       simp only[fH,decide_eq_true e1,decide_eq_true e2,decide_eq_true e3,Bool.or_true];rfl
  ·simp  at hk;apply aD;simp(disch:=omega) ;apply aO;clear aO;apply ae;intro K h;simp(disch:=omega);apply h;clear h K;apply an;simp(disch:=omega) ;rw[ye (fun j hj=>h2 j (by omega))];exact⟨rfl,rfl,rfl⟩
attribute [-simp] getD_eq_getElem?_getD in
theorem fq (l:List Int)(hl:l.length≤maxLen)(H:List aG)(T:ay)(tg:Tag):al Tryz.prog 92 [.sl l.length (ints l) tg] H T (Is (.bool (jd l 1 1000000000)) H T):=by
 refine aj 3 [] Tryz.ntmps92 Tryz.func92 rfl (fun _ _=>Tryz.call92 _ _) (by simp) (fun HO=>?_);apply ae;intro K h;simp(disch:=omega);apply h;clear h K;refine ae fun K hK=>?_;simp(disch:=omega) ;refine ah (EN l 1 1000000000 hl H T tg) ?_;simp(disch:=omega) ;apply hK;clear hK K;apply an;simp(disch:=omega) ;exact⟨rfl,rfl,rfl⟩
theorem EC {α:Type}[DecidableEq α]{a b:List α}(d:α)(h:a.length=b.length)(hj:∀j,j<a.length→a.getD j d=b.getD j d):a=b:=by
 apply List.ext_getElem h;intro i h1 h2;have:=hj i h1
 rwa [getD_eq_getElem?_getD,getD_eq_getElem?_getD,getElem?_eq_getElem h1,getElem?_eq_getElem h2] at this
attribute [-simp] getD_eq_getElem?_getD in
theorem nU (a b:List Int)(ha:a.length≤maxLen)(hb:b.length≤maxLen)(H:List aG)(T:ay)(ta tb:Tag):al Tryz.prog 25 [.sl a.length (ints a) ta,.sl b.length (ints b) tb] H T (Is (.bool (a==b)) H T):=by
 refine al.cg ?_;have ik:maxLen≤9223372036854775807:=by decide
 have Z5:=le_trans ha ik;have r8:=le_trans hb ik;refine aj 6 [] Tryz.ntmps25 Tryz.func25 rfl (fun _ _=>Tryz.call25 _ _) (by simp) (fun HO=>?_);apply ae;intro K h;simp(disch:=omega);apply h;clear h K;refine af fun K1 aO=>?_;apply ae;intro K h;simp(disch:=omega);apply h;clear h K;refine aP rfl (fun h=>?_) (fun h=>?_)
 ·simp  at h;apply ae;intro K h;simp(disch:=omega);apply h;clear h K;apply an;simp(disch:=omega) ;have:(a==b)=false:=by simp;intro e;subst e;exact h rfl
  rw[this];exact⟨rfl,rfl,rfl⟩
 ·simp  at h;have hl:a.length=b.length:=by omega
  apply ak;simp(disch:=omega) ;apply aO;clear aO;refine af fun K1 aO=>?_;apply ae;intro K h;simp(disch:=omega);apply h;clear h K;apply ai;refine aK (X:=Nat) (fun i=>⟨[(0,.sl a.length (ints a) .none),(1,.sl b.length (ints b) .none),(5,.int .i64 (i:Nat))],H,T⟩) (fun i=>i≤a.length∧∀j,j<i→a.getD j 0=b.getD j 0) (fun i=>a.length-i) 0 ?_ ?_ ?_
  ·exact⟨by omega,fun j hj=>by omega⟩
  ·refine ag [] [] ?_ ?_ ?_ ?_ HO ?_
   all_goals simp
  ·rintro i ⟨hi,hj⟩;refine af fun K2 aY=>?_;apply ae;intro K h;simp(disch:=omega);apply h;clear h K;refine aP rfl (fun h=>?_) (fun h=>?_)
   ·simp  at h;apply ak;simp(disch:=omega) ;apply aY;clear aY;refine af fun K3 bA=>?_;apply ai
    by_cases he:a.getD i 0=b.getD i 0
    ·refine aM [] [] [] au (by kernel_rfl) (by kernel_rfl) fun K hK=>?_;simp(disch:=omega)[aT,he];apply hK;clear hK K;apply aC rfl;apply ak;simp(disch:=omega) ;apply bA;clear bA;refine ar fun K hK=>?_;simp(disch:=omega) ;apply hK;clear hK K;refine⟨i+1,⟨by omega,fun j bK=>?_⟩,by omega,?_⟩
     ·rcases lt_or_ge j i with h1|h1
      ·exact hj j h1
      ·have:j=i:=by omega
       subst this;exact he
     ·refine ag [] [] ?_ ?_ ?_ ?_ HO ?_
      all_goals simp
    ·have sM:(a.getD i 0!=b.getD i 0)=true:=bne_iff_ne.2 he;refine aM [] [] [] au (by kernel_rfl) (by kernel_rfl) fun K hK=>?_;simp(disch:=omega)[aT,sM];apply hK;clear hK K;apply aH rfl;apply ae;intro K h;simp(disch:=omega);apply h;clear h K;apply an;simp(disch:=omega) ;have:(a==b)=false:=by simp;intro e;subst e;exact he rfl
     rw[this];exact⟨rfl,rfl,rfl⟩
   ·simp  at h;apply aD;simp(disch:=omega) ;apply aO;clear aO;apply ae;intro K h;simp(disch:=omega);apply h;clear h K;apply an;simp(disch:=omega) ;refine⟨?_,rfl,rfl⟩;have:a=b:=EC 0 hl (fun j bK=>hj j (by omega));simp[this]
end Go.Proofs.YtneohapkboaplaaGreat
namespace dc
def im {β:Type}(fA fB fAB:β→Int→β):Nat→List Int→List Int→β→β
 |0,_,_,o=>o
 |n+1,x::a,y::b,o=>if x<y then im fA fB fAB n a (y::b) (fA o x) else if y<x then im fA fB fAB n (x::a) b (fB o y) else im fA fB fAB n a b (fAB o x)
 |n+1,x::a,[],o=>im fA fB fAB n a [] (fA o x)
 |n+1,[],y::b,o=>im fA fB fAB n [] b (fB o y)
 |_+1,[],[],o=>o
def jR (l:List Int):Prop:=l.Pairwise (·<·)
theorem iW {x:Int}{l:List Int}(h:jR (x::l)):jR l∧∀y∈l,x<y:=⟨(List.pairwise_cons.1 h).2,(List.pairwise_cons.1 h).1⟩
def snoc (o:List Int)(x:Int):List Int:=o++[x]
theorem x4 (kA kB HD:Bool):∀(n:Nat)(a b o:List Int),a.length+b.length≤n→jR a→jR b→
  im (fun o x=>if kA then o++[x] else o) (fun o x=>if kB then o++[x] else o) (fun o x=>if HD then o++[x] else o) n a b o =
   o++im (fun o x=>if kA then o++[x] else o) (fun o x=>if kB then o++[x] else o) (fun o x=>if HD then o++[x] else o) n a b []∧
  (∀z,z∈im (fun o x=>if kA then o++[x] else o) (fun o x=>if kB then o++[x] else o) (fun o x=>if HD then o++[x] else o) n a b []↔
   (z∈a∧z∉b∧kA=true)∨(z∈b∧z∉a∧kB=true)∨(z∈a∧z∈b∧HD=true))∧
  jR (im (fun o x=>if kA then o++[x] else o) (fun o x=>if kB then o++[x] else o) (fun o x=>if HD then o++[x] else o) n a b []):=by
 intro n
 induction n with
 |zero=>
  intro a b o h _ _;have ha:a=[]:=List.eq_nil_of_length_eq_zero (by omega);have hb:b=[]:=List.eq_nil_of_length_eq_zero (by omega);subst ha;subst hb;exact⟨by simp[im],by simp[im],List.Pairwise.nil⟩
 |succ n ih=>
  intro a b o h ha hb;have put:∀(k:Bool)(x:Int)(a' b' o:List Int),a'.length+b'.length≤n→jR a'→jR b'→(∀z,z∈a'→x<z)→(∀z,z∈b'→x<z)→
    im (fun o x=>if kA then o++[x] else o) (fun o x=>if kB then o++[x] else o) (fun o x=>if HD then o++[x] else o) n a' b' (if k then o++[x] else o) =
     o++im (fun o x=>if kA then o++[x] else o) (fun o x=>if kB then o++[x] else o) (fun o x=>if HD then o++[x] else o) n a' b' (if k then ([]:List Int)++[x] else [])∧
    (∀z,z∈im (fun o x=>if kA then o++[x] else o) (fun o x=>if kB then o++[x] else o) (fun o x=>if HD then o++[x] else o) n a' b' (if k then ([]:List Int)++[x] else [])↔
     (z=x∧k=true)∨(z∈a'∧z∉b'∧kA=true)∨(z∈b'∧z∉a'∧kB=true)∨(z∈a'∧z∈b'∧HD=true))∧
    jR (im (fun o x=>if kA then o++[x] else o) (fun o x=>if kB then o++[x] else o) (fun o x=>if HD then o++[x] else o) n a' b' (if k then ([]:List Int)++[x] else [])):=by
   intro k x a' b' o h' Z5 r8 NN hxb;obtain⟨i1,i2,i3⟩:=ih a' b' [] h' Z5 r8;have j1:=fun o=>(ih a' b' o h' Z5 r8).1;rw[j1 (if k then o++[x] else o),j1 (if k then ([]:List Int)++[x] else [])];generalize im (fun o x=>if kA then o++[x] else o) (fun o x=>if kB then o++[x] else o) (fun o x=>if HD then o++[x] else o) n a' b' []=m at *;refine⟨?_,fun z=>?_,?_⟩
   ·cases k<;>simp
   ·rw[List.mem_append,i2]
    cases k<;>simp
   ·cases k
    ·simpa using i3
    ·simp only[if_true,List.nil_append,List.cons_append];refine List.pairwise_cons.2 ⟨fun z hz=>?_,i3⟩;rcases (i2 z).1 hz with⟨h1,_⟩|⟨h1,_⟩|⟨h1,_⟩
     ·exact NN z h1
     ·exact hxb z h1
     ·exact NN z h1
  cases a with
  |nil=>
   cases b with
   |nil=>exact⟨by simp[im],by simp[im],List.Pairwise.nil⟩
   |cons y b=>
    obtain⟨h1,h2⟩:=iW hb;obtain⟨p1,p2,p3⟩:=put kB y [] b o (by simp at h ⊢;omega) List.Pairwise.nil h1 (fun z hz=>by simp at hz) h2;refine⟨p1,fun z=>?_,p3⟩;rw[im,p2];simp
    by_cases e:z=y<;>simp[e]
  |cons x a=>
   obtain⟨h1,h2⟩:=iW ha
   cases b with
   |nil=>
    obtain⟨p1,p2,p3⟩:=put kA x a [] o (by simp at h ⊢;omega) h1 List.Pairwise.nil h2 (fun z hz=>by simp at hz);refine⟨p1,fun z=>?_,p3⟩;rw[im,p2];simp
    by_cases e:z=x<;>simp[e]
   |cons y b=>
    obtain⟨h3,h4⟩:=iW hb;simp only[List.length_cons] at h
    by_cases c1:x<y
    ·have RN:∀z,z∈y::b→x<z:=fun z hz=>by
      rcases List.mem_cons.1 hz with rfl|hz
      ·exact c1
      ·have:=h4 z hz;omega
     obtain⟨p1,p2,p3⟩:=put kA x a (y::b) o (by simp;omega) h1 hb h2 RN;rw[im,if_pos c1,im,if_pos c1];refine⟨p1,fun z=>?_,p3⟩;rw[p2]
     by_cases e:z=x
     ·subst e;have n1:z∉a:=fun hz=>by have:=h2 z hz;omega
      have n2:z∉y::b:=fun hz=>by have:=RN z hz;omega
      simp[n1,n2]
     ·simp[e]
    ·by_cases c2:y<x
     ·have NN:∀z,z∈x::a→y<z:=fun z hz=>by
       rcases List.mem_cons.1 hz with rfl|hz
       ·exact c2
       ·have:=h2 z hz;omega
      obtain⟨p1,p2,p3⟩:=put kB y (x::a) b o (by simp;omega) ha h3 NN h4;rw[im,if_neg c1,if_pos c2,im,if_neg c1,if_pos c2];refine⟨p1,fun z=>?_,p3⟩;rw[p2]
      by_cases e:z=y
      ·subst e;have n1:z∉b:=fun hz=>by have:=h4 z hz;omega
       have n2:z∉x::a:=fun hz=>by have:=NN z hz;omega
       simp[n1,n2]
      ·simp[e]
     ·have e0:x=y:=by omega
      subst e0;obtain⟨p1,p2,p3⟩:=put HD x a b o (by omega) h1 h3 h2 h4;rw[im,if_neg c1,if_neg c2,im,if_neg c1,if_neg c2];refine⟨p1,fun z=>?_,p3⟩;rw[p2]
      by_cases e:z=x
      ·subst e;have n1:z∉a:=fun hz=>by have:=h2 z hz;omega
       have n2:z∉b:=fun hz=>by have:=h4 z hz;omega
       simp[n1,n2]
      ·simp[e]
theorem mr:∀(a b:List Int),jR a→jR b→(∀z,z∈a↔z∈b)→a=b:=by
 intro a
 induction a with
 |nil=>
  intro b _ _ h
  cases b with
  |nil=>rfl
  |cons y b=>have:=(h y).2 (by simp);simp at this
 |cons x a ih=>
  intro b ha hb h
  cases b with
  |nil=>have:=(h x).1 (by simp);simp at this
  |cons y b=>
   obtain⟨h1,h2⟩:=iW ha;obtain⟨h3,h4⟩:=iW hb;have e:x=y:=by
    have g1:=(h x).1 (by simp);have g2:=(h y).2 (by simp);rcases List.mem_cons.1 g1 with g1|g1
    ·exact g1
    ·rcases List.mem_cons.1 g2 with g2|g2
     ·exact g2.symm
     ·have:=h4 x g1;have:=h2 y g2;omega
   subst e
   congr 1
   refine ih b h1 h3 (fun z=>?_);have:=h z
   constructor
   ·intro hz;have dW:z≠x:=by have:=h2 z hz;omega
    rcases List.mem_cons.1 (this.1 (by simp[hz])) with e|e
    ·exact absurd e dW
    ·exact e
   ·intro hz;have dW:z≠x:=by have:=h4 z hz;omega
    rcases List.mem_cons.1 (this.2 (by simp[hz])) with e|e
    ·exact absurd e dW
    ·exact e
end dc
namespace Go.Proofs.YtneohapkboaplaaGreat
open Go Go.Am
def pQ (out:List Int)(tk:Nat):AV:=if out=[] then .sl 0 [] .full else .sl out.length (ints out) (.own tk)
def SH (H:List aG)(g:Nat)(out:List Int)(tk:Nat):List aG:=H++[.cells [.fn g [] []],.cells [pQ out tk]]
def ST (T:ay)(out:List Int):ay:=if out=[] then T else T++[(out.length,1)]
theorem cN (l:List Int)(x:Int):ints l++[.int .i64 x]=ints (l++[x]):=by simp[ints]
attribute [-simp] getD_eq_getElem?_getD in
theorem dy (n:Int)(H:List aG)(T:ay):al Tryz.prog 164 [.int .i64 n] H T (Is (.int .i64 n) H T):=by
 refine aj 3 [] Tryz.ntmps164 Tryz.func164 rfl (fun _ _=>Tryz.call164 _ _) (by simp) (fun HO=>?_);apply ae;intro K h;simp(disch:=omega);apply h;clear h K;apply ae;intro K h;simp(disch:=omega);apply h;clear h K;apply an;simp(disch:=omega) ;exact⟨rfl,rfl,rfl⟩
attribute [-simp] getD_eq_getElem?_getD in
theorem AS (p q:Bool)(H:List aG)(T:ay):al Tryz.prog 198 [.bool p,.bool q] H T (Is (.bool (!q)) H T):=by
 refine aj 5 [] Tryz.ntmps198 Tryz.func198 rfl (fun _ _=>Tryz.call198 _ _) (by simp) (fun HO=>?_);apply ae;intro K h;simp(disch:=omega);apply h;clear h K;apply ae;intro K h;simp(disch:=omega);apply h;clear h K;apply an;simp(disch:=omega) ;exact⟨rfl,rfl,rfl⟩
attribute [-simp] getD_eq_getElem?_getD in
theorem Az (g:Nat)(kf:Bool→Bool→Bool)(hg:∀p q H T,al Tryz.prog g [.bool p,.bool q] H T (Is (.bool (kf p q)) H T))(out:List Int)(ho:out.length≤5000)(a:List Int)(i:Nat)(hi:i<a.length)(ha:a.length≤5000)(H:List aG)(T:ay) :
  al Tryz.prog 166 [.dI (ints a) i,.eO,.ptr H.length 0,.ptr (H.length+1) 0] (SH H g out T.length) (ST T out) (Is (.cJ []) (SH H g (if kf true false then out++[a.getD i 0] else out) T.length) (ST T (if kf true false then out++[a.getD i 0] else out))):=by
 have HH:=aT (xs:=a) (k:=i) (by omega);have dW:out++[a.getD i 0]≠[]:=by simp
 have kH:=cN out (a.getD i 0)
 cases Lp:kf true false
 ·rw[if_neg (by decide)];have hc:=fun H T=>hg true false H T;rw[Lp] at hc;simp only[SH];generalize pQ out T.length=ob;generalize ST T out=TT;refine aj 7 [] Tryz.ntmps166 Tryz.func166 rfl (fun _ _=>Tryz.call166 _ _) (by simp) (fun HO=>?_);apply ae;intro K h;simp(disch:=omega);apply h;clear h K;refine af fun K1 aO=>?_;apply ae;intro K h;simp(disch:=omega);apply h;clear h K;apply aC rfl;apply ak;simp(disch:=omega) ;apply aO;clear aO;refine ae fun K hK=>?_;simp(disch:=omega) ;refine ah (hc _ _) ?_;simp(disch:=omega) ;apply hK;clear hK K;apply aC rfl;apply ak;simp(disch:=omega) ;exact⟨rfl,rfl,rfl⟩
 ·rw[if_pos rfl];have hc:=fun H T=>hg true false H T;rw[Lp] at hc
  by_cases h0:out=[]
  ·subst h0;have e1:SH H g [] T.length=H++[.cells [.fn g [] []],.cells [.sl 0 [] .full]]:=rfl;have e2:SH H g ([]++[a.getD i 0]) T.length=H++[.cells [.fn g [] []],.cells [.sl 1 [.int .i64 (a.getD i 0)] (.own T.length)]]:=rfl;have e3:ST T []=T:=rfl;have e4:ST T ([]++[a.getD i 0])=T++[(1,1)]:=rfl;rw[e1,e2,e3,e4];refine aj 7 [] Tryz.ntmps166 Tryz.func166 rfl (fun _ _=>Tryz.call166 _ _) (by simp) (fun HO=>?_);apply ae;intro K h;simp(disch:=omega);apply h;clear h K;refine af fun K1 aO=>?_;apply ae;intro K h;simp(disch:=omega);apply h;clear h K;apply aC rfl;apply ak;simp(disch:=omega) ;apply aO;clear aO;refine ae fun K hK=>?_;simp(disch:=omega) ;refine ah (hc _ _) ?_;simp(disch:=omega) ;apply hK;clear hK K;apply aH rfl;refine cE [5,6] [0,0,0,0,0,0,1] [[],[]] au (by kernel_rfl) (by kernel_rfl) fun K hK=>?_;simp(disch:=omega)[HH];apply hK;clear hK K;exact⟨rfl,rfl,rfl⟩
  ·have e1:SH H g out T.length=H++[.cells [.fn g [] []],.cells [.sl out.length (ints out) (.own T.length)]]:=by simp[SH,pQ,h0]
   have e2:SH H g (out++[a.getD i 0]) T.length=H++[.cells [.fn g [] []],.cells [.sl (out.length+1) (ints (out++[a.getD i 0])) (.own T.length)]]:=by simp[SH,pQ]
   have e3:ST T out=T++[(out.length,1)]:=by simp[ST,h0]
   have e4:ST T (out++[a.getD i 0])=T++[(out.length+1,1)]:=by simp[ST]
   rw[e1,e2,e3,e4];refine aj 7 [] Tryz.ntmps166 Tryz.func166 rfl (fun _ _=>Tryz.call166 _ _) (by simp) (fun HO=>?_);apply ae;intro K h;simp(disch:=omega);apply h;clear h K;refine af fun K1 aO=>?_;apply ae;intro K h;simp(disch:=omega);apply h;clear h K;apply aC rfl;apply ak;simp(disch:=omega) ;apply aO;clear aO;refine ae fun K hK=>?_;simp(disch:=omega) ;refine ah (hc _ _) ?_;simp(disch:=omega) ;apply hK;clear hK K;apply aH rfl;refine cE [5,6] [0,0,0,0,0,0,1] [[],[]] au (by kernel_rfl) (by kernel_rfl) fun K hK=>?_;simp(disch:=omega)[HH,kH];apply hK;clear hK K;exact⟨rfl,rfl,rfl⟩
attribute [-simp] getD_eq_getElem?_getD in
theorem Ay (g:Nat)(kf:Bool→Bool→Bool)(hg:∀p q H T,al Tryz.prog g [.bool p,.bool q] H T (Is (.bool (kf p q)) H T))(out:List Int)(ho:out.length≤5000)(b:List Int)(j:Nat)(hj:j<b.length)(hb:b.length≤5000)(H:List aG)(T:ay) :
  al Tryz.prog 166 [.eO,.dI (ints b) j,.ptr H.length 0,.ptr (H.length+1) 0] (SH H g out T.length) (ST T out) (Is (.cJ []) (SH H g (if kf false true then out++[b.getD j 0] else out) T.length) (ST T (if kf false true then out++[b.getD j 0] else out))):=by
 have HH:=aT (xs:=b) (k:=j) (by omega);have dW:out++[b.getD j 0]≠[]:=by simp
 have kH:=cN out (b.getD j 0)
 cases Lp:kf false true
 ·rw[if_neg (by decide)];have hc:=fun H T=>hg false true H T;rw[Lp] at hc;simp only[SH];generalize pQ out T.length=ob;generalize ST T out=TT;refine aj 7 [] Tryz.ntmps166 Tryz.func166 rfl (fun _ _=>Tryz.call166 _ _) (by simp) (fun HO=>?_);apply ae;intro K h;simp(disch:=omega);apply h;clear h K;refine af fun K1 aO=>?_;apply ae;intro K h;simp(disch:=omega);apply h;clear h K;apply aH rfl;refine ar fun K hK=>?_;simp(disch:=omega) ;apply hK;clear hK K;apply aO;clear aO;refine ae fun K hK=>?_;simp(disch:=omega) ;refine ah (hc _ _) ?_;simp(disch:=omega) ;apply hK;clear hK K;apply aC rfl;apply ak;simp(disch:=omega) ;exact⟨rfl,rfl,rfl⟩
 ·rw[if_pos rfl];have hc:=fun H T=>hg false true H T;rw[Lp] at hc
  by_cases h0:out=[]
  ·subst h0;have e1:SH H g [] T.length=H++[.cells [.fn g [] []],.cells [.sl 0 [] .full]]:=rfl;have e2:SH H g ([]++[b.getD j 0]) T.length=H++[.cells [.fn g [] []],.cells [.sl 1 [.int .i64 (b.getD j 0)] (.own T.length)]]:=rfl;have e3:ST T []=T:=rfl;have e4:ST T ([]++[b.getD j 0])=T++[(1,1)]:=rfl;rw[e1,e2,e3,e4];refine aj 7 [] Tryz.ntmps166 Tryz.func166 rfl (fun _ _=>Tryz.call166 _ _) (by simp) (fun HO=>?_);apply ae;intro K h;simp(disch:=omega);apply h;clear h K;refine af fun K1 aO=>?_;apply ae;intro K h;simp(disch:=omega);apply h;clear h K;apply aH rfl;refine ar fun K hK=>?_;simp(disch:=omega) ;apply hK;clear hK K;apply aO;clear aO;refine ae fun K hK=>?_;simp(disch:=omega) ;refine ah (hc _ _) ?_;simp(disch:=omega) ;apply hK;clear hK K;apply aH rfl;refine cE [5,6] [0,0,0,0,0,0,1] [[],[]] au (by kernel_rfl) (by kernel_rfl) fun K hK=>?_;simp(disch:=omega)[HH];apply hK;clear hK K;exact⟨rfl,rfl,rfl⟩
  ·have e1:SH H g out T.length=H++[.cells [.fn g [] []],.cells [.sl out.length (ints out) (.own T.length)]]:=by simp[SH,pQ,h0]
   have e2:SH H g (out++[b.getD j 0]) T.length=H++[.cells [.fn g [] []],.cells [.sl (out.length+1) (ints (out++[b.getD j 0])) (.own T.length)]]:=by simp[SH,pQ]
   have e3:ST T out=T++[(out.length,1)]:=by simp[ST,h0]
   have e4:ST T (out++[b.getD j 0])=T++[(out.length+1,1)]:=by simp[ST]
   rw[e1,e2,e3,e4];refine aj 7 [] Tryz.ntmps166 Tryz.func166 rfl (fun _ _=>Tryz.call166 _ _) (by simp) (fun HO=>?_);apply ae;intro K h;simp(disch:=omega);apply h;clear h K;refine af fun K1 aO=>?_;apply ae;intro K h;simp(disch:=omega);apply h;clear h K;apply aH rfl;refine ar fun K hK=>?_;simp(disch:=omega) ;apply hK;clear hK K;apply aO;clear aO;refine ae fun K hK=>?_;simp(disch:=omega) ;refine ah (hc _ _) ?_;simp(disch:=omega) ;apply hK;clear hK K;apply aH rfl;refine cE [5,6] [0,0,0,0,0,0,1] [[],[]] au (by kernel_rfl) (by kernel_rfl) fun K hK=>?_;simp(disch:=omega)[HH,kH];apply hK;clear hK K;exact⟨rfl,rfl,rfl⟩
attribute [-simp] getD_eq_getElem?_getD in
theorem Hl (g:Nat)(kf:Bool→Bool→Bool)(hg:∀p q H T,al Tryz.prog g [.bool p,.bool q] H T (Is (.bool (kf p q)) H T))(out:List Int)(ho:out.length≤5000)(a:List Int)(i:Nat)(hi:i<a.length)(ha:a.length≤5000)(b:List Int)(j:Nat)(H:List aG)(T:ay) :
  al Tryz.prog 166 [.dI (ints a) i,.dI (ints b) j,.ptr H.length 0,.ptr (H.length+1) 0] (SH H g out T.length) (ST T out) (Is (.cJ []) (SH H g (if kf true true then out++[a.getD i 0] else out) T.length) (ST T (if kf true true then out++[a.getD i 0] else out))):=by
 have HH:=aT (xs:=a) (k:=i) (by omega);have dW:out++[a.getD i 0]≠[]:=by simp
 have kH:=cN out (a.getD i 0)
 cases Lp:kf true true
 ·rw[if_neg (by decide)];have hc:=fun H T=>hg true true H T;rw[Lp] at hc;simp only[SH];generalize pQ out T.length=ob;generalize ST T out=TT;refine aj 7 [] Tryz.ntmps166 Tryz.func166 rfl (fun _ _=>Tryz.call166 _ _) (by simp) (fun HO=>?_);apply ae;intro K h;simp(disch:=omega);apply h;clear h K;refine af fun K1 aO=>?_;apply ae;intro K h;simp(disch:=omega);apply h;clear h K;apply aC rfl;apply ak;simp(disch:=omega) ;apply aO;clear aO;refine ae fun K hK=>?_;simp(disch:=omega) ;refine ah (hc _ _) ?_;simp(disch:=omega) ;apply hK;clear hK K;apply aC rfl;apply ak;simp(disch:=omega) ;exact⟨rfl,rfl,rfl⟩
 ·rw[if_pos rfl];have hc:=fun H T=>hg true true H T;rw[Lp] at hc
  by_cases h0:out=[]
  ·subst h0;have e1:SH H g [] T.length=H++[.cells [.fn g [] []],.cells [.sl 0 [] .full]]:=rfl;have e2:SH H g ([]++[a.getD i 0]) T.length=H++[.cells [.fn g [] []],.cells [.sl 1 [.int .i64 (a.getD i 0)] (.own T.length)]]:=rfl;have e3:ST T []=T:=rfl;have e4:ST T ([]++[a.getD i 0])=T++[(1,1)]:=rfl;rw[e1,e2,e3,e4];refine aj 7 [] Tryz.ntmps166 Tryz.func166 rfl (fun _ _=>Tryz.call166 _ _) (by simp) (fun HO=>?_);apply ae;intro K h;simp(disch:=omega);apply h;clear h K;refine af fun K1 aO=>?_;apply ae;intro K h;simp(disch:=omega);apply h;clear h K;apply aC rfl;apply ak;simp(disch:=omega) ;apply aO;clear aO;refine ae fun K hK=>?_;simp(disch:=omega) ;refine ah (hc _ _) ?_;simp(disch:=omega) ;apply hK;clear hK K;apply aH rfl;refine cE [5,6] [0,0,0,0,0,0,1] [[],[]] au (by kernel_rfl) (by kernel_rfl) fun K hK=>?_;simp(disch:=omega)[HH];apply hK;clear hK K;exact⟨rfl,rfl,rfl⟩
  ·have e1:SH H g out T.length=H++[.cells [.fn g [] []],.cells [.sl out.length (ints out) (.own T.length)]]:=by simp[SH,pQ,h0]
   have e2:SH H g (out++[a.getD i 0]) T.length=H++[.cells [.fn g [] []],.cells [.sl (out.length+1) (ints (out++[a.getD i 0])) (.own T.length)]]:=by simp[SH,pQ]
   have e3:ST T out=T++[(out.length,1)]:=by simp[ST,h0]
   have e4:ST T (out++[a.getD i 0])=T++[(out.length+1,1)]:=by simp[ST]
   rw[e1,e2,e3,e4];refine aj 7 [] Tryz.ntmps166 Tryz.func166 rfl (fun _ _=>Tryz.call166 _ _) (by simp) (fun HO=>?_);apply ae;intro K h;simp(disch:=omega);apply h;clear h K;refine af fun K1 aO=>?_;apply ae;intro K h;simp(disch:=omega);apply h;clear h K;apply aC rfl;apply ak;simp(disch:=omega) ;apply aO;clear aO;refine ae fun K hK=>?_;simp(disch:=omega) ;refine ah (hc _ _) ?_;simp(disch:=omega) ;apply hK;clear hK K;apply aH rfl;refine cE [5,6] [0,0,0,0,0,0,1] [[],[]] au (by kernel_rfl) (by kernel_rfl) fun K hK=>?_;simp(disch:=omega)[HH,kH];apply hK;clear hK K;exact⟨rfl,rfl,rfl⟩
open dc
theorem cU (l:List Int)(i:Nat)(h:i<l.length):l.drop i=l.getD i 0::l.drop (i+1):=by
 rw[List.drop_eq_getElem_cons h,getD_eq_getElem?_getD,getElem?_eq_getElem h];rfl
def MG (kf:Bool→Bool→Bool)(a b:List Int)(n i j:Nat)(o:List Int):List Int:=
 im (fun o x=>if kf true false then o++[x] else o) (fun o x=>if kf false true then o++[x] else o) (fun o x=>if kf true true then o++[x] else o) n (a.drop i) (b.drop j) o
section
variable {kf : Bool → Bool → Bool} {a b o : List Int} {n i j : Nat}
theorem abd (hn:0<n)(hi:i<a.length)(hj:j<b.length)(h:a.getD i 0<b.getD j 0):MG kf a b n i j o=MG kf a b (n-1) (i+1) j (if kf true false then o++[a.getD i 0] else o):=by
 obtain⟨m,rfl⟩:∃m,n=m+1:=⟨n-1,by omega⟩
 unfold MG;rw[cU a i hi,cU b j hj,im,if_pos h];rfl
theorem abb (hn:0<n)(hi:i<a.length)(hj:j<b.length)(h:¬a.getD i 0<b.getD j 0)(h2:b.getD j 0<a.getD i 0):MG kf a b n i j o=MG kf a b (n-1) i (j+1) (if kf false true then o++[b.getD j 0] else o):=by
 obtain⟨m,rfl⟩:∃m,n=m+1:=⟨n-1,by omega⟩
 unfold MG;rw[cU a i hi,cU b j hj,im,if_neg h,if_pos h2];rfl
theorem Un (hn:0<n)(hi:i<a.length)(hj:j<b.length)(h:¬a.getD i 0<b.getD j 0)(h2:¬b.getD j 0<a.getD i 0):MG kf a b n i j o=MG kf a b (n-1) (i+1) (j+1) (if kf true true then o++[a.getD i 0] else o):=by
 obtain⟨m,rfl⟩:∃m,n=m+1:=⟨n-1,by omega⟩
 unfold MG;rw[cU a i hi,cU b j hj,im,if_neg h,if_neg h2];rfl
theorem Uo (hn:0<n)(hi:i<a.length)(hj:j=b.length):MG kf a b n i j o=MG kf a b (n-1) (i+1) j (if kf true false then o++[a.getD i 0] else o):=by
 obtain⟨m,rfl⟩:∃m,n=m+1:=⟨n-1,by omega⟩
 unfold MG;rw[cU a i hi,hj,drop_length,im];rfl
theorem Um (hn:0<n)(hi:i=a.length)(hj:j<b.length):MG kf a b n i j o=MG kf a b (n-1) i (j+1) (if kf false true then o++[b.getD j 0] else o):=by
 obtain⟨m,rfl⟩:∃m,n=m+1:=⟨n-1,by omega⟩
 unfold MG;rw[cU b j hj,hi,drop_length,im];rfl
theorem QO (hi:i=a.length)(hj:j=b.length):MG kf a b n i j o=o:=by
 unfold MG;rw[hi,hj,drop_length,drop_length]
 cases n<;>rfl
end
theorem jo (H:List aG)(g:Nat)(out:List Int)(tk:Nat):(SH H g out tk).length=H.length+2:=by simp[SH]
theorem px (T:ay)(out:List Int):T.length≤(ST T out).length:=by unfold ST;split<;>simp
theorem ru {H:List aG}{T:ay}(h:bM H T)(g:Nat)(out:List Int):bM (SH H g out T.length) (ST T out):=by
 have e:SH H g out T.length=(H++[.cells [.fn g [] []]])++[.cells [pQ out T.length]]:=by simp[SH]
 rw[e];refine bM.snoc (bM.snoc (h.df (px T out)) (by simp)) ?_;unfold pQ ST
 split
 ·simp
 ·simp
theorem uv (k:Bool)(o:List Int)(x:Int)(m:Nat)(h:o.length+1≤m):(if k=true then o++[x] else o).length≤m:=by
 split
 ·simp only[List.length_append,List.length_cons,List.length_nil];omega
 ·omega
attribute [-simp] getD_eq_getElem?_getD in
theorem GQ (g:Nat)(kf:Bool→Bool→Bool)(hg:∀p q H T,al Tryz.prog g [.bool p,.bool q] H T (Is (.bool (kf p q)) H T))(a b:List Int)(ha:a.length≤1000)(hb:b.length≤1000)(H:List aG)(T:ay)(HO0:bM H T) :
  al Tryz.prog 163 [.sl a.length (ints a) .none,.sl b.length (ints b) .none,.fn 164 [] [],.fn 166 [] [.ptr H.length 0,.ptr (H.length+1) 0]] (SH H g [] T.length) T
   (Is (.cJ []) (SH H g (MG kf a b (a.length+b.length) 0 0 []) T.length) (ST T (MG kf a b (a.length+b.length) 0 0 []))):=by
 have e0:ST T []=T:=rfl;refine aj 11 [] Tryz.ntmps163 Tryz.func163 rfl (fun _ _=>Tryz.call163 _ _) (by simp) (fun HO=>?_);clear HO;have HO:=HO0;apply ae;intro K h;simp(disch:=omega);apply h;clear h K;apply ai;refine aK (X:=Nat×Nat×Nat×List Int) (fun x=>⟨[(0,.sl a.length (ints a) .none),(1,.sl b.length (ints b) .none),(2,.fn 164 [] []),(3,.fn 166 [] [.ptr H.length 0,.ptr (H.length+1) 0]),(8,.int .i64 (x.2.1:Nat)),(9,.int .i64 (x.2.2.1:Nat))],SH H g x.2.2.2 T.length,ST T x.2.2.2⟩)
  (fun x=>x.2.1≤a.length∧x.2.2.1≤b.length∧(a.length-x.2.1)+(b.length-x.2.2.1)≤x.1∧MG kf a b (a.length+b.length) 0 0 []=MG kf a b x.1 x.2.1 x.2.2.1 x.2.2.2∧x.2.2.2.length≤x.2.1+x.2.2.1) (fun x=>x.1) (a.length+b.length,0,0,[]) ?_ ?_ ?_
 ·exact⟨zero_le _,zero_le _,by simp only;omega,rfl,zero_le _⟩
 ·refine ag [] [] ?_ ?_ ?_ ?_ (ru HO g _) ?_
  ·simp
  ·simp[e0]
  ·simp[jo]
  ·exact px T _
  ·simp[jo]
 ·rintro⟨n,i,j,out⟩ ⟨h1,h2,h3,h4,h5⟩;simp only at h1 h2 h3 h4 h5
  by_cases hi:i<a.length
  ·have bi:decide ((i:Int)<a.length)=true:=by simp;omega
   have ni:((i:Int)==a.length)=false:=by rw[beq_eq_false_iff_ne];omega
   have NL:¬i=a.length:=by omega
   by_cases hj:j<b.length
   ·have bj:decide ((j:Int)<b.length)=true:=by simp;omega
    have nj:((j:Int)==b.length)=false:=by rw[beq_eq_false_iff_ne];omega
    have DF:¬j=b.length:=by omega
    have hn:0<n:=by omega
    refine af fun K2 aY=>?_;refine ae fun K hK=>?_;simp(disch:=omega)[bi,bj,hi,hj];apply hK;clear hK K;apply aH rfl;apply ak;simp(disch:=omega) ;apply aY;clear aY;apply ai;apply ai
    by_cases c1:a.getD i 0<b.getD j 0
    ·have b1:decide (a.getD i 0<b.getD j 0)=true:=by simpa using c1
     have dA:=abd (kf:=kf) (o:=out) hn hi hj c1;refine aM [] [] [] au (by kernel_rfl) (by kernel_rfl) fun K hK=>?_;simp(disch:=omega)[bi,hi,nj,DF,aT];refine aB (dy _ _ _) rfl ?_;simp(disch:=omega)[aT];refine aB (dy _ _ _) rfl ?_;simp(disch:=omega)[b1,c1];apply hK;clear hK K;apply aH rfl;refine ae fun K hK=>?_;simp(disch:=omega) ;refine ah (Az g kf hg out (by omega) a i hi (by omega) H T) ?_;simp(disch:=omega) ;apply hK;clear hK K;refine ar fun K hK=>?_;simp(disch:=omega) ;apply hK;clear hK K;refine⟨(n-1,i+1,j,if kf true false=true then out++[a.getD i 0] else out),⟨by show i+1≤a.length;omega,by show j≤b.length;omega,by show (a.length-(i+1))+(b.length-(j))≤n-1;omega,by rw[h4,dA],uv _ _ _ _ (by show out.length+1≤(i+1)+(j);omega)⟩,by show n-1<n;omega,?_⟩;refine ag [] [] ?_ ?_ ?_ ?_ (ru HO g _) ?_
     ·simp
     ·simp
     ·simp[jo]
     ·exact px T _
     ·simp[jo]
      try omega
    ·have b1:decide (a.getD i 0<b.getD j 0)=false:=by simpa using c1
     refine aM [] [] [] au (by kernel_rfl) (by kernel_rfl) fun K hK=>?_;simp(disch:=omega)[bi,hi,nj,DF,aT];refine aB (dy _ _ _) rfl ?_;simp(disch:=omega)[aT];refine aB (dy _ _ _) rfl ?_;simp(disch:=omega)[b1,c1];apply hK;clear hK K;apply aC rfl
     by_cases c2:b.getD j 0<a.getD i 0
     ·have b2:decide (b.getD j 0<a.getD i 0)=true:=by simpa using c2
      have dA:=abb (kf:=kf) (o:=out) hn hi hj c1 c2;refine aM [] [] [] au (by kernel_rfl) (by kernel_rfl) fun K hK=>?_;simp(disch:=omega)[ni,NL,aT];refine aB (dy _ _ _) rfl ?_;simp(disch:=omega)[aT];refine aB (dy _ _ _) rfl ?_;simp(disch:=omega)[b2,c2];apply hK;clear hK K;apply aH rfl;refine ae fun K hK=>?_;simp(disch:=omega) ;refine ah (Ay g kf hg out (by omega) b j hj (by omega) H T) ?_;simp(disch:=omega) ;apply hK;clear hK K;refine ar fun K hK=>?_;simp(disch:=omega) ;apply hK;clear hK K;refine⟨(n-1,i,j+1,if kf false true=true then out++[b.getD j 0] else out),⟨by show i≤a.length;omega,by show j+1≤b.length;omega,by show (a.length-(i))+(b.length-(j+1))≤n-1;omega,by rw[h4,dA],uv _ _ _ _ (by show out.length+1≤(i)+(j+1);omega)⟩,by show n-1<n;omega,?_⟩;refine ag [] [] ?_ ?_ ?_ ?_ (ru HO g _) ?_
      ·simp
      ·simp
      ·simp[jo]
      ·exact px T _
      ·simp[jo]
       try omega
     ·have b2:decide (b.getD j 0<a.getD i 0)=false:=by simpa using c2
      have dA:=Un (kf:=kf) (o:=out) hn hi hj c1 c2;refine aM [] [] [] au (by kernel_rfl) (by kernel_rfl) fun K hK=>?_;simp(disch:=omega)[ni,NL,aT];refine aB (dy _ _ _) rfl ?_;simp(disch:=omega)[aT];refine aB (dy _ _ _) rfl ?_;simp(disch:=omega)[b2,c2];apply hK;clear hK K;apply aC rfl;refine aM [7] [0,0,0,0,0,0,0,0] [[]] au (by kernel_rfl) (by kernel_rfl) fun K hK=>?_;simp(disch:=omega) ;refine dz (Hl g kf hg out (by omega) a i hi (by omega) b j H T) rfl ?_;simp(disch:=omega) ;apply hK;clear hK K;refine ar fun K hK=>?_;simp(disch:=omega) ;apply hK;clear hK K;refine⟨(n-1,i+1,j+1,if kf true true=true then out++[a.getD i 0] else out),⟨by show i+1≤a.length;omega,by show j+1≤b.length;omega,by show (a.length-(i+1))+(b.length-(j+1))≤n-1;omega,by rw[h4,dA],uv _ _ _ _ (by show out.length+1≤(i+1)+(j+1);omega)⟩,by show n-1<n;omega,?_⟩;refine ag [] [] ?_ ?_ ?_ ?_ (ru HO g _) ?_
      ·simp
      ·simp
      ·simp[jo]
      ·exact px T _
      ·simp[jo]
       try omega
   ·have bj:decide ((j:Int)<b.length)=false:=by simp;omega
    have NU:j=b.length:=by omega
    have nj:((j:Int)==b.length)=true:=by simp;omega
    have hn:0<n:=by omega
    have dA:=Uo (kf:=kf) (o:=out) hn hi NU;refine af fun K2 aY=>?_;refine ae fun K hK=>?_;simp(disch:=omega)[bi,bj,hi,hj];apply hK;clear hK K;apply aH rfl;apply ak;simp(disch:=omega) ;apply aY;clear aY;apply ai;apply ai;have R5:(j:Int)=(b.length:Int):=by omega
    refine aM [] [] [] au (by kernel_rfl) (by kernel_rfl) fun K hK=>?_;simp(disch:=omega)[nj,R5];apply hK;clear hK K;apply aH rfl;refine ae fun K hK=>?_;simp(disch:=omega) ;refine ah (Az g kf hg out (by omega) a i hi (by omega) H T) ?_;simp(disch:=omega) ;apply hK;clear hK K;refine ar fun K hK=>?_;simp(disch:=omega) ;apply hK;clear hK K;refine⟨(n-1,i+1,j,if kf true false=true then out++[a.getD i 0] else out),⟨by show i+1≤a.length;omega,by show j≤b.length;omega,by show (a.length-(i+1))+(b.length-(j))≤n-1;omega,by rw[h4,dA],uv _ _ _ _ (by show out.length+1≤(i+1)+(j);omega)⟩,by show n-1<n;omega,?_⟩;refine ag [] [] ?_ ?_ ?_ ?_ (ru HO g _) ?_
    ·simp
    ·simp
    ·simp[jo]
    ·exact px T _
    ·simp[jo]
     try omega
  ·have bi:decide ((i:Int)<a.length)=false:=by simp;omega
   have lX:i=a.length:=by omega
   by_cases hj:j<b.length
   ·have bj:decide ((j:Int)<b.length)=true:=by simp;omega
    have nj:((j:Int)==b.length)=false:=by rw[beq_eq_false_iff_ne];omega
    have DF:¬j=b.length:=by omega
    have ni:((i:Int)==a.length)=true:=by simp;omega
    have hn:0<n:=by omega
    have dA:=Um (kf:=kf) (o:=out) hn lX hj;refine af fun K2 aY=>?_;refine ae fun K hK=>?_;simp(disch:=omega)[bi,bj,hi,hj];apply hK;clear hK K;apply aH rfl;apply ak;simp(disch:=omega) ;apply aY;clear aY;apply ai;apply ai;refine aM [] [] [] au (by kernel_rfl) (by kernel_rfl) fun K hK=>?_;simp(disch:=omega)[nj,DF,bi,hi];apply hK;clear hK K;apply aC rfl;have R6:(i:Int)=(a.length:Int):=by omega
    refine aM [] [] [] au (by kernel_rfl) (by kernel_rfl) fun K hK=>?_;simp(disch:=omega)[ni,R6];apply hK;clear hK K;apply aH rfl;refine ae fun K hK=>?_;simp(disch:=omega) ;refine ah (Ay g kf hg out (by omega) b j hj (by omega) H T) ?_;simp(disch:=omega) ;apply hK;clear hK K;refine ar fun K hK=>?_;simp(disch:=omega) ;apply hK;clear hK K;refine⟨(n-1,i,j+1,if kf false true=true then out++[b.getD j 0] else out),⟨by show i≤a.length;omega,by show j+1≤b.length;omega,by show (a.length-(i))+(b.length-(j+1))≤n-1;omega,by rw[h4,dA],uv _ _ _ _ (by show out.length+1≤(i)+(j+1);omega)⟩,by show n-1<n;omega,?_⟩;refine ag [] [] ?_ ?_ ?_ ?_ (ru HO g _) ?_
    ·simp
    ·simp
    ·simp[jo]
    ·exact px T _
    ·simp[jo]
     try omega
   ·have bj:decide ((j:Int)<b.length)=false:=by simp;omega
    have pe:=QO (kf:=kf) (a:=a) (b:=b) (o:=out) (n:=n) lX (show j=b.length by omega);rw[pe] at h4;refine af fun K2 aY=>?_;refine ae fun K hK=>?_;simp(disch:=omega)[bi,bj,hi,hj];apply hK;clear hK K;apply aC rfl;apply aD;simp(disch:=omega) ;rw[h4];exact⟨rfl,rfl,rfl⟩
def comb (kf:Bool→Bool→Bool)(a b:List Int):List Int:=
 if jd a 1 1000000000=true∧jd b 1 1000000000=true then MG kf a b (a.length+b.length) 0 0 [] else []
attribute [-simp] getD_eq_getElem?_getD in
theorem Dr (g:Nat)(kf:Bool→Bool→Bool)(hg:∀p q H T,al Tryz.prog g [.bool p,.bool q] H T (Is (.bool (kf p q)) H T))(a b:List Int)(ha:a.length≤1000)(hb:b.length≤1000)(H:List aG)(T:ay)(ta tb:Tag) :
  al Tryz.prog 115 [.sl a.length (ints a) ta,.sl b.length (ints b) tb,.fn g [] []] H T (Is (.sl (comb kf a b).length (ints (comb kf a b)) .none) H T):=by
 refine al.cg (al.nF ?_);refine al.dS ?_ (by simp);have ik:1000≤maxLen:=by decide
 refine aj 8 [] Tryz.ntmps115 Tryz.func115 rfl (fun _ _=>Tryz.call115 _ _) (by simp) (fun HO=>?_);apply ae;intro K h;simp(disch:=omega);apply h;clear h K;apply ae;intro K h;simp(disch:=omega);apply h;clear h K;refine af fun K1 aO=>?_;have c1:=jI a (by omega) (H++[.cells [.fn g [] []],.cells [.sl 0 [] .full]]) T .none;have c2:=jI b (by omega) (H++[.cells [.fn g [] []],.cells [.sl 0 [] .full]]) T .none
 cases hv:jd a 1 1000000000
 ·rw[hv] at c1;refine ae fun K hK=>?_;simp(disch:=omega) ;refine ah (c1) ?_;simp(disch:=omega) ;apply hK;clear hK K;apply aH rfl;apply ae;intro K h;simp(disch:=omega);apply h;clear h K;apply an;simp(disch:=omega) ;simp[comb,hv,ints]
 ·rw[hv] at c1
  cases hw:jd b 1 1000000000
  ·rw[hw] at c2;refine ae fun K hK=>?_;simp(disch:=omega) ;refine ah (c1) ?_;simp(disch:=omega) ;refine ah (c2) ?_;simp(disch:=omega) ;apply hK;clear hK K;apply aH rfl;apply ae;intro K h;simp(disch:=omega);apply h;clear h K;apply an;simp(disch:=omega) ;simp[comb,hw,ints]
  ·rw[hw] at c2;have c3:=GQ g kf hg a b ha hb H T HO;have hr:comb kf a b=MG kf a b (a.length+b.length) 0 0 []:=by unfold comb;rw[if_pos ⟨hv,hw⟩]
   rw[←hr] at c3;have k1:(SH H g (comb kf a b) T.length)[H.length+1]?=some (.cells [pQ (comb kf a b) T.length]):=xH _ _ 1;have hH:∃rH,SH H g (comb kf a b) T.length=H++rH:=⟨_,rfl⟩
   have hT:∃rT,ST T (comb kf a b)=T++rT:=by unfold ST;split;exact⟨[],by simp⟩;exact⟨_,rfl⟩
   refine ae fun K hK=>?_;simp(disch:=omega) ;refine ah (c1) ?_;simp(disch:=omega) ;refine ah (c2) ?_;simp(disch:=omega) ;apply hK;clear hK K;apply aC rfl;apply ak;simp(disch:=omega) ;apply aO;clear aO;refine ae fun K hK=>?_;simp(disch:=omega) ;refine ah (c3) ?_;simp(disch:=omega) ;apply hK;clear hK K;refine ae fun K hK=>?_;simp(disch:=omega)[k1];apply hK;clear hK K;apply an;simp(disch:=omega) ;generalize comb kf a b=r at *;refine⟨hH,hT,?_⟩;unfold pQ
   by_cases h0:r=[]
   ·subst h0;simp[ints]
   ·simp[h0]
attribute [-simp] getD_eq_getElem?_getD in
theorem CD (a b:List Int)(ha:a.length≤1000)(hb:b.length≤1000)(H:List aG)(T:ay)(ta tb:Tag):al Tryz.prog 151 [.sl a.length (ints a) ta,.sl b.length (ints b) tb] H T (Is (.sl (comb (fun _ q=>!q) a b).length (ints (comb (fun _ q=>!q) a b)) .none) H T):=by
 refine al.dS ?_ (by simp);refine aj 5 [] Tryz.ntmps151 Tryz.func151 rfl (fun _ _=>Tryz.call151 _ _) (by simp) (fun HO=>?_);apply ae;intro K h;simp(disch:=omega);apply h;clear h K;refine ae fun K hK=>?_;simp(disch:=omega) ;refine ah (Dr _ (fun _ q=>!q) (fun p q H T=>AS p q H T) a b ha hb H T _ _) ?_;simp(disch:=omega) ;apply hK;clear hK K;apply an;simp(disch:=omega) 
theorem ke {l:List Int}{lo hi:Int}(h:jd l lo hi=true):jR l:=by
 unfold jd at h;rw[List.all_eq_true] at h;have h1:∀k,k+1<l.length→l.getD k 0<l.getD (k+1) 0:=by
  intro k hk;have:=h (k+1) (by simpa using hk);unfold fH at this;simp only[Bool.and_eq_true,Bool.or_eq_true,decide_eq_true_eq,Nat.add_sub_cancel] at this;rcases this.2 with h2|h2
  ·omega
  ·exact h2
 clear h
 induction l with
 |nil=>exact List.Pairwise.nil
 |cons x l ih=>
  have ht:jR l:=ih (fun k hk=>by
   have:=h1 (k+1) (by simpa using hk);simpa using this)
  refine List.pairwise_cons.2 ⟨fun y hy=>?_,ht⟩
  cases l with
  |nil=>simp at hy
  |cons z l=>
   have hz:=h1 0 (by simp);simp at hz;rcases List.mem_cons.1 hy with rfl|hy
   ·exact hz
   ·have:=(iW ht).2 y hy;omega
attribute [-simp] getD_eq_getElem?_getD in
theorem xJ (l:List Int)(n:Int)(hl:l.length≤maxLen)(H:List aG)(T:ay)(tg:Tag):al Tryz.prog 33 [.sl l.length (ints l) tg,.int .i64 n] H T (Is (.bool (decide (n∈l))) H T):=by
 refine al.cg ?_;have ik:maxLen≤9223372036854775807:=by decide
 have oM:=le_trans hl ik;refine aj 6 [] Tryz.ntmps33 Tryz.func33 rfl (fun _ _=>Tryz.call33 _ _) (by simp) (fun HO=>?_);apply ae;intro K h;simp(disch:=omega);apply h;clear h K;refine af fun K1 aO=>?_;apply ae;intro K h;simp(disch:=omega);apply h;clear h K;apply ai;refine aK (X:=Nat) (fun k=>⟨[(0,.sl l.length (ints l) .none),(1,.int .i64 n),(5,.int .i64 (k:Nat))],H,T⟩) (fun k=>k≤l.length∧∀j,j<k→l.getD j 0≠n) (fun k=>l.length-k) 0 ?_ ?_ ?_
 ·exact⟨zero_le _,fun j hj=>absurd hj (Nat.not_lt_zero _)⟩
 ·refine ag [] [] ?_ ?_ ?_ ?_ HO ?_
  all_goals simp
 ·rintro k ⟨h1,h2⟩;refine af fun K2 aY=>?_;apply ae;intro K h;simp(disch:=omega);apply h;clear h K;refine aP rfl (fun hk=>?_) (fun hk=>?_)
  ·simp  at hk;apply ak;simp(disch:=omega) ;apply aY;clear aY;refine af fun K3 bA=>?_;apply ai
   by_cases hc:l.getD k 0=n
   ·have b:(l.getD k 0==n)=true:=by simpa using hc
    have hm:n∈l:=by
     rw[←hc,getD_eq_getElem?_getD,getElem?_eq_getElem hk];exact List.getElem_mem hk
    refine ae fun K hK=>?_;simp(disch:=omega)[aT,b];apply hK;clear hK K;apply aH rfl;apply ae;intro K h;simp(disch:=omega);apply h;clear h K;apply an;simp(disch:=omega) ;rw[decide_eq_true hm];exact⟨rfl,rfl,rfl⟩
   ·have b:(l.getD k 0==n)=false:=by simpa using hc
    refine ae fun K hK=>?_;simp(disch:=omega)[aT,b];apply hK;clear hK K;apply aC rfl;apply ak;simp(disch:=omega) ;apply bA;clear bA;refine ar fun K hK=>?_;simp(disch:=omega) ;apply hK;clear hK K;refine⟨k+1,⟨by show k+1≤_;omega,fun j hj=>?_⟩,by show l.length-(k+1)<l.length-k;omega,?_⟩
    ·rcases lt_or_ge j k with h3|h3
     ·exact h2 j h3
     ·have:j=k:=by omega
      subst this;exact hc
    ·refine ag [] [] ?_ ?_ ?_ ?_ HO ?_
     all_goals simp
  ·simp  at hk;have hm:¬n∈l:=by
    intro hm;obtain⟨j,hj,e⟩:=List.mem_iff_getElem.1 hm;have:=h2 j (by omega);rw[getD_eq_getElem?_getD,getElem?_eq_getElem hj] at this;exact this e
   apply aD;simp(disch:=omega) ;apply aO;clear aO;apply ae;intro K h;simp(disch:=omega);apply h;clear h K;apply an;simp(disch:=omega) ;rw[decide_eq_false hm];exact⟨rfl,rfl,rfl⟩
def gW (f:Bool→Bool)(a b:List Int):List Int:=
 if jd a 1 1000000000=true∧jd b 1 1000000000=true then a.filter (fun x=>f (decide (x∈b))) else []
theorem sD (a:List Int)(k:Nat)(p:Int→Bool)(h:k<a.length):(a.take (k+1)).filter p=if p (a.getD k 0)=true then (a.take k).filter p++[a.getD k 0] else (a.take k).filter p:=by
 have e:a.take (k+1)=a.take k++[a.getD k 0]:=by
  rw[List.take_succ_eq_append_getElem h];simp[h]
 rw[e,List.filter_append]
 by_cases hp:p (a.getD k 0)=true
 ·rw[if_pos hp,List.filter_cons_of_pos hp];rfl
 ·rw[if_neg hp,List.filter_cons_of_neg hp];simp
attribute [-simp] getD_eq_getElem?_getD in
theorem Zh (a b:List Int)(ha:a.length≤1000)(hb:b.length≤1000)(H:List aG)(T:ay)(ta tb:Tag):al Tryz.prog 106 [.sl a.length (ints a) ta,.sl b.length (ints b) tb] H T (Is (.sl (gW (fun m=>m) a b).length (ints (gW (fun m=>m) a b)) .none) H T):=by
 refine al.cg (al.nF ?_);refine al.dS ?_ (by simp);have ik:1000≤maxLen:=by decide
 have c1:=fq a (by omega) H T .none;have c2:=fq b (by omega) H T .none;refine aj 7 [] Tryz.ntmps106 Tryz.func106 rfl (fun _ _=>Tryz.call106 _ _) (by simp) (fun HO=>?_);apply ae;intro K h;simp(disch:=omega);apply h;clear h K;apply ae;intro K h;simp(disch:=omega);apply h;clear h K;refine af fun K1 aO=>?_
 cases hv:jd a 1 1000000000
 ·rw[hv] at c1;refine ae fun K hK=>?_;simp(disch:=omega) ;refine ah (c1) ?_;simp(disch:=omega) ;apply hK;clear hK K;apply aH rfl;apply ae;intro K h;simp(disch:=omega);apply h;clear h K;apply an;simp(disch:=omega) ;simp[gW,hv,ints]
 ·rw[hv] at c1
  cases hw:jd b 1 1000000000
  ·rw[hw] at c2;refine ae fun K hK=>?_;simp(disch:=omega) ;refine ah (c1) ?_;simp(disch:=omega) ;refine ah (c2) ?_;simp(disch:=omega) ;apply hK;clear hK K;apply aH rfl;apply ae;intro K h;simp(disch:=omega);apply h;clear h K;apply an;simp(disch:=omega) ;simp[gW,hw,ints]
  ·rw[hw] at c2;have hr:gW (fun m=>m) a b=a.filter (fun x=>(fun m=>m) (decide (x∈b))):=by unfold gW;rw[if_pos ⟨hv,hw⟩]
   refine ae fun K hK=>?_;simp(disch:=omega) ;refine ah (c1) ?_;simp(disch:=omega) ;refine ah (c2) ?_;simp(disch:=omega) ;apply hK;clear hK K;apply aC rfl;apply ak;simp(disch:=omega) ;apply aO;clear aO;refine af fun K1 aO=>?_;apply ae;intro K h;simp(disch:=omega);apply h;clear h K;apply ai;refine jm 5 0 1 [] (by omega) (by simp) ?_;refine aK (X:=Nat) (fun k=>⟨[(0,.sl a.length (ints a) .none),(1,.sl b.length (ints b) .none),(5,.sl ((a.take k).filter (fun x=>(fun m=>m) (decide (x∈b)))).length (ints ((a.take k).filter (fun x=>(fun m=>m) (decide (x∈b))))) (.own T.length)),(6,.int .i64 (k:Nat))],H,T++[(((a.take k).filter (fun x=>(fun m=>m) (decide (x∈b)))).length,1)]⟩) (fun k=>k≤a.length) (fun k=>a.length-k) 0 ?_ ?_ ?_
   ·exact zero_le _
   ·refine ag [] [] ?_ ?_ ?_ ?_ (HO.df (by simp)) ?_
    all_goals simp
   ·intro k tm;have hlen:((a.take k).filter (fun x=>(fun m=>m) (decide (x∈b)))).length≤k:=by
     refine le_trans (List.length_filter_le _ _) ?_;rw[List.length_take];omega
    refine af fun K2 aY=>?_;apply ae;intro K h;simp(disch:=omega);apply h;clear h K;refine aP rfl (fun hk=>?_) (fun hk=>?_)
    ·simp  at hk;have dA:=sD a k (fun x=>(fun m=>m) (decide (x∈b))) hk;have c3:=xJ b (a.getD k 0) (by omega) H (T++[(((a.take k).filter (fun x=>(fun m=>m) (decide (x∈b)))).length,1)]) .none;generalize (a.take k).filter (fun x=>(fun m=>m) (decide (x∈b)))=out at *;apply ak;simp(disch:=omega) ;apply aY;clear aY;refine af fun K3 bA=>?_;apply ai
     cases hm:decide (a.getD k 0∈b)
     ·rw[hm] at c3 dA;refine ae fun K hK=>?_;simp(disch:=omega)[aT];refine ah (c3) ?_;simp(disch:=omega) ;apply hK;clear hK K;apply aC rfl;apply ak;simp(disch:=omega) ;apply bA;clear bA;refine ar fun K hK=>?_;simp(disch:=omega) ;apply hK;clear hK K;refine⟨k+1,by show k+1≤_;omega,by show a.length-(k+1)<a.length-k;omega,?_⟩;rw[dA];refine ag [] [] ?_ ?_ ?_ ?_ (HO.df (by simp)) ?_
      all_goals simp[cN]
     ·rw[hm] at c3 dA;refine ae fun K hK=>?_;simp(disch:=omega)[aT];refine ah (c3) ?_;simp(disch:=omega) ;apply hK;clear hK K;apply aH rfl;refine ar fun K hK=>?_;simp(disch:=omega)[aT];apply hK;clear hK K;apply bA;clear bA;refine ar fun K hK=>?_;simp(disch:=omega) ;apply hK;clear hK K;refine⟨k+1,by show k+1≤_;omega,by show a.length-(k+1)<a.length-k;omega,?_⟩;rw[dA];refine ag [] [] ?_ ?_ ?_ ?_ (HO.df (by simp)) ?_
      all_goals simp[cN]
    ·simp  at hk;have ZU:k=a.length:=by omega
     subst ZU;rw[List.take_length];apply aD;simp(disch:=omega) ;apply aO;clear aO;apply ae;intro K h;simp(disch:=omega);apply h;clear h K;apply an;simp(disch:=omega) ;rw[hr];exact⟨rfl,rfl⟩
attribute [-simp] getD_eq_getElem?_getD in
theorem AR (a b:List Int)(ha:a.length≤1000)(hb:b.length≤1000)(H:List aG)(T:ay)(ta tb:Tag):al Tryz.prog 88 [.sl a.length (ints a) ta,.sl b.length (ints b) tb] H T (Is (.sl (gW (fun m=>!m) a b).length (ints (gW (fun m=>!m) a b)) .none) H T):=by
 refine al.cg (al.nF ?_);refine al.dS ?_ (by simp);have ik:1000≤maxLen:=by decide
 have c1:=fq a (by omega) H T .none;have c2:=fq b (by omega) H T .none;refine aj 7 [] Tryz.ntmps88 Tryz.func88 rfl (fun _ _=>Tryz.call88 _ _) (by simp) (fun HO=>?_);apply ae;intro K h;simp(disch:=omega);apply h;clear h K;apply ae;intro K h;simp(disch:=omega);apply h;clear h K;refine af fun K1 aO=>?_
 cases hv:jd a 1 1000000000
 ·rw[hv] at c1;refine ae fun K hK=>?_;simp(disch:=omega) ;refine ah (c1) ?_;simp(disch:=omega) ;apply hK;clear hK K;apply aH rfl;apply ae;intro K h;simp(disch:=omega);apply h;clear h K;apply an;simp(disch:=omega) ;simp[gW,hv,ints]
 ·rw[hv] at c1
  cases hw:jd b 1 1000000000
  ·rw[hw] at c2;refine ae fun K hK=>?_;simp(disch:=omega) ;refine ah (c1) ?_;simp(disch:=omega) ;refine ah (c2) ?_;simp(disch:=omega) ;apply hK;clear hK K;apply aH rfl;apply ae;intro K h;simp(disch:=omega);apply h;clear h K;apply an;simp(disch:=omega) ;simp[gW,hw,ints]
  ·rw[hw] at c2;have hr:gW (fun m=>!m) a b=a.filter (fun x=>(fun m=>!m) (decide (x∈b))):=by unfold gW;rw[if_pos ⟨hv,hw⟩]
   refine ae fun K hK=>?_;simp(disch:=omega) ;refine ah (c1) ?_;simp(disch:=omega) ;refine ah (c2) ?_;simp(disch:=omega) ;apply hK;clear hK K;apply aC rfl;apply ak;simp(disch:=omega) ;apply aO;clear aO;refine af fun K1 aO=>?_;apply ae;intro K h;simp(disch:=omega);apply h;clear h K;apply ai;refine jm 5 0 1 [] (by omega) (by simp) ?_;refine aK (X:=Nat) (fun k=>⟨[(0,.sl a.length (ints a) .none),(1,.sl b.length (ints b) .none),(5,.sl ((a.take k).filter (fun x=>(fun m=>!m) (decide (x∈b)))).length (ints ((a.take k).filter (fun x=>(fun m=>!m) (decide (x∈b))))) (.own T.length)),(6,.int .i64 (k:Nat))],H,T++[(((a.take k).filter (fun x=>(fun m=>!m) (decide (x∈b)))).length,1)]⟩) (fun k=>k≤a.length) (fun k=>a.length-k) 0 ?_ ?_ ?_
   ·exact zero_le _
   ·refine ag [] [] ?_ ?_ ?_ ?_ (HO.df (by simp)) ?_
    all_goals simp
   ·intro k tm;have hlen:((a.take k).filter (fun x=>(fun m=>!m) (decide (x∈b)))).length≤k:=by
     refine le_trans (List.length_filter_le _ _) ?_;rw[List.length_take];omega
    refine af fun K2 aY=>?_;apply ae;intro K h;simp(disch:=omega);apply h;clear h K;refine aP rfl (fun hk=>?_) (fun hk=>?_)
    ·simp  at hk;have dA:=sD a k (fun x=>(fun m=>!m) (decide (x∈b))) hk;have c3:=xJ b (a.getD k 0) (by omega) H (T++[(((a.take k).filter (fun x=>(fun m=>!m) (decide (x∈b)))).length,1)]) .none;generalize (a.take k).filter (fun x=>(fun m=>!m) (decide (x∈b)))=out at *;apply ak;simp(disch:=omega) ;apply aY;clear aY;refine af fun K3 bA=>?_;apply ai
     cases hm:decide (a.getD k 0∈b)
     ·rw[hm] at c3 dA;refine ae fun K hK=>?_;simp(disch:=omega)[aT];refine ah (c3) ?_;simp(disch:=omega) ;apply hK;clear hK K;apply aH rfl;refine ar fun K hK=>?_;simp(disch:=omega)[aT];apply hK;clear hK K;apply bA;clear bA;refine ar fun K hK=>?_;simp(disch:=omega) ;apply hK;clear hK K;refine⟨k+1,by show k+1≤_;omega,by show a.length-(k+1)<a.length-k;omega,?_⟩;rw[dA];refine ag [] [] ?_ ?_ ?_ ?_ (HO.df (by simp)) ?_
      all_goals simp[cN]
     ·rw[hm] at c3 dA;refine ae fun K hK=>?_;simp(disch:=omega)[aT];refine ah (c3) ?_;simp(disch:=omega) ;apply hK;clear hK K;apply aC rfl;apply ak;simp(disch:=omega) ;apply bA;clear bA;refine ar fun K hK=>?_;simp(disch:=omega) ;apply hK;clear hK K;refine⟨k+1,by show k+1≤_;omega,by show a.length-(k+1)<a.length-k;omega,?_⟩;rw[dA];refine ag [] [] ?_ ?_ ?_ ?_ (HO.df (by simp)) ?_
      all_goals simp[cN]
    ·simp  at hk;have ZU:k=a.length:=by omega
     subst ZU;rw[List.take_length];apply aD;simp(disch:=omega) ;apply aO;clear aO;apply ae;intro K h;simp(disch:=omega);apply h;clear h K;apply an;simp(disch:=omega) ;rw[hr];exact⟨rfl,rfl⟩
theorem CE (a b:List Int):comb (fun _ q=>!q) a b=gW (fun m=>!m) a b:=by
 unfold comb gW
 split
 ·rename_i h;have ha:=ke h.1;have hb:=ke h.2;obtain⟨_,g2,g3⟩:=x4 true false false (a.length+b.length) a b [] (Nat.le_refl _) ha hb;refine mr _ _ g3 (ha.filter _) (fun z=>?_);refine(g2 z).trans ?_;simp
 ·rfl
end Go.Proofs.YtneohapkboaplaaGreat
