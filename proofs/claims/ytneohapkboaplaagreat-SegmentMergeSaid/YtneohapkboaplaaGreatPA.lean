/- Valid lists of layer 38. Valid lists of the reference of layer 38, and comparisons. The merging of two ascending lists: laws on lists. Merging in layer 38: what is done with an element. Merging in layer 38: the walk over two lists of numbers. Merging in layer 38: the walk over two lists of numbers. And, Or, Without of layer 38. Membership in the reference of layer 38. And and Without of the reference of layer 38, and that they are the program's. Or of the reference of layer 38, and that it is the program's.
  Conditions: lengths below 400 or 1000, as each theorem says. -/
import Derived.Test.YtneohapkboaplaaGreatAmFacts
import Derived.Test.YtneohapkboaplaaGreatAmB
set_option linter.all false
set_option maxRecDepth 100000
set_option maxHeartbeats 4000000
open Nat (zero_le le_trans lt_or_ge)
open List (getD_eq_getElem?_getD getElem?_eq_getElem drop_length)
namespace Go.Proofs.YtneohapkboaplaaGreat
open Go Go.Am
theorem al:Tryz.prog.follows .mixedOrders=true:=by kernel_rfl
def fU (l:List Int)(lo hi:Int)(k:Nat):Bool:=decide (lo≤l.getD k 0)&&decide (l.getD k 0≤hi)&&(decide (k=0)||decide (l.getD (k-1) 0<l.getD k 0))
def ju (l:List Int)(lo hi:Int):Bool:=(List.range l.length).all (fU l lo hi)
theorem Fu {l:List Int}{lo hi:Int}{k:Nat}(hk:k<l.length)(h:fU l lo hi k=false):ju l lo hi=false:=by
 unfold ju;rw[List.all_eq_false];exact⟨k,by simpa using hk,by simp[h]⟩
theorem y4 {l:List Int}{lo hi:Int}(h:∀j,j<l.length→fU l lo hi j=true):ju l lo hi=true:=by
 unfold ju;rw[List.all_eq_true];intro j hj;exact h j (by simpa using hj)
attribute [-simp] getD_eq_getElem?_getD in
theorem Kh (l:List Int)(lo hi:Int)(hl:l.length≤maxLen)(H:List aA)(T:ar)(tg:Tag):aq Tryz.prog 147 [.sl l.length (ints l) tg,.int .i64 lo,.int .i64 hi] H T (Is (.bool (ju l lo hi)) H T):=by
 refine aq.cD ?_;have hY:maxLen≤9223372036854775807:=by decide
 have mO:=le_trans hl hY;refine aj 12 [] Tryz.ntmps147 Tryz.func147 rfl (fun _ _=>Tryz.call147 _ _) (by simp) (fun HO=>?_);apply ae;intro K h;simp(disch:=omega);apply h;clear h K;refine af fun K1 aQ=>?_;apply ae;intro K h;simp(disch:=omega);apply h;clear h K;apply ah;refine aG (X:=Nat) (fun k=>⟨[(0,.sl l.length (ints l) .none),(1,.int .i64 lo),(2,.int .i64 hi),(9,.sl l.length (ints l) .none),(10,.int .i64 (l.length:Nat)),(11,.int .i64 (k:Nat))],H,T⟩) (fun k=>k≤l.length∧∀j,j<k→fU l lo hi j=true) (fun k=>l.length-k) 0 ?_ ?_ ?_
 ·exact⟨zero_le _,fun j hj=>absurd hj (Nat.not_lt_zero _)⟩
 ·refine ag [] [] ?_ ?_ ?_ ?_ HO ?_
  all_goals simp
 ·rintro k ⟨h1,h2⟩;apply ae;intro K h;simp(disch:=omega);apply h;clear h K;refine af fun K2 aW=>?_;refine aN rfl (fun hk=>?_) (fun hk=>?_)
  ·simp  at hk;apply ai;simp(disch:=omega) ;apply aW;clear aW;refine af fun K3 bz=>?_;apply ah;refine ae fun K hK=>?_;simp(disch:=omega)[aS];apply hK;clear hK K;refine ae fun K hK=>?_;have key:∀e b,b=(!fU l lo hi k)→bt H.length T.length e [(0,.sl l.length (ints l) .none),(1,.int .i64 lo),(2,.int .i64 hi),(9,.sl l.length (ints l) .none),(10,.int .i64 (l.length:Nat)),(11,.int .i64 (k:Nat)),(36,.bool b)]→K ⟨e,H,T⟩:=by
    intro e b hb he;refine hK _ (aH ⟨[(0,.sl l.length (ints l) .none),(1,.int .i64 lo),(2,.int .i64 hi),(9,.sl l.length (ints l) .none),(10,.int .i64 (l.length:Nat)),(11,.int .i64 (k:Nat)),(36,.bool b)],H,T⟩ (ag [] [] (by simp) (by simp) (by simp) (by simp) HO he) ?_)
    cases iG:fU l lo hi k with
    |false=>
     rw[iG] at hb;subst hb;apply aF rfl;apply ae;intro K h;simp(disch:=omega);apply h;clear h K;apply az;simp(disch:=omega) ;rw[Fu hk iG];exact⟨rfl,rfl,rfl⟩
    |true=>
     rw[iG] at hb;subst hb;apply aD rfl;apply ai;simp(disch:=omega) ;apply bz;clear bz;refine au fun K hK=>?_;simp(disch:=omega) ;apply hK;clear hK K;refine⟨k+1,⟨by show k+1≤_;omega,fun j hj=>?_⟩,by show l.length-(k+1)<l.length-k;omega,?_⟩
     ·rcases lt_or_ge j k with h3|h3
      ·exact h2 j h3
      ·have:j=k:=by omega
       subst this;exact iG
     ·refine ag [] [] ?_ ?_ ?_ ?_ HO ?_
      all_goals simp
   clear hK
   by_cases c1:l.getD k 0<lo
   ·have b1:decide (l.getD k 0<lo)=true:=by simpa using c1
    simp(disch:=omega)[b1,c1];refine key _ true ?_ (by simp);have:¬lo≤l.getD k 0:=by omega
    simp only[fU,decide_eq_false this];rfl
   ·have b1:decide (l.getD k 0<lo)=false:=by simpa using c1
    by_cases c2:hi<l.getD k 0
    ·have b2:decide (hi<l.getD k 0)=true:=by simpa using c2
     simp(disch:=omega)[b1,c1,b2,c2];refine key _ true ?_ (by simp);have:¬l.getD k 0≤hi:=by omega
     simp only[fU,decide_eq_false this,Bool.and_false];rfl
    ·have b2:decide (hi<l.getD k 0)=false:=by simpa using c2
     have e1:lo≤l.getD k 0:=by omega
     have e2:l.getD k 0≤hi:=by omega
     rcases Nat.eq_zero_or_pos k with h0|h0
     ·subst h0;simp(disch:=omega)[b1,c1,b2,c2];refine key _ false ?_ (by simp);simp only[fU,decide_eq_true e1,decide_eq_true e2];rfl
     ·have b3:decide ((0:Int)<(k:Int))=true:=by simp;omega
      have c3:(0:Int)<k:=by omega
      have ek:((k:Int)-1).toNat=k-1:=by omega
      have fP:=aS (xs:=l) (k:=k-1) (by omega)
      by_cases c4:l.getD k 0≤l.getD (k-1) 0
      ·have b4:decide (l.getD k 0≤l.getD (k-1) 0)=true:=by simpa using c4
       simp(disch:=omega)[b1,c1,b2,c2,b3,c3,h0,ek,fP,b4,c4];refine key _ true ?_ (by simp);have e3:¬l.getD (k-1) 0<l.getD k 0:=by omega
       have e4:¬k=0:=by omega
       simp only[fU,decide_eq_true e1,decide_eq_true e2,decide_eq_false e3,decide_eq_false e4];rfl
      ·have b4:decide (l.getD k 0≤l.getD (k-1) 0)=false:=by simpa using c4
       simp(disch:=omega)[b1,c1,b2,c2,b3,c3,h0,ek,fP,b4,c4];refine key _ false ?_ (by simp);have e3:l.getD (k-1) 0<l.getD k 0:=by omega
       simp only[fU,decide_eq_true e1,decide_eq_true e2,decide_eq_true e3,Bool.or_true];rfl
  ·simp  at hk;apply aC;simp(disch:=omega) ;apply aQ;clear aQ;apply ae;intro K h;simp(disch:=omega);apply h;clear h K;apply az;simp(disch:=omega) ;rw[y4 (fun j hj=>h2 j (by omega))];exact⟨rfl,rfl,rfl⟩
attribute [-simp] getD_eq_getElem?_getD in
theorem jS (l:List Int)(hl:l.length≤maxLen)(H:List aA)(T:ar)(tg:Tag):aq Tryz.prog 71 [.sl l.length (ints l) tg] H T (Is (.bool (ju l 1 1000000000)) H T):=by
 refine aj 3 [] Tryz.ntmps71 Tryz.func71 rfl (fun _ _=>Tryz.call71 _ _) (by simp) (fun HO=>?_);apply ae;intro K h;simp(disch:=omega);apply h;clear h K;refine ae fun K hK=>?_;simp(disch:=omega) ;refine ak (Kh l 1 1000000000 hl H T tg) ?_;simp(disch:=omega) ;apply hK;clear hK K;apply az;simp(disch:=omega) ;exact⟨rfl,rfl,rfl⟩
attribute [-simp] getD_eq_getElem?_getD in
theorem Fv (l:List Int)(lo hi:Int)(hl:l.length≤maxLen)(H:List aA)(T:ar)(tg:Tag):aq Tryz.prog 157 [.sl l.length (ints l) tg,.int .i64 lo,.int .i64 hi] H T (Is (.bool (ju l lo hi)) H T):=by
 refine aq.cD ?_;have hY:maxLen≤9223372036854775807:=by decide
 have mO:=le_trans hl hY;refine aj 8 [] Tryz.ntmps157 Tryz.func157 rfl (fun _ _=>Tryz.call157 _ _) (by simp) (fun HO=>?_);apply ae;intro K h;simp(disch:=omega);apply h;clear h K;refine af fun K1 aQ=>?_;apply ae;intro K h;simp(disch:=omega);apply h;clear h K;apply ah;refine aG (X:=Nat) (fun k=>⟨[(0,.sl l.length (ints l) .none),(1,.int .i64 lo),(2,.int .i64 hi),(7,.int .i64 (k:Nat))],H,T⟩) (fun k=>k≤l.length∧∀j,j<k→fU l lo hi j=true) (fun k=>l.length-k) 0 ?_ ?_ ?_
 ·exact⟨zero_le _,fun j hj=>absurd hj (Nat.not_lt_zero _)⟩
 ·refine ag [] [] ?_ ?_ ?_ ?_ HO ?_
  all_goals simp
 ·rintro k ⟨h1,h2⟩;refine af fun K2 aW=>?_;apply ae;intro K h;simp(disch:=omega);apply h;clear h K;refine aN rfl (fun hk=>?_) (fun hk=>?_)
  ·simp  at hk;apply ai;simp(disch:=omega) ;apply aW;clear aW;refine af fun K3 bz=>?_;apply ah;refine aI [] [] [] al (by kernel_rfl) (by kernel_rfl) fun K hK=>?_;have key:∀e b,b=(!fU l lo hi k)→bt H.length T.length e [(0,.sl l.length (ints l) .none),(1,.int .i64 lo),(2,.int .i64 hi),(7,.int .i64 (k:Nat)),(43,.bool b)]→K ⟨e,H,T⟩:=by
    intro e b hb he;refine hK _ (aH ⟨[(0,.sl l.length (ints l) .none),(1,.int .i64 lo),(2,.int .i64 hi),(7,.int .i64 (k:Nat)),(43,.bool b)],H,T⟩ (ag [] [] (by simp) (by simp) (by simp) (by simp) HO he) ?_)
    cases iG:fU l lo hi k with
    |false=>
     rw[iG] at hb;subst hb;apply aF rfl;apply ae;intro K h;simp(disch:=omega);apply h;clear h K;apply az;simp(disch:=omega) ;rw[Fu hk iG];exact⟨rfl,rfl,rfl⟩
    |true=>
     rw[iG] at hb;subst hb;apply aD rfl;apply ai;simp(disch:=omega) ;apply bz;clear bz;refine au fun K hK=>?_;simp(disch:=omega) ;apply hK;clear hK K;refine⟨k+1,⟨by show k+1≤_;omega,fun j hj=>?_⟩,by show l.length-(k+1)<l.length-k;omega,?_⟩
     ·rcases lt_or_ge j k with h3|h3
      ·exact h2 j h3
      ·have:j=k:=by omega
       subst this;exact iG
     ·refine ag [] [] ?_ ?_ ?_ ?_ HO ?_
      all_goals simp
   clear hK
   by_cases c1:l.getD k 0<lo
   ·have b1:decide (l.getD k 0<lo)=true:=by simpa using c1
    simp(disch:=omega)[aS,b1,c1];refine key _ true ?_ (by simp);have:¬lo≤l.getD k 0:=by omega
    simp only[fU,decide_eq_false this];rfl
   ·have b1:decide (l.getD k 0<lo)=false:=by simpa using c1
    by_cases c2:hi<l.getD k 0
    ·have b2:decide (hi<l.getD k 0)=true:=by simpa using c2
     simp(disch:=omega)[aS,b1,c1,b2,c2];refine key _ true ?_ (by simp);have:¬l.getD k 0≤hi:=by omega
     simp only[fU,decide_eq_false this,Bool.and_false];rfl
    ·have b2:decide (hi<l.getD k 0)=false:=by simpa using c2
     have e1:lo≤l.getD k 0:=by omega
     have e2:l.getD k 0≤hi:=by omega
     rcases Nat.eq_zero_or_pos k with h0|h0
     ·subst h0;simp(disch:=omega)[aS,b1,c1,b2,c2];refine key _ false ?_ (by simp);simp only[fU,decide_eq_true e1,decide_eq_true e2];rfl
     ·have b3:decide ((0:Int)<(k:Int))=true:=by simp;omega
      have c3:(0:Int)<k:=by omega
      have ek:((k:Int)-1).toNat=k-1:=by omega
      have fP:=aS (xs:=l) (k:=k-1) (by omega)
      by_cases c4:l.getD k 0≤l.getD (k-1) 0
      ·have b4:decide (l.getD k 0≤l.getD (k-1) 0)=true:=by simpa using c4
       simp(disch:=omega)[aS,b1,c1,b2,c2,b3,c3,h0,ek,fP,b4,c4];refine key _ true ?_ (by simp);have e3:¬l.getD (k-1) 0<l.getD k 0:=by omega
       have e4:¬k=0:=by omega
       simp only[fU,decide_eq_true e1,decide_eq_true e2,decide_eq_false e3,decide_eq_false e4];rfl
      ·have b4:decide (l.getD k 0≤l.getD (k-1) 0)=false:=by simpa using c4
       simp(disch:=omega)[aS,b1,c1,b2,c2,b3,c3,h0,ek,fP,b4,c4];refine key _ false ?_ (by simp);have e3:l.getD (k-1) 0<l.getD k 0:=by omega
       simp only[fU,decide_eq_true e1,decide_eq_true e2,decide_eq_true e3,Bool.or_true];rfl
  ·simp  at hk;apply aC;simp(disch:=omega) ;apply aQ;clear aQ;apply ae;intro K h;simp(disch:=omega);apply h;clear h K;apply az;simp(disch:=omega) ;rw[y4 (fun j hj=>h2 j (by omega))];exact⟨rfl,rfl,rfl⟩
attribute [-simp] getD_eq_getElem?_getD in
theorem fy (l:List Int)(hl:l.length≤maxLen)(H:List aA)(T:ar)(tg:Tag):aq Tryz.prog 92 [.sl l.length (ints l) tg] H T (Is (.bool (ju l 1 1000000000)) H T):=by
 refine aj 3 [] Tryz.ntmps92 Tryz.func92 rfl (fun _ _=>Tryz.call92 _ _) (by simp) (fun HO=>?_);apply ae;intro K h;simp(disch:=omega);apply h;clear h K;refine ae fun K hK=>?_;simp(disch:=omega) ;refine ak (Fv l 1 1000000000 hl H T tg) ?_;simp(disch:=omega) ;apply hK;clear hK K;apply az;simp(disch:=omega) ;exact⟨rfl,rfl,rfl⟩
theorem Fl {α:Type}[DecidableEq α]{a b:List α}(d:α)(h:a.length=b.length)(hj:∀j,j<a.length→a.getD j d=b.getD j d):a=b:=by
 apply List.ext_getElem h;intro i h1 h2;have:=hj i h1
 rwa [getD_eq_getElem?_getD,getD_eq_getElem?_getD,getElem?_eq_getElem h1,getElem?_eq_getElem h2] at this
attribute [-simp] getD_eq_getElem?_getD in
theorem oA (a b:List Int)(ha:a.length≤maxLen)(hb:b.length≤maxLen)(H:List aA)(T:ar)(ta tb:Tag):aq Tryz.prog 25 [.sl a.length (ints a) ta,.sl b.length (ints b) tb] H T (Is (.bool (a==b)) H T):=by
 refine aq.cD ?_;have hY:maxLen≤9223372036854775807:=by decide
 have ZD:=le_trans ha hY;have vN:=le_trans hb hY;refine aj 6 [] Tryz.ntmps25 Tryz.func25 rfl (fun _ _=>Tryz.call25 _ _) (by simp) (fun HO=>?_);apply ae;intro K h;simp(disch:=omega);apply h;clear h K;refine af fun K1 aQ=>?_;apply ae;intro K h;simp(disch:=omega);apply h;clear h K;refine aN rfl (fun h=>?_) (fun h=>?_)
 ·simp  at h;apply ae;intro K h;simp(disch:=omega);apply h;clear h K;apply az;simp(disch:=omega) ;have:(a==b)=false:=by simp;intro e;subst e;exact h rfl
  rw[this];exact⟨rfl,rfl,rfl⟩
 ·simp  at h;have hl:a.length=b.length:=by omega
  apply ai;simp(disch:=omega) ;apply aQ;clear aQ;refine af fun K1 aQ=>?_;apply ae;intro K h;simp(disch:=omega);apply h;clear h K;apply ah;refine aG (X:=Nat) (fun i=>⟨[(0,.sl a.length (ints a) .none),(1,.sl b.length (ints b) .none),(5,.int .i64 (i:Nat))],H,T⟩) (fun i=>i≤a.length∧∀j,j<i→a.getD j 0=b.getD j 0) (fun i=>a.length-i) 0 ?_ ?_ ?_
  ·exact⟨by omega,fun j hj=>by omega⟩
  ·refine ag [] [] ?_ ?_ ?_ ?_ HO ?_
   all_goals simp
  ·rintro i ⟨hi,hj⟩;refine af fun K2 aW=>?_;apply ae;intro K h;simp(disch:=omega);apply h;clear h K;refine aN rfl (fun h=>?_) (fun h=>?_)
   ·simp  at h;apply ai;simp(disch:=omega) ;apply aW;clear aW;refine af fun K3 bz=>?_;apply ah
    by_cases he:a.getD i 0=b.getD i 0
    ·refine aI [] [] [] al (by kernel_rfl) (by kernel_rfl) fun K hK=>?_;simp(disch:=omega)[aS,he];apply hK;clear hK K;apply aD rfl;apply ai;simp(disch:=omega) ;apply bz;clear bz;refine au fun K hK=>?_;simp(disch:=omega) ;apply hK;clear hK K;refine⟨i+1,⟨by omega,fun j bR=>?_⟩,by omega,?_⟩
     ·rcases lt_or_ge j i with h1|h1
      ·exact hj j h1
      ·have:j=i:=by omega
       subst this;exact he
     ·refine ag [] [] ?_ ?_ ?_ ?_ HO ?_
      all_goals simp
    ·have s9:(a.getD i 0!=b.getD i 0)=true:=bne_iff_ne.2 he;refine aI [] [] [] al (by kernel_rfl) (by kernel_rfl) fun K hK=>?_;simp(disch:=omega)[aS,s9];apply hK;clear hK K;apply aF rfl;apply ae;intro K h;simp(disch:=omega);apply h;clear h K;apply az;simp(disch:=omega) ;have:(a==b)=false:=by simp;intro e;subst e;exact he rfl
     rw[this];exact⟨rfl,rfl,rfl⟩
   ·simp  at h;apply aC;simp(disch:=omega) ;apply aQ;clear aQ;apply ae;intro K h;simp(disch:=omega);apply h;clear h K;apply az;simp(disch:=omega) ;refine⟨?_,rfl,rfl⟩;have:a=b:=Fl 0 hl (fun j bR=>hj j (by omega));simp[this]
end Go.Proofs.YtneohapkboaplaaGreat
namespace dh
def iM {β:Type}(fA fB fAB:β→Int→β):Nat→List Int→List Int→β→β
 |0,_,_,o=>o
 |n+1,x::a,y::b,o=>if x<y then iM fA fB fAB n a (y::b) (fA o x) else if y<x then iM fA fB fAB n (x::a) b (fB o y) else iM fA fB fAB n a b (fAB o x)
 |n+1,x::a,[],o=>iM fA fB fAB n a [] (fA o x)
 |n+1,[],y::b,o=>iM fA fB fAB n [] b (fB o y)
 |_+1,[],[],o=>o
def kU (l:List Int):Prop:=l.Pairwise (·<·)
theorem kE {x:Int}{l:List Int}(h:kU (x::l)):kU l∧∀y∈l,x<y:=⟨(List.pairwise_cons.1 h).2,(List.pairwise_cons.1 h).1⟩
def snoc (o:List Int)(x:Int):List Int:=o++[x]
theorem tP (kA kB Iw:Bool):∀(n:Nat)(a b o:List Int),a.length+b.length≤n→kU a→kU b→
  iM (fun o x=>if kA then o++[x] else o) (fun o x=>if kB then o++[x] else o) (fun o x=>if Iw then o++[x] else o) n a b o =
   o++iM (fun o x=>if kA then o++[x] else o) (fun o x=>if kB then o++[x] else o) (fun o x=>if Iw then o++[x] else o) n a b []∧
  (∀z,z∈iM (fun o x=>if kA then o++[x] else o) (fun o x=>if kB then o++[x] else o) (fun o x=>if Iw then o++[x] else o) n a b []↔
   (z∈a∧z∉b∧kA=true)∨(z∈b∧z∉a∧kB=true)∨(z∈a∧z∈b∧Iw=true))∧
  kU (iM (fun o x=>if kA then o++[x] else o) (fun o x=>if kB then o++[x] else o) (fun o x=>if Iw then o++[x] else o) n a b []):=by
 intro n
 induction n with
 |zero=>
  intro a b o h _ _;have ha:a=[]:=List.eq_nil_of_length_eq_zero (by omega);have hb:b=[]:=List.eq_nil_of_length_eq_zero (by omega);subst ha;subst hb;exact⟨by simp[iM],by simp[iM],List.Pairwise.nil⟩
 |succ n ih=>
  intro a b o h ha hb;have put:∀(k:Bool)(x:Int)(a' b' o:List Int),a'.length+b'.length≤n→kU a'→kU b'→(∀z,z∈a'→x<z)→(∀z,z∈b'→x<z)→
    iM (fun o x=>if kA then o++[x] else o) (fun o x=>if kB then o++[x] else o) (fun o x=>if Iw then o++[x] else o) n a' b' (if k then o++[x] else o) =
     o++iM (fun o x=>if kA then o++[x] else o) (fun o x=>if kB then o++[x] else o) (fun o x=>if Iw then o++[x] else o) n a' b' (if k then ([]:List Int)++[x] else [])∧
    (∀z,z∈iM (fun o x=>if kA then o++[x] else o) (fun o x=>if kB then o++[x] else o) (fun o x=>if Iw then o++[x] else o) n a' b' (if k then ([]:List Int)++[x] else [])↔
     (z=x∧k=true)∨(z∈a'∧z∉b'∧kA=true)∨(z∈b'∧z∉a'∧kB=true)∨(z∈a'∧z∈b'∧Iw=true))∧
    kU (iM (fun o x=>if kA then o++[x] else o) (fun o x=>if kB then o++[x] else o) (fun o x=>if Iw then o++[x] else o) n a' b' (if k then ([]:List Int)++[x] else [])):=by
   intro k x a' b' o h' ZD vN Oy hxb;obtain⟨i1,i2,i3⟩:=ih a' b' [] h' ZD vN;have j1:=fun o=>(ih a' b' o h' ZD vN).1;rw[j1 (if k then o++[x] else o),j1 (if k then ([]:List Int)++[x] else [])];generalize iM (fun o x=>if kA then o++[x] else o) (fun o x=>if kB then o++[x] else o) (fun o x=>if Iw then o++[x] else o) n a' b' []=m at *;refine⟨?_,fun z=>?_,?_⟩
   ·cases k<;>simp
   ·rw[List.mem_append,i2]
    cases k<;>simp
   ·cases k
    ·simpa using i3
    ·simp only[if_true,List.nil_append,List.cons_append];refine List.pairwise_cons.2 ⟨fun z hz=>?_,i3⟩;rcases (i2 z).1 hz with⟨h1,_⟩|⟨h1,_⟩|⟨h1,_⟩
     ·exact Oy z h1
     ·exact hxb z h1
     ·exact Oy z h1
  cases a with
  |nil=>
   cases b with
   |nil=>exact⟨by simp[iM],by simp[iM],List.Pairwise.nil⟩
   |cons y b=>
    obtain⟨h1,h2⟩:=kE hb;obtain⟨p1,p2,p3⟩:=put kB y [] b o (by simp at h ⊢;omega) List.Pairwise.nil h1 (fun z hz=>by simp at hz) h2;refine⟨p1,fun z=>?_,p3⟩;rw[iM,p2];simp
    by_cases e:z=y<;>simp[e]
  |cons x a=>
   obtain⟨h1,h2⟩:=kE ha
   cases b with
   |nil=>
    obtain⟨p1,p2,p3⟩:=put kA x a [] o (by simp at h ⊢;omega) h1 List.Pairwise.nil h2 (fun z hz=>by simp at hz);refine⟨p1,fun z=>?_,p3⟩;rw[iM,p2];simp
    by_cases e:z=x<;>simp[e]
   |cons y b=>
    obtain⟨h3,h4⟩:=kE hb;simp only[List.length_cons] at h
    by_cases c1:x<y
    ·have Si:∀z,z∈y::b→x<z:=fun z hz=>by
      rcases List.mem_cons.1 hz with rfl|hz
      ·exact c1
      ·have:=h4 z hz;omega
     obtain⟨p1,p2,p3⟩:=put kA x a (y::b) o (by simp;omega) h1 hb h2 Si;rw[iM,if_pos c1,iM,if_pos c1];refine⟨p1,fun z=>?_,p3⟩;rw[p2]
     by_cases e:z=x
     ·subst e;have n1:z∉a:=fun hz=>by have:=h2 z hz;omega
      have n2:z∉y::b:=fun hz=>by have:=Si z hz;omega
      simp[n1,n2]
     ·simp[e]
    ·by_cases c2:y<x
     ·have Oy:∀z,z∈x::a→y<z:=fun z hz=>by
       rcases List.mem_cons.1 hz with rfl|hz
       ·exact c2
       ·have:=h2 z hz;omega
      obtain⟨p1,p2,p3⟩:=put kB y (x::a) b o (by simp;omega) ha h3 Oy h4;rw[iM,if_neg c1,if_pos c2,iM,if_neg c1,if_pos c2];refine⟨p1,fun z=>?_,p3⟩;rw[p2]
      by_cases e:z=y
      ·subst e;have n1:z∉b:=fun hz=>by have:=h4 z hz;omega
       have n2:z∉x::a:=fun hz=>by have:=Oy z hz;omega
       simp[n1,n2]
      ·simp[e]
     ·have e0:x=y:=by omega
      subst e0;obtain⟨p1,p2,p3⟩:=put Iw x a b o (by omega) h1 h3 h2 h4;rw[iM,if_neg c1,if_neg c2,iM,if_neg c1,if_neg c2];refine⟨p1,fun z=>?_,p3⟩;rw[p2]
      by_cases e:z=x
      ·subst e;have n1:z∉a:=fun hz=>by have:=h2 z hz;omega
       have n2:z∉b:=fun hz=>by have:=h4 z hz;omega
       simp[n1,n2]
      ·simp[e]
theorem lj:∀(a b:List Int),kU a→kU b→(∀z,z∈a↔z∈b)→a=b:=by
 intro a
 induction a with
 |nil=>
  intro b _ _ h
  cases b with
  |nil=>rfl
  |cons y b=>have:=(h y).2 (by simp);simp at this
 |cons x a ih=>
  intro b ha hb h
  cases b with
  |nil=>have:=(h x).1 (by simp);simp at this
  |cons y b=>
   obtain⟨h1,h2⟩:=kE ha;obtain⟨h3,h4⟩:=kE hb;have e:x=y:=by
    have g1:=(h x).1 (by simp);have g2:=(h y).2 (by simp);rcases List.mem_cons.1 g1 with g1|g1
    ·exact g1
    ·rcases List.mem_cons.1 g2 with g2|g2
     ·exact g2.symm
     ·have:=h4 x g1;have:=h2 y g2;omega
   subst e
   congr 1
   refine ih b h1 h3 (fun z=>?_);have:=h z
   constructor
   ·intro hz;have dA:z≠x:=by have:=h2 z hz;omega
    rcases List.mem_cons.1 (this.1 (by simp[hz])) with e|e
    ·exact absurd e dA
    ·exact e
   ·intro hz;have dA:z≠x:=by have:=h4 z hz;omega
    rcases List.mem_cons.1 (this.2 (by simp[hz])) with e|e
    ·exact absurd e dA
    ·exact e
end dh
namespace Go.Proofs.YtneohapkboaplaaGreat
open Go Go.Am
def qo (out:List Int)(tk:Nat):AV:=if out=[] then .sl 0 [] .full else .sl out.length (ints out) (.own tk)
def SH (H:List aA)(g:Nat)(out:List Int)(tk:Nat):List aA:=H++[.cells [.fn g [] []],.cells [qo out tk]]
def ST (T:ar)(out:List Int):ar:=if out=[] then T else T++[(out.length,1)]
theorem cX (l:List Int)(x:Int):ints l++[.int .i64 x]=ints (l++[x]):=by simp[ints]
attribute [-simp] getD_eq_getElem?_getD in
theorem dx (n:Int)(H:List aA)(T:ar):aq Tryz.prog 164 [.int .i64 n] H T (Is (.int .i64 n) H T):=by
 refine aj 3 [] Tryz.ntmps164 Tryz.func164 rfl (fun _ _=>Tryz.call164 _ _) (by simp) (fun HO=>?_);apply ae;intro K h;simp(disch:=omega);apply h;clear h K;apply ae;intro K h;simp(disch:=omega);apply h;clear h K;apply az;simp(disch:=omega) ;exact⟨rfl,rfl,rfl⟩
attribute [-simp] getD_eq_getElem?_getD in
theorem Ol (p q:Bool)(H:List aA)(T:ar):aq Tryz.prog 161 [.bool p,.bool q] H T (Is (.bool (p&&q)) H T):=by
 refine aj 5 [] Tryz.ntmps161 Tryz.func161 rfl (fun _ _=>Tryz.call161 _ _) (by simp) (fun HO=>?_);apply ae;intro K h;simp(disch:=omega);apply h;clear h K
 cases p
 ·apply ae;intro K h;simp(disch:=omega);apply h;clear h K;apply az;simp(disch:=omega) ;exact⟨rfl,rfl,rfl⟩
 ·apply ae;intro K h;simp(disch:=omega);apply h;clear h K;apply az;simp(disch:=omega) ;exact⟨rfl,rfl,rfl⟩
attribute [-simp] getD_eq_getElem?_getD in
theorem BE (p q:Bool)(H:List aA)(T:ar):aq Tryz.prog 198 [.bool p,.bool q] H T (Is (.bool (!q)) H T):=by
 refine aj 5 [] Tryz.ntmps198 Tryz.func198 rfl (fun _ _=>Tryz.call198 _ _) (by simp) (fun HO=>?_);apply ae;intro K h;simp(disch:=omega);apply h;clear h K;apply ae;intro K h;simp(disch:=omega);apply h;clear h K;apply az;simp(disch:=omega) ;exact⟨rfl,rfl,rfl⟩
attribute [-simp] getD_eq_getElem?_getD in
theorem Bk (g:Nat)(kf:Bool→Bool→Bool)(hg:∀p q H T,aq Tryz.prog g [.bool p,.bool q] H T (Is (.bool (kf p q)) H T))(out:List Int)(ho:out.length≤1000)(a:List Int)(i:Nat)(hi:i<a.length)(ha:a.length≤1000)(H:List aA)(T:ar) :
  aq Tryz.prog 166 [.dK (ints a) i,.fc,.ptr H.length 0,.ptr (H.length+1) 0] (SH H g out T.length) (ST T out) (Is (.df []) (SH H g (if kf true false then out++[a.getD i 0] else out) T.length) (ST T (if kf true false then out++[a.getD i 0] else out))):=by
 have IF:=aS (xs:=a) (k:=i) (by omega);have dA:out++[a.getD i 0]≠[]:=by simp
 have pG:=cX out (a.getD i 0)
 cases OA:kf true false
 ·rw[if_neg (by decide)];have hc:=fun H T=>hg true false H T;rw[OA] at hc;simp only[SH];generalize qo out T.length=ob;generalize ST T out=TT;refine aj 7 [] Tryz.ntmps166 Tryz.func166 rfl (fun _ _=>Tryz.call166 _ _) (by simp) (fun HO=>?_);apply ae;intro K h;simp(disch:=omega);apply h;clear h K;refine af fun K1 aQ=>?_;apply ae;intro K h;simp(disch:=omega);apply h;clear h K;apply aD rfl;apply ai;simp(disch:=omega) ;apply aQ;clear aQ;refine ae fun K hK=>?_;simp(disch:=omega) ;refine ak (hc _ _) ?_;simp(disch:=omega) ;apply hK;clear hK K;apply aD rfl;apply ai;simp(disch:=omega) ;exact⟨rfl,rfl,rfl⟩
 ·rw[if_pos rfl];have hc:=fun H T=>hg true false H T;rw[OA] at hc
  by_cases h0:out=[]
  ·subst h0;have e1:SH H g [] T.length=H++[.cells [.fn g [] []],.cells [.sl 0 [] .full]]:=rfl;have e2:SH H g ([]++[a.getD i 0]) T.length=H++[.cells [.fn g [] []],.cells [.sl 1 [.int .i64 (a.getD i 0)] (.own T.length)]]:=rfl;have e3:ST T []=T:=rfl;have e4:ST T ([]++[a.getD i 0])=T++[(1,1)]:=rfl;rw[e1,e2,e3,e4];refine aj 7 [] Tryz.ntmps166 Tryz.func166 rfl (fun _ _=>Tryz.call166 _ _) (by simp) (fun HO=>?_);apply ae;intro K h;simp(disch:=omega);apply h;clear h K;refine af fun K1 aQ=>?_;apply ae;intro K h;simp(disch:=omega);apply h;clear h K;apply aD rfl;apply ai;simp(disch:=omega) ;apply aQ;clear aQ;refine ae fun K hK=>?_;simp(disch:=omega) ;refine ak (hc _ _) ?_;simp(disch:=omega) ;apply hK;clear hK K;apply aF rfl;refine bZ [5,6] [0,0,0,0,0,0,1] [[],[]] al (by kernel_rfl) (by kernel_rfl) fun K hK=>?_;simp(disch:=omega)[IF];apply hK;clear hK K;exact⟨rfl,rfl,rfl⟩
  ·have e1:SH H g out T.length=H++[.cells [.fn g [] []],.cells [.sl out.length (ints out) (.own T.length)]]:=by simp[SH,qo,h0]
   have e2:SH H g (out++[a.getD i 0]) T.length=H++[.cells [.fn g [] []],.cells [.sl (out.length+1) (ints (out++[a.getD i 0])) (.own T.length)]]:=by simp[SH,qo]
   have e3:ST T out=T++[(out.length,1)]:=by simp[ST,h0]
   have e4:ST T (out++[a.getD i 0])=T++[(out.length+1,1)]:=by simp[ST]
   rw[e1,e2,e3,e4];refine aj 7 [] Tryz.ntmps166 Tryz.func166 rfl (fun _ _=>Tryz.call166 _ _) (by simp) (fun HO=>?_);apply ae;intro K h;simp(disch:=omega);apply h;clear h K;refine af fun K1 aQ=>?_;apply ae;intro K h;simp(disch:=omega);apply h;clear h K;apply aD rfl;apply ai;simp(disch:=omega) ;apply aQ;clear aQ;refine ae fun K hK=>?_;simp(disch:=omega) ;refine ak (hc _ _) ?_;simp(disch:=omega) ;apply hK;clear hK K;apply aF rfl;refine bZ [5,6] [0,0,0,0,0,0,1] [[],[]] al (by kernel_rfl) (by kernel_rfl) fun K hK=>?_;simp(disch:=omega)[IF,pG];apply hK;clear hK K;exact⟨rfl,rfl,rfl⟩
attribute [-simp] getD_eq_getElem?_getD in
theorem Bj (g:Nat)(kf:Bool→Bool→Bool)(hg:∀p q H T,aq Tryz.prog g [.bool p,.bool q] H T (Is (.bool (kf p q)) H T))(out:List Int)(ho:out.length≤1000)(b:List Int)(j:Nat)(hj:j<b.length)(hb:b.length≤1000)(H:List aA)(T:ar) :
  aq Tryz.prog 166 [.fc,.dK (ints b) j,.ptr H.length 0,.ptr (H.length+1) 0] (SH H g out T.length) (ST T out) (Is (.df []) (SH H g (if kf false true then out++[b.getD j 0] else out) T.length) (ST T (if kf false true then out++[b.getD j 0] else out))):=by
 have IF:=aS (xs:=b) (k:=j) (by omega);have dA:out++[b.getD j 0]≠[]:=by simp
 have pG:=cX out (b.getD j 0)
 cases OA:kf false true
 ·rw[if_neg (by decide)];have hc:=fun H T=>hg false true H T;rw[OA] at hc;simp only[SH];generalize qo out T.length=ob;generalize ST T out=TT;refine aj 7 [] Tryz.ntmps166 Tryz.func166 rfl (fun _ _=>Tryz.call166 _ _) (by simp) (fun HO=>?_);apply ae;intro K h;simp(disch:=omega);apply h;clear h K;refine af fun K1 aQ=>?_;apply ae;intro K h;simp(disch:=omega);apply h;clear h K;apply aF rfl;refine au fun K hK=>?_;simp(disch:=omega) ;apply hK;clear hK K;apply aQ;clear aQ;refine ae fun K hK=>?_;simp(disch:=omega) ;refine ak (hc _ _) ?_;simp(disch:=omega) ;apply hK;clear hK K;apply aD rfl;apply ai;simp(disch:=omega) ;exact⟨rfl,rfl,rfl⟩
 ·rw[if_pos rfl];have hc:=fun H T=>hg false true H T;rw[OA] at hc
  by_cases h0:out=[]
  ·subst h0;have e1:SH H g [] T.length=H++[.cells [.fn g [] []],.cells [.sl 0 [] .full]]:=rfl;have e2:SH H g ([]++[b.getD j 0]) T.length=H++[.cells [.fn g [] []],.cells [.sl 1 [.int .i64 (b.getD j 0)] (.own T.length)]]:=rfl;have e3:ST T []=T:=rfl;have e4:ST T ([]++[b.getD j 0])=T++[(1,1)]:=rfl;rw[e1,e2,e3,e4];refine aj 7 [] Tryz.ntmps166 Tryz.func166 rfl (fun _ _=>Tryz.call166 _ _) (by simp) (fun HO=>?_);apply ae;intro K h;simp(disch:=omega);apply h;clear h K;refine af fun K1 aQ=>?_;apply ae;intro K h;simp(disch:=omega);apply h;clear h K;apply aF rfl;refine au fun K hK=>?_;simp(disch:=omega) ;apply hK;clear hK K;apply aQ;clear aQ;refine ae fun K hK=>?_;simp(disch:=omega) ;refine ak (hc _ _) ?_;simp(disch:=omega) ;apply hK;clear hK K;apply aF rfl;refine bZ [5,6] [0,0,0,0,0,0,1] [[],[]] al (by kernel_rfl) (by kernel_rfl) fun K hK=>?_;simp(disch:=omega)[IF];apply hK;clear hK K;exact⟨rfl,rfl,rfl⟩
  ·have e1:SH H g out T.length=H++[.cells [.fn g [] []],.cells [.sl out.length (ints out) (.own T.length)]]:=by simp[SH,qo,h0]
   have e2:SH H g (out++[b.getD j 0]) T.length=H++[.cells [.fn g [] []],.cells [.sl (out.length+1) (ints (out++[b.getD j 0])) (.own T.length)]]:=by simp[SH,qo]
   have e3:ST T out=T++[(out.length,1)]:=by simp[ST,h0]
   have e4:ST T (out++[b.getD j 0])=T++[(out.length+1,1)]:=by simp[ST]
   rw[e1,e2,e3,e4];refine aj 7 [] Tryz.ntmps166 Tryz.func166 rfl (fun _ _=>Tryz.call166 _ _) (by simp) (fun HO=>?_);apply ae;intro K h;simp(disch:=omega);apply h;clear h K;refine af fun K1 aQ=>?_;apply ae;intro K h;simp(disch:=omega);apply h;clear h K;apply aF rfl;refine au fun K hK=>?_;simp(disch:=omega) ;apply hK;clear hK K;apply aQ;clear aQ;refine ae fun K hK=>?_;simp(disch:=omega) ;refine ak (hc _ _) ?_;simp(disch:=omega) ;apply hK;clear hK K;apply aF rfl;refine bZ [5,6] [0,0,0,0,0,0,1] [[],[]] al (by kernel_rfl) (by kernel_rfl) fun K hK=>?_;simp(disch:=omega)[IF,pG];apply hK;clear hK K;exact⟨rfl,rfl,rfl⟩
attribute [-simp] getD_eq_getElem?_getD in
theorem Ic (g:Nat)(kf:Bool→Bool→Bool)(hg:∀p q H T,aq Tryz.prog g [.bool p,.bool q] H T (Is (.bool (kf p q)) H T))(out:List Int)(ho:out.length≤1000)(a:List Int)(i:Nat)(hi:i<a.length)(ha:a.length≤1000)(b:List Int)(j:Nat)(H:List aA)(T:ar) :
  aq Tryz.prog 166 [.dK (ints a) i,.dK (ints b) j,.ptr H.length 0,.ptr (H.length+1) 0] (SH H g out T.length) (ST T out) (Is (.df []) (SH H g (if kf true true then out++[a.getD i 0] else out) T.length) (ST T (if kf true true then out++[a.getD i 0] else out))):=by
 have IF:=aS (xs:=a) (k:=i) (by omega);have dA:out++[a.getD i 0]≠[]:=by simp
 have pG:=cX out (a.getD i 0)
 cases OA:kf true true
 ·rw[if_neg (by decide)];have hc:=fun H T=>hg true true H T;rw[OA] at hc;simp only[SH];generalize qo out T.length=ob;generalize ST T out=TT;refine aj 7 [] Tryz.ntmps166 Tryz.func166 rfl (fun _ _=>Tryz.call166 _ _) (by simp) (fun HO=>?_);apply ae;intro K h;simp(disch:=omega);apply h;clear h K;refine af fun K1 aQ=>?_;apply ae;intro K h;simp(disch:=omega);apply h;clear h K;apply aD rfl;apply ai;simp(disch:=omega) ;apply aQ;clear aQ;refine ae fun K hK=>?_;simp(disch:=omega) ;refine ak (hc _ _) ?_;simp(disch:=omega) ;apply hK;clear hK K;apply aD rfl;apply ai;simp(disch:=omega) ;exact⟨rfl,rfl,rfl⟩
 ·rw[if_pos rfl];have hc:=fun H T=>hg true true H T;rw[OA] at hc
  by_cases h0:out=[]
  ·subst h0;have e1:SH H g [] T.length=H++[.cells [.fn g [] []],.cells [.sl 0 [] .full]]:=rfl;have e2:SH H g ([]++[a.getD i 0]) T.length=H++[.cells [.fn g [] []],.cells [.sl 1 [.int .i64 (a.getD i 0)] (.own T.length)]]:=rfl;have e3:ST T []=T:=rfl;have e4:ST T ([]++[a.getD i 0])=T++[(1,1)]:=rfl;rw[e1,e2,e3,e4];refine aj 7 [] Tryz.ntmps166 Tryz.func166 rfl (fun _ _=>Tryz.call166 _ _) (by simp) (fun HO=>?_);apply ae;intro K h;simp(disch:=omega);apply h;clear h K;refine af fun K1 aQ=>?_;apply ae;intro K h;simp(disch:=omega);apply h;clear h K;apply aD rfl;apply ai;simp(disch:=omega) ;apply aQ;clear aQ;refine ae fun K hK=>?_;simp(disch:=omega) ;refine ak (hc _ _) ?_;simp(disch:=omega) ;apply hK;clear hK K;apply aF rfl;refine bZ [5,6] [0,0,0,0,0,0,1] [[],[]] al (by kernel_rfl) (by kernel_rfl) fun K hK=>?_;simp(disch:=omega)[IF];apply hK;clear hK K;exact⟨rfl,rfl,rfl⟩
  ·have e1:SH H g out T.length=H++[.cells [.fn g [] []],.cells [.sl out.length (ints out) (.own T.length)]]:=by simp[SH,qo,h0]
   have e2:SH H g (out++[a.getD i 0]) T.length=H++[.cells [.fn g [] []],.cells [.sl (out.length+1) (ints (out++[a.getD i 0])) (.own T.length)]]:=by simp[SH,qo]
   have e3:ST T out=T++[(out.length,1)]:=by simp[ST,h0]
   have e4:ST T (out++[a.getD i 0])=T++[(out.length+1,1)]:=by simp[ST]
   rw[e1,e2,e3,e4];refine aj 7 [] Tryz.ntmps166 Tryz.func166 rfl (fun _ _=>Tryz.call166 _ _) (by simp) (fun HO=>?_);apply ae;intro K h;simp(disch:=omega);apply h;clear h K;refine af fun K1 aQ=>?_;apply ae;intro K h;simp(disch:=omega);apply h;clear h K;apply aD rfl;apply ai;simp(disch:=omega) ;apply aQ;clear aQ;refine ae fun K hK=>?_;simp(disch:=omega) ;refine ak (hc _ _) ?_;simp(disch:=omega) ;apply hK;clear hK K;apply aF rfl;refine bZ [5,6] [0,0,0,0,0,0,1] [[],[]] al (by kernel_rfl) (by kernel_rfl) fun K hK=>?_;simp(disch:=omega)[IF,pG];apply hK;clear hK K;exact⟨rfl,rfl,rfl⟩
open dh
theorem cV (l:List Int)(i:Nat)(h:i<l.length):l.drop i=l.getD i 0::l.drop (i+1):=by
 rw[List.drop_eq_getElem_cons h,getD_eq_getElem?_getD,getElem?_eq_getElem h];rfl
def MG (kf:Bool→Bool→Bool)(a b:List Int)(n i j:Nat)(o:List Int):List Int:=
 iM (fun o x=>if kf true false then o++[x] else o) (fun o x=>if kf false true then o++[x] else o) (fun o x=>if kf true true then o++[x] else o) n (a.drop i) (b.drop j) o
section
variable {kf : Bool → Bool → Bool} {a b o : List Int} {n i j : Nat}
theorem aa7 (hn:0<n)(hi:i<a.length)(hj:j<b.length)(h:a.getD i 0<b.getD j 0):MG kf a b n i j o=MG kf a b (n-1) (i+1) j (if kf true false then o++[a.getD i 0] else o):=by
 obtain⟨m,rfl⟩:∃m,n=m+1:=⟨n-1,by omega⟩
 unfold MG;rw[cV a i hi,cV b j hj,iM,if_pos h];rfl
theorem aa6 (hn:0<n)(hi:i<a.length)(hj:j<b.length)(h:¬a.getD i 0<b.getD j 0)(h2:b.getD j 0<a.getD i 0):MG kf a b n i j o=MG kf a b (n-1) i (j+1) (if kf false true then o++[b.getD j 0] else o):=by
 obtain⟨m,rfl⟩:∃m,n=m+1:=⟨n-1,by omega⟩
 unfold MG;rw[cV a i hi,cV b j hj,iM,if_neg h,if_pos h2];rfl
theorem UM (hn:0<n)(hi:i<a.length)(hj:j<b.length)(h:¬a.getD i 0<b.getD j 0)(h2:¬b.getD j 0<a.getD i 0):MG kf a b n i j o=MG kf a b (n-1) (i+1) (j+1) (if kf true true then o++[a.getD i 0] else o):=by
 obtain⟨m,rfl⟩:∃m,n=m+1:=⟨n-1,by omega⟩
 unfold MG;rw[cV a i hi,cV b j hj,iM,if_neg h,if_neg h2];rfl
theorem UN (hn:0<n)(hi:i<a.length)(hj:j=b.length):MG kf a b n i j o=MG kf a b (n-1) (i+1) j (if kf true false then o++[a.getD i 0] else o):=by
 obtain⟨m,rfl⟩:∃m,n=m+1:=⟨n-1,by omega⟩
 unfold MG;rw[cV a i hi,hj,drop_length,iM];rfl
theorem UL (hn:0<n)(hi:i=a.length)(hj:j<b.length):MG kf a b n i j o=MG kf a b (n-1) i (j+1) (if kf false true then o++[b.getD j 0] else o):=by
 obtain⟨m,rfl⟩:∃m,n=m+1:=⟨n-1,by omega⟩
 unfold MG;rw[cV b j hj,hi,drop_length,iM];rfl
theorem Q3 (hi:i=a.length)(hj:j=b.length):MG kf a b n i j o=o:=by
 unfold MG;rw[hi,hj,drop_length,drop_length]
 cases n<;>rfl
end
theorem jy (H:List aA)(g:Nat)(out:List Int)(tk:Nat):(SH H g out tk).length=H.length+2:=by simp[SH]
theorem p9 (T:ar)(out:List Int):T.length≤(ST T out).length:=by unfold ST;split<;>simp
theorem rL {H:List aA}{T:ar}(h:bC H T)(g:Nat)(out:List Int):bC (SH H g out T.length) (ST T out):=by
 have e:SH H g out T.length=(H++[.cells [.fn g [] []]])++[.cells [qo out T.length]]:=by simp[SH]
 rw[e];refine bC.snoc (bC.snoc (h.fQ (p9 T out)) (by simp)) ?_;unfold qo ST
 split
 ·simp
 ·simp
theorem uE (k:Bool)(o:List Int)(x:Int)(m:Nat)(h:o.length+1≤m):(if k=true then o++[x] else o).length≤m:=by
 split
 ·simp only[List.length_append,List.length_cons,List.length_nil];omega
 ·omega
attribute [-simp] getD_eq_getElem?_getD in
theorem Hy (g:Nat)(kf:Bool→Bool→Bool)(hg:∀p q H T,aq Tryz.prog g [.bool p,.bool q] H T (Is (.bool (kf p q)) H T))(a b:List Int)(ha:a.length≤400)(hb:b.length≤400)(H:List aA)(T:ar)(HO0:bC H T) :
  aq Tryz.prog 163 [.sl a.length (ints a) .none,.sl b.length (ints b) .none,.fn 164 [] [],.fn 166 [] [.ptr H.length 0,.ptr (H.length+1) 0]] (SH H g [] T.length) T
   (Is (.df []) (SH H g (MG kf a b (a.length+b.length) 0 0 []) T.length) (ST T (MG kf a b (a.length+b.length) 0 0 []))):=by
 have e0:ST T []=T:=rfl;refine aj 11 [] Tryz.ntmps163 Tryz.func163 rfl (fun _ _=>Tryz.call163 _ _) (by simp) (fun HO=>?_);clear HO;have HO:=HO0;apply ae;intro K h;simp(disch:=omega);apply h;clear h K;apply ah;refine aG (X:=Nat×Nat×Nat×List Int) (fun x=>⟨[(0,.sl a.length (ints a) .none),(1,.sl b.length (ints b) .none),(2,.fn 164 [] []),(3,.fn 166 [] [.ptr H.length 0,.ptr (H.length+1) 0]),(8,.int .i64 (x.2.1:Nat)),(9,.int .i64 (x.2.2.1:Nat))],SH H g x.2.2.2 T.length,ST T x.2.2.2⟩)
  (fun x=>x.2.1≤a.length∧x.2.2.1≤b.length∧(a.length-x.2.1)+(b.length-x.2.2.1)≤x.1∧MG kf a b (a.length+b.length) 0 0 []=MG kf a b x.1 x.2.1 x.2.2.1 x.2.2.2∧x.2.2.2.length≤x.2.1+x.2.2.1) (fun x=>x.1) (a.length+b.length,0,0,[]) ?_ ?_ ?_
 ·exact⟨zero_le _,zero_le _,by simp only;omega,rfl,zero_le _⟩
 ·refine ag [] [] ?_ ?_ ?_ ?_ (rL HO g _) ?_
  ·simp
  ·simp[e0]
  ·simp[jy]
  ·exact p9 T _
  ·simp[jy]
 ·rintro⟨n,i,j,out⟩ ⟨h1,h2,h3,h4,h5⟩;simp only at h1 h2 h3 h4 h5
  by_cases hi:i<a.length
  ·have bi:decide ((i:Int)<a.length)=true:=by simp;omega
   have ni:((i:Int)==a.length)=false:=by rw[beq_eq_false_iff_ne];omega
   have Ow:¬i=a.length:=by omega
   by_cases hj:j<b.length
   ·have bj:decide ((j:Int)<b.length)=true:=by simp;omega
    have nj:((j:Int)==b.length)=false:=by rw[beq_eq_false_iff_ne];omega
    have Em:¬j=b.length:=by omega
    have hn:0<n:=by omega
    refine af fun K2 aW=>?_;refine ae fun K hK=>?_;simp(disch:=omega)[bi,bj,hi,hj];apply hK;clear hK K;apply aF rfl;apply ai;simp(disch:=omega) ;apply aW;clear aW;apply ah;apply ah
    by_cases c1:a.getD i 0<b.getD j 0
    ·have b1:decide (a.getD i 0<b.getD j 0)=true:=by simpa using c1
     have eM:=aa7 (kf:=kf) (o:=out) hn hi hj c1;refine aI [] [] [] al (by kernel_rfl) (by kernel_rfl) fun K hK=>?_;simp(disch:=omega)[bi,hi,nj,Em,aS];refine aB (dx _ _ _) rfl ?_;simp(disch:=omega)[aS];refine aB (dx _ _ _) rfl ?_;simp(disch:=omega)[b1,c1];apply hK;clear hK K;apply aF rfl;refine ae fun K hK=>?_;simp(disch:=omega) ;refine ak (Bk g kf hg out (by omega) a i hi (by omega) H T) ?_;simp(disch:=omega) ;apply hK;clear hK K;refine au fun K hK=>?_;simp(disch:=omega) ;apply hK;clear hK K;refine⟨(n-1,i+1,j,if kf true false=true then out++[a.getD i 0] else out),⟨by show i+1≤a.length;omega,by show j≤b.length;omega,by show (a.length-(i+1))+(b.length-(j))≤n-1;omega,by rw[h4,eM],uE _ _ _ _ (by show out.length+1≤(i+1)+(j);omega)⟩,by show n-1<n;omega,?_⟩;refine ag [] [] ?_ ?_ ?_ ?_ (rL HO g _) ?_
     ·simp
     ·simp
     ·simp[jy]
     ·exact p9 T _
     ·simp[jy]
      try omega
    ·have b1:decide (a.getD i 0<b.getD j 0)=false:=by simpa using c1
     refine aI [] [] [] al (by kernel_rfl) (by kernel_rfl) fun K hK=>?_;simp(disch:=omega)[bi,hi,nj,Em,aS];refine aB (dx _ _ _) rfl ?_;simp(disch:=omega)[aS];refine aB (dx _ _ _) rfl ?_;simp(disch:=omega)[b1,c1];apply hK;clear hK K;apply aD rfl
     by_cases c2:b.getD j 0<a.getD i 0
     ·have b2:decide (b.getD j 0<a.getD i 0)=true:=by simpa using c2
      have eM:=aa6 (kf:=kf) (o:=out) hn hi hj c1 c2;refine aI [] [] [] al (by kernel_rfl) (by kernel_rfl) fun K hK=>?_;simp(disch:=omega)[ni,Ow,aS];refine aB (dx _ _ _) rfl ?_;simp(disch:=omega)[aS];refine aB (dx _ _ _) rfl ?_;simp(disch:=omega)[b2,c2];apply hK;clear hK K;apply aF rfl;refine ae fun K hK=>?_;simp(disch:=omega) ;refine ak (Bj g kf hg out (by omega) b j hj (by omega) H T) ?_;simp(disch:=omega) ;apply hK;clear hK K;refine au fun K hK=>?_;simp(disch:=omega) ;apply hK;clear hK K;refine⟨(n-1,i,j+1,if kf false true=true then out++[b.getD j 0] else out),⟨by show i≤a.length;omega,by show j+1≤b.length;omega,by show (a.length-(i))+(b.length-(j+1))≤n-1;omega,by rw[h4,eM],uE _ _ _ _ (by show out.length+1≤(i)+(j+1);omega)⟩,by show n-1<n;omega,?_⟩;refine ag [] [] ?_ ?_ ?_ ?_ (rL HO g _) ?_
      ·simp
      ·simp
      ·simp[jy]
      ·exact p9 T _
      ·simp[jy]
       try omega
     ·have b2:decide (b.getD j 0<a.getD i 0)=false:=by simpa using c2
      have eM:=UM (kf:=kf) (o:=out) hn hi hj c1 c2;refine aI [] [] [] al (by kernel_rfl) (by kernel_rfl) fun K hK=>?_;simp(disch:=omega)[ni,Ow,aS];refine aB (dx _ _ _) rfl ?_;simp(disch:=omega)[aS];refine aB (dx _ _ _) rfl ?_;simp(disch:=omega)[b2,c2];apply hK;clear hK K;apply aD rfl;refine aI [7] [0,0,0,0,0,0,0,0] [[]] al (by kernel_rfl) (by kernel_rfl) fun K hK=>?_;simp(disch:=omega) ;refine oZ (Ic g kf hg out (by omega) a i hi (by omega) b j H T) rfl ?_;simp(disch:=omega) ;apply hK;clear hK K;refine au fun K hK=>?_;simp(disch:=omega) ;apply hK;clear hK K;refine⟨(n-1,i+1,j+1,if kf true true=true then out++[a.getD i 0] else out),⟨by show i+1≤a.length;omega,by show j+1≤b.length;omega,by show (a.length-(i+1))+(b.length-(j+1))≤n-1;omega,by rw[h4,eM],uE _ _ _ _ (by show out.length+1≤(i+1)+(j+1);omega)⟩,by show n-1<n;omega,?_⟩;refine ag [] [] ?_ ?_ ?_ ?_ (rL HO g _) ?_
      ·simp
      ·simp
      ·simp[jy]
      ·exact p9 T _
      ·simp[jy]
       try omega
   ·have bj:decide ((j:Int)<b.length)=false:=by simp;omega
    have OC:j=b.length:=by omega
    have nj:((j:Int)==b.length)=true:=by simp;omega
    have hn:0<n:=by omega
    have eM:=UN (kf:=kf) (o:=out) hn hi OC;refine af fun K2 aW=>?_;refine ae fun K hK=>?_;simp(disch:=omega)[bi,bj,hi,hj];apply hK;clear hK K;apply aF rfl;apply ai;simp(disch:=omega) ;apply aW;clear aW;apply ah;apply ah;have SB:(j:Int)=(b.length:Int):=by omega
    refine aI [] [] [] al (by kernel_rfl) (by kernel_rfl) fun K hK=>?_;simp(disch:=omega)[nj,SB];apply hK;clear hK K;apply aF rfl;refine ae fun K hK=>?_;simp(disch:=omega) ;refine ak (Bk g kf hg out (by omega) a i hi (by omega) H T) ?_;simp(disch:=omega) ;apply hK;clear hK K;refine au fun K hK=>?_;simp(disch:=omega) ;apply hK;clear hK K;refine⟨(n-1,i+1,j,if kf true false=true then out++[a.getD i 0] else out),⟨by show i+1≤a.length;omega,by show j≤b.length;omega,by show (a.length-(i+1))+(b.length-(j))≤n-1;omega,by rw[h4,eM],uE _ _ _ _ (by show out.length+1≤(i+1)+(j);omega)⟩,by show n-1<n;omega,?_⟩;refine ag [] [] ?_ ?_ ?_ ?_ (rL HO g _) ?_
    ·simp
    ·simp
    ·simp[jy]
    ·exact p9 T _
    ·simp[jy]
     try omega
  ·have bi:decide ((i:Int)<a.length)=false:=by simp;omega
   have mg:i=a.length:=by omega
   by_cases hj:j<b.length
   ·have bj:decide ((j:Int)<b.length)=true:=by simp;omega
    have nj:((j:Int)==b.length)=false:=by rw[beq_eq_false_iff_ne];omega
    have Em:¬j=b.length:=by omega
    have ni:((i:Int)==a.length)=true:=by simp;omega
    have hn:0<n:=by omega
    have eM:=UL (kf:=kf) (o:=out) hn mg hj;refine af fun K2 aW=>?_;refine ae fun K hK=>?_;simp(disch:=omega)[bi,bj,hi,hj];apply hK;clear hK K;apply aF rfl;apply ai;simp(disch:=omega) ;apply aW;clear aW;apply ah;apply ah;refine aI [] [] [] al (by kernel_rfl) (by kernel_rfl) fun K hK=>?_;simp(disch:=omega)[nj,Em,bi,hi];apply hK;clear hK K;apply aD rfl;have SC:(i:Int)=(a.length:Int):=by omega
    refine aI [] [] [] al (by kernel_rfl) (by kernel_rfl) fun K hK=>?_;simp(disch:=omega)[ni,SC];apply hK;clear hK K;apply aF rfl;refine ae fun K hK=>?_;simp(disch:=omega) ;refine ak (Bj g kf hg out (by omega) b j hj (by omega) H T) ?_;simp(disch:=omega) ;apply hK;clear hK K;refine au fun K hK=>?_;simp(disch:=omega) ;apply hK;clear hK K;refine⟨(n-1,i,j+1,if kf false true=true then out++[b.getD j 0] else out),⟨by show i≤a.length;omega,by show j+1≤b.length;omega,by show (a.length-(i))+(b.length-(j+1))≤n-1;omega,by rw[h4,eM],uE _ _ _ _ (by show out.length+1≤(i)+(j+1);omega)⟩,by show n-1<n;omega,?_⟩;refine ag [] [] ?_ ?_ ?_ ?_ (rL HO g _) ?_
    ·simp
    ·simp
    ·simp[jy]
    ·exact p9 T _
    ·simp[jy]
     try omega
   ·have bj:decide ((j:Int)<b.length)=false:=by simp;omega
    have zL:=Q3 (kf:=kf) (a:=a) (b:=b) (o:=out) (n:=n) mg (show j=b.length by omega);rw[zL] at h4;refine af fun K2 aW=>?_;refine ae fun K hK=>?_;simp(disch:=omega)[bi,bj,hi,hj];apply hK;clear hK K;apply aD rfl;apply aC;simp(disch:=omega) ;rw[h4];exact⟨rfl,rfl,rfl⟩
def comb (kf:Bool→Bool→Bool)(a b:List Int):List Int:=
 if ju a 1 1000000000=true∧ju b 1 1000000000=true then MG kf a b (a.length+b.length) 0 0 [] else []
attribute [-simp] getD_eq_getElem?_getD in
theorem vy (g:Nat)(kf:Bool→Bool→Bool)(hg:∀p q H T,aq Tryz.prog g [.bool p,.bool q] H T (Is (.bool (kf p q)) H T))(a b:List Int)(ha:a.length≤400)(hb:b.length≤400)(H:List aA)(T:ar)(ta tb:Tag) :
  aq Tryz.prog 115 [.sl a.length (ints a) ta,.sl b.length (ints b) tb,.fn g [] []] H T (Is (.sl (comb kf a b).length (ints (comb kf a b)) .none) H T):=by
 refine aq.cD (aq.lD ?_);refine aq.cH ?_ (by simp);have hY:400≤maxLen:=by decide
 refine aj 8 [] Tryz.ntmps115 Tryz.func115 rfl (fun _ _=>Tryz.call115 _ _) (by simp) (fun HO=>?_);apply ae;intro K h;simp(disch:=omega);apply h;clear h K;apply ae;intro K h;simp(disch:=omega);apply h;clear h K;refine af fun K1 aQ=>?_;have c1:=jS a (by omega) (H++[.cells [.fn g [] []],.cells [.sl 0 [] .full]]) T .none;have c2:=jS b (by omega) (H++[.cells [.fn g [] []],.cells [.sl 0 [] .full]]) T .none
 cases hv:ju a 1 1000000000
 ·rw[hv] at c1;refine ae fun K hK=>?_;simp(disch:=omega) ;refine ak (c1) ?_;simp(disch:=omega) ;apply hK;clear hK K;apply aF rfl;apply ae;intro K h;simp(disch:=omega);apply h;clear h K;apply az;simp(disch:=omega) ;simp[comb,hv,ints]
 ·rw[hv] at c1
  cases hw:ju b 1 1000000000
  ·rw[hw] at c2;refine ae fun K hK=>?_;simp(disch:=omega) ;refine ak (c1) ?_;simp(disch:=omega) ;refine ak (c2) ?_;simp(disch:=omega) ;apply hK;clear hK K;apply aF rfl;apply ae;intro K h;simp(disch:=omega);apply h;clear h K;apply az;simp(disch:=omega) ;simp[comb,hw,ints]
  ·rw[hw] at c2;have c3:=Hy g kf hg a b ha hb H T HO;have hr:comb kf a b=MG kf a b (a.length+b.length) 0 0 []:=by unfold comb;rw[if_pos ⟨hv,hw⟩]
   rw[←hr] at c3;have k1:(SH H g (comb kf a b) T.length)[H.length+1]?=some (.cells [qo (comb kf a b) T.length]):=JV _ _ 1;have hH:∃rH,SH H g (comb kf a b) T.length=H++rH:=⟨_,rfl⟩
   have hT:∃rT,ST T (comb kf a b)=T++rT:=by unfold ST;split;exact⟨[],by simp⟩;exact⟨_,rfl⟩
   refine ae fun K hK=>?_;simp(disch:=omega) ;refine ak (c1) ?_;simp(disch:=omega) ;refine ak (c2) ?_;simp(disch:=omega) ;apply hK;clear hK K;apply aD rfl;apply ai;simp(disch:=omega) ;apply aQ;clear aQ;refine ae fun K hK=>?_;simp(disch:=omega) ;refine ak (c3) ?_;simp(disch:=omega) ;apply hK;clear hK K;refine ae fun K hK=>?_;simp(disch:=omega)[k1];apply hK;clear hK K;apply az;simp(disch:=omega) ;generalize comb kf a b=r at *;refine⟨hH,hT,?_⟩;unfold qo
   by_cases h0:r=[]
   ·subst h0;simp[ints]
   ·simp[h0]
attribute [-simp] getD_eq_getElem?_getD in
theorem QW (a b:List Int)(ha:a.length≤400)(hb:b.length≤400)(H:List aA)(T:ar)(ta tb:Tag):aq Tryz.prog 105 [.sl a.length (ints a) ta,.sl b.length (ints b) tb] H T (Is (.sl (comb (fun p q=>p&&q) a b).length (ints (comb (fun p q=>p&&q) a b)) .none) H T):=by
 refine aq.cH ?_ (by simp);refine aj 5 [] Tryz.ntmps105 Tryz.func105 rfl (fun _ _=>Tryz.call105 _ _) (by simp) (fun HO=>?_);apply ae;intro K h;simp(disch:=omega);apply h;clear h K;refine ae fun K hK=>?_;simp(disch:=omega) ;refine ak (vy _ (fun p q=>p&&q) (fun p q H T=>Ol p q H T) a b ha hb H T _ _) ?_;simp(disch:=omega) ;apply hK;clear hK K;apply az;simp(disch:=omega) 
attribute [-simp] getD_eq_getElem?_getD in
theorem Dd (a b:List Int)(ha:a.length≤400)(hb:b.length≤400)(H:List aA)(T:ar)(ta tb:Tag):aq Tryz.prog 151 [.sl a.length (ints a) ta,.sl b.length (ints b) tb] H T (Is (.sl (comb (fun _ q=>!q) a b).length (ints (comb (fun _ q=>!q) a b)) .none) H T):=by
 refine aq.cH ?_ (by simp);refine aj 5 [] Tryz.ntmps151 Tryz.func151 rfl (fun _ _=>Tryz.call151 _ _) (by simp) (fun HO=>?_);apply ae;intro K h;simp(disch:=omega);apply h;clear h K;refine ae fun K hK=>?_;simp(disch:=omega) ;refine ak (vy _ (fun _ q=>!q) (fun p q H T=>BE p q H T) a b ha hb H T _ _) ?_;simp(disch:=omega) ;apply hK;clear hK K;apply az;simp(disch:=omega) 
theorem gI {l:List Int}{lo hi:Int}(h:ju l lo hi=true):kU l:=by
 unfold ju at h;rw[List.all_eq_true] at h;have h1:∀k,k+1<l.length→l.getD k 0<l.getD (k+1) 0:=by
  intro k hk;have:=h (k+1) (by simpa using hk);unfold fU at this;simp only[Bool.and_eq_true,Bool.or_eq_true,decide_eq_true_eq,Nat.add_sub_cancel] at this;rcases this.2 with h2|h2
  ·omega
  ·exact h2
 clear h
 induction l with
 |nil=>exact List.Pairwise.nil
 |cons x l ih=>
  have ht:kU l:=ih (fun k hk=>by
   have:=h1 (k+1) (by simpa using hk);simpa using this)
  refine List.pairwise_cons.2 ⟨fun y hy=>?_,ht⟩
  cases l with
  |nil=>simp at hy
  |cons z l=>
   have hz:=h1 0 (by simp);simp at hz;rcases List.mem_cons.1 hy with rfl|hy
   ·exact hz
   ·have:=(kE ht).2 y hy;omega
attribute [-simp] getD_eq_getElem?_getD in
theorem uI (l:List Int)(n:Int)(hl:l.length≤maxLen)(H:List aA)(T:ar)(tg:Tag):aq Tryz.prog 33 [.sl l.length (ints l) tg,.int .i64 n] H T (Is (.bool (decide (n∈l))) H T):=by
 refine aq.cD ?_;have hY:maxLen≤9223372036854775807:=by decide
 have mO:=le_trans hl hY;refine aj 6 [] Tryz.ntmps33 Tryz.func33 rfl (fun _ _=>Tryz.call33 _ _) (by simp) (fun HO=>?_);apply ae;intro K h;simp(disch:=omega);apply h;clear h K;refine af fun K1 aQ=>?_;apply ae;intro K h;simp(disch:=omega);apply h;clear h K;apply ah;refine aG (X:=Nat) (fun k=>⟨[(0,.sl l.length (ints l) .none),(1,.int .i64 n),(5,.int .i64 (k:Nat))],H,T⟩) (fun k=>k≤l.length∧∀j,j<k→l.getD j 0≠n) (fun k=>l.length-k) 0 ?_ ?_ ?_
 ·exact⟨zero_le _,fun j hj=>absurd hj (Nat.not_lt_zero _)⟩
 ·refine ag [] [] ?_ ?_ ?_ ?_ HO ?_
  all_goals simp
 ·rintro k ⟨h1,h2⟩;refine af fun K2 aW=>?_;apply ae;intro K h;simp(disch:=omega);apply h;clear h K;refine aN rfl (fun hk=>?_) (fun hk=>?_)
  ·simp  at hk;apply ai;simp(disch:=omega) ;apply aW;clear aW;refine af fun K3 bz=>?_;apply ah
   by_cases hc:l.getD k 0=n
   ·have b:(l.getD k 0==n)=true:=by simpa using hc
    have hm:n∈l:=by
     rw[←hc,getD_eq_getElem?_getD,getElem?_eq_getElem hk];exact List.getElem_mem hk
    refine ae fun K hK=>?_;simp(disch:=omega)[aS,b];apply hK;clear hK K;apply aF rfl;apply ae;intro K h;simp(disch:=omega);apply h;clear h K;apply az;simp(disch:=omega) ;rw[decide_eq_true hm];exact⟨rfl,rfl,rfl⟩
   ·have b:(l.getD k 0==n)=false:=by simpa using hc
    refine ae fun K hK=>?_;simp(disch:=omega)[aS,b];apply hK;clear hK K;apply aD rfl;apply ai;simp(disch:=omega) ;apply bz;clear bz;refine au fun K hK=>?_;simp(disch:=omega) ;apply hK;clear hK K;refine⟨k+1,⟨by show k+1≤_;omega,fun j hj=>?_⟩,by show l.length-(k+1)<l.length-k;omega,?_⟩
    ·rcases lt_or_ge j k with h3|h3
     ·exact h2 j h3
     ·have:j=k:=by omega
      subst this;exact hc
    ·refine ag [] [] ?_ ?_ ?_ ?_ HO ?_
     all_goals simp
  ·simp  at hk;have hm:¬n∈l:=by
    intro hm;obtain⟨j,hj,e⟩:=List.mem_iff_getElem.1 hm;have:=h2 j (by omega);rw[getD_eq_getElem?_getD,getElem?_eq_getElem hj] at this;exact this e
   apply aC;simp(disch:=omega) ;apply aQ;clear aQ;apply ae;intro K h;simp(disch:=omega);apply h;clear h K;apply az;simp(disch:=omega) ;rw[decide_eq_false hm];exact⟨rfl,rfl,rfl⟩
def gG (f:Bool→Bool)(a b:List Int):List Int:=
 if ju a 1 1000000000=true∧ju b 1 1000000000=true then a.filter (fun x=>f (decide (x∈b))) else []
theorem sN (a:List Int)(k:Nat)(p:Int→Bool)(h:k<a.length):(a.take (k+1)).filter p=if p (a.getD k 0)=true then (a.take k).filter p++[a.getD k 0] else (a.take k).filter p:=by
 have e:a.take (k+1)=a.take k++[a.getD k 0]:=by
  rw[List.take_succ_eq_append_getElem h];simp[h]
 rw[e,List.filter_append]
 by_cases hp:p (a.getD k 0)=true
 ·rw[if_pos hp,List.filter_cons_of_pos hp];rfl
 ·rw[if_neg hp,List.filter_cons_of_neg hp];simp
attribute [-simp] getD_eq_getElem?_getD in
theorem Oj (a b:List Int)(ha:a.length≤400)(hb:b.length≤400)(H:List aA)(T:ar)(ta tb:Tag):aq Tryz.prog 106 [.sl a.length (ints a) ta,.sl b.length (ints b) tb] H T (Is (.sl (gG (fun m=>m) a b).length (ints (gG (fun m=>m) a b)) .none) H T):=by
 refine aq.cD (aq.lD ?_);refine aq.cH ?_ (by simp);have hY:400≤maxLen:=by decide
 have c1:=fy a (by omega) H T .none;have c2:=fy b (by omega) H T .none;refine aj 7 [] Tryz.ntmps106 Tryz.func106 rfl (fun _ _=>Tryz.call106 _ _) (by simp) (fun HO=>?_);apply ae;intro K h;simp(disch:=omega);apply h;clear h K;apply ae;intro K h;simp(disch:=omega);apply h;clear h K;refine af fun K1 aQ=>?_
 cases hv:ju a 1 1000000000
 ·rw[hv] at c1;refine ae fun K hK=>?_;simp(disch:=omega) ;refine ak (c1) ?_;simp(disch:=omega) ;apply hK;clear hK K;apply aF rfl;apply ae;intro K h;simp(disch:=omega);apply h;clear h K;apply az;simp(disch:=omega) ;simp[gG,hv,ints]
 ·rw[hv] at c1
  cases hw:ju b 1 1000000000
  ·rw[hw] at c2;refine ae fun K hK=>?_;simp(disch:=omega) ;refine ak (c1) ?_;simp(disch:=omega) ;refine ak (c2) ?_;simp(disch:=omega) ;apply hK;clear hK K;apply aF rfl;apply ae;intro K h;simp(disch:=omega);apply h;clear h K;apply az;simp(disch:=omega) ;simp[gG,hw,ints]
  ·rw[hw] at c2;have hr:gG (fun m=>m) a b=a.filter (fun x=>(fun m=>m) (decide (x∈b))):=by unfold gG;rw[if_pos ⟨hv,hw⟩]
   refine ae fun K hK=>?_;simp(disch:=omega) ;refine ak (c1) ?_;simp(disch:=omega) ;refine ak (c2) ?_;simp(disch:=omega) ;apply hK;clear hK K;apply aD rfl;apply ai;simp(disch:=omega) ;apply aQ;clear aQ;refine af fun K1 aQ=>?_;apply ae;intro K h;simp(disch:=omega);apply h;clear h K;apply ah;refine lF 5 0 1 [] (by omega) (by simp) ?_;refine aG (X:=Nat) (fun k=>⟨[(0,.sl a.length (ints a) .none),(1,.sl b.length (ints b) .none),(5,.sl ((a.take k).filter (fun x=>(fun m=>m) (decide (x∈b)))).length (ints ((a.take k).filter (fun x=>(fun m=>m) (decide (x∈b))))) (.own T.length)),(6,.int .i64 (k:Nat))],H,T++[(((a.take k).filter (fun x=>(fun m=>m) (decide (x∈b)))).length,1)]⟩) (fun k=>k≤a.length) (fun k=>a.length-k) 0 ?_ ?_ ?_
   ·exact zero_le _
   ·refine ag [] [] ?_ ?_ ?_ ?_ (HO.fQ (by simp)) ?_
    all_goals simp
   ·intro k Mt;have hlen:((a.take k).filter (fun x=>(fun m=>m) (decide (x∈b)))).length≤k:=by
     refine le_trans (List.length_filter_le _ _) ?_;rw[List.length_take];omega
    refine af fun K2 aW=>?_;apply ae;intro K h;simp(disch:=omega);apply h;clear h K;refine aN rfl (fun hk=>?_) (fun hk=>?_)
    ·simp  at hk;have eM:=sN a k (fun x=>(fun m=>m) (decide (x∈b))) hk;have c3:=uI b (a.getD k 0) (by omega) H (T++[(((a.take k).filter (fun x=>(fun m=>m) (decide (x∈b)))).length,1)]) .none;generalize (a.take k).filter (fun x=>(fun m=>m) (decide (x∈b)))=out at *;apply ai;simp(disch:=omega) ;apply aW;clear aW;refine af fun K3 bz=>?_;apply ah
     cases hm:decide (a.getD k 0∈b)
     ·rw[hm] at c3 eM;refine ae fun K hK=>?_;simp(disch:=omega)[aS];refine ak (c3) ?_;simp(disch:=omega) ;apply hK;clear hK K;apply aD rfl;apply ai;simp(disch:=omega) ;apply bz;clear bz;refine au fun K hK=>?_;simp(disch:=omega) ;apply hK;clear hK K;refine⟨k+1,by show k+1≤_;omega,by show a.length-(k+1)<a.length-k;omega,?_⟩;rw[eM];refine ag [] [] ?_ ?_ ?_ ?_ (HO.fQ (by simp)) ?_
      all_goals simp[cX]
     ·rw[hm] at c3 eM;refine ae fun K hK=>?_;simp(disch:=omega)[aS];refine ak (c3) ?_;simp(disch:=omega) ;apply hK;clear hK K;apply aF rfl;refine au fun K hK=>?_;simp(disch:=omega)[aS];apply hK;clear hK K;apply bz;clear bz;refine au fun K hK=>?_;simp(disch:=omega) ;apply hK;clear hK K;refine⟨k+1,by show k+1≤_;omega,by show a.length-(k+1)<a.length-k;omega,?_⟩;rw[eM];refine ag [] [] ?_ ?_ ?_ ?_ (HO.fQ (by simp)) ?_
      all_goals simp[cX]
    ·simp  at hk;have Rv:k=a.length:=by omega
     subst Rv;rw[List.take_length];apply aC;simp(disch:=omega) ;apply aQ;clear aQ;apply ae;intro K h;simp(disch:=omega);apply h;clear h K;apply az;simp(disch:=omega) ;rw[hr];exact⟨rfl,rfl⟩
attribute [-simp] getD_eq_getElem?_getD in
theorem BD (a b:List Int)(ha:a.length≤400)(hb:b.length≤400)(H:List aA)(T:ar)(ta tb:Tag):aq Tryz.prog 88 [.sl a.length (ints a) ta,.sl b.length (ints b) tb] H T (Is (.sl (gG (fun m=>!m) a b).length (ints (gG (fun m=>!m) a b)) .none) H T):=by
 refine aq.cD (aq.lD ?_);refine aq.cH ?_ (by simp);have hY:400≤maxLen:=by decide
 have c1:=fy a (by omega) H T .none;have c2:=fy b (by omega) H T .none;refine aj 7 [] Tryz.ntmps88 Tryz.func88 rfl (fun _ _=>Tryz.call88 _ _) (by simp) (fun HO=>?_);apply ae;intro K h;simp(disch:=omega);apply h;clear h K;apply ae;intro K h;simp(disch:=omega);apply h;clear h K;refine af fun K1 aQ=>?_
 cases hv:ju a 1 1000000000
 ·rw[hv] at c1;refine ae fun K hK=>?_;simp(disch:=omega) ;refine ak (c1) ?_;simp(disch:=omega) ;apply hK;clear hK K;apply aF rfl;apply ae;intro K h;simp(disch:=omega);apply h;clear h K;apply az;simp(disch:=omega) ;simp[gG,hv,ints]
 ·rw[hv] at c1
  cases hw:ju b 1 1000000000
  ·rw[hw] at c2;refine ae fun K hK=>?_;simp(disch:=omega) ;refine ak (c1) ?_;simp(disch:=omega) ;refine ak (c2) ?_;simp(disch:=omega) ;apply hK;clear hK K;apply aF rfl;apply ae;intro K h;simp(disch:=omega);apply h;clear h K;apply az;simp(disch:=omega) ;simp[gG,hw,ints]
  ·rw[hw] at c2;have hr:gG (fun m=>!m) a b=a.filter (fun x=>(fun m=>!m) (decide (x∈b))):=by unfold gG;rw[if_pos ⟨hv,hw⟩]
   refine ae fun K hK=>?_;simp(disch:=omega) ;refine ak (c1) ?_;simp(disch:=omega) ;refine ak (c2) ?_;simp(disch:=omega) ;apply hK;clear hK K;apply aD rfl;apply ai;simp(disch:=omega) ;apply aQ;clear aQ;refine af fun K1 aQ=>?_;apply ae;intro K h;simp(disch:=omega);apply h;clear h K;apply ah;refine lF 5 0 1 [] (by omega) (by simp) ?_;refine aG (X:=Nat) (fun k=>⟨[(0,.sl a.length (ints a) .none),(1,.sl b.length (ints b) .none),(5,.sl ((a.take k).filter (fun x=>(fun m=>!m) (decide (x∈b)))).length (ints ((a.take k).filter (fun x=>(fun m=>!m) (decide (x∈b))))) (.own T.length)),(6,.int .i64 (k:Nat))],H,T++[(((a.take k).filter (fun x=>(fun m=>!m) (decide (x∈b)))).length,1)]⟩) (fun k=>k≤a.length) (fun k=>a.length-k) 0 ?_ ?_ ?_
   ·exact zero_le _
   ·refine ag [] [] ?_ ?_ ?_ ?_ (HO.fQ (by simp)) ?_
    all_goals simp
   ·intro k Mt;have hlen:((a.take k).filter (fun x=>(fun m=>!m) (decide (x∈b)))).length≤k:=by
     refine le_trans (List.length_filter_le _ _) ?_;rw[List.length_take];omega
    refine af fun K2 aW=>?_;apply ae;intro K h;simp(disch:=omega);apply h;clear h K;refine aN rfl (fun hk=>?_) (fun hk=>?_)
    ·simp  at hk;have eM:=sN a k (fun x=>(fun m=>!m) (decide (x∈b))) hk;have c3:=uI b (a.getD k 0) (by omega) H (T++[(((a.take k).filter (fun x=>(fun m=>!m) (decide (x∈b)))).length,1)]) .none;generalize (a.take k).filter (fun x=>(fun m=>!m) (decide (x∈b)))=out at *;apply ai;simp(disch:=omega) ;apply aW;clear aW;refine af fun K3 bz=>?_;apply ah
     cases hm:decide (a.getD k 0∈b)
     ·rw[hm] at c3 eM;refine ae fun K hK=>?_;simp(disch:=omega)[aS];refine ak (c3) ?_;simp(disch:=omega) ;apply hK;clear hK K;apply aF rfl;refine au fun K hK=>?_;simp(disch:=omega)[aS];apply hK;clear hK K;apply bz;clear bz;refine au fun K hK=>?_;simp(disch:=omega) ;apply hK;clear hK K;refine⟨k+1,by show k+1≤_;omega,by show a.length-(k+1)<a.length-k;omega,?_⟩;rw[eM];refine ag [] [] ?_ ?_ ?_ ?_ (HO.fQ (by simp)) ?_
      all_goals simp[cX]
     ·rw[hm] at c3 eM;refine ae fun K hK=>?_;simp(disch:=omega)[aS];refine ak (c3) ?_;simp(disch:=omega) ;apply hK;clear hK K;apply aD rfl;apply ai;simp(disch:=omega) ;apply bz;clear bz;refine au fun K hK=>?_;simp(disch:=omega) ;apply hK;clear hK K;refine⟨k+1,by show k+1≤_;omega,by show a.length-(k+1)<a.length-k;omega,?_⟩;rw[eM];refine ag [] [] ?_ ?_ ?_ ?_ (HO.fQ (by simp)) ?_
      all_goals simp[cX]
    ·simp  at hk;have Rv:k=a.length:=by omega
     subst Rv;rw[List.take_length];apply aC;simp(disch:=omega) ;apply aQ;clear aQ;apply ae;intro K h;simp(disch:=omega);apply h;clear h K;apply az;simp(disch:=omega) ;rw[hr];exact⟨rfl,rfl⟩
theorem and_eq (a b:List Int):comb (fun p q=>p&&q) a b=gG (fun m=>m) a b:=by
 unfold comb gG
 split
 ·rename_i h;have ha:=gI h.1;have hb:=gI h.2;obtain⟨_,g2,g3⟩:=tP false false true (a.length+b.length) a b [] (Nat.le_refl _) ha hb;refine lj _ _ g3 (ha.filter _) (fun z=>?_);rw[show MG (fun p q=>p&&q) a b (a.length+b.length) 0 0 []=_ from rfl];refine(g2 z).trans ?_;simp
 ·rfl
theorem De (a b:List Int):comb (fun _ q=>!q) a b=gG (fun m=>!m) a b:=by
 unfold comb gG
 split
 ·rename_i h;have ha:=gI h.1;have hb:=gI h.2;obtain⟨_,g2,g3⟩:=tP true false false (a.length+b.length) a b [] (Nat.le_refl _) ha hb;refine lj _ _ g3 (ha.filter _) (fun z=>?_);refine(g2 z).trans ?_;simp
 ·rfl
end Go.Proofs.YtneohapkboaplaaGreat
