/- Valid lists of layer 38. Valid lists of the reference of layer 38, and comparisons. The merging of two ascending lists: laws on lists. Merging in layer 38: what is done with an element. Merging in layer 38: the walk over two lists of numbers. Merging in layer 38: the walk over two lists of numbers. And, Or, Without of layer 38. Membership in the reference of layer 38. And and Without of the reference of layer 38, and that they are the program's. Or of the reference of layer 38, and that it is the program's.
  Conditions: lengths below 1000 or 5000, as each theorem says. -/
import Derived.Test.YtoejlmpbebjemaaGreatAmFacts
import Derived.Test.YtoejlmpbebjemaaGreatAmB
set_option linter.all false
set_option maxRecDepth 100000
set_option maxHeartbeats 4000000
namespace Go.Proofs.YtoejlmpbebjemaaGreat
open Go Go.Am
theorem drawMixed:Tryz.prog.follows .mixedOrders=true:=by kernel_rfl
def ascAt (l:List Int)(lo hi:Int)(k:Nat):Bool:=decide (lo≤l.getD k 0)&&decide (l.getD k 0≤hi)&&(decide (k=0)||decide (l.getD (k-1) 0<l.getD k 0))
def asc (l:List Int)(lo hi:Int):Bool:=(List.range l.length).all (ascAt l lo hi)
theorem asc_bad {l:List Int}{lo hi:Int}{k:Nat}(hk:k<l.length)(h:ascAt l lo hi k=false):asc l lo hi=false:=by
 unfold asc;rw[List.all_eq_false];exact⟨k,by simpa using hk,by simp[h]⟩
theorem asc_all {l:List Int}{lo hi:Int}(h:∀j,j<l.length→ascAt l lo hi j=true):asc l lo hi=true:=by
 unfold asc;rw[List.all_eq_true];intro j hj;exact h j (by simpa using hj)
attribute [-simp] List.getD_eq_getElem?_getD in
theorem asc_ok (l:List Int)(lo hi:Int)(hl:l.length≤maxLen)(H:List Blk)(T:Toks)(tg:Tag):ACall Tryz.prog 115 [.sl l.length (ints l) tg,.int .i64 lo,.int .i64 hi] H T (Is (.bool (asc l lo hi)) H T):=by
 refine ACall.untag1 ?_;have hml:maxLen≤9223372036854775807:=by decide
 have hl':=Nat.le_trans hl hml;refine acall_enter 12 [] Tryz.ntmps115 Tryz.func115 rfl (fun _ _=>Tryz.call115 _ _) (by simp) (fun HO=>?_);apply aw_reg;intro K h;simp(disch:=omega);apply h;clear h K;refine aw_then fun K1 hK1=>?_;apply aw_reg;intro K h;simp(disch:=omega);apply h;clear h K;apply aw_block;refine aw_loop (X:=Nat) (fun k=>⟨[(0,.sl l.length (ints l) .none),(1,.int .i64 lo),(2,.int .i64 hi),(9,.sl l.length (ints l) .none),(10,.int .i64 (l.length:Nat)),(11,.int .i64 (k:Nat))],H,T⟩) (fun k=>k≤l.length∧∀j,j<k→ascAt l lo hi j=true) (fun k=>l.length-k) 0 ?_ ?_ ?_
 ·exact⟨Nat.zero_le _,fun j hj=>absurd hj (Nat.not_lt_zero _)⟩
 ·refine weak_to [] [] ?_ ?_ ?_ ?_ HO ?_
  all_goals simp
 ·rintro k ⟨h1,h2⟩;apply aw_reg;intro K h;simp(disch:=omega);apply h;clear h K;refine aw_then fun K2 hK2=>?_;refine aw_if rfl (fun hk=>?_) (fun hk=>?_)
  ·simp  at hk;apply aw_skip;simp(disch:=omega) ;apply hK2;clear hK2;refine aw_then fun K3 hK3=>?_;apply aw_block;refine aw_reg fun K hK=>?_;simp(disch:=omega)[getD_ints];apply hK;clear hK K;refine aw_reg fun K hK=>?_;have key:∀e b,b=(!ascAt l lo hi k)→envLe H.length T.length e [(0,.sl l.length (ints l) .none),(1,.int .i64 lo),(2,.int .i64 hi),(9,.sl l.length (ints l) .none),(10,.int .i64 (l.length:Nat)),(11,.int .i64 (k:Nat)),(36,.bool b)]→K ⟨e,H,T⟩:=by
    intro e b hb he;refine hK _ (aw_weak ⟨[(0,.sl l.length (ints l) .none),(1,.int .i64 lo),(2,.int .i64 hi),(9,.sl l.length (ints l) .none),(10,.int .i64 (l.length:Nat)),(11,.int .i64 (k:Nat)),(36,.bool b)],H,T⟩ (weak_to [] [] (by simp) (by simp) (by simp) (by simp) HO he) ?_)
    cases hok:ascAt l lo hi k with
    |false=>
     rw[hok] at hb;subst hb;apply aw_ift rfl;apply aw_reg;intro K h;simp(disch:=omega);apply h;clear h K;apply aw_ret;simp(disch:=omega) ;rw[asc_bad hk hok];exact⟨rfl,rfl,rfl⟩
    |true=>
     rw[hok] at hb;subst hb;apply aw_iff rfl;apply aw_skip;simp(disch:=omega) ;apply hK3;clear hK3;refine aw_reg0 fun K hK=>?_;simp(disch:=omega) ;apply hK;clear hK K;refine⟨k+1,⟨by show k+1≤_;omega,fun j hj=>?_⟩,by show l.length-(k+1)<l.length-k;omega,?_⟩
     ·rcases Nat.lt_or_ge j k with h3|h3
      ·exact h2 j h3
      ·have:j=k:=by omega
       subst this;exact hok
     ·refine weak_to [] [] ?_ ?_ ?_ ?_ HO ?_
      all_goals simp
   clear hK
   by_cases c1:l.getD k 0<lo
   ·have b1:decide (l.getD k 0<lo)=true:=by simpa using c1
    simp(disch:=omega)[b1,c1];refine key _ true ?_ (by simp);have:¬lo≤l.getD k 0:=by omega
    simp only[ascAt,decide_eq_false this];rfl
   ·have b1:decide (l.getD k 0<lo)=false:=by simpa using c1
    by_cases c2:hi<l.getD k 0
    ·have b2:decide (hi<l.getD k 0)=true:=by simpa using c2
     simp(disch:=omega)[b1,c1,b2,c2];refine key _ true ?_ (by simp);have:¬l.getD k 0≤hi:=by omega
     simp only[ascAt,decide_eq_false this,Bool.and_false];rfl
    ·have b2:decide (hi<l.getD k 0)=false:=by simpa using c2
     have e1:lo≤l.getD k 0:=by omega
     have e2:l.getD k 0≤hi:=by omega
     rcases Nat.eq_zero_or_pos k with h0|h0
     ·subst h0;simp(disch:=omega)[b1,c1,b2,c2];refine key _ false ?_ (by simp);simp only[ascAt,decide_eq_true e1,decide_eq_true e2];rfl
     ·have b3:decide ((0:Int)<(k:Int))=true:=by simp;omega
      have c3:(0:Int)<k:=by omega
      have ek:((k:Int)-1).toNat=k-1:=by omega
      have hat:=getD_ints (xs:=l) (k:=k-1) (by omega)
      by_cases c4:l.getD k 0≤l.getD (k-1) 0
      ·have b4:decide (l.getD k 0≤l.getD (k-1) 0)=true:=by simpa using c4
       simp(disch:=omega)[b1,c1,b2,c2,b3,c3,h0,ek,hat,b4,c4];refine key _ true ?_ (by simp);have e3:¬l.getD (k-1) 0<l.getD k 0:=by omega
       have e4:¬k=0:=by omega
       simp only[ascAt,decide_eq_true e1,decide_eq_true e2,decide_eq_false e3,decide_eq_false e4];rfl
      ·have b4:decide (l.getD k 0≤l.getD (k-1) 0)=false:=by simpa using c4
       simp(disch:=omega)[b1,c1,b2,c2,b3,c3,h0,ek,hat,b4,c4];refine key _ false ?_ (by simp);have e3:l.getD (k-1) 0<l.getD k 0:=by omega
       simp only[ascAt,decide_eq_true e1,decide_eq_true e2,decide_eq_true e3,Bool.or_true];rfl
  ·simp  at hk;apply aw_exit;simp(disch:=omega) ;apply hK1;clear hK1;apply aw_reg;intro K h;simp(disch:=omega);apply h;clear h K;apply aw_ret;simp(disch:=omega) ;rw[asc_all (fun j hj=>h2 j (by omega))];exact⟨rfl,rfl,rfl⟩
attribute [-simp] List.getD_eq_getElem?_getD in
theorem validDocs_ok (l:List Int)(hl:l.length≤maxLen)(H:List Blk)(T:Toks)(tg:Tag):ACall Tryz.prog 61 [.sl l.length (ints l) tg] H T (Is (.bool (asc l 1 1000000000)) H T):=by
 refine acall_enter 3 [] Tryz.ntmps61 Tryz.func61 rfl (fun _ _=>Tryz.call61 _ _) (by simp) (fun HO=>?_);apply aw_reg;intro K h;simp(disch:=omega);apply h;clear h K;refine aw_reg fun K hK=>?_;simp(disch:=omega) ;refine acall_is (asc_ok l 1 1000000000 hl H T tg) ?_;simp(disch:=omega) ;apply hK;clear hK K;apply aw_ret;simp(disch:=omega) ;exact⟨rfl,rfl,rfl⟩
attribute [-simp] List.getD_eq_getElem?_getD in
theorem ascR_ok (l:List Int)(lo hi:Int)(hl:l.length≤maxLen)(H:List Blk)(T:Toks)(tg:Tag):ACall Tryz.prog 140 [.sl l.length (ints l) tg,.int .i64 lo,.int .i64 hi] H T (Is (.bool (asc l lo hi)) H T):=by
 refine ACall.untag1 ?_;have hml:maxLen≤9223372036854775807:=by decide
 have hl':=Nat.le_trans hl hml;refine acall_enter 8 [] Tryz.ntmps140 Tryz.func140 rfl (fun _ _=>Tryz.call140 _ _) (by simp) (fun HO=>?_);apply aw_reg;intro K h;simp(disch:=omega);apply h;clear h K;refine aw_then fun K1 hK1=>?_;apply aw_reg;intro K h;simp(disch:=omega);apply h;clear h K;apply aw_block;refine aw_loop (X:=Nat) (fun k=>⟨[(0,.sl l.length (ints l) .none),(1,.int .i64 lo),(2,.int .i64 hi),(7,.int .i64 (k:Nat))],H,T⟩) (fun k=>k≤l.length∧∀j,j<k→ascAt l lo hi j=true) (fun k=>l.length-k) 0 ?_ ?_ ?_
 ·exact⟨Nat.zero_le _,fun j hj=>absurd hj (Nat.not_lt_zero _)⟩
 ·refine weak_to [] [] ?_ ?_ ?_ ?_ HO ?_
  all_goals simp
 ·rintro k ⟨h1,h2⟩;refine aw_then fun K2 hK2=>?_;apply aw_reg;intro K h;simp(disch:=omega);apply h;clear h K;refine aw_if rfl (fun hk=>?_) (fun hk=>?_)
  ·simp  at hk;apply aw_skip;simp(disch:=omega) ;apply hK2;clear hK2;refine aw_then fun K3 hK3=>?_;apply aw_block;refine aw_draw [] [] [] drawMixed (by kernel_rfl) (by kernel_rfl) fun K hK=>?_;have key:∀e b,b=(!ascAt l lo hi k)→envLe H.length T.length e [(0,.sl l.length (ints l) .none),(1,.int .i64 lo),(2,.int .i64 hi),(7,.int .i64 (k:Nat)),(43,.bool b)]→K ⟨e,H,T⟩:=by
    intro e b hb he;refine hK _ (aw_weak ⟨[(0,.sl l.length (ints l) .none),(1,.int .i64 lo),(2,.int .i64 hi),(7,.int .i64 (k:Nat)),(43,.bool b)],H,T⟩ (weak_to [] [] (by simp) (by simp) (by simp) (by simp) HO he) ?_)
    cases hok:ascAt l lo hi k with
    |false=>
     rw[hok] at hb;subst hb;apply aw_ift rfl;apply aw_reg;intro K h;simp(disch:=omega);apply h;clear h K;apply aw_ret;simp(disch:=omega) ;rw[asc_bad hk hok];exact⟨rfl,rfl,rfl⟩
    |true=>
     rw[hok] at hb;subst hb;apply aw_iff rfl;apply aw_skip;simp(disch:=omega) ;apply hK3;clear hK3;refine aw_reg0 fun K hK=>?_;simp(disch:=omega) ;apply hK;clear hK K;refine⟨k+1,⟨by show k+1≤_;omega,fun j hj=>?_⟩,by show l.length-(k+1)<l.length-k;omega,?_⟩
     ·rcases Nat.lt_or_ge j k with h3|h3
      ·exact h2 j h3
      ·have:j=k:=by omega
       subst this;exact hok
     ·refine weak_to [] [] ?_ ?_ ?_ ?_ HO ?_
      all_goals simp
   clear hK
   by_cases c1:l.getD k 0<lo
   ·have b1:decide (l.getD k 0<lo)=true:=by simpa using c1
    simp(disch:=omega)[getD_ints,b1,c1];refine key _ true ?_ (by simp);have:¬lo≤l.getD k 0:=by omega
    simp only[ascAt,decide_eq_false this];rfl
   ·have b1:decide (l.getD k 0<lo)=false:=by simpa using c1
    by_cases c2:hi<l.getD k 0
    ·have b2:decide (hi<l.getD k 0)=true:=by simpa using c2
     simp(disch:=omega)[getD_ints,b1,c1,b2,c2];refine key _ true ?_ (by simp);have:¬l.getD k 0≤hi:=by omega
     simp only[ascAt,decide_eq_false this,Bool.and_false];rfl
    ·have b2:decide (hi<l.getD k 0)=false:=by simpa using c2
     have e1:lo≤l.getD k 0:=by omega
     have e2:l.getD k 0≤hi:=by omega
     rcases Nat.eq_zero_or_pos k with h0|h0
     ·subst h0;simp(disch:=omega)[getD_ints,b1,c1,b2,c2];refine key _ false ?_ (by simp);simp only[ascAt,decide_eq_true e1,decide_eq_true e2];rfl
     ·have b3:decide ((0:Int)<(k:Int))=true:=by simp;omega
      have c3:(0:Int)<k:=by omega
      have ek:((k:Int)-1).toNat=k-1:=by omega
      have hat:=getD_ints (xs:=l) (k:=k-1) (by omega)
      by_cases c4:l.getD k 0≤l.getD (k-1) 0
      ·have b4:decide (l.getD k 0≤l.getD (k-1) 0)=true:=by simpa using c4
       simp(disch:=omega)[getD_ints,b1,c1,b2,c2,b3,c3,h0,ek,hat,b4,c4];refine key _ true ?_ (by simp);have e3:¬l.getD (k-1) 0<l.getD k 0:=by omega
       have e4:¬k=0:=by omega
       simp only[ascAt,decide_eq_true e1,decide_eq_true e2,decide_eq_false e3,decide_eq_false e4];rfl
      ·have b4:decide (l.getD k 0≤l.getD (k-1) 0)=false:=by simpa using c4
       simp(disch:=omega)[getD_ints,b1,c1,b2,c2,b3,c3,h0,ek,hat,b4,c4];refine key _ false ?_ (by simp);have e3:l.getD (k-1) 0<l.getD k 0:=by omega
       simp only[ascAt,decide_eq_true e1,decide_eq_true e2,decide_eq_true e3,Bool.or_true];rfl
  ·simp  at hk;apply aw_exit;simp(disch:=omega) ;apply hK1;clear hK1;apply aw_reg;intro K h;simp(disch:=omega);apply h;clear h K;apply aw_ret;simp(disch:=omega) ;rw[asc_all (fun j hj=>h2 j (by omega))];exact⟨rfl,rfl,rfl⟩
attribute [-simp] List.getD_eq_getElem?_getD in
theorem validDocsR_ok (l:List Int)(hl:l.length≤maxLen)(H:List Blk)(T:Toks)(tg:Tag):ACall Tryz.prog 76 [.sl l.length (ints l) tg] H T (Is (.bool (asc l 1 1000000000)) H T):=by
 refine acall_enter 3 [] Tryz.ntmps76 Tryz.func76 rfl (fun _ _=>Tryz.call76 _ _) (by simp) (fun HO=>?_);apply aw_reg;intro K h;simp(disch:=omega);apply h;clear h K;refine aw_reg fun K hK=>?_;simp(disch:=omega) ;refine acall_is (ascR_ok l 1 1000000000 hl H T tg) ?_;simp(disch:=omega) ;apply hK;clear hK K;apply aw_ret;simp(disch:=omega) ;exact⟨rfl,rfl,rfl⟩
theorem eq_getD {α:Type}[DecidableEq α]{a b:List α}(d:α)(h:a.length=b.length)(hj:∀j,j<a.length→a.getD j d=b.getD j d):a=b:=by
 apply List.ext_getElem h;intro i h1 h2;have:=hj i h1
 rwa [List.getD_eq_getElem?_getD,List.getD_eq_getElem?_getD,List.getElem?_eq_getElem h1,List.getElem?_eq_getElem h2] at this
attribute [-simp] List.getD_eq_getElem?_getD in
theorem sameInts_ok (a b:List Int)(ha:a.length≤maxLen)(hb:b.length≤maxLen)(H:List Blk)(T:Toks)(ta tb:Tag):ACall Tryz.prog 44 [.sl a.length (ints a) ta,.sl b.length (ints b) tb] H T (Is (.bool (a==b)) H T):=by
 refine ACall.untag1 ?_;have hml:maxLen≤9223372036854775807:=by decide
 have ha':=Nat.le_trans ha hml;have hb':=Nat.le_trans hb hml;refine acall_enter 6 [] Tryz.ntmps44 Tryz.func44 rfl (fun _ _=>Tryz.call44 _ _) (by simp) (fun HO=>?_);apply aw_reg;intro K h;simp(disch:=omega);apply h;clear h K;refine aw_then fun K1 hK1=>?_;apply aw_reg;intro K h;simp(disch:=omega);apply h;clear h K;refine aw_if rfl (fun h=>?_) (fun h=>?_)
 ·simp  at h;apply aw_reg;intro K h;simp(disch:=omega);apply h;clear h K;apply aw_ret;simp(disch:=omega) ;have:(a==b)=false:=by simp;intro e;subst e;exact h rfl
  rw[this];exact⟨rfl,rfl,rfl⟩
 ·simp  at h;have hl:a.length=b.length:=by omega
  apply aw_skip;simp(disch:=omega) ;apply hK1;clear hK1;refine aw_then fun K1 hK1=>?_;apply aw_reg;intro K h;simp(disch:=omega);apply h;clear h K;apply aw_block;refine aw_loop (X:=Nat) (fun i=>⟨[(0,.sl a.length (ints a) .none),(1,.sl b.length (ints b) .none),(5,.int .i64 (i:Nat))],H,T⟩) (fun i=>i≤a.length∧∀j,j<i→a.getD j 0=b.getD j 0) (fun i=>a.length-i) 0 ?_ ?_ ?_
  ·exact⟨by omega,fun j hj=>by omega⟩
  ·refine weak_to [] [] ?_ ?_ ?_ ?_ HO ?_
   all_goals simp
  ·rintro i ⟨hi,hj⟩;refine aw_then fun K2 hK2=>?_;apply aw_reg;intro K h;simp(disch:=omega);apply h;clear h K;refine aw_if rfl (fun h=>?_) (fun h=>?_)
   ·simp  at h;apply aw_skip;simp(disch:=omega) ;apply hK2;clear hK2;refine aw_then fun K3 hK3=>?_;apply aw_block
    by_cases he:a.getD i 0=b.getD i 0
    ·refine aw_draw [] [] [] drawMixed (by kernel_rfl) (by kernel_rfl) fun K hK=>?_;simp(disch:=omega)[getD_ints,he];apply hK;clear hK K;apply aw_iff rfl;apply aw_skip;simp(disch:=omega) ;apply hK3;clear hK3;refine aw_reg0 fun K hK=>?_;simp(disch:=omega) ;apply hK;clear hK K;refine⟨i+1,⟨by omega,fun j hj'=>?_⟩,by omega,?_⟩
     ·rcases Nat.lt_or_ge j i with h1|h1
      ·exact hj j h1
      ·have:j=i:=by omega
       subst this;exact he
     ·refine weak_to [] [] ?_ ?_ ?_ ?_ HO ?_
      all_goals simp
    ·have he':(a.getD i 0!=b.getD i 0)=true:=bne_iff_ne.2 he;refine aw_draw [] [] [] drawMixed (by kernel_rfl) (by kernel_rfl) fun K hK=>?_;simp(disch:=omega)[getD_ints,he'];apply hK;clear hK K;apply aw_ift rfl;apply aw_reg;intro K h;simp(disch:=omega);apply h;clear h K;apply aw_ret;simp(disch:=omega) ;have:(a==b)=false:=by simp;intro e;subst e;exact he rfl
     rw[this];exact⟨rfl,rfl,rfl⟩
   ·simp  at h;apply aw_exit;simp(disch:=omega) ;apply hK1;clear hK1;apply aw_reg;intro K h;simp(disch:=omega);apply h;clear h K;apply aw_ret;simp(disch:=omega) ;refine⟨?_,rfl,rfl⟩;have:a=b:=eq_getD 0 hl (fun j hj'=>hj j (by omega));simp[this]
end Go.Proofs.YtoejlmpbebjemaaGreat
namespace Post
def mgN {β:Type}(fA fB fAB:β→Int→β):Nat→List Int→List Int→β→β
 |0,_,_,o=>o
 |n+1,x::a,y::b,o=>if x<y then mgN fA fB fAB n a (y::b) (fA o x) else if y<x then mgN fA fB fAB n (x::a) b (fB o y) else mgN fA fB fAB n a b (fAB o x)
 |n+1,x::a,[],o=>mgN fA fB fAB n a [] (fA o x)
 |n+1,[],y::b,o=>mgN fA fB fAB n [] b (fB o y)
 |_+1,[],[],o=>o
def Asc (l:List Int):Prop:=l.Pairwise (·<·)
theorem asc_tail {x:Int}{l:List Int}(h:Asc (x::l)):Asc l∧∀y∈l,x<y:=⟨(List.pairwise_cons.1 h).2,(List.pairwise_cons.1 h).1⟩
def snoc (o:List Int)(x:Int):List Int:=o++[x]
theorem mg_keep (kA kB kAB:Bool):∀(n:Nat)(a b o:List Int),a.length+b.length≤n→Asc a→Asc b→
  mgN (fun o x=>if kA then o++[x] else o) (fun o x=>if kB then o++[x] else o) (fun o x=>if kAB then o++[x] else o) n a b o =
   o++mgN (fun o x=>if kA then o++[x] else o) (fun o x=>if kB then o++[x] else o) (fun o x=>if kAB then o++[x] else o) n a b []∧
  (∀z,z∈mgN (fun o x=>if kA then o++[x] else o) (fun o x=>if kB then o++[x] else o) (fun o x=>if kAB then o++[x] else o) n a b []↔
   (z∈a∧z∉b∧kA=true)∨(z∈b∧z∉a∧kB=true)∨(z∈a∧z∈b∧kAB=true))∧
  Asc (mgN (fun o x=>if kA then o++[x] else o) (fun o x=>if kB then o++[x] else o) (fun o x=>if kAB then o++[x] else o) n a b []):=by
 intro n
 induction n with
 |zero=>
  intro a b o h _ _;have ha:a=[]:=List.eq_nil_of_length_eq_zero (by omega);have hb:b=[]:=List.eq_nil_of_length_eq_zero (by omega);subst ha;subst hb;exact⟨by simp[mgN],by simp[mgN],List.Pairwise.nil⟩
 |succ n ih=>
  intro a b o h ha hb;have put:∀(k:Bool)(x:Int)(a' b' o:List Int),a'.length+b'.length≤n→Asc a'→Asc b'→(∀z,z∈a'→x<z)→(∀z,z∈b'→x<z)→
    mgN (fun o x=>if kA then o++[x] else o) (fun o x=>if kB then o++[x] else o) (fun o x=>if kAB then o++[x] else o) n a' b' (if k then o++[x] else o) =
     o++mgN (fun o x=>if kA then o++[x] else o) (fun o x=>if kB then o++[x] else o) (fun o x=>if kAB then o++[x] else o) n a' b' (if k then ([]:List Int)++[x] else [])∧
    (∀z,z∈mgN (fun o x=>if kA then o++[x] else o) (fun o x=>if kB then o++[x] else o) (fun o x=>if kAB then o++[x] else o) n a' b' (if k then ([]:List Int)++[x] else [])↔
     (z=x∧k=true)∨(z∈a'∧z∉b'∧kA=true)∨(z∈b'∧z∉a'∧kB=true)∨(z∈a'∧z∈b'∧kAB=true))∧
    Asc (mgN (fun o x=>if kA then o++[x] else o) (fun o x=>if kB then o++[x] else o) (fun o x=>if kAB then o++[x] else o) n a' b' (if k then ([]:List Int)++[x] else [])):=by
   intro k x a' b' o h' ha' hb' hxa hxb;obtain⟨i1,i2,i3⟩:=ih a' b' [] h' ha' hb';have j1:=fun o=>(ih a' b' o h' ha' hb').1;rw[j1 (if k then o++[x] else o),j1 (if k then ([]:List Int)++[x] else [])];generalize mgN (fun o x=>if kA then o++[x] else o) (fun o x=>if kB then o++[x] else o) (fun o x=>if kAB then o++[x] else o) n a' b' []=m at *;refine⟨?_,fun z=>?_,?_⟩
   ·cases k<;>simp
   ·rw[List.mem_append,i2]
    cases k<;>simp
   ·cases k
    ·simpa using i3
    ·simp only[if_true,List.nil_append,List.cons_append];refine List.pairwise_cons.2 ⟨fun z hz=>?_,i3⟩;rcases (i2 z).1 hz with⟨h1,_⟩|⟨h1,_⟩|⟨h1,_⟩
     ·exact hxa z h1
     ·exact hxb z h1
     ·exact hxa z h1
  cases a with
  |nil=>
   cases b with
   |nil=>exact⟨by simp[mgN],by simp[mgN],List.Pairwise.nil⟩
   |cons y b=>
    obtain⟨h1,h2⟩:=asc_tail hb;obtain⟨p1,p2,p3⟩:=put kB y [] b o (by simp at h ⊢;omega) List.Pairwise.nil h1 (fun z hz=>by simp at hz) h2;refine⟨p1,fun z=>?_,p3⟩;rw[mgN,p2];simp
    by_cases e:z=y<;>simp[e]
  |cons x a=>
   obtain⟨h1,h2⟩:=asc_tail ha
   cases b with
   |nil=>
    obtain⟨p1,p2,p3⟩:=put kA x a [] o (by simp at h ⊢;omega) h1 List.Pairwise.nil h2 (fun z hz=>by simp at hz);refine⟨p1,fun z=>?_,p3⟩;rw[mgN,p2];simp
    by_cases e:z=x<;>simp[e]
   |cons y b=>
    obtain⟨h3,h4⟩:=asc_tail hb;simp only[List.length_cons] at h
    by_cases c1:x<y
    ·have hyb:∀z,z∈y::b→x<z:=fun z hz=>by
      rcases List.mem_cons.1 hz with rfl|hz
      ·exact c1
      ·have:=h4 z hz;omega
     obtain⟨p1,p2,p3⟩:=put kA x a (y::b) o (by simp;omega) h1 hb h2 hyb;rw[mgN,if_pos c1,mgN,if_pos c1];refine⟨p1,fun z=>?_,p3⟩;rw[p2]
     by_cases e:z=x
     ·subst e;have n1:z∉a:=fun hz=>by have:=h2 z hz;omega
      have n2:z∉y::b:=fun hz=>by have:=hyb z hz;omega
      simp[n1,n2]
     ·simp[e]
    ·by_cases c2:y<x
     ·have hxa:∀z,z∈x::a→y<z:=fun z hz=>by
       rcases List.mem_cons.1 hz with rfl|hz
       ·exact c2
       ·have:=h2 z hz;omega
      obtain⟨p1,p2,p3⟩:=put kB y (x::a) b o (by simp;omega) ha h3 hxa h4;rw[mgN,if_neg c1,if_pos c2,mgN,if_neg c1,if_pos c2];refine⟨p1,fun z=>?_,p3⟩;rw[p2]
      by_cases e:z=y
      ·subst e;have n1:z∉b:=fun hz=>by have:=h4 z hz;omega
       have n2:z∉x::a:=fun hz=>by have:=hxa z hz;omega
       simp[n1,n2]
      ·simp[e]
     ·have e0:x=y:=by omega
      subst e0;obtain⟨p1,p2,p3⟩:=put kAB x a b o (by omega) h1 h3 h2 h4;rw[mgN,if_neg c1,if_neg c2,mgN,if_neg c1,if_neg c2];refine⟨p1,fun z=>?_,p3⟩;rw[p2]
      by_cases e:z=x
      ·subst e;have n1:z∉a:=fun hz=>by have:=h2 z hz;omega
       have n2:z∉b:=fun hz=>by have:=h4 z hz;omega
       simp[n1,n2]
      ·simp[e]
theorem asc_ext:∀(a b:List Int),Asc a→Asc b→(∀z,z∈a↔z∈b)→a=b:=by
 intro a
 induction a with
 |nil=>
  intro b _ _ h
  cases b with
  |nil=>rfl
  |cons y b=>have:=(h y).2 (by simp);simp at this
 |cons x a ih=>
  intro b ha hb h
  cases b with
  |nil=>have:=(h x).1 (by simp);simp at this
  |cons y b=>
   obtain⟨h1,h2⟩:=asc_tail ha;obtain⟨h3,h4⟩:=asc_tail hb;have e:x=y:=by
    have g1:=(h x).1 (by simp);have g2:=(h y).2 (by simp);rcases List.mem_cons.1 g1 with g1|g1
    ·exact g1
    ·rcases List.mem_cons.1 g2 with g2|g2
     ·exact g2.symm
     ·have:=h4 x g1;have:=h2 y g2;omega
   subst e
   congr 1
   refine ih b h1 h3 (fun z=>?_);have:=h z
   constructor
   ·intro hz;have hne:z≠x:=by have:=h2 z hz;omega
    rcases List.mem_cons.1 (this.1 (by simp[hz])) with e|e
    ·exact absurd e hne
    ·exact e
   ·intro hz;have hne:z≠x:=by have:=h4 z hz;omega
    rcases List.mem_cons.1 (this.2 (by simp[hz])) with e|e
    ·exact absurd e hne
    ·exact e
end Post
namespace Go.Proofs.YtoejlmpbebjemaaGreat
open Go Go.Am
def outB (out:List Int)(tk:Nat):AV:=if out=[] then .sl 0 [] .full else .sl out.length (ints out) (.own tk)
def SH (H:List Blk)(g:Nat)(out:List Int)(tk:Nat):List Blk:=H++[.cells [.fn g [] []],.cells [outB out tk]]
def ST (T:Toks)(out:List Int):Toks:=if out=[] then T else T++[(out.length,1)]
theorem ints_snoc (l:List Int)(x:Int):ints l++[.int .i64 x]=ints (l++[x]):=by simp[ints]
attribute [-simp] List.getD_eq_getElem?_getD in
theorem itself_ok (n:Int)(H:List Blk)(T:Toks):ACall Tryz.prog 172 [.int .i64 n] H T (Is (.int .i64 n) H T):=by
 refine acall_enter 3 [] Tryz.ntmps172 Tryz.func172 rfl (fun _ _=>Tryz.call172 _ _) (by simp) (fun HO=>?_);apply aw_reg;intro K h;simp(disch:=omega);apply h;clear h K;apply aw_reg;intro K h;simp(disch:=omega);apply h;clear h K;apply aw_ret;simp(disch:=omega) ;exact⟨rfl,rfl,rfl⟩
attribute [-simp] List.getD_eq_getElem?_getD in
theorem and1_ok (p q:Bool)(H:List Blk)(T:Toks):ACall Tryz.prog 118 [.bool p,.bool q] H T (Is (.bool (p&&q)) H T):=by
 refine acall_enter 5 [] Tryz.ntmps118 Tryz.func118 rfl (fun _ _=>Tryz.call118 _ _) (by simp) (fun HO=>?_);apply aw_reg;intro K h;simp(disch:=omega);apply h;clear h K
 cases p
 ·apply aw_reg;intro K h;simp(disch:=omega);apply h;clear h K;apply aw_ret;simp(disch:=omega) ;exact⟨rfl,rfl,rfl⟩
 ·apply aw_reg;intro K h;simp(disch:=omega);apply h;clear h K;apply aw_ret;simp(disch:=omega) ;exact⟨rfl,rfl,rfl⟩
attribute [-simp] List.getD_eq_getElem?_getD in
theorem or1_ok (p q:Bool)(H:List Blk)(T:Toks):ACall Tryz.prog 119 [.bool p,.bool q] H T (Is (.bool true) H T):=by
 refine acall_enter 5 [] Tryz.ntmps119 Tryz.func119 rfl (fun _ _=>Tryz.call119 _ _) (by simp) (fun HO=>?_);apply aw_reg;intro K h;simp(disch:=omega);apply h;clear h K;apply aw_reg;intro K h;simp(disch:=omega);apply h;clear h K;apply aw_ret;simp(disch:=omega) ;exact⟨rfl,rfl,rfl⟩
attribute [-simp] List.getD_eq_getElem?_getD in
theorem without1_ok (p q:Bool)(H:List Blk)(T:Toks):ACall Tryz.prog 117 [.bool p,.bool q] H T (Is (.bool (!q)) H T):=by
 refine acall_enter 5 [] Tryz.ntmps117 Tryz.func117 rfl (fun _ _=>Tryz.call117 _ _) (by simp) (fun HO=>?_);apply aw_reg;intro K h;simp(disch:=omega);apply h;clear h K;apply aw_reg;intro K h;simp(disch:=omega);apply h;clear h K;apply aw_ret;simp(disch:=omega) ;exact⟨rfl,rfl,rfl⟩
attribute [-simp] List.getD_eq_getElem?_getD in
theorem combA_ok (g:Nat)(kf:Bool→Bool→Bool)(hg:∀p q H T,ACall Tryz.prog g [.bool p,.bool q] H T (Is (.bool (kf p q)) H T))(out:List Int)(ho:out.length≤5000)(a:List Int)(i:Nat)(hi:i<a.length)(ha:a.length≤5000)(H:List Blk)(T:Toks) :
  ACall Tryz.prog 173 [.vptr (ints a) i,.nilp,.ptr H.length 0,.ptr (H.length+1) 0] (SH H g out T.length) (ST T out) (Is (.tup []) (SH H g (if kf true false then out++[a.getD i 0] else out) T.length) (ST T (if kf true false then out++[a.getD i 0] else out))):=by
 have hgp:=getD_ints (xs:=a) (k:=i) (by omega);have hne:out++[a.getD i 0]≠[]:=by simp
 have hsn:=ints_snoc out (a.getD i 0)
 cases hkf:kf true false
 ·rw[if_neg (by decide)];have hc:=fun H T=>hg true false H T;rw[hkf] at hc;simp only[SH];generalize outB out T.length=ob;generalize ST T out=TT;refine acall_enter 7 [] Tryz.ntmps173 Tryz.func173 rfl (fun _ _=>Tryz.call173 _ _) (by simp) (fun HO=>?_);apply aw_reg;intro K h;simp(disch:=omega);apply h;clear h K;refine aw_then fun K1 hK1=>?_;apply aw_reg;intro K h;simp(disch:=omega);apply h;clear h K;apply aw_iff rfl;apply aw_skip;simp(disch:=omega) ;apply hK1;clear hK1;refine aw_reg fun K hK=>?_;simp(disch:=omega) ;refine acall_is (hc _ _) ?_;simp(disch:=omega) ;apply hK;clear hK K;apply aw_iff rfl;apply aw_skip;simp(disch:=omega) ;exact⟨rfl,rfl,rfl⟩
 ·rw[if_pos rfl];have hc:=fun H T=>hg true false H T;rw[hkf] at hc
  by_cases h0:out=[]
  ·subst h0;have e1:SH H g [] T.length=H++[.cells [.fn g [] []],.cells [.sl 0 [] .full]]:=rfl;have e2:SH H g ([]++[a.getD i 0]) T.length=H++[.cells [.fn g [] []],.cells [.sl 1 [.int .i64 (a.getD i 0)] (.own T.length)]]:=rfl;have e3:ST T []=T:=rfl;have e4:ST T ([]++[a.getD i 0])=T++[(1,1)]:=rfl;rw[e1,e2,e3,e4];refine acall_enter 7 [] Tryz.ntmps173 Tryz.func173 rfl (fun _ _=>Tryz.call173 _ _) (by simp) (fun HO=>?_);apply aw_reg;intro K h;simp(disch:=omega);apply h;clear h K;refine aw_then fun K1 hK1=>?_;apply aw_reg;intro K h;simp(disch:=omega);apply h;clear h K;apply aw_iff rfl;apply aw_skip;simp(disch:=omega) ;apply hK1;clear hK1;refine aw_reg fun K hK=>?_;simp(disch:=omega) ;refine acall_is (hc _ _) ?_;simp(disch:=omega) ;apply hK;clear hK K;apply aw_ift rfl;refine aw_draw0 [5,6] [0,0,0,0,0,0,1] [[],[]] drawMixed (by kernel_rfl) (by kernel_rfl) fun K hK=>?_;simp(disch:=omega)[hgp];apply hK;clear hK K;exact⟨rfl,rfl,rfl⟩
  ·have e1:SH H g out T.length=H++[.cells [.fn g [] []],.cells [.sl out.length (ints out) (.own T.length)]]:=by simp[SH,outB,h0]
   have e2:SH H g (out++[a.getD i 0]) T.length=H++[.cells [.fn g [] []],.cells [.sl (out.length+1) (ints (out++[a.getD i 0])) (.own T.length)]]:=by simp[SH,outB]
   have e3:ST T out=T++[(out.length,1)]:=by simp[ST,h0]
   have e4:ST T (out++[a.getD i 0])=T++[(out.length+1,1)]:=by simp[ST]
   rw[e1,e2,e3,e4];refine acall_enter 7 [] Tryz.ntmps173 Tryz.func173 rfl (fun _ _=>Tryz.call173 _ _) (by simp) (fun HO=>?_);apply aw_reg;intro K h;simp(disch:=omega);apply h;clear h K;refine aw_then fun K1 hK1=>?_;apply aw_reg;intro K h;simp(disch:=omega);apply h;clear h K;apply aw_iff rfl;apply aw_skip;simp(disch:=omega) ;apply hK1;clear hK1;refine aw_reg fun K hK=>?_;simp(disch:=omega) ;refine acall_is (hc _ _) ?_;simp(disch:=omega) ;apply hK;clear hK K;apply aw_ift rfl;refine aw_draw0 [5,6] [0,0,0,0,0,0,1] [[],[]] drawMixed (by kernel_rfl) (by kernel_rfl) fun K hK=>?_;simp(disch:=omega)[hgp,hsn];apply hK;clear hK K;exact⟨rfl,rfl,rfl⟩
attribute [-simp] List.getD_eq_getElem?_getD in
theorem combB_ok (g:Nat)(kf:Bool→Bool→Bool)(hg:∀p q H T,ACall Tryz.prog g [.bool p,.bool q] H T (Is (.bool (kf p q)) H T))(out:List Int)(ho:out.length≤5000)(b:List Int)(j:Nat)(hj:j<b.length)(hb:b.length≤5000)(H:List Blk)(T:Toks) :
  ACall Tryz.prog 173 [.nilp,.vptr (ints b) j,.ptr H.length 0,.ptr (H.length+1) 0] (SH H g out T.length) (ST T out) (Is (.tup []) (SH H g (if kf false true then out++[b.getD j 0] else out) T.length) (ST T (if kf false true then out++[b.getD j 0] else out))):=by
 have hgp:=getD_ints (xs:=b) (k:=j) (by omega);have hne:out++[b.getD j 0]≠[]:=by simp
 have hsn:=ints_snoc out (b.getD j 0)
 cases hkf:kf false true
 ·rw[if_neg (by decide)];have hc:=fun H T=>hg false true H T;rw[hkf] at hc;simp only[SH];generalize outB out T.length=ob;generalize ST T out=TT;refine acall_enter 7 [] Tryz.ntmps173 Tryz.func173 rfl (fun _ _=>Tryz.call173 _ _) (by simp) (fun HO=>?_);apply aw_reg;intro K h;simp(disch:=omega);apply h;clear h K;refine aw_then fun K1 hK1=>?_;apply aw_reg;intro K h;simp(disch:=omega);apply h;clear h K;apply aw_ift rfl;refine aw_reg0 fun K hK=>?_;simp(disch:=omega) ;apply hK;clear hK K;apply hK1;clear hK1;refine aw_reg fun K hK=>?_;simp(disch:=omega) ;refine acall_is (hc _ _) ?_;simp(disch:=omega) ;apply hK;clear hK K;apply aw_iff rfl;apply aw_skip;simp(disch:=omega) ;exact⟨rfl,rfl,rfl⟩
 ·rw[if_pos rfl];have hc:=fun H T=>hg false true H T;rw[hkf] at hc
  by_cases h0:out=[]
  ·subst h0;have e1:SH H g [] T.length=H++[.cells [.fn g [] []],.cells [.sl 0 [] .full]]:=rfl;have e2:SH H g ([]++[b.getD j 0]) T.length=H++[.cells [.fn g [] []],.cells [.sl 1 [.int .i64 (b.getD j 0)] (.own T.length)]]:=rfl;have e3:ST T []=T:=rfl;have e4:ST T ([]++[b.getD j 0])=T++[(1,1)]:=rfl;rw[e1,e2,e3,e4];refine acall_enter 7 [] Tryz.ntmps173 Tryz.func173 rfl (fun _ _=>Tryz.call173 _ _) (by simp) (fun HO=>?_);apply aw_reg;intro K h;simp(disch:=omega);apply h;clear h K;refine aw_then fun K1 hK1=>?_;apply aw_reg;intro K h;simp(disch:=omega);apply h;clear h K;apply aw_ift rfl;refine aw_reg0 fun K hK=>?_;simp(disch:=omega) ;apply hK;clear hK K;apply hK1;clear hK1;refine aw_reg fun K hK=>?_;simp(disch:=omega) ;refine acall_is (hc _ _) ?_;simp(disch:=omega) ;apply hK;clear hK K;apply aw_ift rfl;refine aw_draw0 [5,6] [0,0,0,0,0,0,1] [[],[]] drawMixed (by kernel_rfl) (by kernel_rfl) fun K hK=>?_;simp(disch:=omega)[hgp];apply hK;clear hK K;exact⟨rfl,rfl,rfl⟩
  ·have e1:SH H g out T.length=H++[.cells [.fn g [] []],.cells [.sl out.length (ints out) (.own T.length)]]:=by simp[SH,outB,h0]
   have e2:SH H g (out++[b.getD j 0]) T.length=H++[.cells [.fn g [] []],.cells [.sl (out.length+1) (ints (out++[b.getD j 0])) (.own T.length)]]:=by simp[SH,outB]
   have e3:ST T out=T++[(out.length,1)]:=by simp[ST,h0]
   have e4:ST T (out++[b.getD j 0])=T++[(out.length+1,1)]:=by simp[ST]
   rw[e1,e2,e3,e4];refine acall_enter 7 [] Tryz.ntmps173 Tryz.func173 rfl (fun _ _=>Tryz.call173 _ _) (by simp) (fun HO=>?_);apply aw_reg;intro K h;simp(disch:=omega);apply h;clear h K;refine aw_then fun K1 hK1=>?_;apply aw_reg;intro K h;simp(disch:=omega);apply h;clear h K;apply aw_ift rfl;refine aw_reg0 fun K hK=>?_;simp(disch:=omega) ;apply hK;clear hK K;apply hK1;clear hK1;refine aw_reg fun K hK=>?_;simp(disch:=omega) ;refine acall_is (hc _ _) ?_;simp(disch:=omega) ;apply hK;clear hK K;apply aw_ift rfl;refine aw_draw0 [5,6] [0,0,0,0,0,0,1] [[],[]] drawMixed (by kernel_rfl) (by kernel_rfl) fun K hK=>?_;simp(disch:=omega)[hgp,hsn];apply hK;clear hK K;exact⟨rfl,rfl,rfl⟩
attribute [-simp] List.getD_eq_getElem?_getD in
theorem combAB_ok (g:Nat)(kf:Bool→Bool→Bool)(hg:∀p q H T,ACall Tryz.prog g [.bool p,.bool q] H T (Is (.bool (kf p q)) H T))(out:List Int)(ho:out.length≤5000)(a:List Int)(i:Nat)(hi:i<a.length)(ha:a.length≤5000)(b:List Int)(j:Nat)(H:List Blk)(T:Toks) :
  ACall Tryz.prog 173 [.vptr (ints a) i,.vptr (ints b) j,.ptr H.length 0,.ptr (H.length+1) 0] (SH H g out T.length) (ST T out) (Is (.tup []) (SH H g (if kf true true then out++[a.getD i 0] else out) T.length) (ST T (if kf true true then out++[a.getD i 0] else out))):=by
 have hgp:=getD_ints (xs:=a) (k:=i) (by omega);have hne:out++[a.getD i 0]≠[]:=by simp
 have hsn:=ints_snoc out (a.getD i 0)
 cases hkf:kf true true
 ·rw[if_neg (by decide)];have hc:=fun H T=>hg true true H T;rw[hkf] at hc;simp only[SH];generalize outB out T.length=ob;generalize ST T out=TT;refine acall_enter 7 [] Tryz.ntmps173 Tryz.func173 rfl (fun _ _=>Tryz.call173 _ _) (by simp) (fun HO=>?_);apply aw_reg;intro K h;simp(disch:=omega);apply h;clear h K;refine aw_then fun K1 hK1=>?_;apply aw_reg;intro K h;simp(disch:=omega);apply h;clear h K;apply aw_iff rfl;apply aw_skip;simp(disch:=omega) ;apply hK1;clear hK1;refine aw_reg fun K hK=>?_;simp(disch:=omega) ;refine acall_is (hc _ _) ?_;simp(disch:=omega) ;apply hK;clear hK K;apply aw_iff rfl;apply aw_skip;simp(disch:=omega) ;exact⟨rfl,rfl,rfl⟩
 ·rw[if_pos rfl];have hc:=fun H T=>hg true true H T;rw[hkf] at hc
  by_cases h0:out=[]
  ·subst h0;have e1:SH H g [] T.length=H++[.cells [.fn g [] []],.cells [.sl 0 [] .full]]:=rfl;have e2:SH H g ([]++[a.getD i 0]) T.length=H++[.cells [.fn g [] []],.cells [.sl 1 [.int .i64 (a.getD i 0)] (.own T.length)]]:=rfl;have e3:ST T []=T:=rfl;have e4:ST T ([]++[a.getD i 0])=T++[(1,1)]:=rfl;rw[e1,e2,e3,e4];refine acall_enter 7 [] Tryz.ntmps173 Tryz.func173 rfl (fun _ _=>Tryz.call173 _ _) (by simp) (fun HO=>?_);apply aw_reg;intro K h;simp(disch:=omega);apply h;clear h K;refine aw_then fun K1 hK1=>?_;apply aw_reg;intro K h;simp(disch:=omega);apply h;clear h K;apply aw_iff rfl;apply aw_skip;simp(disch:=omega) ;apply hK1;clear hK1;refine aw_reg fun K hK=>?_;simp(disch:=omega) ;refine acall_is (hc _ _) ?_;simp(disch:=omega) ;apply hK;clear hK K;apply aw_ift rfl;refine aw_draw0 [5,6] [0,0,0,0,0,0,1] [[],[]] drawMixed (by kernel_rfl) (by kernel_rfl) fun K hK=>?_;simp(disch:=omega)[hgp];apply hK;clear hK K;exact⟨rfl,rfl,rfl⟩
  ·have e1:SH H g out T.length=H++[.cells [.fn g [] []],.cells [.sl out.length (ints out) (.own T.length)]]:=by simp[SH,outB,h0]
   have e2:SH H g (out++[a.getD i 0]) T.length=H++[.cells [.fn g [] []],.cells [.sl (out.length+1) (ints (out++[a.getD i 0])) (.own T.length)]]:=by simp[SH,outB]
   have e3:ST T out=T++[(out.length,1)]:=by simp[ST,h0]
   have e4:ST T (out++[a.getD i 0])=T++[(out.length+1,1)]:=by simp[ST]
   rw[e1,e2,e3,e4];refine acall_enter 7 [] Tryz.ntmps173 Tryz.func173 rfl (fun _ _=>Tryz.call173 _ _) (by simp) (fun HO=>?_);apply aw_reg;intro K h;simp(disch:=omega);apply h;clear h K;refine aw_then fun K1 hK1=>?_;apply aw_reg;intro K h;simp(disch:=omega);apply h;clear h K;apply aw_iff rfl;apply aw_skip;simp(disch:=omega) ;apply hK1;clear hK1;refine aw_reg fun K hK=>?_;simp(disch:=omega) ;refine acall_is (hc _ _) ?_;simp(disch:=omega) ;apply hK;clear hK K;apply aw_ift rfl;refine aw_draw0 [5,6] [0,0,0,0,0,0,1] [[],[]] drawMixed (by kernel_rfl) (by kernel_rfl) fun K hK=>?_;simp(disch:=omega)[hgp,hsn];apply hK;clear hK K;exact⟨rfl,rfl,rfl⟩
open Post
theorem drop_cons0 (l:List Int)(i:Nat)(h:i<l.length):l.drop i=l.getD i 0::l.drop (i+1):=by
 rw[List.drop_eq_getElem_cons h,List.getD_eq_getElem?_getD,List.getElem?_eq_getElem h];rfl
def MG (kf:Bool→Bool→Bool)(a b:List Int)(n i j:Nat)(o:List Int):List Int:=
 mgN (fun o x=>if kf true false then o++[x] else o) (fun o x=>if kf false true then o++[x] else o) (fun o x=>if kf true true then o++[x] else o) n (a.drop i) (b.drop j) o
section
variable {kf : Bool → Bool → Bool} {a b o : List Int} {n i j : Nat}
theorem MG_A (hn:0<n)(hi:i<a.length)(hj:j<b.length)(h:a.getD i 0<b.getD j 0):MG kf a b n i j o=MG kf a b (n-1) (i+1) j (if kf true false then o++[a.getD i 0] else o):=by
 obtain⟨m,rfl⟩:∃m,n=m+1:=⟨n-1,by omega⟩
 unfold MG;rw[drop_cons0 a i hi,drop_cons0 b j hj,mgN,if_pos h];rfl
theorem MG_B (hn:0<n)(hi:i<a.length)(hj:j<b.length)(h:¬a.getD i 0<b.getD j 0)(h2:b.getD j 0<a.getD i 0):MG kf a b n i j o=MG kf a b (n-1) i (j+1) (if kf false true then o++[b.getD j 0] else o):=by
 obtain⟨m,rfl⟩:∃m,n=m+1:=⟨n-1,by omega⟩
 unfold MG;rw[drop_cons0 a i hi,drop_cons0 b j hj,mgN,if_neg h,if_pos h2];rfl
theorem MG_AB (hn:0<n)(hi:i<a.length)(hj:j<b.length)(h:¬a.getD i 0<b.getD j 0)(h2:¬b.getD j 0<a.getD i 0):MG kf a b n i j o=MG kf a b (n-1) (i+1) (j+1) (if kf true true then o++[a.getD i 0] else o):=by
 obtain⟨m,rfl⟩:∃m,n=m+1:=⟨n-1,by omega⟩
 unfold MG;rw[drop_cons0 a i hi,drop_cons0 b j hj,mgN,if_neg h,if_neg h2];rfl
theorem MG_A0 (hn:0<n)(hi:i<a.length)(hj:j=b.length):MG kf a b n i j o=MG kf a b (n-1) (i+1) j (if kf true false then o++[a.getD i 0] else o):=by
 obtain⟨m,rfl⟩:∃m,n=m+1:=⟨n-1,by omega⟩
 unfold MG;rw[drop_cons0 a i hi,hj,List.drop_length,mgN];rfl
theorem MG_B0 (hn:0<n)(hi:i=a.length)(hj:j<b.length):MG kf a b n i j o=MG kf a b (n-1) i (j+1) (if kf false true then o++[b.getD j 0] else o):=by
 obtain⟨m,rfl⟩:∃m,n=m+1:=⟨n-1,by omega⟩
 unfold MG;rw[drop_cons0 b j hj,hi,List.drop_length,mgN];rfl
theorem MG_end (hi:i=a.length)(hj:j=b.length):MG kf a b n i j o=o:=by
 unfold MG;rw[hi,hj,List.drop_length,List.drop_length]
 cases n<;>rfl
end
theorem SH_len (H:List Blk)(g:Nat)(out:List Int)(tk:Nat):(SH H g out tk).length=H.length+2:=by simp[SH]
theorem ST_len (T:Toks)(out:List Int):T.length≤(ST T out).length:=by unfold ST;split<;>simp
theorem hok_SH {H:List Blk}{T:Toks}(h:HOk H T)(g:Nat)(out:List Int):HOk (SH H g out T.length) (ST T out):=by
 have e:SH H g out T.length=(H++[.cells [.fn g [] []]])++[.cells [outB out T.length]]:=by simp[SH]
 rw[e];refine HOk.snoc (HOk.snoc (h.toks (ST_len T out)) (by simp)) ?_;unfold outB ST
 split
 ·simp
 ·simp
theorem len_if (k:Bool)(o:List Int)(x:Int)(m:Nat)(h:o.length+1≤m):(if k=true then o++[x] else o).length≤m:=by
 split
 ·simp only[List.length_append,List.length_cons,List.length_nil];omega
 ·omega
attribute [-simp] List.getD_eq_getElem?_getD in
theorem mergeC_ok (g:Nat)(kf:Bool→Bool→Bool)(hg:∀p q H T,ACall Tryz.prog g [.bool p,.bool q] H T (Is (.bool (kf p q)) H T))(a b:List Int)(ha:a.length≤1000)(hb:b.length≤1000)(H:List Blk)(T:Toks)(HO0:HOk H T) :
  ACall Tryz.prog 171 [.sl a.length (ints a) .none,.sl b.length (ints b) .none,.fn 172 [] [],.fn 173 [] [.ptr H.length 0,.ptr (H.length+1) 0]] (SH H g [] T.length) T
   (Is (.tup []) (SH H g (MG kf a b (a.length+b.length) 0 0 []) T.length) (ST T (MG kf a b (a.length+b.length) 0 0 []))):=by
 have e0:ST T []=T:=rfl;refine acall_enter 11 [] Tryz.ntmps171 Tryz.func171 rfl (fun _ _=>Tryz.call171 _ _) (by simp) (fun HO=>?_);clear HO;have HO:=HO0;apply aw_reg;intro K h;simp(disch:=omega);apply h;clear h K;apply aw_block;refine aw_loop (X:=Nat×Nat×Nat×List Int) (fun x=>⟨[(0,.sl a.length (ints a) .none),(1,.sl b.length (ints b) .none),(2,.fn 172 [] []),(3,.fn 173 [] [.ptr H.length 0,.ptr (H.length+1) 0]),(8,.int .i64 (x.2.1:Nat)),(9,.int .i64 (x.2.2.1:Nat))],SH H g x.2.2.2 T.length,ST T x.2.2.2⟩)
  (fun x=>x.2.1≤a.length∧x.2.2.1≤b.length∧(a.length-x.2.1)+(b.length-x.2.2.1)≤x.1∧MG kf a b (a.length+b.length) 0 0 []=MG kf a b x.1 x.2.1 x.2.2.1 x.2.2.2∧x.2.2.2.length≤x.2.1+x.2.2.1) (fun x=>x.1) (a.length+b.length,0,0,[]) ?_ ?_ ?_
 ·exact⟨Nat.zero_le _,Nat.zero_le _,by simp only;omega,rfl,Nat.zero_le _⟩
 ·refine weak_to [] [] ?_ ?_ ?_ ?_ (hok_SH HO g _) ?_
  ·simp
  ·simp[e0]
  ·simp[SH_len]
  ·exact ST_len T _
  ·simp[SH_len]
 ·rintro⟨n,i,j,out⟩ ⟨h1,h2,h3,h4,h5⟩;simp only at h1 h2 h3 h4 h5
  by_cases hi:i<a.length
  ·have bi:decide ((i:Int)<a.length)=true:=by simp;omega
   have ni:((i:Int)==a.length)=false:=by rw[beq_eq_false_iff_ne];omega
   have ni2:¬i=a.length:=by omega
   by_cases hj:j<b.length
   ·have bj:decide ((j:Int)<b.length)=true:=by simp;omega
    have nj:((j:Int)==b.length)=false:=by rw[beq_eq_false_iff_ne];omega
    have nj2:¬j=b.length:=by omega
    have hn:0<n:=by omega
    refine aw_then fun K2 hK2=>?_;refine aw_reg fun K hK=>?_;simp(disch:=omega)[bi,bj,hi,hj];apply hK;clear hK K;apply aw_ift rfl;apply aw_skip;simp(disch:=omega) ;apply hK2;clear hK2;apply aw_block;apply aw_block
    by_cases c1:a.getD i 0<b.getD j 0
    ·have b1:decide (a.getD i 0<b.getD j 0)=true:=by simpa using c1
     have hst:=MG_A (kf:=kf) (o:=out) hn hi hj c1;refine aw_draw [] [] [] drawMixed (by kernel_rfl) (by kernel_rfl) fun K hK=>?_;simp(disch:=omega)[bi,hi,nj,nj2,getD_ints];refine dcall_is (itself_ok _ _ _) rfl ?_;simp(disch:=omega)[getD_ints];refine dcall_is (itself_ok _ _ _) rfl ?_;simp(disch:=omega)[b1,c1];apply hK;clear hK K;apply aw_ift rfl;refine aw_reg fun K hK=>?_;simp(disch:=omega) ;refine acall_is (combA_ok g kf hg out (by omega) a i hi (by omega) H T) ?_;simp(disch:=omega) ;apply hK;clear hK K;refine aw_reg0 fun K hK=>?_;simp(disch:=omega) ;apply hK;clear hK K;refine⟨(n-1,i+1,j,if kf true false=true then out++[a.getD i 0] else out),⟨by show i+1≤a.length;omega,by show j≤b.length;omega,by show (a.length-(i+1))+(b.length-(j))≤n-1;omega,by rw[h4,hst],len_if _ _ _ _ (by show out.length+1≤(i+1)+(j);omega)⟩,by show n-1<n;omega,?_⟩;refine weak_to [] [] ?_ ?_ ?_ ?_ (hok_SH HO g _) ?_
     ·simp
     ·simp
     ·simp[SH_len]
     ·exact ST_len T _
     ·simp[SH_len]
      try omega
    ·have b1:decide (a.getD i 0<b.getD j 0)=false:=by simpa using c1
     refine aw_draw [] [] [] drawMixed (by kernel_rfl) (by kernel_rfl) fun K hK=>?_;simp(disch:=omega)[bi,hi,nj,nj2,getD_ints];refine dcall_is (itself_ok _ _ _) rfl ?_;simp(disch:=omega)[getD_ints];refine dcall_is (itself_ok _ _ _) rfl ?_;simp(disch:=omega)[b1,c1];apply hK;clear hK K;apply aw_iff rfl
     by_cases c2:b.getD j 0<a.getD i 0
     ·have b2:decide (b.getD j 0<a.getD i 0)=true:=by simpa using c2
      have hst:=MG_B (kf:=kf) (o:=out) hn hi hj c1 c2;refine aw_draw [] [] [] drawMixed (by kernel_rfl) (by kernel_rfl) fun K hK=>?_;simp(disch:=omega)[ni,ni2,getD_ints];refine dcall_is (itself_ok _ _ _) rfl ?_;simp(disch:=omega)[getD_ints];refine dcall_is (itself_ok _ _ _) rfl ?_;simp(disch:=omega)[b2,c2];apply hK;clear hK K;apply aw_ift rfl;refine aw_reg fun K hK=>?_;simp(disch:=omega) ;refine acall_is (combB_ok g kf hg out (by omega) b j hj (by omega) H T) ?_;simp(disch:=omega) ;apply hK;clear hK K;refine aw_reg0 fun K hK=>?_;simp(disch:=omega) ;apply hK;clear hK K;refine⟨(n-1,i,j+1,if kf false true=true then out++[b.getD j 0] else out),⟨by show i≤a.length;omega,by show j+1≤b.length;omega,by show (a.length-(i))+(b.length-(j+1))≤n-1;omega,by rw[h4,hst],len_if _ _ _ _ (by show out.length+1≤(i)+(j+1);omega)⟩,by show n-1<n;omega,?_⟩;refine weak_to [] [] ?_ ?_ ?_ ?_ (hok_SH HO g _) ?_
      ·simp
      ·simp
      ·simp[SH_len]
      ·exact ST_len T _
      ·simp[SH_len]
       try omega
     ·have b2:decide (b.getD j 0<a.getD i 0)=false:=by simpa using c2
      have hst:=MG_AB (kf:=kf) (o:=out) hn hi hj c1 c2;refine aw_draw [] [] [] drawMixed (by kernel_rfl) (by kernel_rfl) fun K hK=>?_;simp(disch:=omega)[ni,ni2,getD_ints];refine dcall_is (itself_ok _ _ _) rfl ?_;simp(disch:=omega)[getD_ints];refine dcall_is (itself_ok _ _ _) rfl ?_;simp(disch:=omega)[b2,c2];apply hK;clear hK K;apply aw_iff rfl;refine aw_draw [7] [0,0,0,0,0,0,0,0] [[]] drawMixed (by kernel_rfl) (by kernel_rfl) fun K hK=>?_;simp(disch:=omega) ;refine dcall_eff (combAB_ok g kf hg out (by omega) a i hi (by omega) b j H T) rfl ?_;simp(disch:=omega) ;apply hK;clear hK K;refine aw_reg0 fun K hK=>?_;simp(disch:=omega) ;apply hK;clear hK K;refine⟨(n-1,i+1,j+1,if kf true true=true then out++[a.getD i 0] else out),⟨by show i+1≤a.length;omega,by show j+1≤b.length;omega,by show (a.length-(i+1))+(b.length-(j+1))≤n-1;omega,by rw[h4,hst],len_if _ _ _ _ (by show out.length+1≤(i+1)+(j+1);omega)⟩,by show n-1<n;omega,?_⟩;refine weak_to [] [] ?_ ?_ ?_ ?_ (hok_SH HO g _) ?_
      ·simp
      ·simp
      ·simp[SH_len]
      ·exact ST_len T _
      ·simp[SH_len]
       try omega
   ·have bj:decide ((j:Int)<b.length)=false:=by simp;omega
    have hjb:j=b.length:=by omega
    have nj:((j:Int)==b.length)=true:=by simp;omega
    have hn:0<n:=by omega
    have hst:=MG_A0 (kf:=kf) (o:=out) hn hi hjb;refine aw_then fun K2 hK2=>?_;refine aw_reg fun K hK=>?_;simp(disch:=omega)[bi,bj,hi,hj];apply hK;clear hK K;apply aw_ift rfl;apply aw_skip;simp(disch:=omega) ;apply hK2;clear hK2;apply aw_block;apply aw_block;have hjz:(j:Int)=(b.length:Int):=by omega
    refine aw_draw [] [] [] drawMixed (by kernel_rfl) (by kernel_rfl) fun K hK=>?_;simp(disch:=omega)[nj,hjz];apply hK;clear hK K;apply aw_ift rfl;refine aw_reg fun K hK=>?_;simp(disch:=omega) ;refine acall_is (combA_ok g kf hg out (by omega) a i hi (by omega) H T) ?_;simp(disch:=omega) ;apply hK;clear hK K;refine aw_reg0 fun K hK=>?_;simp(disch:=omega) ;apply hK;clear hK K;refine⟨(n-1,i+1,j,if kf true false=true then out++[a.getD i 0] else out),⟨by show i+1≤a.length;omega,by show j≤b.length;omega,by show (a.length-(i+1))+(b.length-(j))≤n-1;omega,by rw[h4,hst],len_if _ _ _ _ (by show out.length+1≤(i+1)+(j);omega)⟩,by show n-1<n;omega,?_⟩;refine weak_to [] [] ?_ ?_ ?_ ?_ (hok_SH HO g _) ?_
    ·simp
    ·simp
    ·simp[SH_len]
    ·exact ST_len T _
    ·simp[SH_len]
     try omega
  ·have bi:decide ((i:Int)<a.length)=false:=by simp;omega
   have hia:i=a.length:=by omega
   by_cases hj:j<b.length
   ·have bj:decide ((j:Int)<b.length)=true:=by simp;omega
    have nj:((j:Int)==b.length)=false:=by rw[beq_eq_false_iff_ne];omega
    have nj2:¬j=b.length:=by omega
    have ni:((i:Int)==a.length)=true:=by simp;omega
    have hn:0<n:=by omega
    have hst:=MG_B0 (kf:=kf) (o:=out) hn hia hj;refine aw_then fun K2 hK2=>?_;refine aw_reg fun K hK=>?_;simp(disch:=omega)[bi,bj,hi,hj];apply hK;clear hK K;apply aw_ift rfl;apply aw_skip;simp(disch:=omega) ;apply hK2;clear hK2;apply aw_block;apply aw_block;refine aw_draw [] [] [] drawMixed (by kernel_rfl) (by kernel_rfl) fun K hK=>?_;simp(disch:=omega)[nj,nj2,bi,hi];apply hK;clear hK K;apply aw_iff rfl;have hiz:(i:Int)=(a.length:Int):=by omega
    refine aw_draw [] [] [] drawMixed (by kernel_rfl) (by kernel_rfl) fun K hK=>?_;simp(disch:=omega)[ni,hiz];apply hK;clear hK K;apply aw_ift rfl;refine aw_reg fun K hK=>?_;simp(disch:=omega) ;refine acall_is (combB_ok g kf hg out (by omega) b j hj (by omega) H T) ?_;simp(disch:=omega) ;apply hK;clear hK K;refine aw_reg0 fun K hK=>?_;simp(disch:=omega) ;apply hK;clear hK K;refine⟨(n-1,i,j+1,if kf false true=true then out++[b.getD j 0] else out),⟨by show i≤a.length;omega,by show j+1≤b.length;omega,by show (a.length-(i))+(b.length-(j+1))≤n-1;omega,by rw[h4,hst],len_if _ _ _ _ (by show out.length+1≤(i)+(j+1);omega)⟩,by show n-1<n;omega,?_⟩;refine weak_to [] [] ?_ ?_ ?_ ?_ (hok_SH HO g _) ?_
    ·simp
    ·simp
    ·simp[SH_len]
    ·exact ST_len T _
    ·simp[SH_len]
     try omega
   ·have bj:decide ((j:Int)<b.length)=false:=by simp;omega
    have hend:=MG_end (kf:=kf) (a:=a) (b:=b) (o:=out) (n:=n) hia (show j=b.length by omega);rw[hend] at h4;refine aw_then fun K2 hK2=>?_;refine aw_reg fun K hK=>?_;simp(disch:=omega)[bi,bj,hi,hj];apply hK;clear hK K;apply aw_iff rfl;apply aw_exit;simp(disch:=omega) ;rw[h4];exact⟨rfl,rfl,rfl⟩
def comb (kf:Bool→Bool→Bool)(a b:List Int):List Int:=
 if asc a 1 1000000000=true∧asc b 1 1000000000=true then MG kf a b (a.length+b.length) 0 0 [] else []
attribute [-simp] List.getD_eq_getElem?_getD in
theorem combine_ok (g:Nat)(kf:Bool→Bool→Bool)(hg:∀p q H T,ACall Tryz.prog g [.bool p,.bool q] H T (Is (.bool (kf p q)) H T))(a b:List Int)(ha:a.length≤1000)(hb:b.length≤1000)(H:List Blk)(T:Toks)(ta tb:Tag) :
  ACall Tryz.prog 116 [.sl a.length (ints a) ta,.sl b.length (ints b) tb,.fn g [] []] H T (Is (.sl (comb kf a b).length (ints (comb kf a b)) .none) H T):=by
 refine ACall.untag1 (ACall.untag2 ?_);refine ACall.drop' ?_ (by simp);have hml:1000≤maxLen:=by decide
 refine acall_enter 8 [] Tryz.ntmps116 Tryz.func116 rfl (fun _ _=>Tryz.call116 _ _) (by simp) (fun HO=>?_);apply aw_reg;intro K h;simp(disch:=omega);apply h;clear h K;apply aw_reg;intro K h;simp(disch:=omega);apply h;clear h K;refine aw_then fun K1 hK1=>?_;have c1:=validDocs_ok a (by omega) (H++[.cells [.fn g [] []],.cells [.sl 0 [] .full]]) T .none;have c2:=validDocs_ok b (by omega) (H++[.cells [.fn g [] []],.cells [.sl 0 [] .full]]) T .none
 cases hv:asc a 1 1000000000
 ·rw[hv] at c1;refine aw_reg fun K hK=>?_;simp(disch:=omega) ;refine acall_is (c1) ?_;simp(disch:=omega) ;apply hK;clear hK K;apply aw_ift rfl;apply aw_reg;intro K h;simp(disch:=omega);apply h;clear h K;apply aw_ret;simp(disch:=omega) ;simp[comb,hv,ints]
 ·rw[hv] at c1
  cases hw:asc b 1 1000000000
  ·rw[hw] at c2;refine aw_reg fun K hK=>?_;simp(disch:=omega) ;refine acall_is (c1) ?_;simp(disch:=omega) ;refine acall_is (c2) ?_;simp(disch:=omega) ;apply hK;clear hK K;apply aw_ift rfl;apply aw_reg;intro K h;simp(disch:=omega);apply h;clear h K;apply aw_ret;simp(disch:=omega) ;simp[comb,hw,ints]
  ·rw[hw] at c2;have c3:=mergeC_ok g kf hg a b ha hb H T HO;have hr:comb kf a b=MG kf a b (a.length+b.length) 0 0 []:=by unfold comb;rw[if_pos ⟨hv,hw⟩]
   rw[←hr] at c3;have k1:(SH H g (comb kf a b) T.length)[H.length+1]?=some (.cells [outB (comb kf a b) T.length]):=new_at _ _ 1;have hH:∃rH,SH H g (comb kf a b) T.length=H++rH:=⟨_,rfl⟩
   have hT:∃rT,ST T (comb kf a b)=T++rT:=by unfold ST;split;exact⟨[],by simp⟩;exact⟨_,rfl⟩
   refine aw_reg fun K hK=>?_;simp(disch:=omega) ;refine acall_is (c1) ?_;simp(disch:=omega) ;refine acall_is (c2) ?_;simp(disch:=omega) ;apply hK;clear hK K;apply aw_iff rfl;apply aw_skip;simp(disch:=omega) ;apply hK1;clear hK1;refine aw_reg fun K hK=>?_;simp(disch:=omega) ;refine acall_is (c3) ?_;simp(disch:=omega) ;apply hK;clear hK K;refine aw_reg fun K hK=>?_;simp(disch:=omega)[k1];apply hK;clear hK K;apply aw_ret;simp(disch:=omega) ;generalize comb kf a b=r at *;refine⟨hH,hT,?_⟩;unfold outB
   by_cases h0:r=[]
   ·subst h0;simp[ints]
   ·simp[h0]
attribute [-simp] List.getD_eq_getElem?_getD in
theorem and_ok (a b:List Int)(ha:a.length≤1000)(hb:b.length≤1000)(H:List Blk)(T:Toks)(ta tb:Tag):ACall Tryz.prog 64 [.sl a.length (ints a) ta,.sl b.length (ints b) tb] H T (Is (.sl (comb (fun p q=>p&&q) a b).length (ints (comb (fun p q=>p&&q) a b)) .none) H T):=by
 refine ACall.drop' ?_ (by simp);refine acall_enter 5 [] Tryz.ntmps64 Tryz.func64 rfl (fun _ _=>Tryz.call64 _ _) (by simp) (fun HO=>?_);apply aw_reg;intro K h;simp(disch:=omega);apply h;clear h K;refine aw_reg fun K hK=>?_;simp(disch:=omega) ;refine acall_is (combine_ok _ (fun p q=>p&&q) (fun p q H T=>and1_ok p q H T) a b ha hb H T _ _) ?_;simp(disch:=omega) ;apply hK;clear hK K;apply aw_ret;simp(disch:=omega) 
attribute [-simp] List.getD_eq_getElem?_getD in
theorem or_ok (a b:List Int)(ha:a.length≤1000)(hb:b.length≤1000)(H:List Blk)(T:Toks)(ta tb:Tag):ACall Tryz.prog 65 [.sl a.length (ints a) ta,.sl b.length (ints b) tb] H T (Is (.sl (comb (fun _ _=>true) a b).length (ints (comb (fun _ _=>true) a b)) .none) H T):=by
 refine ACall.drop' ?_ (by simp);refine acall_enter 5 [] Tryz.ntmps65 Tryz.func65 rfl (fun _ _=>Tryz.call65 _ _) (by simp) (fun HO=>?_);apply aw_reg;intro K h;simp(disch:=omega);apply h;clear h K;refine aw_reg fun K hK=>?_;simp(disch:=omega) ;refine acall_is (combine_ok _ (fun _ _=>true) (fun p q H T=>or1_ok p q H T) a b ha hb H T _ _) ?_;simp(disch:=omega) ;apply hK;clear hK K;apply aw_ret;simp(disch:=omega) 
attribute [-simp] List.getD_eq_getElem?_getD in
theorem without_ok (a b:List Int)(ha:a.length≤1000)(hb:b.length≤1000)(H:List Blk)(T:Toks)(ta tb:Tag):ACall Tryz.prog 62 [.sl a.length (ints a) ta,.sl b.length (ints b) tb] H T (Is (.sl (comb (fun _ q=>!q) a b).length (ints (comb (fun _ q=>!q) a b)) .none) H T):=by
 refine ACall.drop' ?_ (by simp);refine acall_enter 5 [] Tryz.ntmps62 Tryz.func62 rfl (fun _ _=>Tryz.call62 _ _) (by simp) (fun HO=>?_);apply aw_reg;intro K h;simp(disch:=omega);apply h;clear h K;refine aw_reg fun K hK=>?_;simp(disch:=omega) ;refine acall_is (combine_ok _ (fun _ q=>!q) (fun p q H T=>without1_ok p q H T) a b ha hb H T _ _) ?_;simp(disch:=omega) ;apply hK;clear hK K;apply aw_ret;simp(disch:=omega) 
theorem asc_pair {l:List Int}{lo hi:Int}(h:asc l lo hi=true):Asc l:=by
 unfold asc at h;rw[List.all_eq_true] at h;have h1:∀k,k+1<l.length→l.getD k 0<l.getD (k+1) 0:=by
  intro k hk;have:=h (k+1) (by simpa using hk);unfold ascAt at this;simp only[Bool.and_eq_true,Bool.or_eq_true,decide_eq_true_eq,Nat.add_sub_cancel] at this;rcases this.2 with h2|h2
  ·omega
  ·exact h2
 clear h
 induction l with
 |nil=>exact List.Pairwise.nil
 |cons x l ih=>
  have ht:Asc l:=ih (fun k hk=>by
   have:=h1 (k+1) (by simpa using hk);simpa using this)
  refine List.pairwise_cons.2 ⟨fun y hy=>?_,ht⟩
  cases l with
  |nil=>simp at hy
  |cons z l=>
   have hz:=h1 0 (by simp);simp at hz;rcases List.mem_cons.1 hy with rfl|hy
   ·exact hz
   ·have:=(asc_tail ht).2 y hy;omega
attribute [-simp] List.getD_eq_getElem?_getD in
theorem has_ok (l:List Int)(n:Int)(hl:l.length≤maxLen)(H:List Blk)(T:Toks)(tg:Tag):ACall Tryz.prog 109 [.sl l.length (ints l) tg,.int .i64 n] H T (Is (.bool (decide (n∈l))) H T):=by
 refine ACall.untag1 ?_;have hml:maxLen≤9223372036854775807:=by decide
 have hl':=Nat.le_trans hl hml;refine acall_enter 6 [] Tryz.ntmps109 Tryz.func109 rfl (fun _ _=>Tryz.call109 _ _) (by simp) (fun HO=>?_);apply aw_reg;intro K h;simp(disch:=omega);apply h;clear h K;refine aw_then fun K1 hK1=>?_;apply aw_reg;intro K h;simp(disch:=omega);apply h;clear h K;apply aw_block;refine aw_loop (X:=Nat) (fun k=>⟨[(0,.sl l.length (ints l) .none),(1,.int .i64 n),(5,.int .i64 (k:Nat))],H,T⟩) (fun k=>k≤l.length∧∀j,j<k→l.getD j 0≠n) (fun k=>l.length-k) 0 ?_ ?_ ?_
 ·exact⟨Nat.zero_le _,fun j hj=>absurd hj (Nat.not_lt_zero _)⟩
 ·refine weak_to [] [] ?_ ?_ ?_ ?_ HO ?_
  all_goals simp
 ·rintro k ⟨h1,h2⟩;refine aw_then fun K2 hK2=>?_;apply aw_reg;intro K h;simp(disch:=omega);apply h;clear h K;refine aw_if rfl (fun hk=>?_) (fun hk=>?_)
  ·simp  at hk;apply aw_skip;simp(disch:=omega) ;apply hK2;clear hK2;refine aw_then fun K3 hK3=>?_;apply aw_block
   by_cases hc:l.getD k 0=n
   ·have b:(l.getD k 0==n)=true:=by simpa using hc
    have hm:n∈l:=by
     rw[←hc,List.getD_eq_getElem?_getD,List.getElem?_eq_getElem hk];exact List.getElem_mem hk
    refine aw_reg fun K hK=>?_;simp(disch:=omega)[getD_ints,b];apply hK;clear hK K;apply aw_ift rfl;apply aw_reg;intro K h;simp(disch:=omega);apply h;clear h K;apply aw_ret;simp(disch:=omega) ;rw[decide_eq_true hm];exact⟨rfl,rfl,rfl⟩
   ·have b:(l.getD k 0==n)=false:=by simpa using hc
    refine aw_reg fun K hK=>?_;simp(disch:=omega)[getD_ints,b];apply hK;clear hK K;apply aw_iff rfl;apply aw_skip;simp(disch:=omega) ;apply hK3;clear hK3;refine aw_reg0 fun K hK=>?_;simp(disch:=omega) ;apply hK;clear hK K;refine⟨k+1,⟨by show k+1≤_;omega,fun j hj=>?_⟩,by show l.length-(k+1)<l.length-k;omega,?_⟩
    ·rcases Nat.lt_or_ge j k with h3|h3
     ·exact h2 j h3
     ·have:j=k:=by omega
      subst this;exact hc
    ·refine weak_to [] [] ?_ ?_ ?_ ?_ HO ?_
     all_goals simp
  ·simp  at hk;have hm:¬n∈l:=by
    intro hm;obtain⟨j,hj,e⟩:=List.mem_iff_getElem.1 hm;have:=h2 j (by omega);rw[List.getD_eq_getElem?_getD,List.getElem?_eq_getElem hj] at this;exact this e
   apply aw_exit;simp(disch:=omega) ;apply hK1;clear hK1;apply aw_reg;intro K h;simp(disch:=omega);apply h;clear h K;apply aw_ret;simp(disch:=omega) ;rw[decide_eq_false hm];exact⟨rfl,rfl,rfl⟩
def keepR (f:Bool→Bool)(a b:List Int):List Int:=
 if asc a 1 1000000000=true∧asc b 1 1000000000=true then a.filter (fun x=>f (decide (x∈b))) else []
theorem filter_step (a:List Int)(k:Nat)(p:Int→Bool)(h:k<a.length):(a.take (k+1)).filter p=if p (a.getD k 0)=true then (a.take k).filter p++[a.getD k 0] else (a.take k).filter p:=by
 have e:a.take (k+1)=a.take k++[a.getD k 0]:=by
  rw[List.take_succ_eq_append_getElem h];simp[h]
 rw[e,List.filter_append]
 by_cases hp:p (a.getD k 0)=true
 ·rw[if_pos hp,List.filter_cons_of_pos hp];rfl
 ·rw[if_neg hp,List.filter_cons_of_neg hp];simp
attribute [-simp] List.getD_eq_getElem?_getD in
theorem andR_ok (a b:List Int)(ha:a.length≤1000)(hb:b.length≤1000)(H:List Blk)(T:Toks)(ta tb:Tag):ACall Tryz.prog 107 [.sl a.length (ints a) ta,.sl b.length (ints b) tb] H T (Is (.sl (keepR (fun m=>m) a b).length (ints (keepR (fun m=>m) a b)) .none) H T):=by
 refine ACall.untag1 (ACall.untag2 ?_);refine ACall.drop' ?_ (by simp);have hml:1000≤maxLen:=by decide
 have c1:=validDocsR_ok a (by omega) H T .none;have c2:=validDocsR_ok b (by omega) H T .none;refine acall_enter 7 [] Tryz.ntmps107 Tryz.func107 rfl (fun _ _=>Tryz.call107 _ _) (by simp) (fun HO=>?_);apply aw_reg;intro K h;simp(disch:=omega);apply h;clear h K;apply aw_reg;intro K h;simp(disch:=omega);apply h;clear h K;refine aw_then fun K1 hK1=>?_
 cases hv:asc a 1 1000000000
 ·rw[hv] at c1;refine aw_reg fun K hK=>?_;simp(disch:=omega) ;refine acall_is (c1) ?_;simp(disch:=omega) ;apply hK;clear hK K;apply aw_ift rfl;apply aw_reg;intro K h;simp(disch:=omega);apply h;clear h K;apply aw_ret;simp(disch:=omega) ;simp[keepR,hv,ints]
 ·rw[hv] at c1
  cases hw:asc b 1 1000000000
  ·rw[hw] at c2;refine aw_reg fun K hK=>?_;simp(disch:=omega) ;refine acall_is (c1) ?_;simp(disch:=omega) ;refine acall_is (c2) ?_;simp(disch:=omega) ;apply hK;clear hK K;apply aw_ift rfl;apply aw_reg;intro K h;simp(disch:=omega);apply h;clear h K;apply aw_ret;simp(disch:=omega) ;simp[keepR,hw,ints]
  ·rw[hw] at c2;have hr:keepR (fun m=>m) a b=a.filter (fun x=>(fun m=>m) (decide (x∈b))):=by unfold keepR;rw[if_pos ⟨hv,hw⟩]
   refine aw_reg fun K hK=>?_;simp(disch:=omega) ;refine acall_is (c1) ?_;simp(disch:=omega) ;refine acall_is (c2) ?_;simp(disch:=omega) ;apply hK;clear hK K;apply aw_iff rfl;apply aw_skip;simp(disch:=omega) ;apply hK1;clear hK1;refine aw_then fun K1 hK1=>?_;apply aw_reg;intro K h;simp(disch:=omega);apply h;clear h K;apply aw_block;refine aw_own 5 0 1 [] (by omega) (by simp) ?_;refine aw_loop (X:=Nat) (fun k=>⟨[(0,.sl a.length (ints a) .none),(1,.sl b.length (ints b) .none),(5,.sl ((a.take k).filter (fun x=>(fun m=>m) (decide (x∈b)))).length (ints ((a.take k).filter (fun x=>(fun m=>m) (decide (x∈b))))) (.own T.length)),(6,.int .i64 (k:Nat))],H,T++[(((a.take k).filter (fun x=>(fun m=>m) (decide (x∈b)))).length,1)]⟩) (fun k=>k≤a.length) (fun k=>a.length-k) 0 ?_ ?_ ?_
   ·exact Nat.zero_le _
   ·refine weak_to [] [] ?_ ?_ ?_ ?_ (HO.toks (by simp)) ?_
    all_goals simp
   ·intro k hk0;have hlen:((a.take k).filter (fun x=>(fun m=>m) (decide (x∈b)))).length≤k:=by
     refine Nat.le_trans (List.length_filter_le _ _) ?_;rw[List.length_take];omega
    refine aw_then fun K2 hK2=>?_;apply aw_reg;intro K h;simp(disch:=omega);apply h;clear h K;refine aw_if rfl (fun hk=>?_) (fun hk=>?_)
    ·simp  at hk;have hst:=filter_step a k (fun x=>(fun m=>m) (decide (x∈b))) hk;have c3:=has_ok b (a.getD k 0) (by omega) H (T++[(((a.take k).filter (fun x=>(fun m=>m) (decide (x∈b)))).length,1)]) .none;generalize (a.take k).filter (fun x=>(fun m=>m) (decide (x∈b)))=out at *;apply aw_skip;simp(disch:=omega) ;apply hK2;clear hK2;refine aw_then fun K3 hK3=>?_;apply aw_block
     cases hm:decide (a.getD k 0∈b)
     ·rw[hm] at c3 hst;refine aw_reg fun K hK=>?_;simp(disch:=omega)[getD_ints];refine acall_is (c3) ?_;simp(disch:=omega) ;apply hK;clear hK K;apply aw_iff rfl;apply aw_skip;simp(disch:=omega) ;apply hK3;clear hK3;refine aw_reg0 fun K hK=>?_;simp(disch:=omega) ;apply hK;clear hK K;refine⟨k+1,by show k+1≤_;omega,by show a.length-(k+1)<a.length-k;omega,?_⟩;rw[hst];refine weak_to [] [] ?_ ?_ ?_ ?_ (HO.toks (by simp)) ?_
      all_goals simp[ints_snoc]
     ·rw[hm] at c3 hst;refine aw_reg fun K hK=>?_;simp(disch:=omega)[getD_ints];refine acall_is (c3) ?_;simp(disch:=omega) ;apply hK;clear hK K;apply aw_ift rfl;refine aw_reg0 fun K hK=>?_;simp(disch:=omega)[getD_ints];apply hK;clear hK K;apply hK3;clear hK3;refine aw_reg0 fun K hK=>?_;simp(disch:=omega) ;apply hK;clear hK K;refine⟨k+1,by show k+1≤_;omega,by show a.length-(k+1)<a.length-k;omega,?_⟩;rw[hst];refine weak_to [] [] ?_ ?_ ?_ ?_ (HO.toks (by simp)) ?_
      all_goals simp[ints_snoc]
    ·simp  at hk;have hka:k=a.length:=by omega
     subst hka;rw[List.take_length];apply aw_exit;simp(disch:=omega) ;apply hK1;clear hK1;apply aw_reg;intro K h;simp(disch:=omega);apply h;clear h K;apply aw_ret;simp(disch:=omega) ;rw[hr];exact⟨rfl,rfl⟩
attribute [-simp] List.getD_eq_getElem?_getD in
theorem withoutR_ok (a b:List Int)(ha:a.length≤1000)(hb:b.length≤1000)(H:List Blk)(T:Toks)(ta tb:Tag):ACall Tryz.prog 58 [.sl a.length (ints a) ta,.sl b.length (ints b) tb] H T (Is (.sl (keepR (fun m=>!m) a b).length (ints (keepR (fun m=>!m) a b)) .none) H T):=by
 refine ACall.untag1 (ACall.untag2 ?_);refine ACall.drop' ?_ (by simp);have hml:1000≤maxLen:=by decide
 have c1:=validDocsR_ok a (by omega) H T .none;have c2:=validDocsR_ok b (by omega) H T .none;refine acall_enter 7 [] Tryz.ntmps58 Tryz.func58 rfl (fun _ _=>Tryz.call58 _ _) (by simp) (fun HO=>?_);apply aw_reg;intro K h;simp(disch:=omega);apply h;clear h K;apply aw_reg;intro K h;simp(disch:=omega);apply h;clear h K;refine aw_then fun K1 hK1=>?_
 cases hv:asc a 1 1000000000
 ·rw[hv] at c1;refine aw_reg fun K hK=>?_;simp(disch:=omega) ;refine acall_is (c1) ?_;simp(disch:=omega) ;apply hK;clear hK K;apply aw_ift rfl;apply aw_reg;intro K h;simp(disch:=omega);apply h;clear h K;apply aw_ret;simp(disch:=omega) ;simp[keepR,hv,ints]
 ·rw[hv] at c1
  cases hw:asc b 1 1000000000
  ·rw[hw] at c2;refine aw_reg fun K hK=>?_;simp(disch:=omega) ;refine acall_is (c1) ?_;simp(disch:=omega) ;refine acall_is (c2) ?_;simp(disch:=omega) ;apply hK;clear hK K;apply aw_ift rfl;apply aw_reg;intro K h;simp(disch:=omega);apply h;clear h K;apply aw_ret;simp(disch:=omega) ;simp[keepR,hw,ints]
  ·rw[hw] at c2;have hr:keepR (fun m=>!m) a b=a.filter (fun x=>(fun m=>!m) (decide (x∈b))):=by unfold keepR;rw[if_pos ⟨hv,hw⟩]
   refine aw_reg fun K hK=>?_;simp(disch:=omega) ;refine acall_is (c1) ?_;simp(disch:=omega) ;refine acall_is (c2) ?_;simp(disch:=omega) ;apply hK;clear hK K;apply aw_iff rfl;apply aw_skip;simp(disch:=omega) ;apply hK1;clear hK1;refine aw_then fun K1 hK1=>?_;apply aw_reg;intro K h;simp(disch:=omega);apply h;clear h K;apply aw_block;refine aw_own 5 0 1 [] (by omega) (by simp) ?_;refine aw_loop (X:=Nat) (fun k=>⟨[(0,.sl a.length (ints a) .none),(1,.sl b.length (ints b) .none),(5,.sl ((a.take k).filter (fun x=>(fun m=>!m) (decide (x∈b)))).length (ints ((a.take k).filter (fun x=>(fun m=>!m) (decide (x∈b))))) (.own T.length)),(6,.int .i64 (k:Nat))],H,T++[(((a.take k).filter (fun x=>(fun m=>!m) (decide (x∈b)))).length,1)]⟩) (fun k=>k≤a.length) (fun k=>a.length-k) 0 ?_ ?_ ?_
   ·exact Nat.zero_le _
   ·refine weak_to [] [] ?_ ?_ ?_ ?_ (HO.toks (by simp)) ?_
    all_goals simp
   ·intro k hk0;have hlen:((a.take k).filter (fun x=>(fun m=>!m) (decide (x∈b)))).length≤k:=by
     refine Nat.le_trans (List.length_filter_le _ _) ?_;rw[List.length_take];omega
    refine aw_then fun K2 hK2=>?_;apply aw_reg;intro K h;simp(disch:=omega);apply h;clear h K;refine aw_if rfl (fun hk=>?_) (fun hk=>?_)
    ·simp  at hk;have hst:=filter_step a k (fun x=>(fun m=>!m) (decide (x∈b))) hk;have c3:=has_ok b (a.getD k 0) (by omega) H (T++[(((a.take k).filter (fun x=>(fun m=>!m) (decide (x∈b)))).length,1)]) .none;generalize (a.take k).filter (fun x=>(fun m=>!m) (decide (x∈b)))=out at *;apply aw_skip;simp(disch:=omega) ;apply hK2;clear hK2;refine aw_then fun K3 hK3=>?_;apply aw_block
     cases hm:decide (a.getD k 0∈b)
     ·rw[hm] at c3 hst;refine aw_reg fun K hK=>?_;simp(disch:=omega)[getD_ints];refine acall_is (c3) ?_;simp(disch:=omega) ;apply hK;clear hK K;apply aw_ift rfl;refine aw_reg0 fun K hK=>?_;simp(disch:=omega)[getD_ints];apply hK;clear hK K;apply hK3;clear hK3;refine aw_reg0 fun K hK=>?_;simp(disch:=omega) ;apply hK;clear hK K;refine⟨k+1,by show k+1≤_;omega,by show a.length-(k+1)<a.length-k;omega,?_⟩;rw[hst];refine weak_to [] [] ?_ ?_ ?_ ?_ (HO.toks (by simp)) ?_
      all_goals simp[ints_snoc]
     ·rw[hm] at c3 hst;refine aw_reg fun K hK=>?_;simp(disch:=omega)[getD_ints];refine acall_is (c3) ?_;simp(disch:=omega) ;apply hK;clear hK K;apply aw_iff rfl;apply aw_skip;simp(disch:=omega) ;apply hK3;clear hK3;refine aw_reg0 fun K hK=>?_;simp(disch:=omega) ;apply hK;clear hK K;refine⟨k+1,by show k+1≤_;omega,by show a.length-(k+1)<a.length-k;omega,?_⟩;rw[hst];refine weak_to [] [] ?_ ?_ ?_ ?_ (HO.toks (by simp)) ?_
      all_goals simp[ints_snoc]
    ·simp  at hk;have hka:k=a.length:=by omega
     subst hka;rw[List.take_length];apply aw_exit;simp(disch:=omega) ;apply hK1;clear hK1;apply aw_reg;intro K h;simp(disch:=omega);apply h;clear h K;apply aw_ret;simp(disch:=omega) ;rw[hr];exact⟨rfl,rfl⟩
theorem without_eq (a b:List Int):comb (fun _ q=>!q) a b=keepR (fun m=>!m) a b:=by
 unfold comb keepR
 split
 ·rename_i h;have ha:=asc_pair h.1;have hb:=asc_pair h.2;obtain⟨_,g2,g3⟩:=mg_keep true false false (a.length+b.length) a b [] (Nat.le_refl _) ha hb;refine asc_ext _ _ g3 (ha.filter _) (fun z=>?_);refine(g2 z).trans ?_;simp
 ·rfl
attribute [-simp] List.getD_eq_getElem?_getD in
theorem merged_ok (a b:List Int)(ha:a.length≤1000)(hb:b.length≤1000)(H:List Blk)(T:Toks)(ta tb:Tag) :
  ACall Tryz.prog 163 [.sl a.length (ints a) ta,.sl b.length (ints b) tb] H T
   (Is (.sl (MG (fun _ _=>true) a b (a.length+b.length) 0 0 []).length (ints (MG (fun _ _=>true) a b (a.length+b.length) 0 0 [])) .none) H T):=by
 refine ACall.untag1 (ACall.untag2 ?_);refine ACall.drop' ?_ (by simp);refine acall_enter 9 [] Tryz.ntmps163 Tryz.func163 rfl (fun _ _=>Tryz.call163 _ _) (by simp) (fun HO=>?_);apply aw_reg;intro K h;simp(disch:=omega);apply h;clear h K;apply aw_reg;intro K h;simp(disch:=omega);apply h;clear h K;apply aw_reg;intro K h;simp(disch:=omega);apply h;clear h K;refine aw_then fun K1 hK1=>?_;apply aw_block;refine aw_own 5 0 1 [] (by omega) (by simp) ?_;refine aw_loop (X:=Nat×Nat×Nat×List Int) (fun x=>⟨[(0,.sl a.length (ints a) .none),(1,.sl b.length (ints b) .none),(5,.sl x.2.2.2.length (ints x.2.2.2) (.own T.length)),(6,.int .i64 (x.2.1:Nat)),(7,.int .i64 (x.2.2.1:Nat))],H,T++[(x.2.2.2.length,1)]⟩)
  (fun x=>x.2.1≤a.length∧x.2.2.1≤b.length∧(a.length-x.2.1)+(b.length-x.2.2.1)≤x.1∧MG (fun _ _=>true) a b (a.length+b.length) 0 0 []=MG (fun _ _=>true) a b x.1 x.2.1 x.2.2.1 x.2.2.2∧x.2.2.2.length≤x.2.1+x.2.2.1) (fun x=>x.1) (a.length+b.length,0,0,[]) ?_ ?_ ?_
 ·exact⟨Nat.zero_le _,Nat.zero_le _,by simp only;omega,rfl,Nat.zero_le _⟩
 ·refine weak_to [] [] ?_ ?_ ?_ ?_ (HO.toks (by simp)) ?_
  all_goals simp
 ·rintro⟨n,i,j,out⟩ ⟨h1,h2,h3,h4,h5⟩;simp only at h1 h2 h3 h4 h5
  by_cases hi:i<a.length
  ·have bi:decide ((i:Int)<a.length)=true:=by simp;omega
   have ni:((i:Int)==a.length)=false:=by rw[beq_eq_false_iff_ne];omega
   have ni2:¬i=a.length:=by omega
   by_cases hj:j<b.length
   ·have bj:decide ((j:Int)<b.length)=true:=by simp;omega
    have nj:((j:Int)==b.length)=false:=by rw[beq_eq_false_iff_ne];omega
    have nj2:¬j=b.length:=by omega
    have hn:0<n:=by omega
    refine aw_then fun K2 hK2=>?_;refine aw_reg fun K hK=>?_;simp(disch:=omega)[bi,bj,hi,hj];apply hK;clear hK K;apply aw_ift rfl;apply aw_skip;simp(disch:=omega) ;apply hK2;clear hK2;apply aw_block;apply aw_block
    by_cases c1:a.getD i 0<b.getD j 0
    ·have b1:decide (a.getD i 0<b.getD j 0)=true:=by simpa using c1
     have hst:=MG_A (kf:=(fun _ _=>true)) (o:=out) hn hi hj c1;refine aw_draw [] [] [] drawMixed (by kernel_rfl) (by kernel_rfl) fun K hK=>?_;simp(disch:=omega)[bi,hi,nj,nj2,getD_ints,b1,c1];apply hK;clear hK K;apply aw_ift rfl;refine aw_reg fun K hK=>?_;simp(disch:=omega)[getD_ints];apply hK;clear hK K;refine aw_reg0 fun K hK=>?_;simp(disch:=omega) ;apply hK;clear hK K;refine⟨(n-1,i+1,j,out++[a.getD i 0]),⟨by show i+1≤a.length;omega,by show j≤b.length;omega,by show (a.length-(i+1))+(b.length-(j))≤n-1;omega,by rw[h4,hst];rfl,by show (out++[a.getD i 0]).length≤(i+1)+(j);simp only[List.length_append,List.length_cons,List.length_nil];omega⟩,by show n-1<n;omega,?_⟩;refine weak_to [] [] ?_ ?_ ?_ ?_ (HO.toks (by simp)) ?_
     ·simp
     ·simp
     ·simp
     ·simp
     ·simp[ints_snoc]
      try omega
    ·have b1:decide (a.getD i 0<b.getD j 0)=false:=by simpa using c1
     refine aw_draw [] [] [] drawMixed (by kernel_rfl) (by kernel_rfl) fun K hK=>?_;simp(disch:=omega)[bi,hi,nj,nj2,getD_ints,b1,c1];apply hK;clear hK K;apply aw_iff rfl
     by_cases c2:b.getD j 0<a.getD i 0
     ·have b2:decide (b.getD j 0<a.getD i 0)=true:=by simpa using c2
      have hst:=MG_B (kf:=(fun _ _=>true)) (o:=out) hn hi hj c1 c2;refine aw_draw [] [] [] drawMixed (by kernel_rfl) (by kernel_rfl) fun K hK=>?_;simp(disch:=omega)[ni,ni2,getD_ints,b2,c2];apply hK;clear hK K;apply aw_ift rfl;refine aw_reg fun K hK=>?_;simp(disch:=omega)[getD_ints];apply hK;clear hK K;refine aw_reg0 fun K hK=>?_;simp(disch:=omega) ;apply hK;clear hK K;refine⟨(n-1,i,j+1,out++[b.getD j 0]),⟨by show i≤a.length;omega,by show j+1≤b.length;omega,by show (a.length-(i))+(b.length-(j+1))≤n-1;omega,by rw[h4,hst];rfl,by show (out++[b.getD j 0]).length≤(i)+(j+1);simp only[List.length_append,List.length_cons,List.length_nil];omega⟩,by show n-1<n;omega,?_⟩;refine weak_to [] [] ?_ ?_ ?_ ?_ (HO.toks (by simp)) ?_
      ·simp
      ·simp
      ·simp
      ·simp
      ·simp[ints_snoc]
       try omega
     ·have b2:decide (b.getD j 0<a.getD i 0)=false:=by simpa using c2
      have hst:=MG_AB (kf:=(fun _ _=>true)) (o:=out) hn hi hj c1 c2;refine aw_draw [] [] [] drawMixed (by kernel_rfl) (by kernel_rfl) fun K hK=>?_;simp(disch:=omega)[ni,ni2,getD_ints,b2,c2];apply hK;clear hK K;apply aw_iff rfl;refine aw_reg fun K hK=>?_;simp(disch:=omega)[getD_ints];apply hK;clear hK K;refine aw_reg0 fun K hK=>?_;simp(disch:=omega) ;apply hK;clear hK K;refine⟨(n-1,i+1,j+1,out++[a.getD i 0]),⟨by show i+1≤a.length;omega,by show j+1≤b.length;omega,by show (a.length-(i+1))+(b.length-(j+1))≤n-1;omega,by rw[h4,hst];rfl,by show (out++[a.getD i 0]).length≤(i+1)+(j+1);simp only[List.length_append,List.length_cons,List.length_nil];omega⟩,by show n-1<n;omega,?_⟩;refine weak_to [] [] ?_ ?_ ?_ ?_ (HO.toks (by simp)) ?_
      ·simp
      ·simp
      ·simp
      ·simp
      ·simp[ints_snoc]
       try omega
   ·have bj:decide ((j:Int)<b.length)=false:=by simp;omega
    have hjb:j=b.length:=by omega
    have nj:((j:Int)==b.length)=true:=by simp;omega
    have hjz:(j:Int)=(b.length:Int):=by omega
    have hn:0<n:=by omega
    have hst:=MG_A0 (kf:=(fun _ _=>true)) (o:=out) hn hi hjb;refine aw_then fun K2 hK2=>?_;refine aw_reg fun K hK=>?_;simp(disch:=omega)[bi,bj,hi,hj];apply hK;clear hK K;apply aw_ift rfl;apply aw_skip;simp(disch:=omega) ;apply hK2;clear hK2;apply aw_block;apply aw_block;refine aw_draw [] [] [] drawMixed (by kernel_rfl) (by kernel_rfl) fun K hK=>?_;simp(disch:=omega)[nj,hjz];apply hK;clear hK K;apply aw_ift rfl;refine aw_reg fun K hK=>?_;simp(disch:=omega)[getD_ints];apply hK;clear hK K;refine aw_reg0 fun K hK=>?_;simp(disch:=omega) ;apply hK;clear hK K;refine⟨(n-1,i+1,j,out++[a.getD i 0]),⟨by show i+1≤a.length;omega,by show j≤b.length;omega,by show (a.length-(i+1))+(b.length-(j))≤n-1;omega,by rw[h4,hst];rfl,by show (out++[a.getD i 0]).length≤(i+1)+(j);simp only[List.length_append,List.length_cons,List.length_nil];omega⟩,by show n-1<n;omega,?_⟩;refine weak_to [] [] ?_ ?_ ?_ ?_ (HO.toks (by simp)) ?_
    ·simp
    ·simp
    ·simp
    ·simp
    ·simp[ints_snoc]
     try omega
  ·have bi:decide ((i:Int)<a.length)=false:=by simp;omega
   have hia:i=a.length:=by omega
   by_cases hj:j<b.length
   ·have bj:decide ((j:Int)<b.length)=true:=by simp;omega
    have nj:((j:Int)==b.length)=false:=by rw[beq_eq_false_iff_ne];omega
    have nj2:¬j=b.length:=by omega
    have ni:((i:Int)==a.length)=true:=by simp;omega
    have hiz:(i:Int)=(a.length:Int):=by omega
    have hn:0<n:=by omega
    have hst:=MG_B0 (kf:=(fun _ _=>true)) (o:=out) hn hia hj;refine aw_then fun K2 hK2=>?_;refine aw_reg fun K hK=>?_;simp(disch:=omega)[bi,bj,hi,hj];apply hK;clear hK K;apply aw_ift rfl;apply aw_skip;simp(disch:=omega) ;apply hK2;clear hK2;apply aw_block;apply aw_block;refine aw_draw [] [] [] drawMixed (by kernel_rfl) (by kernel_rfl) fun K hK=>?_;simp(disch:=omega)[nj,nj2,bi,hi];apply hK;clear hK K;apply aw_iff rfl;refine aw_draw [] [] [] drawMixed (by kernel_rfl) (by kernel_rfl) fun K hK=>?_;simp(disch:=omega)[ni,hiz];apply hK;clear hK K;apply aw_ift rfl;refine aw_reg fun K hK=>?_;simp(disch:=omega)[getD_ints];apply hK;clear hK K;refine aw_reg0 fun K hK=>?_;simp(disch:=omega) ;apply hK;clear hK K;refine⟨(n-1,i,j+1,out++[b.getD j 0]),⟨by show i≤a.length;omega,by show j+1≤b.length;omega,by show (a.length-(i))+(b.length-(j+1))≤n-1;omega,by rw[h4,hst];rfl,by show (out++[b.getD j 0]).length≤(i)+(j+1);simp only[List.length_append,List.length_cons,List.length_nil];omega⟩,by show n-1<n;omega,?_⟩;refine weak_to [] [] ?_ ?_ ?_ ?_ (HO.toks (by simp)) ?_
    ·simp
    ·simp
    ·simp
    ·simp
    ·simp[ints_snoc]
     try omega
   ·have bj:decide ((j:Int)<b.length)=false:=by simp;omega
    have hend:=MG_end (kf:=(fun _ _=>true)) (a:=a) (b:=b) (o:=out) (n:=n) hia (show j=b.length by omega);rw[hend] at h4;refine aw_then fun K2 hK2=>?_;refine aw_reg fun K hK=>?_;simp(disch:=omega)[bi,bj,hi,hj];apply hK;clear hK K;apply aw_iff rfl;apply aw_exit;simp(disch:=omega) ;apply hK1;clear hK1;apply aw_reg;intro K h;simp(disch:=omega);apply h;clear h K;apply aw_ret;simp(disch:=omega) ;rw[h4];exact⟨rfl,rfl⟩
attribute [-simp] List.getD_eq_getElem?_getD in
theorem orR_ok (a b:List Int)(ha:a.length≤1000)(hb:b.length≤1000)(H:List Blk)(T:Toks):ACall Tryz.prog 101 [.sl a.length (ints a) .none,.sl b.length (ints b) .none] H T (Is (.sl (comb (fun _ _=>true) a b).length (ints (comb (fun _ _=>true) a b)) .none) H T):=by
 refine ACall.drop' ?_ (by simp);have hml:1000≤maxLen:=by decide
 have c1:=validDocsR_ok a (by omega) H T .none;have c2:=validDocsR_ok b (by omega) H T .none;refine acall_enter 5 [] Tryz.ntmps101 Tryz.func101 rfl (fun _ _=>Tryz.call101 _ _) (by simp) (fun HO=>?_);apply aw_reg;intro K h;simp(disch:=omega);apply h;clear h K;refine aw_then fun K1 hK1=>?_
 cases hv:asc a 1 1000000000
 ·rw[hv] at c1;refine aw_reg fun K hK=>?_;simp(disch:=omega) ;refine acall_is (c1) ?_;simp(disch:=omega) ;apply hK;clear hK K;apply aw_ift rfl;apply aw_reg;intro K h;simp(disch:=omega);apply h;clear h K;apply aw_ret;simp(disch:=omega) ;simp[comb,hv,ints]
 ·rw[hv] at c1
  cases hw:asc b 1 1000000000
  ·rw[hw] at c2;refine aw_reg fun K hK=>?_;simp(disch:=omega) ;refine acall_is (c1) ?_;simp(disch:=omega) ;refine acall_is (c2) ?_;simp(disch:=omega) ;apply hK;clear hK K;apply aw_ift rfl;apply aw_reg;intro K h;simp(disch:=omega);apply h;clear h K;apply aw_ret;simp(disch:=omega) ;simp[comb,hw,ints]
  ·rw[hw] at c2;have hr:comb (fun _ _=>true) a b=MG (fun _ _=>true) a b (a.length+b.length) 0 0 []:=by unfold comb;rw[if_pos ⟨hv,hw⟩]
   have c3:=merged_ok a b ha hb H T .none .none;rw[←hr] at c3;refine aw_reg fun K hK=>?_;simp(disch:=omega) ;refine acall_is (c1) ?_;simp(disch:=omega) ;refine acall_is (c2) ?_;simp(disch:=omega) ;apply hK;clear hK K;apply aw_iff rfl;apply aw_skip;simp(disch:=omega) ;apply hK1;clear hK1;refine aw_reg fun K hK=>?_;simp(disch:=omega) ;refine acall_is (c3) ?_;simp(disch:=omega) ;apply hK;clear hK K;apply aw_ret;simp(disch:=omega) 
end Go.Proofs.YtoejlmpbebjemaaGreat
