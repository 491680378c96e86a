/- The law's same, SameTexts, the reference's Small (layer 39). The example of the document (layer 39): it holds.
  Conditions: lengths below 1000 or 1000, as each theorem says. -/
import Derived.Test.YtoejlmpbebjemaaGreatGV
import Derived.Test.YtoejlmpbebjemaaGreatGBC
import Derived.Test.YtoejlmpbebjemaaGreatGFA
import Derived.Test.YtoejlmpbebjemaaGreatGFB
set_option linter.all false
set_option maxRecDepth 100000
set_option maxHeartbeats 8000000
namespace Go.Proofs.YtoejlmpbebjemaaGreat
open Go Go.Am Sug Seg Post
structure SzA (s:Sg):Prop where
 d:s.docs.length≤maxLen
 t:s.tms.length≤maxLen
 w:∀t∈s.tms,t.w.length≤maxLen∧t.l.length≤maxLen∧∀p∈t.l,p.2.length≤maxLen
 c:s.cols.length≤maxLen
 x:∀c∈s.cols,c.x.length≤maxLen
def fewB (l:List Ps):Bool:=decide (l.length≤30∧∀p∈l,p.2.length≤30)
def smallB (s:Sg):Bool:=((List.range s.tms.length).all (fun i=>fewB (s.tms.getD i t0).l)&&(List.range s.cols.length).all (fun i=>decide ((s.cols.getD i c0).x.length≤30)))&&decide (s.docs.length≤20∧s.tms.length≤60∧s.cols.length≤6)
theorem small_sz {s:Sg}(h:smallB s=true)(ha:SzA s):SzS s:=by
 unfold smallB at h;simp only[Bool.and_eq_true,decide_eq_true_eq] at h;obtain⟨⟨h1,h2⟩,h3,h4,h5⟩:=h;refine⟨by omega,by omega,fun t ht=>?_,by omega,fun c hc=>?_⟩
 ·obtain⟨i,hi,rfl⟩:=mem_getD t0 ht;have:=of_decide_eq_true (all_at h1 hi);exact⟨(ha.w _ ht).1,by omega,fun p hp=>by have:=this.2 p hp;omega⟩
 ·obtain⟨i,hi,rfl⟩:=mem_getD c0 hc;have:=of_decide_eq_true (all_at h2 hi);omega
attribute [-simp] List.getD_eq_getElem?_getD in
theorem smallS_ok (s:Sg)(hs:SzA s)(H:List Blk)(T:Toks):ACall Tryz.prog 22 [sgAV s] H T (Is (.bool (smallB s)) H T):=by
 refine ACall.drop' ?_ (by simp);have hml:maxLen≤9223372036854775807:=by decide
 have hd:=Nat.le_trans hs.d hml;have ht:=Nat.le_trans hs.t hml;have hc:=Nat.le_trans hs.c hml;have bad1:∀i,i<s.tms.length→fewB (s.tms.getD i t0).l=false→smallB s=false:=fun i hi h=>by unfold smallB;rw[all_bad hi h];rfl
 have bad2:∀i,i<s.cols.length→¬(s.cols.getD i c0).x.length≤30→smallB s=false:=fun i hi h=>by unfold smallB;rw[all_bad hi (decide_eq_false h)];simp
 have good:(∀i,i<s.tms.length→fewB (s.tms.getD i t0).l=true)→(∀i,i<s.cols.length→(s.cols.getD i c0).x.length≤30)→smallB s=decide (s.docs.length≤20∧s.tms.length≤60∧s.cols.length≤6):=fun h1 h2=>by
  unfold smallB;rw[all_good h1,all_good fun i hi=>decide_eq_true (h2 i hi)];rfl
 refine acall_enter 6 [] Tryz.ntmps22 Tryz.func22 rfl (fun _ _=>Tryz.call22 _ _) (by simp) (fun HO=>?_);apply aw_reg;intro K h;simp(disch:=omega);apply h;clear h K;have HO1:HOk (H++[.cells (sgC s)]) T:=HO.snoc (by simp);refine aw_then fun K1 hK1=>?_;apply aw_reg;intro K h;simp(disch:=omega);apply h;clear h K;apply aw_block;refine aw_loop (X:=Nat) (fun i=>⟨[(1,.ptr H.length 0),(3,.int .i64 (i:Nat))],H++[.cells (sgC s)],T⟩)
  (fun i=>i≤s.tms.length∧∀j,j<i→fewB (s.tms.getD j t0).l=true) (fun i=>s.tms.length-i) 0 ?_ ?_ ?_
 ·exact⟨Nat.zero_le _,fun j hj=>absurd hj (Nat.not_lt_zero _)⟩
 ·refine weak_to [] [] ?_ ?_ ?_ ?_ HO1 ?_
  all_goals simp
 ·rintro i ⟨g1,g2⟩;refine aw_then fun K2 hK2=>?_;apply aw_reg;intro K h;simp(disch:=omega);apply h;clear h K;refine aw_if rfl (fun hk=>?_) (fun hk=>?_)
  ·simp  at hk;obtain⟨_,_,a3⟩:=tmAV_at s.tms i hk;obtain⟨_,q2,q3⟩:=hs.w _ (getD_mem s.tms i t0 hk);have cf:=fun H=>few_ok (s.tms.getD i t0).l q2 q3 H T .none;have hfb:decide ((s.tms.getD i t0).l.length≤30∧∀p∈(s.tms.getD i t0).l,p.2.length≤30)=fewB (s.tms.getD i t0).l:=rfl;rw[hfb] at cf;replace bad1:=bad1 i hk;have hadd:fewB (s.tms.getD i t0).l=true→∀j,j<i+1→fewB (s.tms.getD j t0).l=true:=fun h j hj=>by
    rcases Nat.lt_or_ge j i with h1|h1
    ·exact g2 j h1
    ·have:j=i:=by omega
     subst this;exact h
   generalize fewB (s.tms.getD i t0).l=fb at *;apply aw_skip;simp(disch:=omega) ;apply hK2;clear hK2;refine aw_then fun K3 hK3=>?_;apply aw_block
   cases fb with
   |false=>
    refine aw_reg fun K hK=>?_;simp(disch:=omega)[a3,tmAV_len,hk];refine acall_is (cf _) ?_;simp(disch:=omega) ;apply hK;clear hK K;apply aw_ift rfl;apply aw_reg;intro K h;simp(disch:=omega);apply h;clear h K;apply aw_ret;simp(disch:=omega) ;rw[bad1 rfl]
   |true=>
    refine aw_reg fun K hK=>?_;simp(disch:=omega)[a3,tmAV_len,hk];refine acall_is (cf _) ?_;simp(disch:=omega) ;apply hK;clear hK K;apply aw_iff rfl;apply aw_skip;simp(disch:=omega) ;apply hK3;clear hK3;refine aw_reg0 fun K hK=>?_;simp(disch:=omega) ;apply hK;clear hK K;refine⟨i+1,⟨by show i+1≤_;omega,hadd rfl⟩,by show s.tms.length-(i+1)<s.tms.length-i;omega,?_⟩;refine weak_to [] [] ?_ ?_ ?_ ?_ HO1 ?_
    all_goals simp
  ·simp  at hk;apply aw_exit;simp(disch:=omega) ;apply hK1;clear hK1;refine aw_then fun K1 hK1=>?_;apply aw_reg;intro K h;simp(disch:=omega);apply h;clear h K;apply aw_block;refine aw_loop (X:=Nat) (fun i=>⟨[(1,.ptr H.length 0),(4,.int .i64 (i:Nat))],H++[.cells (sgC s)],T⟩)
    (fun i=>i≤s.cols.length∧∀j,j<i→(s.cols.getD j c0).x.length≤30) (fun i=>s.cols.length-i) 0 ?_ ?_ ?_
   ·exact⟨Nat.zero_le _,fun j hj=>absurd hj (Nat.not_lt_zero _)⟩
   ·refine weak_to [] [] ?_ ?_ ?_ ?_ HO1 ?_
    all_goals simp
   ·rintro m ⟨m1,m2⟩;refine aw_then fun K2 hK2=>?_;apply aw_reg;intro K h;simp(disch:=omega);apply h;clear h K;refine aw_if rfl (fun hk2=>?_) (fun hk2=>?_)
    ·simp  at hk2;obtain⟨_,a2⟩:=clAV_at s.cols m hk2;have hxl:=Nat.le_trans (hs.x _ (getD_mem s.cols m c0 hk2)) hml;replace bad2:=bad2 m hk2;have hadd:(s.cols.getD m c0).x.length≤30→∀j,j<m+1→(s.cols.getD j c0).x.length≤30:=fun h j hj=>by
      rcases Nat.lt_or_ge j m with h1|h1
      ·exact m2 j h1
      ·have:j=m:=by omega
       subst this;exact h
     generalize (s.cols.getD m c0).x=x at *;apply aw_skip;simp(disch:=omega) ;apply hK2;clear hK2;refine aw_then fun K3 hK3=>?_;apply aw_block
     by_cases hx:x.length≤30
     ·have b1:decide ((30:Int)<x.length)=false:=decide_eq_false (by omega);have n1:¬(30:Int)<x.length:=by omega
      have n2:¬30<x.length:=by omega
      refine aw_reg fun K hK=>?_;simp(disch:=omega)[a2,clAV_len,hk2,b1,n1,n2];apply hK;clear hK K;apply aw_iff rfl;apply aw_skip;simp(disch:=omega) ;apply hK3;clear hK3;refine aw_reg0 fun K hK=>?_;simp(disch:=omega) ;apply hK;clear hK K;refine⟨m+1,⟨by show m+1≤_;omega,hadd hx⟩,by show s.cols.length-(m+1)<s.cols.length-m;omega,?_⟩;refine weak_to [] [] ?_ ?_ ?_ ?_ HO1 ?_
      all_goals simp
     ·have b1:decide ((30:Int)<x.length)=true:=decide_eq_true (by omega);have n1:(30:Int)<x.length:=by omega
      have n2:30<x.length:=by omega
      refine aw_reg fun K hK=>?_;simp(disch:=omega)[a2,clAV_len,hk2,b1,n1,n2];apply hK;clear hK K;apply aw_ift rfl;apply aw_reg;intro K h;simp(disch:=omega);apply h;clear h K;apply aw_ret;simp(disch:=omega) ;rw[bad2 hx]
    ·simp  at hk2;apply aw_exit;simp(disch:=omega) ;apply hK1;clear hK1;rw[good (fun j hj=>g2 j (by omega)) (fun j hj=>m2 j (by omega))];generalize hq:decide (s.docs.length≤20∧s.tms.length≤60∧s.cols.length≤6)=q
     by_cases h1:s.docs.length≤20
     ·have b1:decide ((s.docs.length:Int)≤20)=true:=decide_eq_true (by omega)
      by_cases h2:s.tms.length≤60
      ·have b2:decide ((s.tms.length:Int)≤60)=true:=decide_eq_true (by omega)
       by_cases h3:s.cols.length≤6
       ·have b3:decide ((s.cols.length:Int)≤6)=true:=decide_eq_true (by omega);refine aw_reg fun K hK=>?_;simp(disch:=omega)[b1,h1,b2,h2,b3,h3];apply hK;clear hK K;apply aw_ret;simp(disch:=omega) ;rw[←hq,decide_eq_true ⟨h1,h2,h3⟩]
       ·have b3:decide ((s.cols.length:Int)≤6)=false:=decide_eq_false (by omega);refine aw_reg fun K hK=>?_;simp(disch:=omega)[b1,h1,b2,h2,b3,h3];apply hK;clear hK K;apply aw_ret;simp(disch:=omega) ;rw[←hq,decide_eq_false (fun h=>h3 h.2.2)]
      ·have b2:decide ((s.tms.length:Int)≤60)=false:=decide_eq_false (by omega);refine aw_reg fun K hK=>?_;simp(disch:=omega)[b1,h1,b2,h2];apply hK;clear hK K;apply aw_ret;simp(disch:=omega) ;rw[←hq,decide_eq_false (fun h=>h2 h.2.1)]
     ·have b1:decide ((s.docs.length:Int)≤20)=false:=decide_eq_false (by omega);refine aw_reg fun K hK=>?_;simp(disch:=omega)[b1,h1];apply hK;clear hK K;apply aw_ret;simp(disch:=omega) ;rw[←hq,decide_eq_false (fun h=>h1 h.1)]
end Go.Proofs.YtoejlmpbebjemaaGreat
