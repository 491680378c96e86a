/- The law's same, SameTexts, the reference's Small (layer 39). The example of the document (layer 39): it holds.
  Conditions: lengths below 400 or 1000, as each theorem says. -/
import Derived.Test.YtneohapkboaplaaGreatGV
import Derived.Test.YtneohapkboaplaaGreatGBC
import Derived.Test.YtneohapkboaplaaGreatGFA
import Derived.Test.YtneohapkboaplaaGreatGFB
set_option linter.all false
set_option maxRecDepth 100000
namespace Go.Proofs.YtneohapkboaplaaGreat
open Go Go.Am Sug Seg Post
attribute [-simp] List.getD_eq_getElem?_getD in
theorem sameS_ok (a b:List Ps)(ha:a.length≤1000)(hb:b.length≤1000)(hpa:∀p∈a,p.2.length≤maxLen)(hpb:∀p∈b,p.2.length≤maxLen)(H:List Blk)(T:Toks)(ta tb:Tag) :
  ACall Tryz.prog 19 [.sl a.length (psAV a) ta,.sl b.length (psAV b) tb] H T (Is (.bool (decide (a=b))) H T):=by
 refine ACall.untag1 (ACall.untag2 ?_)
 have c1:=theirs_ok a ha H T .none
 have c2:=sameP_ok a b ha hb hpa hpb H T .none .none
 generalize decide (a=b)=q at *
 refine acall_enter 5 [] Tryz.ntmps19 Tryz.func19 rfl (fun _ _=>Tryz.call19 _ _) (by simp) (fun HO=>?_)
 refine aw_reg fun K hK=>?_;simp(disch:=omega) ;refine hK _ ?_;clear hK K
 refine aw_reg fun K hK=>?_;simp(disch:=omega) 
 refine acall_is (c1) ?_;simp(disch:=omega) 
 refine acall_is (c2) ?_;simp(disch:=omega) 
 refine hK _ ?_;clear hK K
 refine aw_ret ?_;simp(disch:=omega) 
 exact⟨rfl,rfl,rfl⟩
structure SzA (s:Sg):Prop where
 d:s.docs.length≤maxLen
 t:s.tms.length≤maxLen
 w:∀t∈s.tms,t.w.length≤maxLen∧t.l.length≤maxLen∧∀p∈t.l,p.2.length≤maxLen
 c:s.cols.length≤maxLen
 x:∀c∈s.cols,c.x.length≤maxLen
def fewB (l:List Ps):Bool:=decide (l.length≤30∧∀p∈l,p.2.length≤30)
def smallB (s:Sg):Bool:=((List.range s.tms.length).all (fun i=>fewB (s.tms.getD i t0).l)&&(List.range s.cols.length).all (fun i=>decide ((s.cols.getD i c0).x.length≤30)))&&decide (s.docs.length≤20∧s.tms.length≤60∧s.cols.length≤6)
theorem small_sz {s:Sg}(h:smallB s=true)(ha:SzA s):SzS s:=by
 unfold smallB at h
 simp only[Bool.and_eq_true,decide_eq_true_eq] at h
 obtain⟨⟨h1,h2⟩,h3,h4,h5⟩:=h
 refine⟨by omega,by omega,fun t ht=>?_,by omega,fun c hc=>?_⟩
 ·obtain⟨i,hi,rfl⟩:=mem_getD t0 ht
  have:=of_decide_eq_true (all_at h1 hi)
  exact⟨(ha.w _ ht).1,by omega,fun p hp=>by have:=this.2 p hp;omega⟩
 ·obtain⟨i,hi,rfl⟩:=mem_getD c0 hc
  have:=of_decide_eq_true (all_at h2 hi)
  omega
attribute [-simp] List.getD_eq_getElem?_getD in
set_option maxHeartbeats 8000000 in
theorem smallS_ok (s:Sg)(hs:SzA s)(H:List Blk)(T:Toks):ACall Tryz.prog 17 [sgAV s] H T (Is (.bool (smallB s)) H T):=by
 refine ACall.drop' ?_ (by simp)
 have hml:maxLen≤9223372036854775807:=by decide
 have hd:=Nat.le_trans hs.d hml
 have ht:=Nat.le_trans hs.t hml
 have hc:=Nat.le_trans hs.c hml
 have bad1:∀i,i<s.tms.length→fewB (s.tms.getD i t0).l=false→smallB s=false:=fun i hi h=>by unfold smallB;rw[all_bad hi h];rfl
 have bad2:∀i,i<s.cols.length→¬(s.cols.getD i c0).x.length≤30→smallB s=false:=fun i hi h=>by unfold smallB;rw[all_bad hi (decide_eq_false h)];simp
 have good:(∀i,i<s.tms.length→fewB (s.tms.getD i t0).l=true)→(∀i,i<s.cols.length→(s.cols.getD i c0).x.length≤30)→smallB s=decide (s.docs.length≤20∧s.tms.length≤60∧s.cols.length≤6):=fun h1 h2=>by
  unfold smallB;rw[all_good h1,all_good fun i hi=>decide_eq_true (h2 i hi)];rfl
 refine acall_enter 6 [] Tryz.ntmps17 Tryz.func17 rfl (fun _ _=>Tryz.call17 _ _) (by simp) (fun HO=>?_)
 refine aw_reg fun K hK=>?_;simp(disch:=omega) ;refine hK _ ?_;clear hK K
 have HO1:HOk (H++[.cells (sgC s)]) T:=HO.snoc (by simp)
 refine aw_then fun K1 hK1=>?_
 refine aw_reg fun K hK=>?_;simp(disch:=omega) ;refine hK _ ?_;clear hK K
 refine aw_block ?_
 refine aw_loop (X:=Nat) (fun i=>⟨[(1,.ptr H.length 0),(3,.int .i64 (i:Nat))],H++[.cells (sgC s)],T⟩)
  (fun i=>i≤s.tms.length∧∀j,j<i→fewB (s.tms.getD j t0).l=true) (fun i=>s.tms.length-i) 0 ?_ ?_ ?_
 ·exact⟨Nat.zero_le _,fun j hj=>absurd hj (Nat.not_lt_zero _)⟩
 ·refine weak_to [] [] ?_ ?_ ?_ ?_ HO1 ?_
  all_goals simp
 ·rintro i ⟨g1,g2⟩
  refine aw_then fun K2 hK2=>?_
  refine aw_reg fun K hK=>?_;simp(disch:=omega) ;refine hK _ ?_;clear hK K
  refine aw_if rfl (fun hk=>?_) (fun hk=>?_)
  ·simp  at hk
   obtain⟨_,_,a3⟩:=tmAV_at s.tms i hk
   obtain⟨_,q2,q3⟩:=hs.w _ (getD_mem s.tms i t0 hk)
   have cf:=fun H=>few_ok (s.tms.getD i t0).l q2 q3 H T .none
   have hfb:decide ((s.tms.getD i t0).l.length≤30∧∀p∈(s.tms.getD i t0).l,p.2.length≤30)=fewB (s.tms.getD i t0).l:=rfl
   rw[hfb] at cf
   replace bad1:=bad1 i hk
   have hadd:fewB (s.tms.getD i t0).l=true→∀j,j<i+1→fewB (s.tms.getD j t0).l=true:=fun h j hj=>by
    rcases Nat.lt_or_ge j i with h1|h1
    ·exact g2 j h1
    ·have:j=i:=by omega
     subst this;exact h
   generalize fewB (s.tms.getD i t0).l=fb at *
   refine aw_skip ?_;simp(disch:=omega) 
   refine hK2 _ ?_;clear hK2
   refine aw_then fun K3 hK3=>?_
   refine aw_block ?_
   cases fb with
   |false=>
    refine aw_reg fun K hK=>?_;simp(disch:=omega)[a3,tmAV_len,hk]
    refine acall_is (cf _) ?_;simp(disch:=omega) 
    refine hK _ ?_;clear hK K
    refine aw_ift rfl ?_
    refine aw_reg fun K hK=>?_;simp(disch:=omega) ;refine hK _ ?_;clear hK K
    refine aw_ret ?_;simp(disch:=omega) 
    rw[bad1 rfl]
   |true=>
    refine aw_reg fun K hK=>?_;simp(disch:=omega)[a3,tmAV_len,hk]
    refine acall_is (cf _) ?_;simp(disch:=omega) 
    refine hK _ ?_;clear hK K
    refine aw_iff rfl ?_
    refine aw_skip ?_;simp(disch:=omega) 
    refine hK3 _ ?_;clear hK3
    refine aw_reg0 fun K hK=>?_;simp(disch:=omega) 
    refine hK _ ?_;clear hK K
    refine⟨i+1,⟨by show i+1≤_;omega,hadd rfl⟩,by show s.tms.length-(i+1)<s.tms.length-i;omega,?_⟩
    refine weak_to [] [] ?_ ?_ ?_ ?_ HO1 ?_
    all_goals simp
  ·simp  at hk
   refine aw_exit ?_;simp(disch:=omega) 
   refine hK1 _ ?_;clear hK1
   refine aw_then fun K1 hK1=>?_
   refine aw_reg fun K hK=>?_;simp(disch:=omega) ;refine hK _ ?_;clear hK K
   refine aw_block ?_
   refine aw_loop (X:=Nat) (fun i=>⟨[(1,.ptr H.length 0),(4,.int .i64 (i:Nat))],H++[.cells (sgC s)],T⟩)
    (fun i=>i≤s.cols.length∧∀j,j<i→(s.cols.getD j c0).x.length≤30) (fun i=>s.cols.length-i) 0 ?_ ?_ ?_
   ·exact⟨Nat.zero_le _,fun j hj=>absurd hj (Nat.not_lt_zero _)⟩
   ·refine weak_to [] [] ?_ ?_ ?_ ?_ HO1 ?_
    all_goals simp
   ·rintro m ⟨m1,m2⟩
    refine aw_then fun K2 hK2=>?_
    refine aw_reg fun K hK=>?_;simp(disch:=omega) ;refine hK _ ?_;clear hK K
    refine aw_if rfl (fun hk2=>?_) (fun hk2=>?_)
    ·simp  at hk2
     obtain⟨_,a2⟩:=clAV_at s.cols m hk2
     have hxl:=Nat.le_trans (hs.x _ (getD_mem s.cols m c0 hk2)) hml
     replace bad2:=bad2 m hk2
     have hadd:(s.cols.getD m c0).x.length≤30→∀j,j<m+1→(s.cols.getD j c0).x.length≤30:=fun h j hj=>by
      rcases Nat.lt_or_ge j m with h1|h1
      ·exact m2 j h1
      ·have:j=m:=by omega
       subst this;exact h
     generalize (s.cols.getD m c0).x=x at *
     refine aw_skip ?_;simp(disch:=omega) 
     refine hK2 _ ?_;clear hK2
     refine aw_then fun K3 hK3=>?_
     refine aw_block ?_
     by_cases hx:x.length≤30
     ·have b1:decide ((30:Int)<x.length)=false:=decide_eq_false (by omega)
      have n1:¬(30:Int)<x.length:=by omega
      have n2:¬30<x.length:=by omega
      refine aw_reg fun K hK=>?_;simp(disch:=omega)[a2,clAV_len,hk2,b1,n1,n2];refine hK _ ?_;clear hK K
      refine aw_iff rfl ?_
      refine aw_skip ?_;simp(disch:=omega) 
      refine hK3 _ ?_;clear hK3
      refine aw_reg0 fun K hK=>?_;simp(disch:=omega) 
      refine hK _ ?_;clear hK K
      refine⟨m+1,⟨by show m+1≤_;omega,hadd hx⟩,by show s.cols.length-(m+1)<s.cols.length-m;omega,?_⟩
      refine weak_to [] [] ?_ ?_ ?_ ?_ HO1 ?_
      all_goals simp
     ·have b1:decide ((30:Int)<x.length)=true:=decide_eq_true (by omega)
      have n1:(30:Int)<x.length:=by omega
      have n2:30<x.length:=by omega
      refine aw_reg fun K hK=>?_;simp(disch:=omega)[a2,clAV_len,hk2,b1,n1,n2];refine hK _ ?_;clear hK K
      refine aw_ift rfl ?_
      refine aw_reg fun K hK=>?_;simp(disch:=omega) ;refine hK _ ?_;clear hK K
      refine aw_ret ?_;simp(disch:=omega) 
      rw[bad2 hx]
    ·simp  at hk2
     refine aw_exit ?_;simp(disch:=omega) 
     refine hK1 _ ?_;clear hK1
     rw[good (fun j hj=>g2 j (by omega)) (fun j hj=>m2 j (by omega))]
     generalize hq:decide (s.docs.length≤20∧s.tms.length≤60∧s.cols.length≤6)=q
     by_cases h1:s.docs.length≤20
     ·have b1:decide ((s.docs.length:Int)≤20)=true:=decide_eq_true (by omega)
      by_cases h2:s.tms.length≤60
      ·have b2:decide ((s.tms.length:Int)≤60)=true:=decide_eq_true (by omega)
       by_cases h3:s.cols.length≤6
       ·have b3:decide ((s.cols.length:Int)≤6)=true:=decide_eq_true (by omega)
        refine aw_reg fun K hK=>?_;simp(disch:=omega)[b1,h1,b2,h2,b3,h3];refine hK _ ?_;clear hK K
        refine aw_ret ?_;simp(disch:=omega) 
        rw[←hq,decide_eq_true ⟨h1,h2,h3⟩]
       ·have b3:decide ((s.cols.length:Int)≤6)=false:=decide_eq_false (by omega)
        refine aw_reg fun K hK=>?_;simp(disch:=omega)[b1,h1,b2,h2,b3,h3];refine hK _ ?_;clear hK K
        refine aw_ret ?_;simp(disch:=omega) 
        rw[←hq,decide_eq_false (fun h=>h3 h.2.2)]
      ·have b2:decide ((s.tms.length:Int)≤60)=false:=decide_eq_false (by omega)
       refine aw_reg fun K hK=>?_;simp(disch:=omega)[b1,h1,b2,h2];refine hK _ ?_;clear hK K
       refine aw_ret ?_;simp(disch:=omega) 
       rw[←hq,decide_eq_false (fun h=>h2 h.2.1)]
     ·have b1:decide ((s.docs.length:Int)≤20)=false:=decide_eq_false (by omega)
      refine aw_reg fun K hK=>?_;simp(disch:=omega)[b1,h1];refine hK _ ?_;clear hK K
      refine aw_ret ?_;simp(disch:=omega) 
      rw[←hq,decide_eq_false (fun h=>h1 h.1)]
abbrev exD:Dc:=⟨3,[⟨1,[([97],0),([98],1),([97],2)]⟩],[(5,1999)]⟩
abbrev exS:Sg:=⟨[3],[⟨1,[97],[(3,[0,2])]⟩,⟨1,[98],[(3,[1])]⟩],[⟨5,[(1999,3)]⟩]⟩
theorem ex_build:buildF [exD]=(exS,0):=by kernel_rfl
theorem ex_valid:validS exS=true:=by kernel_rfl
theorem ex_find:findS exS (1,[97])=[(3,[0,2])]:=by unfold findS;rw[ex_valid];kernel_rfl
theorem ex_words:wordsS exS 1 []=[[97],[98]]:=by unfold wordsS;rw[ex_valid];kernel_rfl
theorem ex_bet:betS exS 5 1990 1999=[3]:=by
 unfold betS
 rw[ex_valid]
 simp only[if_true]
 have h:hits 5 1990 1999 exS.cols=[3]:=by kernel_rfl
 rw[h]
 exact asc_ext _ _ (ascL_asc _) (by unfold Asc;simp) fun z=>ascL_mem [3] z
theorem ex_sz:SzS exS:=by
 have hm:400≤maxLen:=by decide
 refine⟨by simp,by simp,fun t ht=>?_,by simp,fun c hc=>?_⟩
 ·simp only[List.mem_cons,List.not_mem_nil,or_false] at ht
  rcases ht with rfl|rfl
  ·exact⟨by simp only[List.length_cons,List.length_nil];omega,by simp,fun p hp=>by simp at hp;subst hp;simp⟩
  ·exact⟨by simp only[List.length_cons,List.length_nil];omega,by simp,fun p hp=>by simp at hp;subst hp;simp⟩
 ·simp at hc;subst hc;simp
theorem ex_szd:SzD exD:=by
 have hm:400≤maxLen:=by decide
 refine⟨?_,?_,?_⟩
 ·simp only[List.length_cons,List.length_nil];omega
 ·intro z hz
  simp only[List.mem_singleton] at hz
  subst hz
  refine⟨by simp only[List.length_cons,List.length_nil];omega,fun w hw=>?_⟩
  simp only[List.mem_cons,List.not_mem_nil,or_false] at hw
  rcases hw with rfl|rfl|rfl<;>(simp only[List.length_cons,List.length_nil];omega)
 ·simp only[List.length_cons,List.length_nil];omega
attribute [-simp] List.getD_eq_getElem?_getD in
set_option maxHeartbeats 8000000 in
theorem awakeS_ok (H:List Blk)(T:Toks):ACall Tryz.prog 11 [] H T (Is (.bool true) H T):=by
 have hm:1000≤maxLen:=by decide
 have cb:=fun H=>buildP_ok [exD] (by simp) (fun d hd=>by simp at hd;subst hd;exact ex_szd) (fun d hd=>by simp at hd;subst hd;simp) H T .full
 rw[ex_build] at cb
 have cv:=fun H=>validS_ok exS ex_sz H T
 rw[ex_valid] at cv
 have cf:=fun H=>findS_ok exS ex_sz 1 [97] H T
 rw[ex_find] at cf
 have cs:=fun H=>sameS_ok [(3,[0,2])] [(3,[0,2])] (by simp) (by simp) (fun p hp=>by simp at hp;subst hp;simp only[List.length_cons,List.length_nil];omega) (fun p hp=>by simp at hp;subst hp;simp only[List.length_cons,List.length_nil];omega) H T .none .full
 have ct:=fun H=>betS_ok exS ex_sz 5 1990 1999 H T
 rw[ex_bet] at ct
 have ci:=fun H=>sameInts_ok [3] [3] (by simp only[List.length_cons,List.length_nil];omega) (by simp only[List.length_cons,List.length_nil];omega) H T .none .full
 have cw:=fun H=>wordsS_ok exS ex_sz 1 [] (by simp) H T
 rw[ex_words] at cw
 refine ACall.drop' ?_ (by simp)
 have e6:amade [.str [],.int .i64 0] 6=[.str [],.int .i64 0,.str [],.int .i64 0,.str [],.int .i64 0]:=rfl
 refine acall_enter 12 [] Tryz.ntmps11 Tryz.func11 rfl (fun _ _=>Tryz.call11 _ _) (by simp) (fun HO=>?_)
 refine aw_reg fun K hK=>?_;simp(disch:=omega) ;refine hK _ ?_;clear hK K
 refine aw_reg fun K hK=>?_;simp(disch:=omega)[e6];refine hK _ ?_;clear hK K
 refine aw_reg fun K hK=>?_;simp(disch:=omega) 
 refine acall_is (cb _) ?_;simp(disch:=omega) 
 refine hK _ ?_;clear hK K
 refine aw_reg fun K hK=>?_;simp(disch:=omega) 
 refine acall_is (cv _) ?_;simp(disch:=omega) 
 refine acall_is (cf _) ?_;simp(disch:=omega) 
 refine acall_is (cs _) ?_;simp(disch:=omega) 
 refine acall_is (ct _) ?_;simp(disch:=omega) 
 refine acall_is (ci _) ?_;simp(disch:=omega) 
 refine acall_is (cw _) ?_;simp(disch:=omega) 
 refine hK _ ?_;clear hK K
 refine aw_ret ?_;simp(disch:=omega) 
end Go.Proofs.YtneohapkboaplaaGreat
