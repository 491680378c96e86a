/- The law's same, SameTexts, the reference's Small (layer 39). The example of the document (layer 39): it holds.
  Conditions: lengths below 400 or 1000, as each theorem says. -/
import Derived.Test.YtneohapkboaplaaGreatGV
import Derived.Test.YtneohapkboaplaaGreatGBC
import Derived.Test.YtneohapkboaplaaGreatGFA
import Derived.Test.YtneohapkboaplaaGreatGFB
set_option linter.all false
set_option maxRecDepth 100000
namespace Go.Proofs.YtneohapkboaplaaGreat
open Go Go.Am Sug Seg Post
attribute [-simp] List.getD_eq_getElem?_getD in
theorem sameS_ok (a b:List Ps)(ha:a.length≤1000)(hb:b.length≤1000)(hpa:∀p∈a,p.2.length≤maxLen)(hpb:∀p∈b,p.2.length≤maxLen)(H:List Blk)(T:Toks)(ta tb:Tag) :
  ACall Tryz.prog 19 [.sl a.length (psAV a) ta,.sl b.length (psAV b) tb] H T (Is (.bool (decide (a=b))) H T):=by
 refine ACall.untag1 (ACall.untag2 ?_);have c1:=theirs_ok a ha H T .none;have c2:=sameP_ok a b ha hb hpa hpb H T .none .none;generalize decide (a=b)=q at *;refine acall_enter 5 [] Tryz.ntmps19 Tryz.func19 rfl (fun _ _=>Tryz.call19 _ _) (by simp) (fun HO=>?_);apply aw_reg;intro K h;simp(disch:=omega);apply h;clear h K;refine aw_reg fun K hK=>?_;simp(disch:=omega) ;refine acall_is (c1) ?_;simp(disch:=omega) ;refine acall_is (c2) ?_;simp(disch:=omega) ;apply hK;clear hK K;apply aw_ret;simp(disch:=omega) ;exact⟨rfl,rfl,rfl⟩
abbrev exD:Dc:=⟨3,[⟨1,[([97],0),([98],1),([97],2)]⟩],[(5,1999)]⟩
abbrev exS:Sg:=⟨[3],[⟨1,[97],[(3,[0,2])]⟩,⟨1,[98],[(3,[1])]⟩],[⟨5,[(1999,3)]⟩]⟩
theorem ex_build:buildF [exD]=(exS,0):=by kernel_rfl
theorem ex_valid:validS exS=true:=by kernel_rfl
theorem ex_find:findS exS (1,[97])=[(3,[0,2])]:=by unfold findS;rw[ex_valid];kernel_rfl
theorem ex_words:wordsS exS 1 []=[[97],[98]]:=by unfold wordsS;rw[ex_valid];kernel_rfl
theorem ex_bet:betS exS 5 1990 1999=[3]:=by
 unfold betS;rw[ex_valid];simp only[if_true];have h:hits 5 1990 1999 exS.cols=[3]:=by kernel_rfl
 rw[h];exact asc_ext _ _ (ascL_asc _) (by unfold Asc;simp) fun z=>ascL_mem [3] z
theorem ex_sz:SzS exS:=by
 have hm:400≤maxLen:=by decide
 refine⟨by simp,by simp,fun t ht=>?_,by simp,fun c hc=>?_⟩
 ·simp only[List.mem_cons,List.not_mem_nil,or_false] at ht;rcases ht with rfl|rfl
  ·exact⟨by simp only[List.length_cons,List.length_nil];omega,by simp,fun p hp=>by simp at hp;subst hp;simp⟩
  ·exact⟨by simp only[List.length_cons,List.length_nil];omega,by simp,fun p hp=>by simp at hp;subst hp;simp⟩
 ·simp at hc;subst hc;simp
theorem ex_szd:SzD exD:=by
 have hm:400≤maxLen:=by decide
 refine⟨?_,?_,?_⟩
 ·simp only[List.length_cons,List.length_nil];omega
 ·intro z hz;simp only[List.mem_singleton] at hz;subst hz;refine⟨by simp only[List.length_cons,List.length_nil];omega,fun w hw=>?_⟩;simp only[List.mem_cons,List.not_mem_nil,or_false] at hw;rcases hw with rfl|rfl|rfl<;>(simp only[List.length_cons,List.length_nil];omega)
 ·simp only[List.length_cons,List.length_nil];omega
attribute [-simp] List.getD_eq_getElem?_getD in
set_option maxHeartbeats 8000000 in
theorem awakeS_ok (H:List Blk)(T:Toks):ACall Tryz.prog 11 [] H T (Is (.bool true) H T):=by
 have hm:1000≤maxLen:=by decide
 have cb:=fun H=>buildP_ok [exD] (by simp) (fun d hd=>by simp at hd;subst hd;exact ex_szd) (fun d hd=>by simp at hd;subst hd;simp) H T .full;rw[ex_build] at cb;have cv:=fun H=>validS_ok exS ex_sz H T;rw[ex_valid] at cv;have cf:=fun H=>findS_ok exS ex_sz 1 [97] H T;rw[ex_find] at cf;have cs:=fun H=>sameS_ok [(3,[0,2])] [(3,[0,2])] (by simp) (by simp) (fun p hp=>by simp at hp;subst hp;simp only[List.length_cons,List.length_nil];omega) (fun p hp=>by simp at hp;subst hp;simp only[List.length_cons,List.length_nil];omega) H T .none .full;have ct:=fun H=>betS_ok exS ex_sz 5 1990 1999 H T;rw[ex_bet] at ct;have ci:=fun H=>sameInts_ok [3] [3] (by simp only[List.length_cons,List.length_nil];omega) (by simp only[List.length_cons,List.length_nil];omega) H T .none .full;have cw:=fun H=>wordsS_ok exS ex_sz 1 [] (by simp) H T;rw[ex_words] at cw;refine ACall.drop' ?_ (by simp);have e6:amade [.str [],.int .i64 0] 6=[.str [],.int .i64 0,.str [],.int .i64 0,.str [],.int .i64 0]:=rfl;refine acall_enter 12 [] Tryz.ntmps11 Tryz.func11 rfl (fun _ _=>Tryz.call11 _ _) (by simp) (fun HO=>?_);apply aw_reg;intro K h;simp(disch:=omega);apply h;clear h K;refine aw_reg fun K hK=>?_;simp(disch:=omega)[e6];apply hK;clear hK K;refine aw_reg fun K hK=>?_;simp(disch:=omega) ;refine acall_is (cb _) ?_;simp(disch:=omega) ;apply hK;clear hK K;refine aw_reg fun K hK=>?_;simp(disch:=omega) ;refine acall_is (cv _) ?_;simp(disch:=omega) ;refine acall_is (cf _) ?_;simp(disch:=omega) ;refine acall_is (cs _) ?_;simp(disch:=omega) ;refine acall_is (ct _) ?_;simp(disch:=omega) ;refine acall_is (ci _) ?_;simp(disch:=omega) ;refine acall_is (cw _) ?_;simp(disch:=omega) ;apply hK;clear hK K;apply aw_ret;simp(disch:=omega) 
end Go.Proofs.YtneohapkboaplaaGreat
