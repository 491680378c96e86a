/- Posting lists of layer 38 as cells, and their copies. The documents of posting lists of layer 38. Valid of layer 38. Valid of layer 38: the whole. Valid, Count and Few of the reference of layer 38, and Count of the program. Same of the reference of layer 38, and same of the law. Near of layer 38: what it asks of two positions; whether some number of a list passes a test; searching among ascending numbers. Searching among ascending numbers.
  Conditions: lengths below 1000 or 5000, as each theorem says. -/
import Derived.Test.YtoejlmpbebjemaaGreatPA
set_option linter.all false
set_option maxRecDepth 100000
namespace Go.Proofs.YtoejlmpbebjemaaGreat
open Go Go.Am Post
@[simp] theorem amade_two (v w:AV):amade [v,w] 2=[v,w]:=rfl
def psAV (l:List (Int×List Int)):List AV:=l.flatMap fun p=>[.int .i64 p.1,.sl p.2.length (ints p.2) .none]
theorem psAV_nil:psAV []=[]:=rfl
theorem psAV_len (l:List (Int×List Int)):(psAV l).length=l.length*2:=by
 induction l with
 |nil=>rfl
 |cons p l ih=>simp only[psAV,List.flatMap_cons,List.length_append,List.length_cons,List.length_nil] at ih ⊢;omega
@[simp] theorem below_ps (n t:Nat) (l:List (Int×List Int)):BelowAll n t (psAV l):=by
 intro v hv;obtain⟨p,_,hv⟩:=List.mem_flatMap.1 hv;simp at hv;rcases hv with rfl|rfl<;>simp
theorem psAV_cons (p:Int×List Int)(l:List (Int×List Int)):psAV (p::l)=.int .i64 p.1::.sl p.2.length (ints p.2) .none::psAV l:=by simp[psAV]
theorem psAV_snoc (l:List (Int×List Int))(d:Int)(at_:List Int):psAV l++[.int .i64 d,.sl at_.length (ints at_) .none]=psAV (l++[(d,at_)]):=by simp[psAV]
theorem psAV_at:∀(l:List (Int×List Int)) (i:Nat),i<l.length→(psAV l).getD (i*2) .top=.int .i64 (l.getD i (0,[])).1∧(psAV l).getD (i*2+1) .top=.sl (l.getD i (0,[])).2.length (ints (l.getD i (0,[])).2) .none:=by
 intro l
 induction l with
 |nil=>intro i h;simp at h
 |cons p l ih=>
  intro i h
  cases i with
  |zero=>rw[psAV_cons];exact⟨rfl,rfl⟩
  |succ i=>
   have:=ih i (by simpa using h);rw[psAV_cons,show (i+1)*2=i*2+1+1 by omega];exact this
theorem psAV_cut:∀(l:List (Int×List Int)) (i:Nat),i<l.length→((psAV l).drop (i*2)).take 2=[.int .i64 (l.getD i (0,[])).1,.sl (l.getD i (0,[])).2.length (ints (l.getD i (0,[])).2) .none]:=by
 intro l
 induction l with
 |nil=>intro i h;simp at h
 |cons p l ih=>
  intro i h
  cases i with
  |zero=>rw[psAV_cons];rfl
  |succ i=>
   have:=ih i (by simpa using h);rw[psAV_cons,show (i+1)*2=i*2+1+1 by omega];exact this
theorem psAV_take (l:List (Int×List Int))(k:Nat)(h:k<l.length):psAV (l.take k)++[.int .i64 (l.getD k (0,[])).1,.sl (l.getD k (0,[])).2.length (ints (l.getD k (0,[])).2) .none]=psAV (l.take (k+1)):=by
 rw[psAV_snoc,show ((l.getD k (0,[])).1,(l.getD k (0,[])).2)=l.getD k (0,[]) from rfl]
 congr 1
 rw[List.take_succ_eq_append_getElem h];simp[h]
attribute [-simp] List.getD_eq_getElem?_getD in
theorem theirs_ok (l:List (Int×List Int))(hl:l.length≤5000)(H:List Blk)(T:Toks)(tg:Tag):ACall Tryz.prog 47 [.sl l.length (psAV l) tg] H T (Is (.sl l.length (psAV l) .none) H T):=by
 refine ACall.untag1 ?_;refine ACall.drop' ?_ (by simp);refine acall_enter 5 [] Tryz.ntmps47 Tryz.func47 rfl (fun _ _=>Tryz.call47 _ _) (by simp) (fun HO=>?_);apply aw_reg;intro K h;simp(disch:=omega);apply h;clear h K;apply aw_reg;intro K h;simp(disch:=omega);apply h;clear h K;refine aw_then fun K1 hK1=>?_;apply aw_reg;intro K h;simp(disch:=omega);apply h;clear h K;apply aw_block;refine aw_own 3 0 2 [] (by omega) (by simp) ?_;refine aw_loop (X:=Nat) (fun k=>⟨[(0,.sl l.length (psAV l) .none),(3,.sl k (psAV (l.take k)) (.own T.length)),(4,.int .i64 (k:Nat))],H,T++[(k*2,2)]⟩) (fun k=>k≤l.length) (fun k=>l.length-k) 0 ?_ ?_ ?_
 ·exact Nat.zero_le _
 ·refine weak_to [] [] ?_ ?_ ?_ ?_ (HO.toks (by simp)) ?_
  all_goals simp[psAV_nil]
 ·intro k hk;refine aw_then fun K2 hK2=>?_;apply aw_reg;intro K h;simp(disch:=omega);apply h;clear h K;refine aw_if rfl (fun hk2=>?_) (fun hk2=>?_)
  ·simp  at hk2;have hcut:=psAV_cut l k hk2;have htl:(psAV (l.take k)).length=k*2:=by rw[psAV_len,List.length_take];omega
   apply aw_skip;simp(disch:=omega) ;apply hK2;clear hK2;refine aw_then fun K3 hK3=>?_;apply aw_block;refine aw_reg0 fun K hK=>?_;simp(disch:=omega)[hcut,psAV_len,htl,psAV_take l k hk2];apply hK;clear hK K;apply hK3;clear hK3;refine aw_reg0 fun K hK=>?_;simp(disch:=omega) ;apply hK;clear hK K;refine⟨k+1,by show k+1≤_;omega,by show l.length-(k+1)<l.length-k;omega,?_⟩;refine weak_to [] [] ?_ ?_ ?_ ?_ (HO.toks (by simp)) ?_
   all_goals simp
  ·simp at hk2;have:k=l.length:=by omega
   subst this;apply aw_exit;simp(disch:=omega) ;apply hK1;clear hK1;apply aw_reg;intro K h;simp(disch:=omega);apply h;clear h K;apply aw_ret;simp(disch:=omega) 
attribute [-simp] List.getD_eq_getElem?_getD in
theorem ownP_ok (l:List (Int×List Int))(hl:l.length≤5000)(H:List Blk)(T:Toks)(tg:Tag):ACall Tryz.prog 133 [.sl l.length (psAV l) tg] H T (Is (.sl l.length (psAV l) .none) H T):=by
 refine ACall.untag1 ?_;refine ACall.drop' ?_ (by simp);refine acall_enter 5 [] Tryz.ntmps133 Tryz.func133 rfl (fun _ _=>Tryz.call133 _ _) (by simp) (fun HO=>?_);apply aw_reg;intro K h;simp(disch:=omega);apply h;clear h K;apply aw_reg;intro K h;simp(disch:=omega);apply h;clear h K;refine aw_then fun K1 hK1=>?_;apply aw_reg;intro K h;simp(disch:=omega);apply h;clear h K;apply aw_block;refine aw_own 3 0 2 [] (by omega) (by simp) ?_;refine aw_loop (X:=Nat) (fun k=>⟨[(0,.sl l.length (psAV l) .none),(3,.sl k (psAV (l.take k)) (.own T.length)),(4,.int .i64 (k:Nat))],H,T++[(k*2,2)]⟩) (fun k=>k≤l.length) (fun k=>l.length-k) 0 ?_ ?_ ?_
 ·exact Nat.zero_le _
 ·refine weak_to [] [] ?_ ?_ ?_ ?_ (HO.toks (by simp)) ?_
  all_goals simp[psAV_nil]
 ·intro k hk;refine aw_then fun K2 hK2=>?_;apply aw_reg;intro K h;simp(disch:=omega);apply h;clear h K;refine aw_if rfl (fun hk2=>?_) (fun hk2=>?_)
  ·simp  at hk2;have hcut:=psAV_cut l k hk2;have htl:(psAV (l.take k)).length=k*2:=by rw[psAV_len,List.length_take];omega
   apply aw_skip;simp(disch:=omega) ;apply hK2;clear hK2;refine aw_then fun K3 hK3=>?_;apply aw_block;refine aw_reg0 fun K hK=>?_;simp(disch:=omega)[hcut,psAV_len,htl,psAV_take l k hk2];apply hK;clear hK K;apply hK3;clear hK3;refine aw_reg0 fun K hK=>?_;simp(disch:=omega) ;apply hK;clear hK K;refine⟨k+1,by show k+1≤_;omega,by show l.length-(k+1)<l.length-k;omega,?_⟩;refine weak_to [] [] ?_ ?_ ?_ ?_ (HO.toks (by simp)) ?_
   all_goals simp
  ·simp at hk2;have:k=l.length:=by omega
   subst this;apply aw_exit;simp(disch:=omega) ;apply hK1;clear hK1;apply aw_reg;intro K h;simp(disch:=omega);apply h;clear h K;apply aw_ret;simp(disch:=omega) 
def docs (l:List (Int×List Int)):List Int:=l.map (·.1)
theorem docs_take (l:List (Int×List Int))(k:Nat)(h:k<l.length):ints (docs (l.take k))++[.int .i64 (l.getD k (0,[])).1]=ints (docs (l.take (k+1))):=by
 have e:l.take (k+1)=l.take k++[l.getD k (0,[])]:=by
  rw[List.take_succ_eq_append_getElem h];simp[h]
 rw[e,ints_snoc];simp[docs]
attribute [-simp] List.getD_eq_getElem?_getD in
theorem docsR_ok (l:List (Int×List Int))(hl:l.length≤5000)(H:List Blk)(T:Toks)(tg:Tag):ACall Tryz.prog 165 [.sl l.length (psAV l) tg] H T (Is (.sl l.length (ints (docs l)) .none) H T):=by
 refine ACall.untag1 ?_;refine ACall.drop' ?_ (by simp);refine acall_enter 5 [] Tryz.ntmps165 Tryz.func165 rfl (fun _ _=>Tryz.call165 _ _) (by simp) (fun HO=>?_);apply aw_reg;intro K h;simp(disch:=omega);apply h;clear h K;apply aw_reg;intro K h;simp(disch:=omega);apply h;clear h K;refine aw_then fun K1 hK1=>?_;apply aw_reg;intro K h;simp(disch:=omega);apply h;clear h K;apply aw_block;refine aw_own 3 0 1 [] (by omega) (by simp) ?_;refine aw_loop (X:=Nat) (fun k=>⟨[(0,.sl l.length (psAV l) .none),(3,.sl k (ints (docs (l.take k))) (.own T.length)),(4,.int .i64 (k:Nat))],H,T++[(k,1)]⟩) (fun k=>k≤l.length) (fun k=>l.length-k) 0 ?_ ?_ ?_
 ·exact Nat.zero_le _
 ·refine weak_to [] [] ?_ ?_ ?_ ?_ (HO.toks (by simp)) ?_
  all_goals simp[docs,ints]
 ·intro k hk;refine aw_then fun K2 hK2=>?_;apply aw_reg;intro K h;simp(disch:=omega);apply h;clear h K;refine aw_if rfl (fun hk2=>?_) (fun hk2=>?_)
  ·simp  at hk2;have hat:=(psAV_at l k hk2).1;have htl:(ints (docs (l.take k))).length=k:=by simp[docs,ints];omega
   have htk:=docs_take l k hk2;generalize ints (docs (l.take k))=out at *;apply aw_skip;simp(disch:=omega) ;apply hK2;clear hK2;refine aw_then fun K3 hK3=>?_;apply aw_block;refine aw_reg0 fun K hK=>?_;simp(disch:=omega)[hat,psAV_len,htl,htk];apply hK;clear hK K;apply hK3;clear hK3;refine aw_reg0 fun K hK=>?_;simp(disch:=omega) ;apply hK;clear hK K;refine⟨k+1,by show k+1≤_;omega,by show l.length-(k+1)<l.length-k;omega,?_⟩;refine weak_to [] [] ?_ ?_ ?_ ?_ (HO.toks (by simp)) ?_
   all_goals simp
  ·simp at hk2;have:k=l.length:=by omega
   subst this;apply aw_exit;simp(disch:=omega) ;apply hK1;clear hK1;apply aw_reg;intro K h;simp(disch:=omega);apply h;clear h K;apply aw_ret;simp(disch:=omega) 
attribute [-simp] List.getD_eq_getElem?_getD in
theorem documents_ok (l:List (Int×List Int))(hl:l.length≤5000)(H:List Blk)(T:Toks)(tg:Tag):ACall Tryz.prog 108 [.sl l.length (psAV l) tg] H T (Is (.sl l.length (ints (docs l)) .none) H T):=by
 refine ACall.untag1 ?_;refine ACall.drop' ?_ (by simp);refine acall_enter 12 [] Tryz.ntmps108 Tryz.func108 rfl (fun _ _=>Tryz.call108 _ _) (by simp) (fun HO=>?_);apply aw_reg;intro K h;simp(disch:=omega);apply h;clear h K;apply aw_reg;intro K h;simp(disch:=omega);apply h;clear h K;refine aw_then fun K1 hK1=>?_;apply aw_reg;intro K h;simp(disch:=omega);apply h;clear h K;apply aw_block;refine aw_loop (X:=Nat) (fun k=>⟨[(3,.sl k (ints (docs (l.take k))) (.own T.length)),(9,.sl l.length (psAV l) .none),(10,.int .i64 (l.length:Nat)),(11,.int .i64 (k:Nat))],H,T++[(k,1)]⟩) (fun k=>k≤l.length) (fun k=>l.length-k) 0 ?_ ?_ ?_
 ·exact Nat.zero_le _
 ·refine weak_to [] [] ?_ ?_ ?_ ?_ (HO.toks (by simp)) ?_
  all_goals simp[docs,ints]
 ·intro k hk;apply aw_reg;intro K h;simp(disch:=omega);apply h;clear h K;refine aw_then fun K2 hK2=>?_;refine aw_if rfl (fun hk2=>?_) (fun hk2=>?_)
  ·simp  at hk2;have hcut:=psAV_cut l k hk2;have htl:(ints (docs (l.take k))).length=k:=by simp[docs,ints];omega
   have htk:=docs_take l k hk2;generalize ints (docs (l.take k))=out at *;apply aw_skip;simp(disch:=omega) ;apply hK2;clear hK2;refine aw_then fun K3 hK3=>?_;apply aw_block;refine aw_reg fun K hK=>?_;simp(disch:=omega)[hcut,psAV_len];apply hK;clear hK K;refine aw_reg0 fun K hK=>?_;simp(disch:=omega)[htl,htk];apply hK;clear hK K;apply hK3;clear hK3;refine aw_reg0 fun K hK=>?_;simp(disch:=omega) ;apply hK;clear hK K;refine⟨k+1,by show k+1≤_;omega,by show l.length-(k+1)<l.length-k;omega,?_⟩;refine weak_to [.cells [.int .i64 (l.getD k (0,[])).1,.sl (l.getD k (0,[])).2.length (ints (l.getD k (0,[])).2) .none]] [] ?_ ?_ ?_ ?_ (HO.toks (by simp)) ?_
   all_goals simp
  ·simp at hk2;have:k=l.length:=by omega
   subst this;apply aw_exit;simp(disch:=omega) ;apply hK1;clear hK1;apply aw_reg;intro K h;simp(disch:=omega);apply h;clear h K;apply aw_ret;simp(disch:=omega) 
def badP (p:Int×List Int):Bool:=decide (p.2.length=0)||!asc p.2 0 1000000
def validL (l:List (Int×List Int)):Bool:=asc (docs l) 1 1000000000&&!l.any badP
attribute [-simp] List.getD_eq_getElem?_getD in
theorem valid1_ok (p:Int×List Int)(hp:p.2.length≤maxLen)(H:List Blk)(T:Toks):ACall Tryz.prog 141 [.agg [.int .i64 p.1,.sl p.2.length (ints p.2) .none]] H T (Is (.bool (badP p)) H T):=by
 refine ACall.drop' ?_ (by simp);have c:=asc_ok p.2 0 1000000 hp (H++[.cells [.int .i64 p.1,.sl p.2.length (ints p.2) .none]]) T .none;refine acall_enter 3 [] Tryz.ntmps141 Tryz.func141 rfl (fun _ _=>Tryz.call141 _ _) (by simp) (fun HO=>?_);apply aw_reg;intro K h;simp(disch:=omega);apply h;clear h K
 by_cases h0:p.2.length=0
 ·have b:((p.2.length:Int)==0)=true:=by rw[h0];rfl
  have h1:(p.2.length:Int)=0:=by omega
  have h2:p.2=[]:=List.eq_nil_of_length_eq_zero h0;refine aw_reg fun K hK=>?_;simp(disch:=omega)[b,h1,h2];apply hK;clear hK K;apply aw_ret;simp(disch:=omega) ;simp[badP,h0]
 ·have b:((p.2.length:Int)==0)=false:=by rw[beq_eq_false_iff_ne];omega
  have h2:¬p.2=[]:=fun e=>h0 (by rw[e];rfl);refine aw_reg fun K hK=>?_;simp(disch:=omega)[b,h2];refine acall_is (c) ?_;simp(disch:=omega) ;apply hK;clear hK K;apply aw_ret;simp(disch:=omega) ;simp[badP,h2]
attribute [-simp] List.getD_eq_getElem?_getD in
theorem index_ok (l:List (Int×List Int))(hl:l.length≤5000)(hp:∀p∈l,p.2.length≤maxLen)(H:List Blk)(T:Toks) :
  ACall Tryz.prog 182 [.sl l.length (psAV l) .none,.fn 141 [] []] H T (fun r H' T'=>H'=H∧T'=T∧∃v:Int,r=.int .i64 v∧decide (0≤v)=l.any badP):=by
 generalize hq:l.any badP=q;refine acall_enter 9 [] Tryz.ntmps182 Tryz.func182 rfl (fun _ _=>Tryz.call182 _ _) (by simp) (fun HO=>?_);apply aw_reg;intro K h;simp(disch:=omega);apply h;clear h K;refine aw_then fun K1 hK1=>?_;apply aw_reg;intro K h;simp(disch:=omega);apply h;clear h K;apply aw_block;refine aw_loop (X:=Nat) (fun k=>⟨[(0,.sl l.length (psAV l) .none),(1,.fn 141 [] []),(7,.int .i64 (l.length:Nat)),(8,.int .i64 (k:Nat))],H,T⟩) (fun k=>k≤l.length∧∀j,j<k→badP (l.getD j (0,[]))=false) (fun k=>l.length-k) 0 ?_ ?_ ?_
 ·exact⟨Nat.zero_le _,fun j hj=>absurd hj (Nat.not_lt_zero _)⟩
 ·refine weak_to [] [] ?_ ?_ ?_ ?_ HO ?_
  all_goals simp
 ·rintro k ⟨h1,h2⟩;apply aw_reg;intro K h;simp(disch:=omega);apply h;clear h K;refine aw_then fun K2 hK2=>?_;refine aw_if rfl (fun hk=>?_) (fun hk=>?_)
  ·simp  at hk;have hcut:=psAV_cut l k hk;have hm:l.getD k (0,[])∈l:=by
    rw[List.getD_eq_getElem?_getD,List.getElem?_eq_getElem hk];exact List.getElem_mem hk
   have c:=valid1_ok (l.getD k (0,[])) (hp _ hm) H T;apply aw_skip;simp(disch:=omega) ;apply hK2;clear hK2;refine aw_then fun K3 hK3=>?_;apply aw_block;apply aw_reg;intro K h;simp(disch:=omega);apply h;clear h K
   cases hb:badP (l.getD k (0,[])) with
   |true=>
    rw[hb] at c;refine aw_reg fun K hK=>?_;simp(disch:=omega)[hcut,psAV_len];refine acall_is (c) ?_;simp(disch:=omega) ;apply hK;clear hK K;apply aw_ift rfl;apply aw_reg;intro K h;simp(disch:=omega);apply h;clear h K;apply aw_ret;simp(disch:=omega) ;have:l.any badP=true:=List.any_eq_true.2 ⟨_,hm,hb⟩;rw[hq] at this;simp[this]
   |false=>
    rw[hb] at c;refine aw_reg fun K hK=>?_;simp(disch:=omega)[hcut,psAV_len];refine acall_is (c) ?_;simp(disch:=omega) ;apply hK;clear hK K;apply aw_iff rfl;apply aw_skip;simp(disch:=omega) ;apply hK3;clear hK3;refine aw_reg0 fun K hK=>?_;simp(disch:=omega) ;apply hK;clear hK K;refine⟨k+1,⟨by show k+1≤_;omega,fun j hj=>?_⟩,by show l.length-(k+1)<l.length-k;omega,?_⟩
    ·rcases Nat.lt_or_ge j k with h3|h3
     ·exact h2 j h3
     ·have:j=k:=by omega
      subst this;exact hb
    ·refine weak_to [] [] ?_ ?_ ?_ ?_ HO ?_
     all_goals simp
  ·simp  at hk;have hn:l.any badP=false:=by
    rw[List.any_eq_false];intro p hp';obtain⟨j,hj,e⟩:=List.mem_iff_getElem.1 hp';have:=h2 j (by omega);rw[List.getD_eq_getElem?_getD,List.getElem?_eq_getElem hj] at this;simp only[Option.getD_some,e] at this;simp[this]
   apply aw_exit;simp(disch:=omega) ;apply hK1;clear hK1;apply aw_reg;intro K h;simp(disch:=omega);apply h;clear h K;apply aw_ret;simp(disch:=omega) ;rw[hq] at hn;simp[hn]
attribute [-simp] List.getD_eq_getElem?_getD in
theorem contains_ok (l:List (Int×List Int))(hl:l.length≤5000)(hp:∀p∈l,p.2.length≤maxLen)(H:List Blk)(T:Toks) :
  ACall Tryz.prog 142 [.sl l.length (psAV l) .none,.fn 141 [] []] H T (Is (.bool (l.any badP)) H T):=by
 have c:=index_ok l hl hp H T;generalize l.any badP=q at *;refine acall_enter 5 [] Tryz.ntmps142 Tryz.func142 rfl (fun _ _=>Tryz.call142 _ _) (by simp) (fun HO=>?_);apply aw_reg;intro K h;simp(disch:=omega);apply h;clear h K;refine aw_reg fun K hK=>?_;simp(disch:=omega) ;refine⟨_,c,?_⟩;rintro r H' T' ⟨rfl,rfl,v,rfl,hv⟩;simp(disch:=omega)[hv];apply hK;clear hK K;apply aw_ret;simp(disch:=omega) ;exact⟨rfl,rfl,rfl⟩
attribute [-simp] List.getD_eq_getElem?_getD in
theorem valid_ok (l:List (Int×List Int))(hl:l.length≤5000)(hp:∀p∈l,p.2.length≤maxLen)(H:List Blk)(T:Toks)(tg:Tag) :
  ACall Tryz.prog 79 [.sl l.length (psAV l) tg] H T (Is (.bool (validL l)) H T):=by
 refine ACall.untag1 ?_;have c1:=documents_ok l hl H T .none;have hdl:(docs l).length=l.length:=by simp[docs]
 have c2:=validDocs_ok (docs l) (by rw[hdl];exact Nat.le_trans hl (by decide)) H T .none;rw[hdl] at c2;have c3:=contains_ok l hl hp H T;unfold validL;generalize l.any badP=q at *;refine acall_enter 4 [] Tryz.ntmps79 Tryz.func79 rfl (fun _ _=>Tryz.call79 _ _) (by simp) (fun HO=>?_);apply aw_reg;intro K h;simp(disch:=omega);apply h;clear h K;apply aw_reg;intro K h;simp(disch:=omega);apply h;clear h K
 cases hv:asc (docs l) 1 1000000000 with
 |false=>
  rw[hv] at c2;refine aw_reg fun K hK=>?_;simp(disch:=omega) ;refine acall_is (c1) ?_;simp(disch:=omega) ;refine acall_is (c2) ?_;simp(disch:=omega) ;apply hK;clear hK K;apply aw_ret;simp(disch:=omega) ;exact⟨rfl,rfl,rfl⟩
 |true=>
  rw[hv] at c2;refine aw_reg fun K hK=>?_;simp(disch:=omega) ;refine acall_is (c1) ?_;simp(disch:=omega) ;refine acall_is (c2) ?_;simp(disch:=omega) ;refine acall_is (c3) ?_;simp(disch:=omega) ;apply hK;clear hK K;apply aw_ret;simp(disch:=omega) ;exact⟨rfl,rfl,rfl⟩
theorem memD {α:Type}(l:List α)(k:Nat)(d:α)(h:k<l.length):l.getD k d∈l:=by
 rw[List.getD_eq_getElem?_getD,List.getElem?_eq_getElem h];exact List.getElem_mem h
theorem memD_inv {α:Type}{l:List α}{x:α}(d:α)(h:x∈l):∃k,k<l.length∧l.getD k d=x:=by
 obtain⟨j,hj,e⟩:=List.mem_iff_getElem.1 h;refine⟨j,hj,?_⟩;rw[List.getD_eq_getElem?_getD,List.getElem?_eq_getElem hj];exact e
theorem validL_bad {l:List (Int×List Int)}{k:Nat}(hk:k<l.length)(h:badP (l.getD k (0,[]))=true):validL l=false:=by
 have:l.any badP=true:=List.any_eq_true.2 ⟨_,memD l k _ hk,h⟩;simp[validL,this]
theorem validL_good {l:List (Int×List Int)}(h:∀j,j<l.length→badP (l.getD j (0,[]))=false):validL l=asc (docs l) 1 1000000000:=by
 have:l.any badP=false:=by
  rw[List.any_eq_false];intro p hp;obtain⟨j,hj,e⟩:=memD_inv (0,[]) hp;rw[←e,h j hj];simp
 simp[validL,this]
attribute [-simp] List.getD_eq_getElem?_getD in
theorem validR_ok (l:List (Int×List Int))(hl:l.length≤5000)(hp:∀p∈l,p.2.length≤maxLen)(H:List Blk)(T:Toks)(tg:Tag) :
  ACall Tryz.prog 135 [.sl l.length (psAV l) tg] H T (Is (.bool (validL l)) H T):=by
 refine ACall.untag1 ?_;have hdl:(docs l).length=l.length:=by simp[docs]
 have c1:=docsR_ok l hl H T .none;have c2:=validDocsR_ok (docs l) (by rw[hdl];exact Nat.le_trans hl (by decide)) H T .none;rw[hdl] at c2;generalize hq:validL l=q;refine acall_enter 6 [] Tryz.ntmps135 Tryz.func135 rfl (fun _ _=>Tryz.call135 _ _) (by simp) (fun HO=>?_);apply aw_reg;intro K h;simp(disch:=omega);apply h;clear h K;refine aw_then fun K1 hK1=>?_;apply aw_reg;intro K h;simp(disch:=omega);apply h;clear h K;apply aw_block;refine aw_loop (X:=Nat) (fun k=>⟨[(0,.sl l.length (psAV l) .none),(3,.int .i64 (k:Nat))],H,T⟩) (fun k=>k≤l.length∧∀j,j<k→badP (l.getD j (0,[]))=false) (fun k=>l.length-k) 0 ?_ ?_ ?_
 ·exact⟨Nat.zero_le _,fun j hj=>absurd hj (Nat.not_lt_zero _)⟩
 ·refine weak_to [] [] ?_ ?_ ?_ ?_ HO ?_
  all_goals simp
 ·rintro k ⟨h1,h2⟩;refine aw_then fun K2 hK2=>?_;apply aw_reg;intro K h;simp(disch:=omega);apply h;clear h K;refine aw_if rfl (fun hk=>?_) (fun hk=>?_)
  ·simp  at hk;have hat:=(psAV_at l k hk).2;have c:=ascR_ok (l.getD k (0,[])).2 0 1000000 (hp _ (memD l k _ hk)) H T .none;have hb1:badP (l.getD k (0,[]))=true→q=false:=fun h=>by rw[←hq];exact validL_bad hk h
   have hb2:badP (l.getD k (0,[]))=false→∀j,j<k+1→badP (l.getD j (0,[]))=false:=fun h j hj=>by
    rcases Nat.lt_or_ge j k with h3|h3
    ·exact h2 j h3
    ·have:j=k:=by omega
     subst this;exact h
   generalize l.getD k (0,[])=p at hat c hb1 hb2;apply aw_skip;simp(disch:=omega) ;apply hK2;clear hK2;refine aw_then fun K3 hK3=>?_;apply aw_block
   by_cases h0:p.2=[]
   ·have b:((p.2.length:Int)==0)=true:=by rw[h0];rfl
    refine aw_reg fun K hK=>?_;simp(disch:=omega)[hat,psAV_len,b,h0];apply hK;clear hK K;apply aw_ift rfl;apply aw_reg;intro K h;simp(disch:=omega);apply h;clear h K;apply aw_ret;simp(disch:=omega) ;rw[hb1 (by simp[badP,h0])];exact⟨rfl,rfl,rfl⟩
   ·have b:((p.2.length:Int)==0)=false:=by rw[beq_eq_false_iff_ne];intro e;exact h0 (List.eq_nil_of_length_eq_zero (by omega))
    cases ha:asc p.2 0 1000000
    ·rw[ha] at c;refine aw_reg fun K hK=>?_;simp(disch:=omega)[hat,psAV_len,b,h0];refine acall_is (c) ?_;simp(disch:=omega) ;apply hK;clear hK K;apply aw_ift rfl;apply aw_reg;intro K h;simp(disch:=omega);apply h;clear h K;apply aw_ret;simp(disch:=omega) ;rw[hb1 (by simp[badP,ha])];exact⟨rfl,rfl,rfl⟩
    ·rw[ha] at c;refine aw_reg fun K hK=>?_;simp(disch:=omega)[hat,psAV_len,b,h0];refine acall_is (c) ?_;simp(disch:=omega) ;apply hK;clear hK K;apply aw_iff rfl;apply aw_skip;simp(disch:=omega) ;apply hK3;clear hK3;refine aw_reg0 fun K hK=>?_;simp(disch:=omega) ;apply hK;clear hK K;refine⟨k+1,⟨by show k+1≤_;omega,hb2 (by simp[badP,ha,h0])⟩,by show l.length-(k+1)<l.length-k;omega,?_⟩;refine weak_to [] [] ?_ ?_ ?_ ?_ HO ?_
     all_goals simp
  ·simp  at hk;have hn:=validL_good (l:=l) (fun j hj=>h2 j (by omega));rw[←hn,hq] at c2;apply aw_exit;simp(disch:=omega) ;apply hK1;clear hK1;refine aw_reg fun K hK=>?_;simp(disch:=omega) ;refine acall_is (c1) ?_;simp(disch:=omega) ;refine acall_is (c2) ?_;simp(disch:=omega) ;apply hK;clear hK K;apply aw_ret;simp(disch:=omega) ;exact⟨rfl,rfl,rfl⟩
attribute [-simp] List.getD_eq_getElem?_getD in
theorem few_ok (l:List (Int×List Int))(hl:l.length≤maxLen)(hp:∀p∈l,p.2.length≤maxLen)(H:List Blk)(T:Toks)(tg:Tag) :
  ACall Tryz.prog 73 [.sl l.length (psAV l) tg] H T (Is (.bool (decide (l.length≤30∧∀p∈l,p.2.length≤30))) H T):=by
 refine ACall.untag1 ?_;have hml:maxLen≤9223372036854775807:=by decide
 have hl':=Nat.le_trans hl hml;generalize hq:decide (l.length≤30∧∀p∈l,p.2.length≤30)=q;refine acall_enter 6 [] Tryz.ntmps73 Tryz.func73 rfl (fun _ _=>Tryz.call73 _ _) (by simp) (fun HO=>?_);apply aw_reg;intro K h;simp(disch:=omega);apply h;clear h K;refine aw_then fun K1 hK1=>?_;apply aw_reg;intro K h;simp(disch:=omega);apply h;clear h K;apply aw_block;refine aw_loop (X:=Nat) (fun k=>⟨[(0,.sl l.length (psAV l) .none),(3,.int .i64 (k:Nat))],H,T⟩) (fun k=>k≤l.length∧∀j,j<k→(l.getD j (0,[])).2.length≤30) (fun k=>l.length-k) 0 ?_ ?_ ?_
 ·exact⟨Nat.zero_le _,fun j hj=>absurd hj (Nat.not_lt_zero _)⟩
 ·refine weak_to [] [] ?_ ?_ ?_ ?_ HO ?_
  all_goals simp
 ·rintro k ⟨h1,h2⟩;refine aw_then fun K2 hK2=>?_;apply aw_reg;intro K h;simp(disch:=omega);apply h;clear h K;refine aw_if rfl (fun hk=>?_) (fun hk=>?_)
  ·simp  at hk;have hat:=(psAV_at l k hk).2;have hpk:=Nat.le_trans (hp _ (memD l k (0,[]) hk)) hml;have hb1:¬(l.getD k (0,[])).2.length≤30→q=false:=fun h=>by rw[←hq];exact decide_eq_false (fun hh=>h (hh.2 _ (memD l k _ hk)))
   have hb2:(l.getD k (0,[])).2.length≤30→∀j,j<k+1→(l.getD j (0,[])).2.length≤30:=fun h j hj=>by
    rcases Nat.lt_or_ge j k with h3|h3
    ·exact h2 j h3
    ·have:j=k:=by omega
     subst this;exact h
   generalize l.getD k (0,[])=p at hat hb1 hb2 hpk;apply aw_skip;simp(disch:=omega) ;apply hK2;clear hK2;refine aw_then fun K3 hK3=>?_;apply aw_block
   by_cases h0:p.2.length≤30
   ·have b:decide ((30:Int)<(p.2.length:Int))=false:=by simp;omega
    have b2:¬30<p.2.length:=by omega
    refine aw_reg fun K hK=>?_;simp(disch:=omega)[hat,psAV_len,b,b2];apply hK;clear hK K;apply aw_iff rfl;apply aw_skip;simp(disch:=omega) ;apply hK3;clear hK3;refine aw_reg0 fun K hK=>?_;simp(disch:=omega) ;apply hK;clear hK K;refine⟨k+1,⟨by show k+1≤_;omega,hb2 h0⟩,by show l.length-(k+1)<l.length-k;omega,?_⟩;refine weak_to [] [] ?_ ?_ ?_ ?_ HO ?_
    all_goals simp
   ·have b:decide ((30:Int)<(p.2.length:Int))=true:=by simp;omega
    have b2:30<p.2.length:=by omega
    refine aw_reg fun K hK=>?_;simp(disch:=omega)[hat,psAV_len,b,b2];apply hK;clear hK K;apply aw_ift rfl;apply aw_reg;intro K h;simp(disch:=omega);apply h;clear h K;apply aw_ret;simp(disch:=omega) ;rw[hb1 h0];exact⟨rfl,rfl,rfl⟩
  ·simp  at hk;have hall:∀p∈l,p.2.length≤30:=fun p hp=>by
    obtain⟨j,hj,e⟩:=memD_inv (0,[]) hp;rw[←e];exact h2 j (by omega)
   have hb:decide ((l.length:Int)≤30)=q:=by
    rw[←hq];apply decide_eq_decide.2
    constructor
    ·intro h;exact⟨by omega,hall⟩
    ·intro h;omega
   apply aw_exit;simp(disch:=omega) ;apply hK1;clear hK1;apply aw_reg;intro K h;simp(disch:=omega);apply h;clear h K;apply aw_ret;simp(disch:=omega) ;rw[←hb];refine⟨?_,rfl,rfl⟩;simp
attribute [-simp] List.getD_eq_getElem?_getD in
theorem less_ok (x y:Int)(H:List Blk)(T:Toks):ACall Tryz.prog 169 [.int .i64 x,.int .i64 y] H T (Is (.bool (decide (x<y))) H T):=by
 have n1:∀z,ACall Tryz.prog 174 [.int .i64 z] H T (Is (.bool false) H T):=fun z=>by
  refine acall_enter 3 [] Tryz.ntmps174 Tryz.func174 rfl (fun _ _=>Tryz.call174 _ _) (by simp) (fun HO=>?_);apply aw_reg;intro K h;simp(disch:=omega);apply h;clear h K;apply aw_reg;intro K h;simp(disch:=omega);apply h;clear h K;apply aw_ret;simp(disch:=omega) ;exact⟨rfl,rfl,rfl⟩
 generalize hq:decide (x<y)=q;refine acall_enter 5 [] Tryz.ntmps169 Tryz.func169 rfl (fun _ _=>Tryz.call169 _ _) (by simp) (fun HO=>?_);apply aw_reg;intro K h;simp(disch:=omega);apply h;clear h K;refine aw_reg fun K hK=>?_;simp(disch:=omega) ;refine acall_is (n1 x) ?_;simp(disch:=omega) 
 (try simp(disch:=omega)[hq])
 apply hK;clear hK K;apply aw_ret;simp(disch:=omega) ;exact⟨rfl,rfl,rfl⟩
attribute [-simp] List.getD_eq_getElem?_getD in
theorem isNaN_ok (z:Int)(H:List Blk)(T:Toks):ACall Tryz.prog 170 [.int .i64 z] H T (Is (.bool false) H T):=by
 refine acall_enter 3 [] Tryz.ntmps170 Tryz.func170 rfl (fun _ _=>Tryz.call170 _ _) (by simp) (fun HO=>?_);apply aw_reg;intro K h;simp(disch:=omega);apply h;clear h K;apply aw_reg;intro K h;simp(disch:=omega);apply h;clear h K;apply aw_ret;simp(disch:=omega) ;exact⟨rfl,rfl,rfl⟩
theorem asc_get {l:List Int}(h:Asc l){i j:Nat}(hij:i<j)(hj:j<l.length):l.getD i 0<l.getD j 0:=by
 have:=(List.pairwise_iff_getElem.1 h) i j (by omega) hj hij;rw[List.getD_eq_getElem?_getD,List.getD_eq_getElem?_getD,List.getElem?_eq_getElem hj,List.getElem?_eq_getElem (show i<l.length by omega)];exact this
attribute [-simp] List.getD_eq_getElem?_getD in
theorem bsearch_ok (l:List Int)(t:Int)(hs:Asc l)(hl:l.length≤5000)(H:List Blk)(T:Toks)(tg:Tag) :
  ACall Tryz.prog 113 [.sl l.length (ints l) tg,.int .i64 t] H T (fun r H' T'=>H'=H∧T'=T∧∃i:Int,r=.tup [.int .i64 i,.bool (decide (t∈l))]):=by
 refine ACall.untag1 ?_;refine acall_enter 10 [] Tryz.ntmps113 Tryz.func113 rfl (fun _ _=>Tryz.call113 _ _) (by simp) (fun HO=>?_);apply aw_reg;intro K h;simp(disch:=omega);apply h;clear h K;apply aw_reg;intro K h;simp(disch:=omega);apply h;clear h K;apply aw_reg;intro K h;simp(disch:=omega);apply h;clear h K;refine aw_then fun K1 hK1=>?_;apply aw_block;refine aw_loop (X:=Nat×Nat) (fun x=>⟨[(0,.sl l.length (ints l) .none),(1,.int .i64 t),(6,.int .i64 (l.length:Nat)),(7,.int .i64 (x.1:Nat)),(8,.int .i64 (x.2:Nat))],H,T⟩)
  (fun x=>x.1≤x.2∧x.2≤l.length∧(∀j,j<x.1→l.getD j 0<t)∧(∀j,x.2≤j→j<l.length→t≤l.getD j 0)) (fun x=>x.2-x.1) (0,l.length) ?_ ?_ ?_
 ·exact⟨Nat.zero_le _,Nat.le_refl _,fun j hj=>absurd hj (Nat.not_lt_zero _),fun j h1 h2=>absurd h2 (Nat.not_lt.2 h1)⟩
 ·refine weak_to [] [] ?_ ?_ ?_ ?_ HO ?_
  all_goals simp
 ·rintro⟨lo,hi⟩ ⟨h1,h2,h3,h4⟩;simp only at h1 h2 h3 h4;refine aw_then fun K2 hK2=>?_;apply aw_reg;intro K h;simp(disch:=omega);apply h;clear h K;refine aw_if rfl (fun hk=>?_) (fun hk=>?_)
  ·simp  at hk;have hm:(lo+hi) / 2<l.length:=by omega
   have hmg:=getD_ints (xs:=l) (k:=(lo+hi) / 2) hm;apply aw_skip;simp(disch:=omega) ;apply hK2;clear hK2;apply aw_block;apply aw_reg;intro K h;simp(disch:=omega);apply h;clear h K;rw[show ((lo:Int)+hi) / 2=(((lo+hi) / 2:Nat):Int) by omega];have hge:lo≤(lo+hi) / 2:=by omega
   have hlt:(lo+hi) / 2<hi:=by omega
   generalize (lo+hi) / 2=m at *
   by_cases hc:l.getD m 0<t
   ·have c:=less_ok (l.getD m 0) t H T;rw[decide_eq_true hc] at c;refine aw_reg fun K hK=>?_;simp(disch:=omega)[hmg];refine acall_is (c) ?_;simp(disch:=omega) ;apply hK;clear hK K;apply aw_ift rfl;refine aw_reg0 fun K hK=>?_;simp(disch:=omega) ;apply hK;clear hK K;refine⟨(m+1,hi),⟨by show m+1≤hi;omega,h2,fun j hj=>?_,h4⟩,by show hi-(m+1)<hi-lo;omega,?_⟩
    ·rcases Nat.lt_or_ge j m with h5|h5
     ·have:=asc_get hs h5 hm;omega
     ·have:j=m:=by simp only at hj;omega
      subst this;exact hc
    ·refine weak_to [] [] ?_ ?_ ?_ ?_ HO ?_
     all_goals simp
   ·have c:=less_ok (l.getD m 0) t H T;rw[decide_eq_false hc] at c;refine aw_reg fun K hK=>?_;simp(disch:=omega)[hmg];refine acall_is (c) ?_;simp(disch:=omega) ;apply hK;clear hK K;apply aw_iff rfl;refine aw_reg0 fun K hK=>?_;simp(disch:=omega) ;apply hK;clear hK K;refine⟨(lo,m),⟨hge,by show m≤l.length;omega,h3,fun j hj hj2=>?_⟩,by show m-lo<hi-lo;omega,?_⟩
    ·rcases Nat.lt_or_ge m j with h5|h5
     ·have:=asc_get hs h5 hj2;omega
     ·have:j=m:=by simp only at hj;omega
      subst this;omega
    ·refine weak_to [] [] ?_ ?_ ?_ ?_ HO ?_
     all_goals simp
  ·simp  at hk;have e:hi=lo:=by omega
   subst e;apply aw_exit;simp(disch:=omega) ;apply hK1;clear hK1;have cn:=fun z=>isNaN_ok z H T
   by_cases hn:hi<l.length
   ·have hmg:=getD_ints (xs:=l) (k:=hi) hn
    by_cases he:l.getD hi 0=t
    ·have hmem:t∈l:=by rw[←he];exact memD l hi 0 hn
     have b:(l.getD hi 0==t)=true:=by simpa using he
     refine aw_reg fun K hK=>?_;simp(disch:=omega)[hmg,hn,b,he];apply hK;clear hK K;apply aw_ret;simp(disch:=omega) ;simp[hmem]
    ·have hmem:¬t∈l:=fun hm=>by
      obtain⟨j,hj,e⟩:=memD_inv 0 hm;rcases Nat.lt_trichotomy j hi with h5|h5|h5
      ·have:=h3 j h5;omega
      ·subst h5;exact he e
      ·have:=asc_get hs h5 hj;have:=h4 hi (Nat.le_refl _) hn;omega
     have b:(l.getD hi 0==t)=false:=by simpa using he
     refine aw_reg fun K hK=>?_;simp(disch:=omega)[hmg,hn,b,he];refine acall_is (cn _) ?_;simp(disch:=omega) ;apply hK;clear hK K;apply aw_ret;simp(disch:=omega) ;simp[hmem]
   ·have hmem:¬t∈l:=fun hm=>by
     obtain⟨j,hj,e⟩:=memD_inv 0 hm;have:=h3 j (by omega);omega
    refine aw_reg fun K hK=>?_;simp(disch:=omega)[hn];apply hK;clear hK K;apply aw_ret;simp(disch:=omega) ;simp[hmem]
end Go.Proofs.YtoejlmpbebjemaaGreat
