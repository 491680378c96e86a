/- Small functions of the index (layer 40): dead, live, or, Docs. Clones of lists of segments and of lists of lists; segments replaced (layer 40). One step of tidying an index (layer 40, plain). index.kill (layer 40). index.Valid (layer 40). index.Docs, Find, Put and Drop (layer 40).
  Conditions: as the theorems say. -/
import Derived.Test.YtoejlmpbebjemaaGreatXZa
import Derived.Test.YtoejlmpbebjemaaGreatGZy
import Derived.Test.YtoejlmpbebjemaaGreatAmC
set_option linter.all false
set_option maxRecDepth 100000
set_option maxHeartbeats 16000000
namespace Go.Proofs.YtoejlmpbebjemaaGreat
open Go Go.Am Sug Post Seg
theorem getD_out {α:Type}{l:List α}{i:Nat}{d:α}(h:l.length≤i):l.getD i d=d:=by rw[List.getD_eq_getElem?_getD,List.getElem?_eq_none h];rfl
attribute [-simp] List.getD_eq_getElem?_getD in
theorem dead_ok (S:List Sg)(D:List (List Int))(i:Nat)(hi:i≤1000)(hD:D.length≤400)(H:List Blk)(T:Toks) :
  ACall Tryz.prog 90 [ixAV S D,.int .i64 (i:Nat)] H T (Is (ddC (D.getD i [])) H T):=by
 refine ACall.drop' ?_ (by simp);refine acall_enter 5 [] Tryz.ntmps90 Tryz.func90 rfl (fun _ _=>Tryz.call90 _ _) (by simp) (fun HO=>?_);apply aw_reg;intro K h;simp(disch:=omega);apply h;clear h K;refine aw_then fun K1 hK1=>?_
 by_cases hk:i<D.length
 ·have a1:=ddAV_at D i hk;have hn:¬D.length≤i:=by omega
  have b1:decide ((D.length:Int)≤(i:Int))=false:=decide_eq_false (by omega);refine aw_reg fun K hK=>?_;simp(disch:=omega)[hn,b1];apply hK;clear hK K;apply aw_iff rfl;apply aw_skip;simp(disch:=omega) ;apply hK1;clear hK1;refine aw_reg fun K hK=>?_;simp(disch:=omega)[a1,hk,ddAV_len];apply hK;clear hK K;apply aw_ret;simp(disch:=omega) 
 ·have hn:D.length≤i:=by omega
  have b1:decide ((D.length:Int)≤(i:Int))=true:=decide_eq_true (by omega);have e:D.getD i []=[]:=getD_out hn;rw[e];refine aw_reg fun K hK=>?_;simp(disch:=omega)[hn,b1];apply hK;clear hK K;apply aw_ift rfl;apply aw_reg;intro K h;simp(disch:=omega);apply h;clear h K;apply aw_ret;simp(disch:=omega) 
attribute [-simp] List.getD_eq_getElem?_getD in
theorem live_ok (S:List Sg)(D:List (List Int))(i:Nat)(hi:i<S.length)(hz:SzX S D)(H:List Blk)(T:Toks) :
  ACall Tryz.prog 63 [ixAV S D,.int .i64 (i:Nat)] H T (Is (ddC (lvS (S.getD i noSeg) (D.getD i []))) H T):=by
 refine ACall.drop' ?_ (by simp);have hn:=hz.n;have cd:=fun H T=>dead_ok S D i (by omega) hz.d H T;have hDl:(D.getD i []).length≤1000:=by
  by_cases h:i<D.length
  ·exact hz.l _ (getD_mem D i [] h)
  ·rw[getD_out (by omega)];simp
 have cw:=fun H T=>without_ok (S.getD i noSeg).docs (D.getD i []) (hz.s _ (getD_mem S i noSeg hi)).d hDl H T .none .none;obtain⟨a1,a2,a3⟩:=ssAV_at S i hi;unfold lvS;generalize D.getD i []=d at *;generalize S.getD i noSeg=s at *;refine acall_enter 5 [] Tryz.ntmps63 Tryz.func63 rfl (fun _ _=>Tryz.call63 _ _) (by simp) (fun HO=>?_);apply aw_reg;intro K h;simp(disch:=omega);apply h;clear h K;refine aw_draw [] [0,0,0,0,0,0,0,0,0,0,0] [] drawMixed (by kernel_rfl) (by kernel_rfl) fun K hK=>?_;simp(disch:=omega)[a1,hi,ssAV_len];refine dcall_is (cd _ _) rfl ?_;simp(disch:=omega) ;refine dcall_is (cw _ _) rfl ?_;simp(disch:=omega) ;apply hK;clear hK K;apply aw_ret;simp(disch:=omega) 
def orX (l:List (List Int)):List Int:=l.foldl orL []
attribute [-simp] List.getD_eq_getElem?_getD in
theorem orX_ok (l:List (List Int))(hl:l.length≤400)(hd:∀d∈l,d.length≤1000)(hs:∀k,k≤l.length→(orX (l.take k)).length≤1000)(H:List Blk)(T:Toks)(tg:Tag) :
  ACall Tryz.prog 78 [.sl l.length (ddAV l) tg] H T (Is (ddC (orX l)) H T):=by
 refine ACall.untag1 ?_;refine ACall.drop' ?_ (by simp);refine acall_enter 9 [] Tryz.ntmps78 Tryz.func78 rfl (fun _ _=>Tryz.call78 _ _) (by simp) (fun HO=>?_);apply aw_reg;intro K h;simp(disch:=omega);apply h;clear h K;apply aw_reg;intro K h;simp(disch:=omega);apply h;clear h K;refine aw_then fun K1 hK1=>?_;apply aw_reg;intro K h;simp(disch:=omega);apply h;clear h K;apply aw_block;refine aw_loop (X:=Nat) (fun k=>⟨[(3,ddC (orX (l.take k))),(6,.sl l.length (ddAV l) .none),(7,.int .i64 (l.length:Nat)),(8,.int .i64 (k:Nat))],H,T⟩) (fun k=>k≤l.length) (fun k=>l.length-k) 0 ?_ ?_ ?_
 ·exact Nat.zero_le _
 ·refine weak_to [] [] ?_ ?_ ?_ ?_ HO ?_
  all_goals simp[orX]
 ·intro k hkl;apply aw_reg;intro K h;simp(disch:=omega);apply h;clear h K;refine aw_then fun K2 hK2=>?_;refine aw_if rfl (fun hk=>?_) (fun hk=>?_)
  ·simp  at hk;have a1:=ddAV_at l k hk;have cr:=fun H T=>or_ok (orX (l.take k)) (l.getD k []) (hs k hkl) (hd _ (getD_mem l k [] hk)) H T .none .none;have e:orX (l.take (k+1))=orL (orX (l.take k)) (l.getD k []):=by
    unfold orX;rw[take_getD l k [] hk,List.foldl_append];rfl
   rw[show comb (fun _ _=>true) (orX (l.take k)) (l.getD k [])=orX (l.take (k+1)) from e.symm] at cr;clear e;generalize orX (l.take k)=x at *;generalize hy:orX (l.take (k+1))=y at *;generalize l.getD k []=d at *;apply aw_skip;apply hK2;clear hK2;refine aw_then fun K3 hK3=>?_;apply aw_block;refine aw_reg fun K hK=>?_;simp(disch:=omega)[a1,hk,ddAV_len];apply hK;clear hK K;refine aw_reg0 fun K hK=>?_;simp(disch:=omega) ;refine acall_is (cr _ _) ?_;simp(disch:=omega) ;apply hK;clear hK K;apply hK3;clear hK3;refine aw_reg0 fun K hK=>?_;simp(disch:=omega) ;apply hK;clear hK K;refine⟨k+1,by show k+1≤_;omega,by show l.length-(k+1)<l.length-k;omega,?_⟩;refine weak_to [] [] ?_ ?_ ?_ ?_ HO ?_
   all_goals simp[hy]
  ·simp  at hk;have:k=l.length:=by omega
   subst this;rw[List.take_length];apply aw_exit;simp(disch:=omega) ;apply hK1;clear hK1;apply aw_reg;intro K h;simp(disch:=omega);apply h;clear h K;apply aw_ret;simp(disch:=omega) 
attribute [-simp] List.getD_eq_getElem?_getD in
theorem cloneSg_ok (l:List Sg)(hl:l.length≤1000)(H:List Blk)(T:Toks)(tg:Tag) :
  ACall Tryz.prog 131 [.sl l.length (ssAV l) tg] H T (Is (.sl l.length (ssAV l) (.own T.length)) H (T++[(l.length*3,3)])):=by
 refine ACall.untag1 ?_
 cases l with
 |nil=>
  show ACall Tryz.prog _ [.sl 0 [] .none] H T (Is (.sl 0 [] (.own T.length)) H (T++[(0,3)]));refine acall_enter 3 [] Tryz.ntmps131 Tryz.func131 rfl (fun _ _=>Tryz.call131 _ _) (by simp) (fun HO=>?_);apply aw_reg;intro K h;simp(disch:=omega);apply h;clear h K;refine aw_then fun K1 hK1=>?_;refine aw_reg fun K hK=>?_;simp(disch:=omega) 
  constructor
  ·apply hK;clear hK K;apply aw_iff rfl;apply aw_skip;simp(disch:=omega) ;apply hK1;clear hK1;refine aw_reg fun K hK=>?_;simp(disch:=omega)[amade_zero];apply hK;clear hK K;apply aw_ret;simp(disch:=omega) ;exact⟨rfl,rfl,rfl⟩
  ·apply hK;clear hK K;apply aw_ift rfl;apply aw_reg;intro K h;simp(disch:=omega);apply h;clear h K;refine aw_own 2 0 3 [] (by omega) (by simp) ?_;apply aw_ret;simp(disch:=omega) ;exact⟨rfl,rfl,rfl⟩
 |cons x r=>
  have h0:x::r≠[]:=by simp
  generalize x::r=l at *;have hpos:0<l.length:=List.length_pos_iff.2 h0;have hlen:=ssAV_len l;have hd:¬ssAV l=[]:=fun e=>by rw[e] at hlen;simp at hlen;omega
  refine acall_enter 3 [] Tryz.ntmps131 Tryz.func131 rfl (fun _ _=>Tryz.call131 _ _) (by simp) (fun HO=>?_);apply aw_reg;intro K h;simp(disch:=omega);apply h;clear h K;refine aw_then fun K1 hK1=>?_;refine aw_reg fun K hK=>?_;simp(disch:=omega) ;refine⟨?_,fun he=>absurd he (by first|exact h0|exact hd)⟩;apply hK;clear hK K;apply aw_iff rfl;apply aw_skip;simp(disch:=omega) ;apply hK1;clear hK1;refine aw_reg fun K hK=>?_;simp(disch:=omega)[amade_zero,ssAV_len,hpos];apply hK;clear hK K;apply aw_ret;simp(disch:=omega) ;exact⟨rfl,rfl,rfl⟩
attribute [-simp] List.getD_eq_getElem?_getD in
theorem cloneDd_ok (D:List (List Int))(hl:D.length≤1000)(H:List Blk)(T:Toks)(tg:Tag) :
  ACall Tryz.prog 121 [.sl D.length (ddAV D) tg] H T (Is (.sl D.length (ddAV D) (.own T.length)) H (T++[(D.length,1)])):=by
 refine ACall.untag1 ?_
 cases D with
 |nil=>
  show ACall Tryz.prog _ [.sl 0 [] .none] H T (Is (.sl 0 [] (.own T.length)) H (T++[(0,1)]));refine acall_enter 3 [] Tryz.ntmps121 Tryz.func121 rfl (fun _ _=>Tryz.call121 _ _) (by simp) (fun HO=>?_);apply aw_reg;intro K h;simp(disch:=omega);apply h;clear h K;refine aw_then fun K1 hK1=>?_;refine aw_reg fun K hK=>?_;simp(disch:=omega) 
  constructor
  ·apply hK;clear hK K;apply aw_iff rfl;apply aw_skip;simp(disch:=omega) ;apply hK1;clear hK1;refine aw_reg fun K hK=>?_;simp(disch:=omega)[amade_zero];apply hK;clear hK K;apply aw_ret;simp(disch:=omega) ;exact⟨rfl,rfl,rfl⟩
  ·apply hK;clear hK K;apply aw_ift rfl;apply aw_reg;intro K h;simp(disch:=omega);apply h;clear h K;refine aw_own 2 0 1 [] (by omega) (by simp) ?_;apply aw_ret;simp(disch:=omega) ;exact⟨rfl,rfl,rfl⟩
 |cons x r=>
  have h0:x::r≠[]:=by simp
  generalize x::r=D at *;have hpos:0<D.length:=List.length_pos_iff.2 h0;have hlen:=ddAV_len D;have hd:¬ddAV D=[]:=fun e=>by rw[e] at hlen;simp at hlen;omega
  refine acall_enter 3 [] Tryz.ntmps121 Tryz.func121 rfl (fun _ _=>Tryz.call121 _ _) (by simp) (fun HO=>?_);apply aw_reg;intro K h;simp(disch:=omega);apply h;clear h K;refine aw_then fun K1 hK1=>?_;refine aw_reg fun K hK=>?_;simp(disch:=omega) ;refine⟨?_,fun he=>absurd he (by first|exact h0|exact hd)⟩;apply hK;clear hK K;apply aw_iff rfl;apply aw_skip;simp(disch:=omega) ;apply hK1;clear hK1;refine aw_reg fun K hK=>?_;simp(disch:=omega)[amade_zero,ddAV_len,hpos];apply hK;clear hK K;apply aw_ret;simp(disch:=omega) ;exact⟨rfl,rfl,rfl⟩
attribute [-simp] List.getD_eq_getElem?_getD in
theorem cloneLB_ok (D:List (List Int))(h0:D≠[])(hl:D.length≤1000)(H:List Blk)(T:Toks)(tg:Tag) :
  ACall Tryz.prog 121 [.sl D.length (ddAV D) tg] H T (fun r H' T'=>T'=T∧∃k,H'=H++[.cells (ddAV D++List.replicate k .top)]∧r=.msl H.length 0 D.length):=by
 refine ACall.untag1 ?_;have hpos:0<D.length:=List.length_pos_iff.2 h0;have hne:¬D=[]:=h0;have hlen:=ddAV_len D;have hd:¬ddAV D=[]:=fun e=>by rw[e] at hlen;simp at hlen;omega
 refine acall_enter 3 [7] Tryz.ntmps121 Tryz.func121 rfl (fun _ _=>Tryz.call121 _ _) (by simp) (fun HO=>?_);apply aw_reg;intro K h;simp(disch:=omega);apply h;clear h K;refine aw_then fun K1 hK1=>?_;refine aw_reg fun K hK=>?_;simp(disch:=omega) ;refine⟨?_,fun he=>absurd he (by first|exact hne|exact hd)⟩;apply hK;clear hK K;apply aw_iff rfl;apply aw_skip;simp(disch:=omega) ;apply hK1;clear hK1;refine aw_reg fun K hK=>?_;simp(disch:=omega)[amade_zero,ddAV_len,hpos];intro k;apply hK;clear hK K;apply aw_ret;simp(disch:=omega) 
theorem frz_map {n0 t0:Nat}{H:List Blk}{cs cs':List AV}(h:cs'=cs.map untag)(hb:BelowAll n0 t0 cs'):∀(j:Nat)(hj:j<cs'.length),Frz n0 t0 H (cs.getD j .top) (cs'[j]'hj):=fun j hj=>by
 subst h;have hj':j<cs.length:=by simpa using hj
 refine .keep (.inr ?_) (hb _ (List.getElem_mem hj));rw[List.getElem_map,List.getD_eq_getElem?_getD,List.getElem?_eq_getElem hj'];rfl
theorem ss_untag (l:List Sg):(ssAV l).map untag=ssAV l:=by
 unfold ssAV;rw[List.map_flatMap]
 congr 1
theorem dd_untag (l:List (List Int)):(ddAV l).map untag=ddAV l:=by
 unfold ddAV;rw[List.map_map]
 congr 1
def one (s:Sg):List Sg:=if s.docs=[] then [] else [s]
def none1 (s:Sg):List (List Int):=if s.docs=[] then [] else [[]]
def repS (S:List Sg)(i j:Nat)(s:Sg):List Sg:=S.take i++one s++S.drop j
def repD (D:List (List Int))(i j:Nat)(s:Sg):List (List Int):=D.take i++none1 s++D.drop j
theorem replaced_ok (S : List Sg) (D : List (List Int)) (i j : Nat) (s : Sg) (hz : SzX S D) (hSD : S.length = D.length) (hij : i ≤ j) (hj : j ≤ S.length) (hsd : s.docs.length ≤ 1000) (H : List Blk) (T : Toks) :
    ACall Tryz.prog 70 [ixAV S D, .int .i64 (i : Nat), .int .i64 (j : Nat), sgAV s] H T (Is (ixAV (repS S i j s) (repD D i j s)) H T) := by
  refine ACall.frz ?_;show ACall Tryz.prog _ _ H T (BQ H T _);have hn := hz.n;have hiS : i ≤ S.length := by omega
  have hiD : i ≤ D.length := by omega
  have hjD : j ≤ D.length := by omega
  have hti : (S.take i).length = i := by rw [List.length_take]; omega
  have htd : (D.take i).length = i := by rw [List.length_take]; omega
  have hdS : (S.drop j).length = S.length - j := List.length_drop;have hdD : (D.drop j).length = D.length - j := List.length_drop;refine acall_enter 10 [] Tryz.ntmps70 Tryz.func70 rfl (fun _ _ => Tryz.call70 _ _) (by simp) (fun HO => ?_);refine aw_reg fun K hK => ?_; simp (disch := omega) [-List.getD_eq_getElem?_getD]; refine hK _ ?_; clear hK K;refine aw_mid ⟨[(2, .int .i64 (j : Nat)), (4, .ptr H.length 0), (7, .ptr (H.length + 1) 0), (8, .ptr (H.length + 2) 0), (9, .ptr (H.length + 3) 0)],
    H ++ [.cells (ixC S D), .cells (sgC s), .cells [.sl 0 [] .full, .sl 0 [] .full], .cells [.sl i (ssAV (S.take i)) (.own T.length), .sl i (ddAV (D.take i)) (.own (T.length + 1))]], T ++ [(i * 3, 3), (i, 1)]⟩ ?_ ?_
  rotate_left
  · intro hmid K hK;have c1 := fun H T => cloneSg_ok (S.take i) (by omega) H T .full;have c2 := fun H T => cloneDd_ok (D.take i) (by omega) H T .full;rw [hti] at c1;rw [htd] at c2;refine aw_floatK K 13 [5, 11] [0, 0, 0, 0, 0, 0, 0, 0, 0, 0, 0, 1, 2, 0] [[], []] drawMixed (by kernel_rfl) (by kernel_rfl) (by kernel_rfl) ?_;generalize hKK : aops _ _ K _ = KK;generalize hKR : fEnd _ _ _ _ _ _ = KR;simp (disch := omega) [-List.getD_eq_getElem?_getD, ssAV_len, ssAV_tk, hiS];refine dcall_eff (c1 _ _) rfl ?_; simp (disch := omega) [-List.getD_eq_getElem?_getD, ddAV_len, ddAV_tk, hiS, hiD];refine dcall_eff (c2 _ _) rfl ?_; simp (disch := omega) [-List.getD_eq_getElem?_getD];subst hKR;show _ = none ∧ ∃ z d, _ = some d ∧ d < _ ∧ (∀ e' T', aexec _ _ e' _ T' (.ptr _ 0) (_ ++ [z]) T') ∧ sameH _ _ ∧ fOb _ (_ ++ [z]) _ _ _ 0 ∧ KK ⟨eput _ d _, _ ++ [z], _⟩;refine ⟨rfl, .cells [.sl 0 [] .full, .sl 0 [] .full], 9, rfl, (by show 9 < 55; omega), fun e' T' => ?_, ⟨rfl, rfl, rfl, trivial⟩, ?_, ?_⟩
    · simp (disch := omega) [-List.getD_eq_getElem?_getD, aexec]
    · simp (disch := omega) [-List.getD_eq_getElem?_getD, aexec, ssAV_len, ssAV_tk, hiS, ddAV_len, ddAV_tk, hiD];exact ⟨c1 _ _, by have := c2 (H ++ [.cells (ixC S D), .cells (sgC s), .cells [.sl 0 [] .full, .sl 0 [] .full], .cells [.sl 0 [] .full, .sl 0 [] .full]]) (T ++ [(i * 3, 3)])
                                                                                                                                   simpa using this⟩
    · subst hKK;simp (disch := omega) [-List.getD_eq_getElem?_getD];refine hK _ (aw_hok fun ho => aw_weak ⟨[(2, .int .i64 (j : Nat)), (4, .ptr H.length 0), (7, .ptr (H.length + 1) 0), (8, .ptr (H.length + 2) 0), (9, .ptr (H.length + 3) 0)], _, _⟩ (weak_to [] [] ?_ ?_ ?_ ?_ ho ?_) hmid)
      all_goals simp
  · refine aw_then fun K1 hK1 => ?_;have eS : (ssAV (S.drop j)).take ((S.length - j) * 3) = ssAV (S.drop j) := List.take_of_length_le (by rw [ssAV_len, hdS]; exact Nat.le_refl _);have eD : (ddAV (D.drop j)).take (D.length - j) = ddAV (D.drop j) := List.take_of_length_le (by rw [ddAV_len, hdD]; exact Nat.le_refl _);have key : ∀ (A : List Sg) (B : List (List Int)) (n : Nat) (e : Env), A = S.take i ++ one s → B = D.take i ++ none1 s → n = A.length → n = B.length → n ≤ 401 →
        envLe (H.length + 4) (T.length + 2) e [(2, .int .i64 (j : Nat)), (4, .ptr H.length 0), (8, .ptr (H.length + 2) 0), (9, .ptr (H.length + 3) 0)] →
        K1 ⟨e, H ++ [.cells (ixC S D), .cells (sgC s), .cells [.sl 0 [] .full, .sl 0 [] .full], .cells [.sl n (ssAV A) (.own T.length), .sl n (ddAV B) (.own (T.length + 1))]], T ++ [(n * 3, 3), (n, 1)]⟩ := by
      intro A B n e hA hB hn1 hn3 hn2 he;have lA : (ssAV A).length = n * 3 := by rw [ssAV_len, ← hn1]
      have lB : (ddAV B).length = n := by rw [ddAV_len, ← hn3]
      have rS : repS S i j s = A ++ S.drop j := by unfold repS; rw [hA]
      have rD : repD D i j s = B ++ D.drop j := by unfold repD; rw [hB]
      have lrS : (repS S i j s).length = n + (S.length - j) := by rw [rS, List.length_append, ← hn1, hdS]
      have lrD : (repD D i j s).length = n + (D.length - j) := by rw [rD, List.length_append, ← hn3, hdD]
      refine hK1 _ (aw_hok fun ho => aw_weak ⟨[(2, .int .i64 (j : Nat)), (4, .ptr H.length 0), (8, .ptr (H.length + 2) 0), (9, .ptr (H.length + 3) 0)], _, _⟩ (weak_to [] [] (by simp) (by simp) (by simp) (by simp) ho (by simpa using he)) ?_);refine aw_draw [6, 13, 15, 17] [0, 0, 0, 0, 0, 0, 0, 0, 0, 0, 0, 0, 0, 1, 1, 2, 3, 3] [[], [], [], []] drawMixed (by kernel_rfl) (by kernel_rfl) fun K hK => ?_; simp (disch := omega) [-List.getD_eq_getElem?_getD, ssAV_len, ssAV_drop, ddAV_len, ddAV_drop, hj, hjD, lA, lB, eS, eD];refine hK _ ?_; clear hK K;refine aw_reg fun K hK => ?_; simp (disch := omega) [-List.getD_eq_getElem?_getD]; refine hK _ ?_; clear hK K;apply aw_ret; simp (disch := omega) [-List.getD_eq_getElem?_getD];refine ⟨⟨_, rfl⟩, ⟨_, rfl⟩, ?_⟩;unfold ixAV ixC;rw [lrS, lrD, rS, rD, ← ssAV_app, ← ddAV_app];refine Frz.agg rfl fun jj hjj => ?_
      match jj, hjj with
      | 0, _ => exact Frz.sl rfl (frz_map (by rw [List.map_append, ss_untag, ss_untag]) (by simp))
      | 1, _ => exact Frz.sl rfl (frz_map (by rw [List.map_append, dd_untag, dd_untag]) (by simp))
    by_cases hs : s.docs = []
    · have b1 : decide ((0 : Int) < (s.docs.length : Int)) = false := decide_eq_false (by rw [hs]; simp);have b2 : ¬ 0 < s.docs.length := by rw [hs]; simp
      refine aw_reg fun K hK => ?_; simp (disch := omega) [-List.getD_eq_getElem?_getD, b1, b2]; refine hK _ ?_; clear hK K;apply aw_iff rfl;apply aw_skip;refine key (S.take i) (D.take i) i _ ?_ ?_ hti.symm htd.symm (by omega) ?_
      · unfold one; rw [if_pos hs, List.append_nil]
      · unfold none1; rw [if_pos hs, List.append_nil]
      · simp
    · have hp := List.length_pos_iff.2 hs;have b1 : decide ((0 : Int) < (s.docs.length : Int)) = true := decide_eq_true (by omega);have b2 : 0 < s.docs.length := hp;have lA := ssAV_len (S.take i);have lB := ddAV_len (D.take i);rw [hti] at lA;rw [htd] at lB;refine aw_reg fun K hK => ?_; simp (disch := omega) [-List.getD_eq_getElem?_getD, b1, b2]; refine hK _ ?_; clear hK K;apply aw_ift rfl;refine aw_draw0 [4, 8, 10, 12] [0, 0, 0, 0, 0, 0, 0, 0, 1, 1, 2, 3, 3] [[], [], [], []] drawMixed (by kernel_rfl) (by kernel_rfl) fun K hK => ?_; simp (disch := omega) [-List.getD_eq_getElem?_getD, lA, lB];refine hK _ ?_; clear hK K;have := fun e => key (S.take i ++ [s]) (D.take i ++ [[]]) (i + 1) e (by unfold one; rw [if_neg hs]) (by unfold none1; rw [if_neg hs]) (by rw [List.length_append, hti]; rfl) (by rw [List.length_append, htd]; rfl) (by omega);rw [← ssAV_snoc, ← ddAV_snoc] at this;refine this _ ?_;simp
theorem segS_seg (L:List Dc):segS (segX L)=one (sgF L):=by
 have h:(sgF L).docs=[]↔L=[]:=by show L.map (·.id)=[]↔_;simp
 unfold segX one
 by_cases hL:L=[]
 ·rw[if_pos hL,if_pos (h.2 hL)];rfl
 ·rw[if_neg hL,if_neg (fun x=>hL (h.1 x))];rfl
theorem segD_seg (L:List Dc):segD (segX L)=none1 (sgF L):=by
 have h:(sgF L).docs=[]↔L=[]:=by show L.map (·.id)=[]↔_;simp
 unfold segX none1
 by_cases hL:L=[]
 ·rw[if_pos hL,if_pos (h.2 hL)];rfl
 ·rw[if_neg hL,if_neg (fun x=>hL (h.1 x))];rfl
theorem segS_repl (x:List Sd)(i j:Nat)(L:List Dc):segS (replX x i j L)=repS (segS x) i j (sgF L):=by
 unfold repS replX;rw[←segS_seg];unfold segS;rw[List.map_append,List.map_append,List.map_take,List.map_drop]
theorem segD_repl (x:List Sd)(i j:Nat)(L:List Dc):segD (replX x i j L)=repD (segD x) i j (sgF L):=by
 unfold repD replX;rw[←segD_seg];unfold segD;rw[List.map_append,List.map_append,List.map_take,List.map_drop]
theorem find_rev {p:Nat→Bool}:∀(n i:Nat),i<n→p i=true→(∀j,i<j→j<n→p j=false)→(List.range n).reverse.find? p=some i
 |0,i,h,_,_=>absurd h (Nat.not_lt_zero _)
 |n+1,i,h,hp,hb=>by
  rw[List.range_succ,List.reverse_append,List.reverse_singleton,List.singleton_append,List.find?_cons]
  by_cases e:i=n
  ·subst e;rw[hp]
  ·rw[hb n (by omega) (by omega)];exact find_rev n i (by omega) hp fun j h1 h2=>hb j h1 (by omega)
theorem step_bad {x:List Sd}{i:Nat}(hi:i<x.length)(h:badX x i=true)(hb:∀j,j<i→badX x j=false):stepX x=some (replX x i (i+1) (lvD (x.getD i e0))):=by
 have:(List.range x.length).find? (badX x)=some i:=List.find?_range_eq_some.2 ⟨h,List.mem_range.2 hi,fun j hj=>by rw[hb j hj];rfl⟩;unfold stepX;rw[this]
theorem no_bad {x:List Sd}(hb:∀j,j<x.length→badX x j=false):(List.range x.length).find? (badX x)=none:=List.find?_eq_none.2 fun j hj=>by rw[hb j (List.mem_range.1 hj)];simp
theorem step_near {x:List Sd}(hb:∀j,j<x.length→badX x j=false){i:Nat}(hi:i+1<x.length)(h:nearX x i=true)(hn:∀j,i<j→j+1<x.length→nearX x j=false):stepX x=some (replX x i (i+2) (both x i)):=by
 unfold stepX;rw[no_bad hb];simp only;rw[find_rev (x.length-1) i (by omega) h fun j h1 h2=>hn j h1 (by omega)];rfl
theorem step_stop {x:List Sd}(hb:∀j,j<x.length→badX x j=false)(hn:∀j,j+1<x.length→nearX x j=false):stepX x=none:=by
 unfold stepX;rw[no_bad hb];simp only;rw[List.find?_eq_none.2 fun j hj=>by rw[hn j (by have:=List.mem_range.1 (List.mem_reverse.1 hj);omega)];simp];rfl
theorem tidy_fuel:∀(k:Nat) {x:List Sd},GX x→sizeX x≤k→tidyX k x=tidyX (sizeX x) x:=by
 intro k
 induction k using Nat.strongRecOn with
 |_ k ih=>
  intro x hg hk
  cases hs:stepX x with
  |none=>
   have:∀m,tidyX m x=x:=fun m=>by
    cases m with
    |zero=>rfl
    |succ m=>unfold tidyX;rw[hs]
   rw[this,this]
  |some y=>
   obtain⟨h1,_,h3⟩:=step_good hg hs;have:∀m,m≤k→sizeX x≤m→tidyX m x=tidyX (sizeX y) y:=fun m hm hx=>by
    cases m with
    |zero=>omega
    |succ m=>
     show (match stepX x with
      |none=>x
      |some y=>tidyX m y)=_
     rw[hs];exact ih m (by omega) h1 (by omega)
   rw[this k (Nat.le_refl _) hk,this _ hk (Nat.le_refl _)]
theorem tidy_step {x y:List Sd}(hg:GX x)(hs:stepX x=some y):tidyX (sizeX y) y=tidyX (sizeX x) x:=by
 obtain⟨h1,_,h3⟩:=step_good hg hs;obtain⟨k,hk⟩:∃k,sizeX x=k+1:=⟨sizeX x-1,by omega⟩
 rw[hk]
 conv=>rhs;unfold tidyX
 rw[hs];exact(tidy_fuel k h1 (by omega)).symm
theorem tidy_stop {x:List Sd}(hs:stepX x=none)(k:Nat):tidyX k x=x:=by
 cases k with
 |zero=>rfl
 |succ m=>unfold tidyX;rw[hs]
theorem repl_len {x:List Sd}{i j:Nat}(L:List Dc)(hij:i<j)(hj:j≤x.length):(replX x i j L).length≤x.length:=by
 unfold replX segX;rw[List.length_append,List.length_append,List.length_take,List.length_drop]
 split<;>simp<;>omega
theorem merge_x {x:List Sd}(h:GX x){i:Nat}(hi:i+1<x.length):mergeF (sgF (lvD (x.getD i e0))) (sgF (lvD (x.getD (i+1) e0)))=(sgF (both x i),0):=by
 have hn:=perm_nodup h hi;have hl:=(both_vd h hi).n;refine merge_vd (lv_vd h (getX (by omega))) (lv_vd h (getX hi)) (both_vd h hi) (fun d=>?_) (fun a ha b hb e=>?_) ?_
 ·unfold both;rw[sortD_mem,List.mem_append]
 ·rw[List.map_append] at hn;exact(List.nodup_append.1 hn).2.2 a.id (List.mem_map.2 ⟨a,ha,rfl⟩) b.id (List.mem_map.2 ⟨b,hb,rfl⟩) e
 ·unfold both at hl;rw[sortD_len,List.length_append] at hl;exact hl
theorem BX.szx {m:Nat}{x:List Sd}(h:BX m x)(hl:x.length≤400):SzX (segS x) (segD x):=by
 refine⟨by rw[segS_len];exact hl,fun s hs=>?_,by rw[segD_len];exact hl,fun d hd=>?_⟩
 ·obtain⟨p,hp,rfl⟩:=List.mem_map.1 hs;exact h.sz hp
 ·obtain⟨p,hp,rfl⟩:=List.mem_map.1 hd;have h1:=lvD_dead (h.g.da p hp) (h.g.dd p hp);have h2:=(h.b p hp).1;omega
theorem segS_set {x:List Sd}{i:Nat}(hi:i<x.length)(d:List Int):segS (x.set i ((x.getD i e0).1,d))=segS x:=by
 unfold segS;rw[List.map_set];apply List.ext_getElem? ;intro k;rw[List.getElem?_set]
 split
 ·rename_i h;subst h;rw[if_pos (by rw[List.length_map];exact hi),List.getElem?_map,List.getElem?_eq_getElem hi,List.getD_eq_getElem?_getD,List.getElem?_eq_getElem hi];rfl
 ·rfl
theorem segD_set {x:List Sd}{i:Nat}(L:List Dc)(d:List Int):segD (x.set i (L,d))=(segD x).set i d:=by unfold segD;rw[List.map_set]
theorem kill_at {x:List Sd}{id:Int}{i:Nat}(hi:i<x.length)(h:hasX (x.getD i e0) id=true)(hb:∀j,j<i→hasX (x.getD j e0) id=false):killX x id=(x.set i ((x.getD i e0).1,orD (x.getD i e0).2 id),true):=by
 have:(List.range x.length).find? (fun i=>hasX (x.getD i e0) id)=some i:=List.find?_range_eq_some.2 ⟨h,List.mem_range.2 hi,fun j hj=>by rw[hb j hj];rfl⟩;unfold killX;rw[this]
theorem kill_none {x:List Sd}{id:Int}(hb:∀j,j<x.length→hasX (x.getD j e0) id=false):killX x id=(x,false):=by
 have:(List.range x.length).find? (fun i=>hasX (x.getD i e0) id)=none:=List.find?_eq_none.2 fun j hj=>by rw[hb j (List.mem_range.1 hj)];simp
 unfold killX;rw[this]
attribute [-simp] List.getD_eq_getElem?_getD in
theorem kill_ok {x:List Sd}(hg:GX x)(hz:SzX (segS x) (segD x))(id:Int)(H:List Blk)(T:Toks) :
  ACall Tryz.prog 67 [xAV x,.int .i64 id] H T (Is (.tup [xAV (killX x id).1,.bool (killX x id).2]) H T):=by
 refine ACall.frz ?_;show ACall Tryz.prog _ _ H T (BQ H T _);have hn:=hz.n;have hxl:=segS_len x;have hdl:=segD_len x;refine acall_enter 11 [] Tryz.ntmps67 Tryz.func67 rfl (fun _ _=>Tryz.call67 _ _) (by simp) (fun HO=>?_);apply aw_reg;intro K h;simp(disch:=omega);apply h;clear h K;have HO1:HOk (H++[.cells (ixC (segS x) (segD x)),.cells [.sl 0 [] .full,.sl 0 [] .full]]) T:=by
  have:=(HO.snoc (vs:=ixC (segS x) (segD x)) (by simp)).snoc (vs:=[.sl 0 [] .full,.sl 0 [] .full]) (by simp);simpa using this
 refine aw_then fun K1 hK1=>?_;apply aw_reg;intro K h;simp(disch:=omega);apply h;clear h K;apply aw_block;refine aw_loop (X:=Nat) (fun i=>⟨[(1,.int .i64 id),(2,.ptr H.length 0),(4,.ptr (H.length+1) 0),(9,.int .i64 ((segS x).length:Nat)),(10,.int .i64 (i:Nat))],H++[.cells (ixC (segS x) (segD x)),.cells [.sl 0 [] .full,.sl 0 [] .full]],T⟩)
  (fun i=>i≤x.length∧∀j,j<i→hasX (x.getD j e0) id=false) (fun i=>x.length-i) 0 ?_ ?_ ?_
 ·exact⟨Nat.zero_le _,fun j hj=>absurd hj (Nat.not_lt_zero _)⟩
 ·refine weak_to [] [] ?_ ?_ ?_ ?_ HO1 ?_
  all_goals simp
 ·rintro i ⟨g1,g2⟩;apply aw_reg;intro K h;simp(disch:=omega);apply h;clear h K;refine aw_then fun K2 hK2=>?_;refine aw_if rfl (fun hk=>?_) (fun hk=>?_)
  ·simp  at hk;have hi:i<x.length:=by omega
   have hp:=getX hi;have cl:=fun H T=>live_ok (segS x) (segD x) i hk hz H T;rw[segS_get hi,segD_get hi,lvS_eq,live_eq hg hp] at cl;have cc:=fun H T=>contInts_ok ((lvD (x.getD i e0)).map (·.id)) id (by rw[List.length_map];have:=lvD_len (x.getD i e0);have:=(hg.vd _ hp).n;exact Nat.le_trans (by omega:_≤2000) (by decide)) H T .none;have hdead:=hz.l (x.getD i e0).2 (by unfold segD;exact List.mem_map.2 ⟨_,hp,rfl⟩);have cr:=fun H T=>or_ok (x.getD i e0).2 [id] hdead (by simp) H T .none .full;have d1:=ddAV_at (segD x) i (by omega);rw[segD_get hi] at d1;have hkill:=fun h=>kill_at hi h g2;have hh:hasX (x.getD i e0) id=decide (id∈(lvD (x.getD i e0)).map (·.id)):=rfl;have eor:comb (fun _ _=>true) (x.getD i e0).2 [id]=orD (x.getD i e0).2 id:=rfl;rw[eor] at cr;have cn:=fun H T=>cloneLB_ok (segD x) (fun h=>by rw[h] at hdl;simp at hdl;omega) (by omega) H T .none;apply aw_skip;simp(disch:=omega) ;apply hK2;clear hK2;refine aw_then fun K3 hK3=>?_;apply aw_block;apply aw_reg;intro K h;simp(disch:=omega);apply h;clear h K;refine aw_then fun K4 hK4=>?_
   cases hc:hasX (x.getD i e0) id with
   |false=>
    rw[←hh,hc] at cc;refine aw_reg fun K hK=>?_;simp(disch:=omega) ;refine acall_is (cl _ _) ?_;simp(disch:=omega) ;refine acall_is (cc _ _) ?_;simp(disch:=omega) ;apply hK;clear hK K;apply aw_ift rfl;apply aw_exit;simp(disch:=omega) ;apply hK3;clear hK3;refine aw_reg0 fun K hK=>?_;simp(disch:=omega) ;apply hK;clear hK K;refine⟨i+1,⟨by show i+1≤_;omega,fun j hj=>?_⟩,by show x.length-(i+1)<x.length-i;omega,?_⟩
    ·rcases Nat.lt_or_ge j i with h1|h1
     ·exact g2 j h1
     ·have:j=i:=by omega
      subst this;exact hc
    ·refine weak_to [] [] ?_ ?_ ?_ ?_ HO1 ?_
     all_goals simp
   |true=>
    rw[←hh,hc] at cc;have e1:=segS_set hi (orD (x.getD i e0).2 id);have e2:=segD_set (x:=x) (i:=i) (x.getD i e0).1 (orD (x.getD i e0).2 id);refine aw_reg fun K hK=>?_;simp(disch:=omega) ;refine acall_is (cl _ _) ?_;simp(disch:=omega) ;refine acall_is (cc _ _) ?_;simp(disch:=omega) ;apply hK;clear hK K;apply aw_iff rfl;apply aw_skip;simp(disch:=omega) ;apply hK4;clear hK4;refine aw_reg fun K hK=>?_;simp(disch:=omega) ;refine⟨_,cn _ _,?_⟩;rintro r' H' T' ⟨rfl,k,rfl,rfl⟩;simp(disch:=omega) ;apply hK;clear hK K;have d2:(ddAV (segD x)++List.replicate k AV.top).getD i .top=ddC (x.getD i e0).2:=by
     rw[List.getD_eq_getElem?_getD,List.getElem?_append_left (by rw[ddAV_len];omega),←List.getD_eq_getElem?_getD];exact d1
    refine aw_draw [12] [0,0,0,0,0,0,0,0,0,0,0,0,0] [[]] drawMixed (by kernel_rfl) (by kernel_rfl) fun K hK=>?_;simp(disch:=omega)[d2,hi,hdl,ddAV_len];refine dcall_is (cr _ _) rfl ?_;simp(disch:=omega)[ddAV_len,hdl,show i+1≤x.length+k by omega];apply hK;clear hK K;apply aw_reg;intro K h;simp(disch:=omega);apply h;clear h K;apply aw_ret;simp(disch:=omega) ;have es:(ddAV (segD x)++List.replicate k AV.top).set i (ddC (orD (x.getD i e0).2 id))=ddAV ((segD x).set i (orD (x.getD i e0).2 id))++List.replicate k AV.top:=by
     rw[List.set_append_left _ _ (by rw[ddAV_len];omega),ddAV_set]
    have ln:x.length=((segD x).set i (orD (x.getD i e0).2 id)).length:=by rw[List.length_set,hdl]
    rw[hkill hc,es];refine⟨⟨_,rfl⟩,⟨[],(List.append_nil _).symm⟩,Frz.pair ?_ (Frz.same (.bool _))⟩;unfold xAV ixAV ixC;simp only;rw[e1,e2,←ln];refine Frz.agg rfl fun jj hjj=>?_
    match jj,hjj with
    |0,_=>exact Frz.sl rfl (frz_map (ss_untag _).symm (by simp))
    |1,_=>exact Frz.msl0 (Nat.le_add_right _ _) (by simp;rfl) (by simp)
  ·simp  at hk;have:i=x.length:=by omega
   subst this;apply aw_exit;simp(disch:=omega) ;apply hK1;clear hK1;apply aw_reg;intro K h;simp(disch:=omega);apply h;clear h K;apply aw_ret;simp(disch:=omega) ;rw[kill_none g2];exact⟨⟨_,rfl⟩,⟨[],(List.append_nil _).symm⟩,by
    have hb:Below H.length T.length (.tup [xAV x,.bool false]):=by simp
    exact Frz.same hb⟩
attribute [-simp] List.getD_eq_getElem?_getD in
theorem validX_ok (S:List Sg)(D:List (List Int))(hz:SzX S D)(hall:∀i,i≤S.length→(allV S D i).length≤1000)(hlv:∀i,i<S.length→(lvS (S.getD i noSeg) (D.getD i [])).length≤1000)(H:List Blk)(T:Toks) :
  ACall Tryz.prog 17 [ixAV S D] H T (Is (.bool (validX S D)) H T):=by
 refine ACall.drop' ?_ (by simp);have hn:=hz.n;refine acall_enter 19 [] Tryz.ntmps17 Tryz.func17 rfl (fun _ _=>Tryz.call17 _ _) (by simp) (fun HO=>?_);apply aw_reg;intro K h;simp(disch:=omega);apply h;clear h K;have HO1:HOk (H++[.cells (ixC S D)]) T:=HO.snoc (by simp);refine aw_then fun K1 hK1=>?_
 by_cases hSD:S.length=D.length
 rotate_left
 ·have e:validX S D=false:=by unfold validX;rw[decide_eq_false hSD];rfl
  have b1:((S.length:Int)==(D.length:Int))=false:=by
   simp only[beq_eq_false_iff_ne,ne_eq];omega
  refine aw_reg fun K hK=>?_;simp(disch:=omega)[b1,hSD];apply hK;clear hK K;refine aw_if rfl (fun h=>?_) (fun h=>absurd h (by simp;omega));apply aw_reg;intro K h;simp(disch:=omega);apply h;clear h K;apply aw_ret;simp(disch:=omega) ;rw[e]
 have eS:validX S D=((List.range S.length).all (okV S D)&&decide ((allV S D S.length).length≤2000)):=by unfold validX;rw[decide_eq_true hSD,Bool.true_and]
 have b1:((S.length:Int)==(D.length:Int))=true:=by
  simp only[beq_iff_eq];omega
 refine aw_reg fun K hK=>?_;simp(disch:=omega)[b1,hSD];apply hK;clear hK K;apply aw_iff rfl;apply aw_skip;simp(disch:=omega) ;apply hK1;clear hK1;apply aw_reg;intro K h;simp(disch:=omega);apply h;clear h K;refine aw_then fun K1 hK1=>?_;apply aw_reg;intro K h;simp(disch:=omega);apply h;clear h K;apply aw_block;refine aw_loop (X:=Nat) (fun i=>⟨[(1,.ptr H.length 0),(3,ddC (allV S D i)),(16,.sl S.length (ssAV S) .none),(17,.int .i64 (S.length:Nat)),(18,.int .i64 (i:Nat))],H++[.cells (ixC S D)],T⟩)
  (fun i=>i≤S.length∧∀j,j<i→okV S D j=true) (fun i=>S.length-i) 0 ?_ ?_ ?_
 ·exact⟨Nat.zero_le _,fun j hj=>absurd hj (Nat.not_lt_zero _)⟩
 ·refine weak_to [] [] ?_ ?_ ?_ ?_ HO1 ?_
  all_goals simp[allV]
 ·rintro i ⟨g1,g2⟩;apply aw_reg;intro K h;simp(disch:=omega);apply h;clear h K;refine aw_then fun K2 hK2=>?_;refine aw_if rfl (fun hk=>?_) (fun hk=>?_)
  ·simp  at hk;have hcut:=ssAV_cut S i hk;have hp:=fun h=>(ssAV_at S (i-1) h).1;have d1:=ddAV_at D i (by omega);have hsz:=hz.s _ (getD_mem S i noSeg hk);have hdl:(D.getD i []).length≤1000:=hz.l _ (getD_mem D i [] (by omega));have hiD:i<D.length:=by omega
   have cv:=fun H T=>validS_ok (S.getD i noSeg) hsz H T;have cd:=fun H T=>validDocs_ok (D.getD i []) (Nat.le_trans hdl (by decide)) H T .none;have cw:=fun H T=>without_ok (D.getD i []) (S.getD i noSeg).docs hdl hsz.d H T .none .none;have cl:=fun H T=>live_ok S D i hk hz H T;have ca:=fun H T=>and_ok (allV S D i) (lvS (S.getD i noSeg) (D.getD i [])) (hall i g1) (hlv i hk) H T .none .none;have co:=fun H T=>or_ok (allV S D i) (lvS (S.getD i noSeg) (D.getD i [])) (hall i g1) (hlv i hk) H T .none .none;have ek:okV S D i=(((validS (S.getD i noSeg)&&decide ((S.getD i noSeg).docs≠[]))&&decide (i=0∨2*(S.getD i noSeg).docs.length≤(S.getD (i-1) noSeg).docs.length)) &&
    ((asc (D.getD i []) 1 1000000000&&decide (comb (fun _ q=>!q) (D.getD i []) (S.getD i noSeg).docs=[]))&&decide (2*(D.getD i []).length≤(S.getD i noSeg).docs.length)) &&
    decide (comb (fun p q=>p&&q) (allV S D i) (lvS (S.getD i noSeg) (D.getD i []))=[])):=rfl
   have ea:comb (fun _ _=>true) (allV S D i) (lvS (S.getD i noSeg) (D.getD i []))=allV S D (i+1):=rfl;rw[ea] at co;have bad:okV S D i=false→validX S D=false:=fun h=>by rw[eS,all_bad hk h];rfl
   have good:okV S D i=true→∀j,j<i+1→okV S D j=true:=fun h j hj=>by
    rcases Nat.lt_or_ge j i with h1|h1
    ·exact g2 j h1
    ·have:j=i:=by omega
     subst this;exact h
   have hpl:i≠0→(S.getD (i-1) noSeg).docs.length≤1000:=fun h=>(hz.s _ (getD_mem S (i-1) noSeg (by omega))).d;have hwl:=comb_len (fun _ q=>!q) (D.getD i []) (S.getD i noSeg).docs;have hal:=comb_len (fun p q=>p&&q) (allV S D i) (lvS (S.getD i noSeg) (D.getD i []));have hll:=hlv i hk;have hai:=hall i g1;have hsd:=hsz.d;generalize S.getD (i-1) noSeg=pv at *;generalize S.getD i noSeg=s at *;generalize D.getD i []=d at *;generalize hnx:allV S D (i+1)=nx at *;generalize allV S D i=al at *;generalize lvS s d=lv at *;generalize comb (fun p q=>p&&q) al lv=an at *;generalize comb (fun _ q=>!q) d s.docs=wi at *;apply aw_skip;simp(disch:=omega) ;apply hK2;clear hK2;refine aw_then fun K3 hK3=>?_;apply aw_block;refine aw_reg fun K hK=>?_;simp(disch:=omega)[hcut,hk,ssAV_len];apply hK;clear hK K;apply aw_reg;intro K h;simp(disch:=omega);apply h;clear h K;have HO2:HOk (H++[.cells (ixC S D),.cells (sgC s)]) T:=by
    have:=HO1.snoc (vs:=sgC s) (by simp);simpa using this
   refine aw_then fun K4 hK4=>?_;refine aw_reg fun K hK=>?_;have kbad:∀e,okV S D i=false→envLe (H.length+2) T.length e [(49,.bool true)]→K ⟨e,H++[.cells (ixC S D),.cells (sgC s)],T⟩:=by
    intro e hb he;refine hK _ (aw_weak ⟨[(49,.bool true)],H++[.cells (ixC S D),.cells (sgC s)],T⟩ (weak_to [] [] (by simp) (by simp) (by simp) (by simp) HO2 (by simpa using he)) ?_);apply aw_ift rfl;apply aw_reg;intro K h;simp(disch:=omega);apply h;clear h K;apply aw_ret;simp(disch:=omega) ;rw[bad hb]
   have kgood:∀e,validS s=true→s.docs≠[]→(i=0∨2*s.docs.length≤pv.docs.length)→envLe (H.length+2) T.length e [(1,.ptr H.length 0),(3,ddC al),(4,.int .i64 (i:Nat)),(5,.ptr (H.length+1) 0),(6,.int .i64 (s.docs.length:Nat)),(16,.sl S.length (ssAV S) .none),(17,.int .i64 (S.length:Nat)),(18,.int .i64 (i:Nat)),(49,.bool false)]→K ⟨e,H++[.cells (ixC S D),.cells (sgC s)],T⟩:=by
    intro e t1 t2 t3 he;refine hK _ (aw_weak ⟨[(1,.ptr H.length 0),(3,ddC al),(4,.int .i64 (i:Nat)),(5,.ptr (H.length+1) 0),(6,.int .i64 (s.docs.length:Nat)),(16,.sl S.length (ssAV S) .none),(17,.int .i64 (S.length:Nat)),(18,.int .i64 (i:Nat)),(49,.bool false)],H++[.cells (ixC S D),.cells (sgC s)],T⟩ (weak_to [] [] (by simp) (by simp) (by simp) (by simp) HO2 (by simpa using he)) ?_);clear hK kbad he;rw[t1,decide_eq_true t2,decide_eq_true t3] at ek;simp only[Bool.true_and] at ek;apply aw_iff rfl;apply aw_skip;simp(disch:=omega) ;apply hK4;clear hK4;refine aw_then fun K4 hK4=>?_;refine aw_draw [] [0,0,0,0,0,0,0,0,0,0,0,0,0,0,0,0,0,0,0,0,0,0,0,0,0,0,0,0,0,0] [] drawMixed (by kernel_rfl) (by kernel_rfl) fun K hK=>?_;have kbad:∀e,okV S D i=false→envLe (H.length+2) T.length e [(79,.bool true)]→K ⟨e,H++[.cells (ixC S D),.cells (sgC s)],T⟩:=by
     intro e hb he;refine hK _ (aw_weak ⟨[(79,.bool true)],H++[.cells (ixC S D),.cells (sgC s)],T⟩ (weak_to [] [] (by simp) (by simp) (by simp) (by simp) HO2 (by simpa using he)) ?_);apply aw_ift rfl;apply aw_reg;intro K h;simp(disch:=omega);apply h;clear h K;apply aw_ret;simp(disch:=omega) ;rw[bad hb]
    cases hv:asc d 1 1000000000 with
    |false=>
     rw[hv] at cd ek;simp(disch:=omega)[d1,hiD,ddAV_len];refine dcall_is (cd _ _) rfl ?_;simp(disch:=omega)[d1,hiD,ddAV_len];refine kbad _ (by rw[ek];rfl) ?_;simp
    |true=>
    rw[hv] at cd ek;simp only[Bool.true_and] at ek
    by_cases hw:wi=[]
    rotate_left
    ·have hwp:0<wi.length:=List.length_pos_iff.2 hw;have bw:decide ((0:Int)<(wi.length:Int))=true:=decide_eq_true (by omega);simp(disch:=omega)[d1,hiD,ddAV_len];refine dcall_is (cd _ _) rfl ?_;simp(disch:=omega)[d1,hiD,ddAV_len];refine dcall_is (cw _ _) rfl ?_;simp(disch:=omega)[d1,hiD,ddAV_len,bw,hwp];refine kbad _ (by rw[ek,decide_eq_false hw];simp) ?_;simp
    subst hw;rw[decide_eq_true rfl,Bool.true_and] at ek
    by_cases hh:2*d.length≤s.docs.length
    rotate_left
    ·have bh:decide ((s.docs.length:Int)<2*(d.length:Int))=true:=decide_eq_true (by omega);have bh2:s.docs.length<2*d.length:=by omega
     simp(disch:=omega)[d1,hiD,ddAV_len];refine dcall_is (cd _ _) rfl ?_;simp(disch:=omega)[d1,hiD,ddAV_len];refine dcall_is (cw _ _) rfl ?_;simp(disch:=omega)[d1,hiD,ddAV_len,bh,bh2];refine kbad _ (by rw[ek,decide_eq_false hh];simp) ?_;simp
    ·have bh:decide ((s.docs.length:Int)<2*(d.length:Int))=false:=decide_eq_false (by omega);have bh2:¬s.docs.length<2*d.length:=by omega
     rw[decide_eq_true hh,Bool.true_and] at ek;simp(disch:=omega)[d1,hiD,ddAV_len];refine dcall_is (cd _ _) rfl ?_;simp(disch:=omega)[d1,hiD,ddAV_len];refine dcall_is (cw _ _) rfl ?_;simp(disch:=omega)[d1,hiD,ddAV_len,bh,bh2];refine hK _ (aw_weak ⟨[(1,.ptr H.length 0),(3,ddC al),(4,.int .i64 (i:Nat)),(16,.sl S.length (ssAV S) .none),(17,.int .i64 (S.length:Nat)),(18,.int .i64 (i:Nat)),(79,.bool false)],H++[.cells (ixC S D)],T⟩ (weak_to [.cells (sgC s)] [] (by simp) (by simp) (by simp) (by simp) HO1 (by simp)) ?_);clear hK kbad;apply aw_iff rfl;apply aw_skip;simp(disch:=omega) ;apply hK4;clear hK4;refine aw_reg fun K hK=>?_;simp(disch:=omega) ;refine acall_is (cl _ _) ?_;simp(disch:=omega) ;apply hK;clear hK K;refine aw_then fun K4 hK4=>?_
     by_cases hx:an=[]
     ·subst hx;rw[decide_eq_true rfl] at ek;refine aw_reg fun K hK=>?_;simp(disch:=omega) ;refine acall_is (ca _ _) ?_;simp(disch:=omega) ;apply hK;clear hK K;apply aw_iff rfl;apply aw_skip;simp(disch:=omega) ;apply hK4;clear hK4;refine aw_reg0 fun K hK=>?_;simp(disch:=omega) ;refine acall_is (co _ _) ?_;simp(disch:=omega) ;apply hK;clear hK K;apply hK3;clear hK3;refine aw_reg0 fun K hK=>?_;simp(disch:=omega) ;apply hK;clear hK K;refine⟨i+1,⟨by show i+1≤_;omega,good ek⟩,by show S.length-(i+1)<S.length-i;omega,?_⟩;refine weak_to [] [] ?_ ?_ ?_ ?_ HO1 ?_
      all_goals simp[hnx]
     ·have hxp:0<an.length:=List.length_pos_iff.2 hx;have bx:decide ((0:Int)<(an.length:Int))=true:=decide_eq_true (by omega);refine aw_reg fun K hK=>?_;simp(disch:=omega) ;refine acall_is (ca _ _) ?_;simp(disch:=omega)[bx,hxp];apply hK;clear hK K;apply aw_ift rfl;apply aw_reg;intro K h;simp(disch:=omega);apply h;clear h K;apply aw_ret;simp(disch:=omega) ;rw[bad (by rw[ek,decide_eq_false hx])]
   cases hv:validS s with
   |false=>
    rw[hv] at cv;simp(disch:=omega) ;refine acall_is (cv _ _) ?_;simp(disch:=omega) ;refine kbad _ (by rw[ek,hv];rfl) ?_;simp
   |true=>
   rw[hv] at cv
   by_cases h0:s.docs=[]
   ·have b0:decide ((s.docs.length:Int)<1)=true:=decide_eq_true (by rw[h0];simp);have b00:s.docs.length<1:=by rw[h0];simp
    simp(disch:=omega) ;refine acall_is (cv _ _) ?_;simp(disch:=omega)[b0,b00];refine kbad _ (by rw[ek,hv,decide_eq_false (fun x=>x h0)];rfl) ?_;simp
   have hpos:=List.length_pos_iff.2 h0;have b0:decide ((s.docs.length:Int)<1)=false:=decide_eq_false (by omega);have b00:¬s.docs.length<1:=by omega
   by_cases hi0:i=0
   ·have b3:decide ((0:Int)<(i:Int))=false:=decide_eq_false (by omega);simp(disch:=omega) ;refine acall_is (cv _ _) ?_;simp(disch:=omega)[b0,b00,b3,hi0];refine kgood _ hv h0 (.inl hi0) ?_;simp[hi0]
   ·have hp:=hp (by omega);have hpl:=hpl hi0;have b3:decide ((0:Int)<(i:Int))=true:=decide_eq_true (by omega);have b33:0<i:=by omega
    have ei:(i:Int)-1=((i-1:Nat):Int):=by omega
    have hi1:i-1<S.length:=by omega
    by_cases hh:2*s.docs.length≤pv.docs.length
    ·have b4:decide ((pv.docs.length:Int)<2*(s.docs.length:Int))=false:=decide_eq_false (by omega);have b44:¬pv.docs.length<2*s.docs.length:=by omega
     simp(disch:=omega) ;refine acall_is (cv _ _) ?_;simp(disch:=omega)[b0,b00,b3,b33,ei,hp,hi1,b4,b44,ssAV_len];refine kgood _ hv h0 (.inr hh) ?_;simp
    ·have b4:decide ((pv.docs.length:Int)<2*(s.docs.length:Int))=true:=decide_eq_true (by omega);have b44:pv.docs.length<2*s.docs.length:=by omega
     simp(disch:=omega) ;refine acall_is (cv _ _) ?_;simp(disch:=omega)[b0,b00,b3,b33,ei,hp,hi1,b4,b44,ssAV_len];refine kbad _ (by rw[ek,hv,decide_eq_true h0,decide_eq_false (fun x=>x.elim hi0 hh)];rfl) ?_;simp
  ·simp  at hk;have:i=S.length:=by omega
   subst this;have hai:=hall _ (Nat.le_refl _);have eA:validX S D=decide ((allV S D S.length).length≤2000):=by rw[eS,all_good g2];rfl
   rw[decide_eq_true (by omega)] at eA;generalize allV S D S.length=al at *;have b9:decide ((al.length:Int)≤2000)=true:=decide_eq_true (by omega);have b99:al.length≤2000:=by omega
   apply aw_exit;simp(disch:=omega) ;apply hK1;clear hK1;refine aw_reg fun K hK=>?_;simp(disch:=omega)[b9,b99];apply hK;clear hK K;apply aw_ret;simp(disch:=omega) ;exact eA
theorem alive_take (x:List Sd)(i:Nat):(alive (x.take i)).length≤(alive x).length:=by
 conv=>rhs;rw[←List.take_append_drop i x,alive_app,List.length_append]
 omega
theorem docsQ_len {x:List Sd}(hg:GX x){i:Nat}(hi:i≤x.length):(docsQ x i).length≤(alive x).length:=by
 rw[docsQ_eq hg i hi,List.length_map];unfold allX;rw[sortD_len];exact alive_take x i
theorem liveX_len {x:List Sd}(hg:GX x){p:Sd}(hp:p∈x):(liveX p).length≤(alive x).length:=by
 rw[live_eq hg hp,List.length_map];exact alive_part hp
theorem BX.valid_ok {m:Nat}{x:List Sd}(h:BX m x)(ht:Tidy x)(hl:x.length≤400)(H:List Blk)(T:Toks):ACall Tryz.prog 17 [xAV x] H T (Is (.bool true) H T):=by
 have hg:=h.g;have ha:=h.a;rw[←valid_x hg ht];refine validX_ok (segS x) (segD x) (h.szx hl) (fun i hi=>?_) (fun i hi=>?_) H T
 ·rw[segS_len] at hi;rw[allV_eq hg i hi,List.length_map];unfold allX;rw[sortD_len];have:=alive_take x i;omega
 ·rw[segS_len] at hi;rw[segS_get hi,segD_get hi,lvS_eq];have:=liveX_len hg (getX hi);omega
attribute [-simp] List.getD_eq_getElem?_getD in
theorem docsX_ok {m:Nat}{x:List Sd}(h:BX m x)(hl:x.length≤400)(H:List Blk)(T:Toks):ACall Tryz.prog 27 [xAV x] H T (Is (ddC (docsQ x x.length)) H T):=by
 refine ACall.drop' ?_ (by simp);have hg:=h.g;have ha:=h.a;have hz:=h.szx hl;have hxl:=segS_len x;refine acall_enter 9 [] Tryz.ntmps27 Tryz.func27 rfl (fun _ _=>Tryz.call27 _ _) (by simp) (fun HO=>?_);apply aw_reg;intro K h;simp(disch:=omega);apply h;clear h K;have HO1:HOk (H++[.cells (ixC (segS x) (segD x))]) T:=HO.snoc (by simp);apply aw_reg;intro K h;simp(disch:=omega);apply h;clear h K;refine aw_then fun K1 hK1=>?_;apply aw_reg;intro K h;simp(disch:=omega);apply h;clear h K;apply aw_block;refine aw_loop (X:=Nat) (fun i=>⟨[(1,.ptr H.length 0),(3,ddC (docsQ x i)),(7,.int .i64 ((segS x).length:Nat)),(8,.int .i64 (i:Nat))],H++[.cells (ixC (segS x) (segD x))],T⟩) (fun i=>i≤x.length) (fun i=>x.length-i) 0 ?_ ?_ ?_
 ·exact Nat.zero_le _
 ·refine weak_to [] [] ?_ ?_ ?_ ?_ HO1 ?_
  all_goals simp[docsQ]
 ·intro i g1;apply aw_reg;intro K h;simp(disch:=omega);apply h;clear h K;refine aw_then fun K2 hK2=>?_;refine aw_if rfl (fun hk=>?_) (fun hk=>?_)
  ·simp  at hk;have hi:i<x.length:=by omega
   have hp:=getX hi;have cl:=fun H T=>live_ok (segS x) (segD x) i hk hz H T;rw[segS_get hi,segD_get hi,lvS_eq] at cl;have l1:=docsQ_len hg g1;have l2:=docsQ_len hg (show i+1≤x.length from hi);have l3:=liveX_len hg hp;have e1:orL [] (docsQ x i)=docsQ x i:=by rw[docsQ_eq hg i g1];exact orL_nil (ids_V (all_vd (take_gx hg i)))
   have co:=fun H T=>orX_ok [docsQ x i,liveX (x.getD i e0)] (by simp) (fun d hd=>by
    rcases List.mem_cons.1 hd with rfl|h1
    ·omega
    ·rw[List.mem_singleton.1 h1];omega) (fun k hk=>by
    match k with
    |0=>simp[orX]
    |1=>show (orL [] (docsQ x i)).length≤1000;rw[e1];omega
    |k+2=>rw[List.take_of_length_le (by simp)];show (docsQ x (i+1)).length≤1000;omega) H T .full
   rw[show orX [docsQ x i,liveX (x.getD i e0)]=docsQ x (i+1) from rfl] at co;generalize hnx:docsQ x (i+1)=nx at *;generalize docsQ x i=q at *;generalize liveX (x.getD i e0)=lv at *;apply aw_skip;simp(disch:=omega) ;apply hK2;clear hK2;refine aw_then fun K3 hK3=>?_;apply aw_block;apply aw_reg;intro K h;simp(disch:=omega);apply h;clear h K;refine aw_reg0 fun K hK=>?_;simp(disch:=omega) ;refine acall_is (cl _ _) ?_;simp(disch:=omega) ;refine acall_is (co _ _) ?_;simp(disch:=omega) ;apply hK;clear hK K;apply hK3;clear hK3;refine aw_reg0 fun K hK=>?_;simp(disch:=omega) ;apply hK;clear hK K;refine⟨i+1,by show i+1≤_;omega,by show x.length-(i+1)<x.length-i;omega,?_⟩;refine weak_to [] [] ?_ ?_ ?_ ?_ HO1 ?_
   all_goals simp[hnx]
  ·simp  at hk;have:i=x.length:=by omega
   subst this;apply aw_exit;simp(disch:=omega) ;apply hK1;clear hK1;apply aw_reg;intro K h;simp(disch:=omega);apply h;clear h K;apply aw_ret;simp(disch:=omega) 
theorem posD_le (d:Dc)(k:Ky):(posD d k).length≤(dkeys d).length:=by
 unfold posD dkeys;rw[List.length_map,←dwds_keys,List.length_map];exact List.length_filter_le _ _
theorem postF_len (L:List Dc)(k:Ky):(postF L k).length≤L.length:=by
 unfold postF
 induction L with
 |nil=>simp
 |cons d L ih=>
  rw[List.flatMap_cons,List.length_append,List.length_cons];have:(pst d k).length≤1:=by unfold pst;split<;>simp
  omega
theorem BX.post {m:Nat}{x:List Sd}(h:BX m x)(hm:m≤1000){L:List Dc}(hL:∀d∈L,∃p∈x,d∈p.1)(k:Ky):∀p∈postF L k,p.2.length≤1000:=by
 intro p hp;obtain⟨d,hd,rfl,_⟩:=postF_mem hp;obtain⟨q,hq,hdq⟩:=hL d hd;have h1:=posD_le d k;have h2:=(h.w q hq d hdq).k;show (posD d k).length≤1000;omega
attribute [-simp] List.getD_eq_getElem?_getD in
theorem findX_ok {m:Nat}{x:List Sd}(h:BX m x)(hm:m≤1000)(hl:x.length≤400)(f:Int)(w:Bs)(H:List Blk)(T:Toks) :
  ACall Tryz.prog 29 [xAV x,.int .i64 f,.str w] H T (Is (.sl (findQ x (f,w) x.length).length (psAV (findQ x (f,w) x.length)) .none) H T):=by
 refine ACall.drop' ?_ (by simp);have hg:=h.g;have ha:=h.a;have hz:=h.szx hl;have hxl:=segS_len x;refine acall_enter 14 [] Tryz.ntmps29 Tryz.func29 rfl (fun _ _=>Tryz.call29 _ _) (by simp) (fun HO=>?_);apply aw_reg;intro K h;simp(disch:=omega);apply h;clear h K;have HO1:HOk (H++[.cells (ixC (segS x) (segD x))]) T:=HO.snoc (by simp);apply aw_reg;intro K h;simp(disch:=omega);apply h;clear h K;refine aw_then fun K1 hK1=>?_;apply aw_reg;intro K h;simp(disch:=omega);apply h;clear h K;apply aw_block;refine aw_loop (X:=Nat) (fun i=>⟨[(1,.int .i64 f),(2,.str w),(3,.ptr H.length 0),(7,.sl (findQ x (f,w) i).length (psAV (findQ x (f,w) i)) .none),(11,.sl (segS x).length (ssAV (segS x)) .none),(12,.int .i64 ((segS x).length:Nat)),(13,.int .i64 (i:Nat))],H++[.cells (ixC (segS x) (segD x))],T⟩) (fun i=>i≤x.length) (fun i=>x.length-i) 0 ?_ ?_ ?_
 ·exact Nat.zero_le _
 ·refine weak_to [] [] ?_ ?_ ?_ ?_ HO1 ?_
  all_goals simp[findQ,psAV_nil]
 ·intro i g1;apply aw_reg;intro K h;simp(disch:=omega);apply h;clear h K;refine aw_then fun K2 hK2=>?_;refine aw_if rfl (fun hk=>?_) (fun hk=>?_)
  ·simp  at hk;have hi:i<x.length:=by omega
   have hp:=getX hi;have hcut:=ssAV_cut (segS x) i hk;rw[segS_get hi] at hcut;have cl:=fun H T=>live_ok (segS x) (segD x) i hk hz H T;rw[segS_get hi,segD_get hi,lvS_eq] at cl;have cf:=fun H T=>findS_ok (sgF (x.getD i e0).1) (h.sz hp) f w H T;have hv:=hg.vd _ hp;have hfb:=findS_built hv.n hv.lt hv.v (f,w);have l3:=liveX_len hg hp;have hb:=h.b _ hp;have f1:(findS (sgF (x.getD i e0).1) (f,w)).length≤1000:=by
    rw[hfb];have:=postF_len (x.getD i e0).1 (f,w);omega
   have f2:∀p∈findS (sgF (x.getD i e0).1) (f,w),p.2.length≤1000:=by rw[hfb];exact h.post hm (fun d hd=>⟨_,hp,hd⟩) (f,w)
   have co:=fun H T=>only_ok (findS (sgF (x.getD i e0).1) (f,w)) (liveX (x.getD i e0)) f1 f2 (by omega) H T .none .none;have eo:onlyL (findS (sgF (x.getD i e0).1) (f,w)) (liveX (x.getD i e0))=postF (lvD (x.getD i e0)) (f,w):=by
    rw[hfb,only_post hv (f,w) (by rw[live_eq hg hp];exact ids_V (lv_vd hg hp)),lv_filter hg hp]
   have o1:(onlyL (findS (sgF (x.getD i e0).1) (f,w)) (liveX (x.getD i e0))).length≤1000:=by
    rw[eo];have:=postF_len (lvD (x.getD i e0)) (f,w);have:=alive_part hp;omega
   have o2:∀p∈onlyL (findS (sgF (x.getD i e0).1) (f,w)) (liveX (x.getD i e0)),p.2.length≤1000:=by rw[eo];exact h.post hm (fun d hd=>⟨_,hp,lv_sub hd⟩) (f,w)
   have q1:(findQ x (f,w) i).length≤1000:=by
    rw[findQ_eq hg (f,w) i g1];have h1:=postF_len (allX (x.take i)) (f,w);have h2:(allX (x.take i)).length=(alive (x.take i)).length:=sortD_len _;have h3:=alive_take x i;omega
   have q2:∀p∈findQ x (f,w) i,p.2.length≤1000:=by
    rw[findQ_eq hg (f,w) i g1];refine h.post hm (fun d hd=>?_) (f,w);obtain⟨p,hp,hd⟩:=all_mem.1 hd;exact⟨p,List.mem_of_mem_take hp,lv_sub hd⟩
   have cu:=fun H T=>union_ok (findQ x (f,w) i) (onlyL (findS (sgF (x.getD i e0).1) (f,w)) (liveX (x.getD i e0))) q1 o1 q2 o2 H T .none .none;rw[show unionL (findQ x (f,w) i) (onlyL (findS (sgF (x.getD i e0).1) (f,w)) (liveX (x.getD i e0)))=findQ x (f,w) (i+1) from rfl] at cu;clear eo hfb;generalize hnx:findQ x (f,w) (i+1)=nx at *;generalize findQ x (f,w) i=q at *;generalize onlyL (findS (sgF (x.getD i e0).1) (f,w)) (liveX (x.getD i e0))=o at *;generalize findS (sgF (x.getD i e0).1) (f,w)=fs at *;generalize liveX (x.getD i e0)=lv at *;generalize sgF (x.getD i e0).1=s at *;apply aw_skip;simp(disch:=omega) ;apply hK2;clear hK2;refine aw_then fun K3 hK3=>?_;apply aw_block;refine aw_reg fun K hK=>?_;simp(disch:=omega)[hcut,hk,ssAV_len];apply hK;clear hK K;refine aw_draw0 [] [0,0,0,0,0,0,0,0,0,0,0] [] drawMixed (by kernel_rfl) (by kernel_rfl) fun K hK=>?_;simp(disch:=omega) ;refine dcall_is (cf _ _) rfl ?_;simp(disch:=omega) ;refine dcall_is (cl _ _) rfl ?_;simp(disch:=omega) ;refine dcall_is (co _ _) rfl ?_;simp(disch:=omega) ;refine dcall_is (cu _ _) rfl ?_;simp(disch:=omega) ;apply hK;clear hK K;apply hK3;clear hK3;refine aw_reg0 fun K hK=>?_;simp(disch:=omega) ;apply hK;clear hK K;refine⟨i+1,by show i+1≤_;omega,by show x.length-(i+1)<x.length-i;omega,?_⟩;refine weak_to [.cells (sgC s)] [] ?_ ?_ ?_ ?_ HO1 ?_
   all_goals simp[hnx]
  ·simp  at hk;have:i=x.length:=by omega
   subst this;apply aw_exit;simp(disch:=omega) ;apply hK1;clear hK1;apply aw_reg;intro K h;simp(disch:=omega);apply h;clear h K;apply aw_ret;simp(disch:=omega) 
end Go.Proofs.YtoejlmpbebjemaaGreat
