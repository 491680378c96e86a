/- The reference's Valid of indexes (layer 40).
  Conditions: sizes, as the theorems say. -/
import Derived.Test.YtoejlmpbebjemaaGreatXZa
import Derived.Test.YtoejlmpbebjemaaGreatGRA
import Derived.Test.YtoejlmpbebjemaaGreatPZ
set_option linter.all false
set_option maxRecDepth 100000
set_option maxHeartbeats 16000000
namespace Go.Proofs.YtoejlmpbebjemaaGreat
open Go Go.Am Sug Post Seg
attribute [-simp] List.getD_eq_getElem?_getD in
theorem liveR_ok (S:List Sg)(D:List (List Int))(i:Nat)(hi:i<S.length)(hiD:i<D.length)(hz:SzX S D)(H:List Blk)(T:Toks) :
  ACall Tryz.prog 77 [ixAV S D,.int .i64 (i:Nat)] H T (Is (ddC (lvS (S.getD i noSeg) (D.getD i []))) H T):=by
 refine ACall.drop' ?_ (by simp);have cw:=fun H T=>withoutR_ok (S.getD i noSeg).docs (D.getD i []) (hz.s _ (getD_mem S i noSeg hi)).d (hz.l _ (getD_mem D i [] hiD)) H T .none .none;rw[←without_eq] at cw;obtain⟨a1,_,_⟩:=ssAV_at S i hi;have d1:=ddAV_at D i hiD;unfold lvS;generalize D.getD i []=d at *;generalize S.getD i noSeg=s at *;refine acall_enter 5 [] Tryz.ntmps77 Tryz.func77 rfl (fun _ _=>Tryz.call77 _ _) (by simp) (fun HO=>?_);apply aw_reg;intro K h;simp(disch:=omega);apply h;clear h K;refine aw_draw [] [0,0,0,0,0,0,0,0,0,0,0,0,0] [] drawMixed (by kernel_rfl) (by kernel_rfl) fun K hK=>?_;simp(disch:=omega)[a1,hi,ssAV_len,d1,hiD,ddAV_len];refine dcall_is (cw _ _) rfl ?_;simp(disch:=omega) ;apply hK;clear hK K;apply aw_ret;simp(disch:=omega) 
attribute [-simp] List.getD_eq_getElem?_getD in
theorem docsR40_ok (S:List Sg)(D:List (List Int))(hSD:S.length=D.length)(hz:SzX S D)(hall:∀i,i≤S.length→(allV S D i).length≤1000)(hlv:∀i,i<S.length→(lvS (S.getD i noSeg) (D.getD i [])).length≤1000)(H:List Blk)(T:Toks) :
  ACall Tryz.prog 51 [ixAV S D] H T (Is (ddC (allV S D S.length)) H T):=by
 refine ACall.drop' ?_ (by simp);have hn:=hz.n;refine acall_enter 5 [] Tryz.ntmps51 Tryz.func51 rfl (fun _ _=>Tryz.call51 _ _) (by simp) (fun HO=>?_);apply aw_reg;intro K h;simp(disch:=omega);apply h;clear h K;have HO1:HOk (H++[.cells (ixC S D)]) T:=HO.snoc (by simp);apply aw_reg;intro K h;simp(disch:=omega);apply h;clear h K;refine aw_then fun K1 hK1=>?_;apply aw_reg;intro K h;simp(disch:=omega);apply h;clear h K;apply aw_block;refine aw_loop (X:=Nat) (fun i=>⟨[(1,.ptr H.length 0),(3,ddC (allV S D i)),(4,.int .i64 (i:Nat))],H++[.cells (ixC S D)],T⟩) (fun i=>i≤S.length) (fun i=>S.length-i) 0 ?_ ?_ ?_
 ·exact Nat.zero_le _
 ·refine weak_to [] [] ?_ ?_ ?_ ?_ HO1 ?_
  all_goals simp[allV]
 ·intro i g1;refine aw_then fun K2 hK2=>?_
  by_cases hk:i<S.length
  ·have cl:=fun H T=>liveR_ok S D i hk (by omega) hz H T;have co:=fun H T=>orR_ok (allV S D i) (lvS (S.getD i noSeg) (D.getD i [])) (hall i g1) (hlv i hk) H T;rw[show comb (fun _ _=>true) (allV S D i) (lvS (S.getD i noSeg) (D.getD i []))=allV S D (i+1) from rfl] at co;generalize hnx:allV S D (i+1)=nx at *;generalize allV S D i=al at *;generalize lvS (S.getD i noSeg) (D.getD i [])=lv at *;refine aw_reg fun K hK=>?_;simp(disch:=omega)[hk];apply hK;clear hK K;apply aw_ift rfl;apply aw_skip;apply hK2;clear hK2;refine aw_then fun K3 hK3=>?_;apply aw_block;refine aw_reg0 fun K hK=>?_;simp(disch:=omega) ;refine acall_is (cl _ _) ?_;simp(disch:=omega) ;refine acall_is (co _ _) ?_;simp(disch:=omega) ;apply hK;clear hK K;apply hK3;clear hK3;refine aw_reg0 fun K hK=>?_;simp(disch:=omega) ;apply hK;clear hK K;refine⟨i+1,by show i+1≤_;omega,by show S.length-(i+1)<S.length-i;omega,?_⟩;refine weak_to [] [] ?_ ?_ ?_ ?_ HO1 ?_
   all_goals simp[hnx]
  ·have:i=S.length:=by omega
   subst this;refine aw_reg fun K hK=>?_;simp(disch:=omega)[hk];apply hK;clear hK K;apply aw_iff rfl;apply aw_exit;simp(disch:=omega) ;apply hK1;clear hK1;apply aw_reg;intro K h;simp(disch:=omega);apply h;clear h K;apply aw_ret;simp(disch:=omega) 
attribute [-simp] List.getD_eq_getElem?_getD in
theorem validR40_ok (S:List Sg)(D:List (List Int))(hz:SzX S D)(hall:∀i,i≤S.length→(allV S D i).length≤1000)(hlv:∀i,i<S.length→(lvS (S.getD i noSeg) (D.getD i [])).length≤1000)(H:List Blk)(T:Toks) :
  ACall Tryz.prog 24 [ixAV S D] H T (Is (.bool (validR S D)) H T):=by
 refine ACall.drop' ?_ (by simp);have hn:=hz.n;refine acall_enter 7 [] Tryz.ntmps24 Tryz.func24 rfl (fun _ _=>Tryz.call24 _ _) (by simp) (fun HO=>?_);apply aw_reg;intro K h;simp(disch:=omega);apply h;clear h K;have HO1:HOk (H++[.cells (ixC S D)]) T:=HO.snoc (by simp);refine aw_then fun K1 hK1=>?_
 by_cases hSD:D.length=S.length
 rotate_left
 ·have e:validR S D=false:=by unfold validR;rw[decide_eq_false (fun h=>hSD h.symm)];rfl
  have b1:((D.length:Int)==(S.length:Int))=false:=by
   simp only[beq_eq_false_iff_ne,ne_eq];omega
  refine aw_reg fun K hK=>?_;simp(disch:=omega)[b1,hSD];apply hK;clear hK K;refine aw_if rfl (fun h=>?_) (fun h=>absurd h (by simp;omega));apply aw_reg;intro K h;simp(disch:=omega);apply h;clear h K;apply aw_ret;simp(disch:=omega) ;rw[e]
 have eS:validR S D=((List.range S.length).all (okR S D)&&(decide (cntV S D S.length=(allV S D S.length).length)&&decide (cntV S D S.length≤2000))):=by unfold validR;rw[decide_eq_true hSD.symm,Bool.true_and]
 have b1:((D.length:Int)==(S.length:Int))=true:=by
  simp only[beq_iff_eq];omega
 refine aw_reg fun K hK=>?_;simp(disch:=omega)[b1,hSD];apply hK;clear hK K;apply aw_iff rfl;apply aw_skip;simp(disch:=omega) ;apply hK1;clear hK1;apply aw_reg;intro K h;simp(disch:=omega);apply h;clear h K;refine aw_then fun K1 hK1=>?_;apply aw_reg;intro K h;simp(disch:=omega);apply h;clear h K;apply aw_block;refine aw_loop (X:=Nat) (fun i=>⟨[(1,.ptr H.length 0),(3,.int .i64 (cntV S D i:Nat)),(4,.int .i64 (i:Nat))],H++[.cells (ixC S D)],T⟩)
  (fun i=>i≤S.length∧(∀j,j<i→okR S D j=true)∧cntV S D i≤i*1000) (fun i=>S.length-i) 0 ?_ ?_ ?_
 ·exact⟨Nat.zero_le _,fun j hj=>absurd hj (Nat.not_lt_zero _),by simp[cntV]⟩
 ·refine weak_to [] [] ?_ ?_ ?_ ?_ HO1 ?_
  all_goals simp[cntV]
 ·rintro i ⟨g1,g2,g3⟩;refine aw_then fun K2 hK2=>?_
  by_cases hk:i<S.length
  ·have hcut:=ssAV_cut S i hk;have hp:=fun h=>(ssAV_at S (i-1) h).1;have d1:=ddAV_at D i (by omega);have hsz:=hz.s _ (getD_mem S i noSeg hk);have hdl:(D.getD i []).length≤1000:=hz.l _ (getD_mem D i [] (by omega));have hiD:i<D.length:=by omega
   have cv:=fun H T=>validSR_ok (S.getD i noSeg) hsz H T;have cd:=fun H T=>validDocsR_ok (D.getD i []) (Nat.le_trans hdl (by decide)) H T .none;have cw:=fun H T=>withoutR_ok (D.getD i []) (S.getD i noSeg).docs hdl hsz.d H T .none .none;rw[←without_eq] at cw;have cl:=fun H T=>liveR_ok S D i hk hiD hz H T;have ek:okR S D i=(((validS (S.getD i noSeg)&&decide ((S.getD i noSeg).docs≠[]))&&decide (i=0∨2*(S.getD i noSeg).docs.length≤(S.getD (i-1) noSeg).docs.length)) &&
    ((asc (D.getD i []) 1 1000000000&&decide (comb (fun _ q=>!q) (D.getD i []) (S.getD i noSeg).docs=[]))&&decide (2*(D.getD i []).length≤(S.getD i noSeg).docs.length))):=rfl
   have ec:cntV S D (i+1)=cntV S D i+(lvS (S.getD i noSeg) (D.getD i [])).length:=rfl;have bad:okR S D i=false→validR S D=false:=fun h=>by rw[eS,all_bad hk h];rfl
   have good:okR S D i=true→∀j,j<i+1→okR S D j=true:=fun h j hj=>by
    rcases Nat.lt_or_ge j i with h1|h1
    ·exact g2 j h1
    ·have:j=i:=by omega
     subst this;exact h
   have hpl:i≠0→(S.getD (i-1) noSeg).docs.length≤1000:=fun h=>(hz.s _ (getD_mem S (i-1) noSeg (by omega))).d;have hwl:=comb_len (fun _ q=>!q) (D.getD i []) (S.getD i noSeg).docs;have hll:=hlv i hk;have hsd:=hsz.d;generalize S.getD (i-1) noSeg=pv at *;generalize S.getD i noSeg=s at *;generalize D.getD i []=d at *;generalize hcx:cntV S D (i+1)=cx at *;generalize cntV S D i=c at *;generalize lvS s d=lv at *;generalize comb (fun _ q=>!q) d s.docs=wi at *;refine aw_reg fun K hK=>?_;simp(disch:=omega)[hk];apply hK;clear hK K;apply aw_ift rfl;apply aw_skip;simp(disch:=omega) ;apply hK2;clear hK2;refine aw_then fun K3 hK3=>?_;apply aw_block;refine aw_draw [10,11] [0,0,0,0,0,0,0,0,0,0,0,1,2] [[0,1,2,3,4,5,6,7,8,9],[5,6,7,8,9]] drawMixed (by kernel_rfl) (by kernel_rfl) fun K hK=>?_;simp(disch:=omega)[hcut,hk,ssAV_len,d1,hiD,ddAV_len];apply hK;clear hK K;have HO2:HOk (H++[.cells (ixC S D),.cells (sgC s)]) T:=by
    have:=HO1.snoc (vs:=sgC s) (by simp);simpa using this
   refine aw_then fun K4 hK4=>?_;refine aw_reg fun K hK=>?_;have kbad:∀e (G:List AV),okR S D i=false→envLe (H.length+2) T.length e [(61,.bool true)]→K ⟨e,H++[.cells (ixC S D),.cells G],T⟩:=by
    intro e G hb he;refine hK _ (aw_hok fun ho=>aw_weak ⟨[(61,.bool true)],_,_⟩ (weak_to [] [] (by simp) (by simp) (by simp) (by simp) ho (by simpa using he)) ?_);apply aw_ift rfl;apply aw_reg;intro K h;simp(disch:=omega);apply h;clear h K;apply aw_ret;simp(disch:=omega) ;rw[bad hb]
   have kgood:∀e,validS s=true→s.docs≠[]→asc d 1 1000000000=true→wi=[]→2*d.length≤s.docs.length→envLe (H.length+2) T.length e [(1,.ptr H.length 0),(3,.int .i64 (c:Nat)),(4,.int .i64 (i:Nat)),(5,.ptr (H.length+1) 0),(61,.bool false)]→K ⟨e,H++[.cells (ixC S D),.cells (sgC s)],T⟩:=by
    intro e t1 t2 t3 t4 t5 he;refine hK _ (aw_weak ⟨[(1,.ptr H.length 0),(3,.int .i64 (c:Nat)),(4,.int .i64 (i:Nat)),(5,.ptr (H.length+1) 0),(61,.bool false)],H++[.cells (ixC S D),.cells (sgC s)],T⟩ (weak_to [] [] (by simp) (by simp) (by simp) (by simp) HO2 (by simpa using he)) ?_);clear hK kbad he;rw[t1,decide_eq_true t2,t3,decide_eq_true t4,decide_eq_true t5] at ek;simp only[Bool.true_and,Bool.and_true] at ek;apply aw_iff rfl;apply aw_skip;simp(disch:=omega) ;apply hK4;clear hK4;refine aw_then fun K4 hK4=>?_;refine aw_draw [] [0,0,0,0,0,0,0,0,0,0,0,0,0,0,0,0,0] [] drawMixed (by kernel_rfl) (by kernel_rfl) fun K hK=>?_;have kg:∀e,(i=0∨2*s.docs.length≤pv.docs.length)→envLe (H.length+2) T.length e [(1,.ptr H.length 0),(3,.int .i64 (c:Nat)),(4,.int .i64 (i:Nat)),(78,.bool false)]→K ⟨e,H++[.cells (ixC S D),.cells (sgC s)],T⟩:=by
     intro e ho he;refine hK _ (aw_weak ⟨[(1,.ptr H.length 0),(3,.int .i64 (c:Nat)),(4,.int .i64 (i:Nat)),(78,.bool false)],H++[.cells (ixC S D),.cells (sgC s)],T⟩ (weak_to [] [] (by simp) (by simp) (by simp) (by simp) HO2 (by simpa using he)) ?_);clear hK he;rw[decide_eq_true ho] at ek;apply aw_iff rfl;apply aw_skip;simp(disch:=omega) ;apply hK4;clear hK4;refine aw_reg0 fun K hK=>?_;simp(disch:=omega) ;refine acall_is (cl _ _) ?_;simp(disch:=omega) ;apply hK;clear hK K;apply hK3;clear hK3;refine aw_reg0 fun K hK=>?_;simp(disch:=omega) ;apply hK;clear hK K;refine⟨i+1,⟨by show i+1≤_;omega,good ek,by rw[hcx,ec];omega⟩,by show S.length-(i+1)<S.length-i;omega,?_⟩;refine weak_to [.cells (sgC s)] [] ?_ ?_ ?_ ?_ HO1 ?_
     all_goals simp[hcx,ec]
    by_cases hi0:i=0
    ·have b3:decide ((0:Int)<(i:Int))=false:=decide_eq_false (by omega);simp(disch:=omega)[b3,hi0];refine kg _ (.inl hi0) ?_;simp[hi0]
    ·have hp:=hp (by omega);have hpl:=hpl hi0;have b33:0<i:=by omega
     have ei:(i:Int)-1=((i-1:Nat):Int):=by omega
     have hi1:i-1<S.length:=by omega
     by_cases hh:2*s.docs.length≤pv.docs.length
     ·have b4:decide ((pv.docs.length:Int)<2*(s.docs.length:Int))=false:=decide_eq_false (by omega);have b44:¬pv.docs.length<2*s.docs.length:=by omega
      simp(disch:=omega)[b33,ei,hp,hi1,b4,b44,ssAV_len];refine kg _ (.inr hh) ?_;simp
     ·have b4:decide ((pv.docs.length:Int)<2*(s.docs.length:Int))=true:=decide_eq_true (by omega);have b44:pv.docs.length<2*s.docs.length:=by omega
      simp(disch:=omega)[b33,ei,hp,hi1,b4,b44,ssAV_len];refine hK _ ?_;clear kg hK K;apply aw_ift rfl;apply aw_reg;intro K h;simp(disch:=omega);apply h;clear h K;apply aw_ret;simp(disch:=omega) ;rw[bad (by rw[ek,decide_eq_false (fun x=>x.elim hi0 hh)])]
   cases hv:validS s with
   |false=>
    rw[hv] at cv;simp(disch:=omega) ;refine acall_is (cv _ _) ?_;simp(disch:=omega) ;refine kbad _ _ (by rw[ek,hv];rfl) ?_;simp
   |true=>
   rw[hv] at cv
   cases hd:asc d 1 1000000000 with
   |false=>
    rw[hd] at cd;simp(disch:=omega) ;refine acall_is (cv _ _) ?_;simp(disch:=omega) ;refine acall_is (cd _ _) ?_;simp(disch:=omega) ;refine kbad _ _ (by rw[ek,hd];simp) ?_;simp
   |true=>
   rw[hd] at cd
   by_cases hw:wi=[]
   rotate_left
   ·have hwp:0<wi.length:=List.length_pos_iff.2 hw;have bw:decide ((0:Int)<(wi.length:Int))=true:=decide_eq_true (by omega);simp(disch:=omega) ;refine acall_is (cv _ _) ?_;simp(disch:=omega) ;refine acall_is (cd _ _) ?_;simp(disch:=omega) ;refine acall_is (cw _ _) ?_;simp(disch:=omega)[bw,hwp];refine kbad _ _ (by rw[ek,decide_eq_false hw];simp) ?_;simp
   have hw2:=hw;subst hw2
   by_cases hh:2*d.length≤s.docs.length
   rotate_left
   ·have bh:decide ((s.docs.length:Int)<2*(d.length:Int))=true:=decide_eq_true (by omega);have bh2:s.docs.length<2*d.length:=by omega
    simp(disch:=omega) ;refine acall_is (cv _ _) ?_;simp(disch:=omega) ;refine acall_is (cd _ _) ?_;simp(disch:=omega) ;refine acall_is (cw _ _) ?_;simp(disch:=omega)[bh,bh2];refine kbad _ _ (by rw[ek,decide_eq_false hh];simp) ?_;simp
   have bh:decide ((s.docs.length:Int)<2*(d.length:Int))=false:=decide_eq_false (by omega);have bh2:¬s.docs.length<2*d.length:=by omega
   by_cases h0:s.docs=[]
   ·have b0:((s.docs.length:Int)==0)=true:=by rw[h0];rfl
    simp(disch:=omega) ;refine acall_is (cv _ _) ?_;simp(disch:=omega) ;refine acall_is (cd _ _) ?_;simp(disch:=omega) ;have hd0:d=[]:=List.eq_nil_of_length_eq_zero (by rw[h0] at hh;simp only[List.length_nil] at hh;omega);refine acall_is (cw _ _) ?_;simp(disch:=omega)[b0,h0,hd0];refine kbad _ _ (by rw[ek,decide_eq_false (fun x=>x h0)];simp) ?_;simp
   ·have hpos:=List.length_pos_iff.2 h0;have b0:((s.docs.length:Int)==0)=false:=by simp only[beq_eq_false_iff_ne,ne_eq];omega
    simp(disch:=omega) ;refine acall_is (cv _ _) ?_;simp(disch:=omega) ;refine acall_is (cd _ _) ?_;simp(disch:=omega) ;refine acall_is (cw _ _) ?_;simp(disch:=omega)[bh,bh2,b0,h0];refine kgood _ hv h0 hd rfl hh ?_;simp
  ·have:i=S.length:=by omega
   subst this;have cD:=fun H T=>docsR40_ok S D hSD.symm hz hall hlv H T;have hai:=hall _ (Nat.le_refl _);have eA:validR S D=(decide (cntV S D S.length=(allV S D S.length).length)&&decide (cntV S D S.length≤2000)):=by rw[eS,all_good g2];rfl
   generalize allV S D S.length=al at *;generalize cntV S D S.length=c at *;have hc4:c≤400000:=by omega
   refine aw_reg fun K hK=>?_;simp(disch:=omega)[hk];apply hK;clear hK K;apply aw_iff rfl;apply aw_exit;simp(disch:=omega) ;apply hK1;clear hK1
   by_cases hc:c=al.length
   ·have b9:((c:Int)==(al.length:Int))=true:=by simp only[beq_iff_eq];omega
    have c2:c≤2000:=by omega
    have b8:decide ((c:Int)≤2000)=true:=decide_eq_true (by omega);refine aw_reg fun K hK=>?_;simp(disch:=omega) ;refine acall_is (cD _ _) ?_;simp(disch:=omega)[b9,hc,b8,c2];apply hK;clear hK K;apply aw_ret;simp(disch:=omega) ;rw[eA,decide_eq_true hc,decide_eq_true c2];simp;omega
   ·have b9:((c:Int)==(al.length:Int))=false:=by simp only[beq_eq_false_iff_ne,ne_eq];omega
    refine aw_reg fun K hK=>?_;simp(disch:=omega) ;refine acall_is (cD _ _) ?_;simp(disch:=omega)[b9,hc];apply hK;clear hK K;apply aw_ret;simp(disch:=omega) ;rw[eA,decide_eq_false hc];rfl
end Go.Proofs.YtoejlmpbebjemaaGreat
