/- The reference's order of terms and items, lists without a common position (layer 39). The reference's Valid (layer 39): the columns. The reference's Valid (layer 39): the terms. The reference's Valid (layer 39): it is the program's.
  Conditions: lengths below 1000 or 1000, as each theorem says. -/
import Derived.Test.YtoejlmpbebjemaaGreatGV
import Derived.Test.YtoejlmpbebjemaaGreatPZ
set_option linter.all false
set_option maxRecDepth 100000
set_option maxHeartbeats 16000000
namespace Go.Proofs.YtoejlmpbebjemaaGreat
open Go Go.Am Sug Seg Post
attribute [-simp] List.getD_eq_getElem?_getD in
theorem termLess_ok (x y:Ky)(u v:AV)(H:List Blk)(T:Toks)(hu:Below H.length T.length u)(hv:Below H.length T.length v):ACall Tryz.prog 136 [.agg [.int .i64 x.1,.str x.2,u],.agg [.int .i64 y.1,.str y.2,v]] H T (Is (.bool (kylt x y)) H T):=by
 refine ACall.drop' ?_ (by simp);generalize hq:kylt x y=q;unfold kylt at hq;have hu2:=hu.more (n':=H.length+1) (t':=T.length) (by omega) (Nat.le_refl _);obtain⟨x1,x2⟩:=x;obtain⟨y1,y2⟩:=y;simp only at hq;refine acall_enter 5 [] Tryz.ntmps136 Tryz.func136 rfl (fun _ _=>Tryz.call136 _ _) (by simp) (fun HO=>?_);apply aw_reg;intro K h;simp(disch:=omega);apply h;clear h K
 by_cases h1:x1<y1
 ·have b1:decide (x1<y1)=true:=decide_eq_true h1;rw[b1] at hq;refine aw_reg fun K hK=>?_;simp(disch:=omega)[b1,h1];apply hK;clear hK K;apply aw_ret;simp(disch:=omega) ;rw[←hq];rfl
 ·have b1:decide (x1<y1)=false:=decide_eq_false h1
  by_cases h2:x1=y1
  ·have b2:(x1==y1)=true:=by simpa using h2
   rw[b1,decide_eq_true h2,Bool.true_and,Bool.false_or] at hq;refine aw_reg fun K hK=>?_;simp(disch:=omega)[b1,h1,b2,h2];apply hK;clear hK K;apply aw_ret;simp(disch:=omega) ;exact hq
  ·have b2:(x1==y1)=false:=by simpa using h2
   rw[b1,decide_eq_false h2,Bool.false_and,Bool.false_or] at hq;refine aw_reg fun K hK=>?_;simp(disch:=omega)[b1,h1,b2,h2];apply hK;clear hK K;apply aw_ret;simp(disch:=omega) ;exact hq.symm
attribute [-simp] List.getD_eq_getElem?_getD in
theorem itemLess_ok (x y:Nm)(H:List Blk)(T:Toks):ACall Tryz.prog 139 [.agg [.int .i64 x.1,.int .i64 x.2],.agg [.int .i64 y.1,.int .i64 y.2]] H T (Is (.bool (nmlt x y)) H T):=by
 refine ACall.drop' ?_ (by simp);generalize hq:nmlt x y=q;unfold nmlt at hq;obtain⟨x1,x2⟩:=x;obtain⟨y1,y2⟩:=y;simp only at hq;refine acall_enter 5 [] Tryz.ntmps139 Tryz.func139 rfl (fun _ _=>Tryz.call139 _ _) (by simp) (fun HO=>?_);apply aw_reg;intro K h;simp(disch:=omega);apply h;clear h K
 by_cases h1:x1<y1
 ·have b1:decide (x1<y1)=true:=decide_eq_true h1;rw[b1] at hq;refine aw_reg fun K hK=>?_;simp(disch:=omega)[b1,h1];apply hK;clear hK K;apply aw_ret;simp(disch:=omega) ;rw[←hq];rfl
 ·have b1:decide (x1<y1)=false:=decide_eq_false h1
  by_cases h2:x1=y1
  ·have b2:(x1==y1)=true:=by simpa using h2
   rw[b1,decide_eq_true h2,Bool.true_and,Bool.false_or] at hq;refine aw_reg fun K hK=>?_;simp(disch:=omega)[b1,h1,b2,h2];apply hK;clear hK K;apply aw_ret;simp(disch:=omega) ;exact hq
  ·have b2:(x1==y1)=false:=by simpa using h2
   rw[b1,decide_eq_false h2,Bool.false_and,Bool.false_or] at hq;refine aw_reg fun K hK=>?_;simp(disch:=omega)[b1,h1,b2,h2];apply hK;clear hK K;apply aw_ret;simp(disch:=omega) ;exact hq.symm
def apartB (a b:List Ps):Bool:=(List.range a.length).all fun i=>(List.range (posOf b (a.getD i p0).1).length).all fun k=>!decide ((posOf b (a.getD i p0).1).getD k 0∈(a.getD i p0).2)
theorem posOf_le (l:List Ps)(hp:∀p∈l,p.2.length≤1000)(d:Int):(posOf l d).length≤1000:=by
 induction l with
 |nil=>simp[posOf]
 |cons p l ih=>
  by_cases e:p.1=d
  ·subst e;rw[posOf_cons_eq];exact hp p (by simp)
  ·rw[posOf_cons_ne e];exact ih fun q hq=>hp q (List.mem_cons_of_mem _ hq)
attribute [-simp] List.getD_eq_getElem?_getD in
theorem apart_ok (a b:List Ps)(ha:a.length≤1000)(hb:b.length≤1000)(hpa:∀p∈a,p.2.length≤1000)(hpb:∀p∈b,p.2.length≤1000)(H:List Blk)(T:Toks)(ta tb:Tag) :
  ACall Tryz.prog 138 [.sl a.length (psAV a) ta,.sl b.length (psAV b) tb] H T (Is (.bool (apartB a b)) H T):=by
 refine ACall.untag1 (ACall.untag2 ?_);have hm4:1000≤maxLen:=by decide
 have bad:∀i k,i<a.length→k<(posOf b (a.getD i p0).1).length→(posOf b (a.getD i p0).1).getD k 0∈(a.getD i p0).2→apartB a b=false:=fun i k hi hk h=>
  all_bad hi (all_bad hk (by rw[decide_eq_true h];rfl))
 have good:(∀i,i<a.length→∀k,k<(posOf b (a.getD i p0).1).length→(posOf b (a.getD i p0).1).getD k 0∉(a.getD i p0).2)→apartB a b=true:=fun h=>
  all_good fun i hi=>all_good fun k hk=>by rw[decide_eq_false (h i hi k hk)];rfl
 generalize apartB a b=q at *;refine acall_enter 8 [] Tryz.ntmps138 Tryz.func138 rfl (fun _ _=>Tryz.call138 _ _) (by simp) (fun HO=>?_);apply aw_reg;intro K h;simp(disch:=omega);apply h;clear h K;refine aw_then fun K1 hK1=>?_;apply aw_reg;intro K h;simp(disch:=omega);apply h;clear h K;apply aw_block;refine aw_loop (X:=Nat) (fun i=>⟨[(0,.sl a.length (psAV a) .none),(1,.sl b.length (psAV b) .none),(5,.int .i64 (i:Nat))],H,T⟩)
  (fun i=>i≤a.length∧∀j,j<i→∀k,k<(posOf b (a.getD j p0).1).length→(posOf b (a.getD j p0).1).getD k 0∉(a.getD j p0).2) (fun i=>a.length-i) 0 ?_ ?_ ?_
 ·exact⟨Nat.zero_le _,fun j hj=>absurd hj (Nat.not_lt_zero _)⟩
 ·refine weak_to [] [] ?_ ?_ ?_ ?_ HO ?_
  all_goals simp
 ·rintro i ⟨g1,g2⟩;refine aw_then fun K2 hK2=>?_;apply aw_reg;intro K h;simp(disch:=omega);apply h;clear h K;refine aw_if rfl (fun hk=>?_) (fun hk=>?_)
  ·simp  at hk;have hia:=psAV_at a i hk;have c:=atR_ok b (a.getD i p0).1 (by omega) H T .none;have hpl:=posOf_le b hpb (a.getD i p0).1;have hps:=hpa _ (getD_mem a i p0 hk);replace bad:=fun k=>bad i k hk;have hadd:(∀k,k<(posOf b (a.getD i p0).1).length→(posOf b (a.getD i p0).1).getD k 0∉(a.getD i p0).2)→∀j,j<i+1→∀k,k<(posOf b (a.getD j p0).1).length→(posOf b (a.getD j p0).1).getD k 0∉(a.getD j p0).2:=fun h j hj=>by
    rcases Nat.lt_or_ge j i with h1|h1
    ·exact g2 j h1
    ·have:j=i:=by omega
     subst this;exact h
   generalize posOf b (a.getD i p0).1=ps at *;apply aw_skip;simp(disch:=omega) ;apply hK2;clear hK2;refine aw_then fun K3 hK3=>?_;apply aw_block;refine aw_reg fun K hK=>?_;simp(disch:=omega)[hia,psAV_len];refine acall_is (c) ?_;simp(disch:=omega) ;apply hK;clear hK K;apply aw_reg;intro K h;simp(disch:=omega);apply h;clear h K;apply aw_block;refine aw_loop (X:=Nat) (fun k=>⟨[(0,.sl a.length (psAV a) .none),(1,.sl b.length (psAV b) .none),(5,.int .i64 (i:Nat)),(6,.sl ps.length (ints ps) .none),(7,.int .i64 (k:Nat))],H,T⟩)
    (fun k=>k≤ps.length∧∀m,m<k→ps.getD m 0∉(a.getD i p0).2) (fun k=>ps.length-k) 0 ?_ ?_ ?_
   ·exact⟨Nat.zero_le _,fun j hj=>absurd hj (Nat.not_lt_zero _)⟩
   ·refine weak_to [] [] ?_ ?_ ?_ ?_ HO ?_
    all_goals simp
   ·rintro k ⟨k1,k2⟩;refine aw_then fun K5 hK5=>?_;apply aw_reg;intro K h;simp(disch:=omega);apply h;clear h K;refine aw_if rfl (fun hk2=>?_) (fun hk2=>?_)
    ·simp  at hk2;have hgi:=getD_ints (xs:=ps) (k:=k) hk2;have ch:=has_ok (a.getD i p0).2 (ps.getD k 0) (by omega) H T .none;replace bad:=bad k hk2;have hadd2:ps.getD k 0∉(a.getD i p0).2→∀m,m<k+1→ps.getD m 0∉(a.getD i p0).2:=fun h m hm=>by
      rcases Nat.lt_or_ge m k with h1|h1
      ·exact k2 m h1
      ·have:m=k:=by omega
       subst this;exact h
     generalize ps.getD k 0=z at *;apply aw_skip;simp(disch:=omega) ;apply hK5;clear hK5;refine aw_then fun K6 hK6=>?_;apply aw_block
     by_cases hm:z∈(a.getD i p0).2
     ·rw[decide_eq_true hm] at ch;refine aw_draw [] [] [] drawMixed (by kernel_rfl) (by kernel_rfl) fun K hK=>?_;simp(disch:=omega)[hia,psAV_len,hgi];refine dcall_is (ch) rfl ?_;simp(disch:=omega) ;apply hK;clear hK K;apply aw_ift rfl;apply aw_reg;intro K h;simp(disch:=omega);apply h;clear h K;apply aw_ret;simp(disch:=omega) ;rw[bad hm];exact⟨rfl,rfl,rfl⟩
     ·rw[decide_eq_false hm] at ch;refine aw_draw [] [] [] drawMixed (by kernel_rfl) (by kernel_rfl) fun K hK=>?_;simp(disch:=omega)[hia,psAV_len,hgi];refine dcall_is (ch) rfl ?_;simp(disch:=omega) ;apply hK;clear hK K;apply aw_iff rfl;apply aw_skip;simp(disch:=omega) ;apply hK6;clear hK6;refine aw_reg0 fun K hK=>?_;simp(disch:=omega) ;apply hK;clear hK K;refine⟨k+1,⟨by show k+1≤_;omega,hadd2 hm⟩,by show ps.length-(k+1)<ps.length-k;omega,?_⟩;refine weak_to [] [] ?_ ?_ ?_ ?_ HO ?_
      all_goals simp
    ·simp  at hk2;apply aw_exit;simp(disch:=omega) ;apply hK3;clear hK3;refine aw_reg0 fun K hK=>?_;simp(disch:=omega) ;apply hK;clear hK K;refine⟨i+1,⟨by show i+1≤_;omega,hadd fun k h=>k2 k (by omega)⟩,by show a.length-(i+1)<a.length-i;omega,?_⟩;refine weak_to [] [] ?_ ?_ ?_ ?_ HO ?_
     all_goals simp
  ·simp  at hk;apply aw_exit;simp(disch:=omega) ;apply hK1;clear hK1;apply aw_reg;intro K h;simp(disch:=omega);apply h;clear h K;apply aw_ret;simp(disch:=omega) ;rw[good fun j hj=>g2 j (by omega)];exact⟨rfl,rfl,rfl⟩
attribute [-simp] List.getD_eq_getElem?_getD in
theorem rits_loop (docs:List Int)(tms:List Tm)(cols:List Cl)(f:Int)(x:List Nm)(i:Nat)(hdl:docs.length≤1000)(hxl:x.length≤1000)(H:List Blk)(T:Toks)
  (HO2:HOk (H++[.cells (sgC ⟨docs,tms,cols⟩),.cells (clC ⟨f,x⟩)]) T) (Q:Exit→St→Prop)
  (bad:∀k,k<x.length→okIt docs x k=false→∀(e:Env)(rH:List Blk)(rT:Toks),eget e 2=.bool false→Q .ret ⟨e,H++rH,T++rT⟩)
  (go:(∀k,k<x.length→okIt docs x k=true)→∀e:Env,envLe (H.length+2) T.length e [(1,.ptr H.length 0),(6,.int .i64 (i:Nat))]→Q .normal ⟨e,H++[.cells (sgC ⟨docs,tms,cols⟩),.cells (clC ⟨f,x⟩)],T⟩) :
  AW ⟨Tryz.prog,191,10,H.length,T.length,[]⟩ (subC [1,1,0,1,0,0,1,0,0,1,1] (Tryz.f75.body.getD .skip)) Q ⟨[(1,.ptr H.length 0),(6,.int .i64 (i:Nat)),(7,.ptr (H.length+1) 0)],H++[.cells (sgC ⟨docs,tms,cols⟩),.cells (clC ⟨f,x⟩)],T⟩:=by
 conv=>arg 2;whnf
 have hxl':x.length≤9223372036854775807:=by omega
 have hml:1000≤maxLen:=by decide
 apply aw_reg;intro K h;simp(disch:=omega);apply h;clear h K;apply aw_block;refine aw_loop (X:=Nat) (fun k=>⟨[(1,.ptr H.length 0),(6,.int .i64 (i:Nat)),(7,.ptr (H.length+1) 0),(8,.int .i64 (k:Nat))],H++[.cells (sgC ⟨docs,tms,cols⟩),.cells (clC ⟨f,x⟩)],T⟩)
  (fun k=>k≤x.length∧∀j,j<k→okIt docs x j=true) (fun k=>x.length-k) 0 ?_ ?_ ?_
 ·exact⟨Nat.zero_le _,fun j hj=>absurd hj (Nat.not_lt_zero _)⟩
 ·refine weak_to [] [] ?_ ?_ ?_ ?_ HO2 ?_
  all_goals simp
 ·rintro m ⟨m1,m2⟩;refine aw_then fun K5 hK5=>?_;apply aw_reg;intro K h;simp(disch:=omega);apply h;clear h K;refine aw_if rfl (fun hk2=>?_) (fun hk2=>?_)
  ·simp  at hk2;have hcn:=nmAV_cut x m hk2;have eok2:okIt docs x m=((decide ((x.getD m n0).2∈docs)&&decide (0≤(x.getD m n0).1∧(x.getD m n0).1≤1000000000000))&&(decide (m=0)||nmlt (x.getD (m-1) n0) (x.getD m n0))):=rfl;have cn:=fun H T=>itemLess_ok (x.getD (m-1) n0) (x.getD m n0) H T;generalize nmlt (x.getD (m-1) n0) (x.getD m n0)=cq at *;have hcp:=fun h=>nmAV_cut x (m-1) h;generalize x.getD (m-1) n0=y at *;generalize hnn:x.getD m n0=z at *;obtain⟨x1,x2⟩:=z;obtain⟨y1,y2⟩:=y;simp only at hcn hcp eok2;apply aw_skip;simp(disch:=omega) ;apply hK5;clear hK5;refine aw_then fun K6 hK6=>?_;apply aw_block;refine aw_reg fun K hK=>?_;simp(disch:=omega)[hcn,nmAV_len];apply hK;clear hK K;have HO3:HOk (H++[.cells (sgC ⟨docs,tms,cols⟩),.cells (clC ⟨f,x⟩),.cells [.int .i64 x1,.int .i64 x2]]) T:=by
    have:=HOk.snoc (vs:=[.int .i64 x1,.int .i64 x2]) HO2 (by simp);simpa using this
   have cb:=has_ok docs x2 (by omega) (H++[.cells (sgC ⟨docs,tms,cols⟩),.cells (clC ⟨f,x⟩),.cells [.int .i64 x1,.int .i64 x2]]) T .none;have c:=cn (H++[.cells (sgC ⟨docs,tms,cols⟩),.cells (clC ⟨f,x⟩),.cells [.int .i64 x1,.int .i64 x2]]) T;refine aw_draw [] [] [] drawMixed (by kernel_rfl) (by kernel_rfl) fun K hK=>?_;have key2:∀e b,b=okIt docs x m→envLe (H.length+3) T.length e [(1,.ptr H.length 0),(6,.int .i64 (i:Nat)),(7,.ptr (H.length+1) 0),(8,.int .i64 (m:Nat)),(181,.bool (!b))]→K ⟨e,H++[.cells (sgC ⟨docs,tms,cols⟩),.cells (clC ⟨f,x⟩),.cells [.int .i64 x1,.int .i64 x2]],T⟩:=by
    intro e b2 hb2 he2;refine hK _ (aw_weak ⟨[(1,.ptr H.length 0),(6,.int .i64 (i:Nat)),(7,.ptr (H.length+1) 0),(8,.int .i64 (m:Nat)),(181,.bool (!b2))],H++[.cells (sgC ⟨docs,tms,cols⟩),.cells (clC ⟨f,x⟩)],T⟩ (weak_to [.cells [.int .i64 x1,.int .i64 x2]] [] (by simp) (by simp) (by simp) (by simp) HO2 (by simpa using he2)) ?_)
    cases b2 with
    |false=>
     apply aw_ift rfl;apply aw_reg;intro K h;simp(disch:=omega);apply h;clear h K;apply aw_ret;rw[←List.append_nil T];exact bad m hk2 hb2.symm _ _ _ rfl
    |true=>
     apply aw_iff rfl;apply aw_skip;simp(disch:=omega) ;apply hK6;clear hK6;refine aw_reg0 fun K hK=>?_;simp(disch:=omega) ;apply hK;clear hK K;refine⟨m+1,⟨by show m+1≤_;omega,fun j hj=>?_⟩,by show x.length-(m+1)<x.length-m;omega,?_⟩
     ·rcases Nat.lt_or_ge j m with h|h
      ·exact m2 j h
      ·have:j=m:=by omega
       subst this;exact hb2.symm
     ·refine weak_to [] [] ?_ ?_ ?_ ?_ HO2 ?_
      all_goals simp
   clear hK
   by_cases v3:x1<0
   ·have w3:decide (x1<0)=true:=decide_eq_true v3;simp(disch:=omega)[w3,v3];refine key2 _ false (by rw[eok2,decide_eq_false (by omega:¬(0≤x1∧x1≤1000000000000))];simp) (by simp)
   have w3:decide (x1<0)=false:=decide_eq_false v3
   by_cases v4:1000000000000<x1
   ·have w4:decide (1000000000000<x1)=true:=decide_eq_true v4;simp(disch:=omega)[w3,v3,w4,v4];refine key2 _ false (by rw[eok2,decide_eq_false (by omega:¬(0≤x1∧x1≤1000000000000))];simp) (by simp)
   have w4:decide (1000000000000<x1)=false:=decide_eq_false v4;rw[decide_eq_true (by omega:0≤x1∧x1≤1000000000000),Bool.and_true] at eok2
   by_cases v0:x2∈docs
   rotate_left
   ·rw[decide_eq_false v0] at cb;simp(disch:=omega)[w3,v3,w4,v4];refine dcall_is (cb) rfl ?_;simp(disch:=omega) ;refine key2 _ false (by rw[eok2,decide_eq_false v0];rfl) (by simp)
   rw[decide_eq_true v0] at cb;rw[decide_eq_true v0,Bool.true_and] at eok2;rcases Nat.eq_zero_or_pos m with h5|h5
   ·subst h5;simp(disch:=omega)[w3,v3,w4,v4];refine dcall_is (cb) rfl ?_;simp(disch:=omega) ;refine key2 _ true (by rw[eok2];rfl) (by simp)
   ·have e6:((m:Int)-1)=((m-1:Nat):Int):=by omega
    have b5:decide ((0:Int)<(m:Int))=true:=decide_eq_true (by omega);have hcp':=hcp (by omega);rw[decide_eq_false (by omega:¬m=0),Bool.false_or] at eok2;simp(disch:=omega)[w3,v3,w4,v4];refine dcall_is (cb) rfl ?_;simp(disch:=omega)[b5,h5,e6,hcp',nmAV_len];refine dcall_is (c) rfl ?_;simp(disch:=omega) ;refine key2 _ cq eok2.symm (by simp)
  ·simp  at hk2;apply aw_exit;simp(disch:=omega) ;exact go (fun k h=>m2 k (by omega)) _ (by simp)
attribute [-simp] List.getD_eq_getElem?_getD in
theorem rcol_tail (s:Sg)(hs:SzS s)(ht:asc s.docs 1 1000000000=true→(∀i,i<s.tms.length→okTm s.tms i=true∧okL s.docs (s.tms.getD i t0).l=true)∧(pls s.tms).Nodup)
  (H:List Blk) (T:Toks) (HO:HOk (H++[.cells (sgC s)]) T) :
  AW ⟨Tryz.prog,191,10,H.length,T.length,[]⟩ (subC [1,1] (Tryz.f75.body.getD .skip)) (RetQ Tryz.prog Tryz.f75.results.toList fun r H' T'=>(∃rH,H'=H++rH)∧(∃rT,T'=T++rT)∧(r=.bool (validS s)∨untag r=.bool (validS s))) ⟨[(1,.ptr H.length 0)],H++[.cells (sgC s)],T⟩:=by
 conv=>arg 2;whnf
 have hd:=hs.d;have hdl:s.docs.length≤1000:=Nat.le_trans hs.d (by omega);have hcl:=hs.c;have hx:=hs.x;have bad:=fun i h=>validS_cm (s:=s) (i:=i) h;have badi:=fun i k h=>validS_i (s:=s) (i:=i) (k:=k) h;have bada:=fun h=>validS_docs (s:=s) h;have good:=fun h=>validS_good h (by omega) (ht h).1 (ht h).2;have cv:=fun H=>validDocsR_ok s.docs (Nat.le_trans hs.d (by decide)) H T .none;obtain⟨docs,tms,cols⟩:=s;simp only at hdl hcl hx bad badi good bada cv hd;generalize hq:validS ⟨docs,tms,cols⟩=q at *;have hcl':cols.length≤9223372036854775807:=by omega
 refine aw_then fun K1 hK1=>?_;apply aw_reg;intro K h;simp(disch:=omega);apply h;clear h K;apply aw_block;refine aw_loop (X:=Nat) (fun i=>⟨[(1,.ptr H.length 0),(6,.int .i64 (i:Nat))],H++[.cells (sgC ⟨docs,tms,cols⟩)],T⟩)
  (fun i=>i≤cols.length∧∀j,j<i→okCm cols j=true∧∀k,k<(cols.getD j c0).x.length→okIt docs (cols.getD j c0).x k=true) (fun i=>cols.length-i) 0 ?_ ?_ ?_
 ·exact⟨Nat.zero_le _,fun j hj=>absurd hj (Nat.not_lt_zero _)⟩
 ·refine weak_to [] [] ?_ ?_ ?_ ?_ HO ?_
  all_goals simp
 ·rintro i ⟨g1,g2⟩;refine aw_then fun K2 hK2=>?_;apply aw_reg;intro K h;simp(disch:=omega);apply h;clear h K;refine aw_if rfl (fun hk=>?_) (fun hk=>?_)
  ·simp  at hk;have hcut:=clAV_cut cols i hk;have hxl:=hx _ (getD_mem cols i c0 hk);have eok:okCm cols i=((decide (5≤(cols.getD i c0).f∧(cols.getD i c0).f≤7)&&decide ((cols.getD i c0).x≠[]))&&(decide (i=0)||decide ((cols.getD (i-1) c0).f<(cols.getD i c0).f))):=rfl;have hat:=fun h=>(clAV_at cols (i-1) h).1;generalize (cols.getD (i-1) c0).f=fp at *;replace badi:=fun k=>badi i k hk;have hadd:(∀k,k<(cols.getD i c0).x.length→okIt docs (cols.getD i c0).x k=true)→okCm cols i=true→∀j,j<i+1→okCm cols j=true∧∀k,k<(cols.getD j c0).x.length→okIt docs (cols.getD j c0).x k=true:=fun h1 h2 j hj=>by
    rcases Nat.lt_or_ge j i with h|h
    ·exact g2 j h
    ·have:j=i:=by omega
     subst this;exact⟨h2,h1⟩
   generalize cols.getD i c0=c at *;obtain⟨f,x⟩:=c;simp only at hcut hxl eok badi hadd;have hxl':x.length≤9223372036854775807:=by omega
   apply aw_skip;simp(disch:=omega) ;apply hK2;clear hK2;refine aw_then fun K3 hK3=>?_;apply aw_block;refine aw_reg fun K hK=>?_;simp(disch:=omega)[hcut,clAV_len];apply hK;clear hK K;have HO2:HOk (H++[.cells (sgC ⟨docs,tms,cols⟩),.cells (clC ⟨f,x⟩)]) T:=by
    have:=HOk.snoc (vs:=clC ⟨f,x⟩) HO (by simp);simpa using this
   refine aw_then fun K4 hK4=>?_;refine aw_draw [] [] [] drawMixed (by kernel_rfl) (by kernel_rfl) fun K hK=>?_;have key:∀e b,b=okCm cols i→envLe (H.length+2) T.length e [(1,.ptr H.length 0),(6,.int .i64 (i:Nat)),(7,.ptr (H.length+1) 0),(138,.bool (!b))]→K ⟨e,H++[.cells (sgC ⟨docs,tms,cols⟩),.cells (clC ⟨f,x⟩)],T⟩:=by
    intro e b hb he;refine hK _ (aw_weak ⟨[(1,.ptr H.length 0),(6,.int .i64 (i:Nat)),(7,.ptr (H.length+1) 0),(138,.bool (!b))],H++[.cells (sgC ⟨docs,tms,cols⟩),.cells (clC ⟨f,x⟩)],T⟩ (weak_to [] [] (by simp) (by simp) (by simp) (by simp) HO2 (by simpa using he)) ?_)
    cases b with
    |false=>
     apply aw_ift rfl;apply aw_reg;intro K h;simp(disch:=omega);apply h;clear h K;apply aw_ret;simp(disch:=omega) ;rw[bad i hk hb.symm]
    |true=>
    apply aw_iff rfl;apply aw_skip;simp(disch:=omega) ;apply hK4;clear hK4;refine aw_weak ⟨[(1,.ptr H.length 0),(6,.int .i64 (i:Nat)),(7,.ptr (H.length+1) 0)],H++[.cells (sgC ⟨docs,tms,cols⟩),.cells (clC ⟨f,x⟩)],T⟩ (weak_to [] [] (by simp) (by simp) (by simp) (by simp) HO2 (by simp)) ?_;refine rits_loop docs tms cols f x i hdl hxl H T HO2 _ (fun k hk3 hb3 e rH rT he=>?_) fun hg e he=>?_
    ·show RetQ Tryz.prog Tryz.f75.results.toList (fun r H' T'=>(∃rH,H'=H++rH)∧(∃rT,T'=T++rT)∧(r=.bool q∨untag r=.bool q)) .ret _;simp[he,badi k hk3 hb3]
    ·refine hK3 _ (aw_weak ⟨[(1,.ptr H.length 0),(6,.int .i64 (i:Nat))],H++[.cells (sgC ⟨docs,tms,cols⟩)],T⟩ (weak_to [.cells (clC ⟨f,x⟩)] [] (by simp) (by simp) (by simp) (by simp) HO (by simpa using he)) ?_);refine aw_reg0 fun K hK=>?_;simp(disch:=omega) ;apply hK;clear hK K;refine⟨i+1,⟨by show i+1≤_;omega,hadd hg hb.symm⟩,by show cols.length-(i+1)<cols.length-i;omega,?_⟩;refine weak_to [] [] ?_ ?_ ?_ ?_ HO ?_
     all_goals simp
   clear hK
   by_cases v1:f<5
   ·have w1:decide (f<5)=true:=decide_eq_true v1;simp(disch:=omega)[w1,v1];refine key _ false (by rw[eok,decide_eq_false (by omega:¬(5≤f∧f≤7))];rfl) (by simp)
   have w1:decide (f<5)=false:=decide_eq_false v1
   by_cases v2:7<f
   ·have w2:decide (7<f)=true:=decide_eq_true v2;simp(disch:=omega)[w1,v1,w2,v2];refine key _ false (by rw[eok,decide_eq_false (by omega:¬(5≤f∧f≤7))];rfl) (by simp)
   have w2:decide (7<f)=false:=decide_eq_false v2;rw[decide_eq_true (by omega:5≤f∧f≤7),Bool.true_and] at eok
   by_cases v3:x.length=0
   ·have e3:x=[]:=List.length_eq_zero_iff.1 v3;subst e3;have ef:okCm cols i=false:=by rw[eok];rfl
    rcases Nat.eq_zero_or_pos i with h5|h5
    ·subst h5;simp(disch:=omega)[w1,v1,w2,v2];refine key _ false ef.symm (by simp)
    ·have e6:((i:Int)-1)=((i-1:Nat):Int):=by omega
     have b5:decide ((0:Int)<(i:Int))=true:=decide_eq_true (by omega);have hat':=hat (by omega)
     by_cases v4:f≤fp
     ·have w4:decide (f≤fp)=true:=decide_eq_true v4;simp(disch:=omega)[w1,v1,w2,v2,b5,h5,e6,hat',clAV_len,w4,v4];refine key _ false ef.symm (by simp)
     ·have w4:decide (f≤fp)=false:=decide_eq_false v4;simp(disch:=omega)[w1,v1,w2,v2,b5,h5,e6,hat',clAV_len,w4,v4];refine key _ false ef.symm (by simp)
   have w3:((x.length:Int)==0)=false:=beq_eq_false_iff_ne.2 (by omega);have n3:x≠[]:=fun e=>v3 (by rw[e];rfl);rw[decide_eq_true n3,Bool.true_and] at eok;rcases Nat.eq_zero_or_pos i with h5|h5
   ·subst h5;simp(disch:=omega)[w1,v1,w2,v2,w3,n3];refine key _ true (by rw[eok];rfl) (by simp)
   ·have e6:((i:Int)-1)=((i-1:Nat):Int):=by omega
    have b5:decide ((0:Int)<(i:Int))=true:=decide_eq_true (by omega);have hat':=hat (by omega);rw[decide_eq_false (by omega:¬i=0),Bool.false_or] at eok
    by_cases v4:f≤fp
    ·have w4:decide (f≤fp)=true:=decide_eq_true v4;simp(disch:=omega)[w1,v1,w2,v2,w3,n3,b5,h5,e6,hat',clAV_len,w4,v4];refine key _ false (by rw[eok,decide_eq_false (by omega:¬fp<f)]) (by simp)
    ·have w4:decide (f≤fp)=false:=decide_eq_false v4;simp(disch:=omega)[w1,v1,w2,v2,w3,n3,b5,h5,e6,hat',clAV_len,w4,v4];refine key _ true (by rw[eok,decide_eq_true (by omega:fp<f)]) (by simp)
  ·simp  at hk;apply aw_exit;simp(disch:=omega) ;apply hK1;clear hK1;have b2:decide ((docs.length:Int)≤2000)=true:=decide_eq_true (by omega);have n2:(docs.length:Int)≤2000:=by omega
   cases hdv:asc docs 1 1000000000 with
   |true=>
    rw[hdv] at cv;refine aw_reg fun K hK=>?_;simp(disch:=omega)[b2,n2];refine acall_is (cv _) ?_;simp(disch:=omega) ;apply hK;clear hK K;apply aw_ret;simp(disch:=omega) ;rw[good hdv (fun j hj=>g2 j (by omega))]
   |false=>
    rw[hdv] at cv;refine aw_reg fun K hK=>?_;simp(disch:=omega)[b2,n2];refine acall_is (cv _) ?_;simp(disch:=omega) ;apply hK;clear hK K;apply aw_ret;simp(disch:=omega) ;rw[bada hdv]
theorem mem_plsT {t:Tm}{q:Pl}:q∈plsT t↔q.1=t.f∧∃p∈t.l,p.1=q.2.1∧q.2.2∈p.2:=by
 unfold plsT plsP;rw[List.mem_flatMap]
 constructor
 ·rintro⟨p,hp,hq⟩;obtain⟨a,ha,rfl⟩:=List.mem_map.1 hq;exact⟨rfl,p,hp,rfl,ha⟩
 ·rintro⟨h1,p,hp,h2,h3⟩;exact⟨p,hp,List.mem_map.2 ⟨q.2.2,h3,by obtain⟨a,b,c⟩:=q;simp only at h1 h2 ⊢;rw[h1,h2]⟩⟩
theorem nodup_flat {α β:Type}{f:α→List β}:∀{l:List α},(∀x∈l,(f x).Nodup)→(l.Pairwise fun x y=>∀z∈f x,z∉f y)→(l.flatMap f).Nodup
 |[],_,_=>by simp
 |x::l,h1,h2=>by
  rw[List.flatMap_cons,List.nodup_append];rw[List.pairwise_cons] at h2;refine⟨h1 x (by simp),nodup_flat (fun y hy=>h1 y (List.mem_cons_of_mem _ hy)) h2.2,fun a ha b hb=>?_⟩;obtain⟨y,hy,hby⟩:=List.mem_flatMap.1 hb;exact fun e=>h2.1 y hy a ha (e▸hby)
theorem asc_nodup {l:List Int}(h:Asc l):l.Nodup:=h.imp fun {a b} hab=>by omega
theorem nodup_plsT {t:Tm}(h:validL t.l=true):(plsT t).Nodup:=by
 obtain⟨h1,_,h3⟩:=validL_iff h;refine nodup_flat (fun p hp=>?_) ?_
 ·unfold plsP;have:=asc_nodup (h3 p hp).2.1;exact List.Pairwise.map _ (fun a b hab e=>hab (by simpa using e)) this
 ·have:t.l.Pairwise fun x y=>x.1<y.1:=List.pairwise_map.1 h1;refine this.imp fun {a b} hab z hz hz2=>?_;unfold plsP at hz hz2;obtain⟨u,_,rfl⟩:=List.mem_map.1 hz;obtain⟨v,_,e⟩:=List.mem_map.1 hz2;simp at e;omega
theorem apartB_iff {a b:List Ps}(hb:validL b=true):apartB a b=true↔∀p∈a,∀q∈b,p.1=q.1→∀z∈q.2,z∉p.2:=by
 obtain⟨h1,_,_⟩:=validL_iff hb;unfold apartB
 constructor
 ·intro h p hp q hq e z hz hz2;obtain⟨i,hi,rfl⟩:=mem_getD p0 hp;have hpo:posOf b (a.getD i p0).1=q.2:=by rw[e];exact posOf_mem h1 hq
  obtain⟨k,hk,rfl⟩:=mem_getD 0 hz;have:=all_at (all_at h hi) (j:=k) (by rw[hpo];exact hk);rw[hpo] at this;simp only[Bool.not_eq_true',decide_eq_false_iff_not] at this;exact this hz2
 ·intro h;refine all_good fun i hi=>all_good fun k hk=>?_;have hz:=getD_mem (posOf b (a.getD i p0).1) k 0 hk;obtain⟨q,hq,e1,e2⟩:=pos_in hz;rw[Bool.not_eq_true',decide_eq_false_iff_not];exact h _ (getD_mem a i p0 hi) q hq e1.symm _ (by rw[←e2];exact hz)
theorem pls_nodup {l:List Tm}(h1:∀i,i<l.length→validL (l.getD i t0).l=true)(h2:∀i k,i<l.length→k<i→(l.getD k t0).f=(l.getD i t0).f→apartB (l.getD k t0).l (l.getD i t0).l=true):(pls l).Nodup:=by
 refine nodup_flat (fun t ht=>?_) ?_
 ·obtain⟨i,hi,rfl⟩:=mem_getD t0 ht;exact nodup_plsT (h1 i hi)
 ·rw[List.pairwise_iff_getElem];intro k i hk hi hki z hz hz2;have e1:l[k]=l.getD k t0:=by rw[List.getD_eq_getElem?_getD,List.getElem?_eq_getElem hk];rfl
  have e2:l[i]=l.getD i t0:=by rw[List.getD_eq_getElem?_getD,List.getElem?_eq_getElem hi];rfl
  rw[e1] at hz;rw[e2] at hz2;obtain⟨f1,p,hp,p1,p2⟩:=mem_plsT.1 hz;obtain⟨f2,q,hq,q1,q2⟩:=mem_plsT.1 hz2;exact(apartB_iff (h1 i hi)).1 (h2 i k hi hki (f1.symm.trans f2)) p hp q hq (p1.trans q1.symm) _ q2 p2
theorem pls_dup {l:List Tm}{i k:Nat}(hi:i<l.length)(hk:k<i)(hv:validL (l.getD i t0).l=true)(hf:(l.getD k t0).f=(l.getD i t0).f)(h:apartB (l.getD k t0).l (l.getD i t0).l=false):¬(pls l).Nodup:=by
 intro hn;have:apartB (l.getD k t0).l (l.getD i t0).l=true:=by
  rw[apartB_iff hv];intro p hp q hq e z hz hz2;have hs:l=l.take i++(l.getD i t0::l.drop (i+1)):=by rw[←getD_cons_drop l i t0 hi,List.take_append_drop]
  rw[hs] at hn;unfold pls at hn;rw[List.flatMap_append,List.nodup_append] at hn;refine hn.2.2 ((l.getD i t0).f,p.1,z) ?_ ((l.getD i t0).f,p.1,z) ?_ rfl
  ·refine List.mem_flatMap.2 ⟨l.getD k t0,?_,mem_plsT.2 ⟨hf.symm,p,hp,rfl,hz2⟩⟩;have:=getD_mem (l.take i) k t0 (by rw[List.length_take];omega);have e2:(l.take i).getD k t0=l.getD k t0:=by simp[List.getD_eq_getElem?_getD,List.getElem?_take,hk]
   rwa [e2] at this
  ·exact List.mem_flatMap.2 ⟨l.getD i t0,by simp,mem_plsT.2 ⟨rfl,q,hq,e.symm,hz⟩⟩
 rw[h] at this
 cases this
attribute [-simp] List.getD_eq_getElem?_getD in
theorem rpair_loop (s:Sg)(hs:SzS s)(i:Nat)(hi:i<s.tms.length)(H:List Blk)(T:Toks)
  (HO2:HOk (H++[.cells (sgC s),.cells (tmC (s.tms.getD i t0))]) T) (Q:Exit→St→Prop)
  (bad:∀k,k<i→(s.tms.getD k t0).f=(s.tms.getD i t0).f→apartB (s.tms.getD k t0).l (s.tms.getD i t0).l=false→∀(e:Env)(rH:List Blk)(rT:Toks),eget e 2=.bool false→Q .ret ⟨e,H++rH,T++rT⟩)
  (go:(∀k,k<i→(s.tms.getD k t0).f=(s.tms.getD i t0).f→apartB (s.tms.getD k t0).l (s.tms.getD i t0).l=true)→∀e:Env,envLe (H.length+2) T.length e [(1,.ptr H.length 0),(3,.int .i64 (i:Nat))]→Q .normal ⟨e,H++[.cells (sgC s),.cells (tmC (s.tms.getD i t0))],T⟩) :
  AW ⟨Tryz.prog,191,10,H.length,T.length,[]⟩ (subC [1,0,1,0,0,1,0,0,1,1,1] (Tryz.f75.body.getD .skip)) Q ⟨[(1,.ptr H.length 0),(3,.int .i64 (i:Nat)),(4,.ptr (H.length+1) 0)],H++[.cells (sgC s),.cells (tmC (s.tms.getD i t0))],T⟩:=by
 conv=>arg 2;whnf
 have htl:=hs.t;have hw:=hs.w;obtain⟨q1,q2,q3⟩:=hw _ (getD_mem s.tms i t0 hi);apply aw_reg;intro K h;simp(disch:=omega);apply h;clear h K;apply aw_block;refine aw_loop (X:=Nat) (fun k=>⟨[(1,.ptr H.length 0),(3,.int .i64 (i:Nat)),(4,.ptr (H.length+1) 0),(5,.int .i64 (k:Nat))],H++[.cells (sgC s),.cells (tmC (s.tms.getD i t0))],T⟩)
  (fun k=>k≤i∧∀m,m<k→(s.tms.getD m t0).f=(s.tms.getD i t0).f→apartB (s.tms.getD m t0).l (s.tms.getD i t0).l=true) (fun k=>i-k) 0 ?_ ?_ ?_
 ·exact⟨Nat.zero_le _,fun j hj=>absurd hj (Nat.not_lt_zero _)⟩
 ·refine weak_to [] [] ?_ ?_ ?_ ?_ HO2 ?_
  all_goals simp 
 ·rintro k ⟨k1,k2⟩;refine aw_then fun K5 hK5=>?_;apply aw_reg;intro K h;simp(disch:=omega);apply h;clear h K;refine aw_if rfl (fun hk2=>?_) (fun hk2=>?_)
  ·simp  at hk2;have hkl:k<s.tms.length:=by omega
   obtain⟨a1,_,a3⟩:=tmAV_at s.tms k hkl;obtain⟨w1,w2,w3⟩:=hw _ (getD_mem s.tms k t0 hkl);have ca:=apart_ok (s.tms.getD k t0).l (s.tms.getD i t0).l w2 q2 w3 q3 (H++[.cells (sgC s),.cells (tmC (s.tms.getD i t0))]) T .none .none;replace bad:=bad k hk2;have hadd:((s.tms.getD k t0).f=(s.tms.getD i t0).f→apartB (s.tms.getD k t0).l (s.tms.getD i t0).l=true)→∀m,m<k+1→(s.tms.getD m t0).f=(s.tms.getD i t0).f→apartB (s.tms.getD m t0).l (s.tms.getD i t0).l=true:=fun h m hm=>by
    rcases Nat.lt_or_ge m k with h1|h1
    ·exact k2 m h1
    ·have:m=k:=by omega
     subst this;exact h
   generalize apartB (s.tms.getD k t0).l (s.tms.getD i t0).l=ab at *;generalize s.tms.getD k t0=u at *;obtain⟨uf,uw,ul⟩:=u;simp only at a1 a3 ca bad hadd;apply aw_skip;simp(disch:=omega) ;apply hK5;clear hK5;refine aw_then fun K6 hK6=>?_;apply aw_block
   by_cases hf:uf=(s.tms.getD i t0).f
   ·have b1:(uf==(s.tms.getD i t0).f)=true:=by simpa using hf
    cases ab with
    |false=>
     refine aw_draw [] [] [] drawMixed (by kernel_rfl) (by kernel_rfl) fun K hK=>?_;simp(disch:=omega)[a1,a3,tmAV_len,hkl,b1,hf];refine dcall_is (ca) rfl ?_;simp(disch:=omega) ;apply hK;clear hK K;apply aw_ift rfl;apply aw_reg;intro K h;simp(disch:=omega);apply h;clear h K;apply aw_ret;rw[←List.append_nil T];exact bad hf rfl _ _ _ rfl
    |true=>
     refine aw_draw [] [] [] drawMixed (by kernel_rfl) (by kernel_rfl) fun K hK=>?_;simp(disch:=omega)[a1,a3,tmAV_len,hkl,b1,hf];refine dcall_is (ca) rfl ?_;simp(disch:=omega) ;apply hK;clear hK K;apply aw_iff rfl;apply aw_skip;simp(disch:=omega) ;apply hK6;clear hK6;refine aw_reg0 fun K hK=>?_;simp(disch:=omega) ;apply hK;clear hK K;refine⟨k+1,⟨by show k+1≤_;omega,hadd fun _=>rfl⟩,by show i-(k+1)<i-k;omega,?_⟩;refine weak_to [] [] ?_ ?_ ?_ ?_ HO2 ?_
     all_goals simp 
   ·have b1:(uf==(s.tms.getD i t0).f)=false:=by simpa using hf
    refine aw_draw [] [] [] drawMixed (by kernel_rfl) (by kernel_rfl) fun K hK=>?_;simp(disch:=omega)[a1,a3,tmAV_len,hkl,b1,hf];apply hK;clear hK K;apply aw_iff rfl;apply aw_skip;simp(disch:=omega) ;apply hK6;clear hK6;refine aw_reg0 fun K hK=>?_;simp(disch:=omega) ;apply hK;clear hK K;refine⟨k+1,⟨by show k+1≤_;omega,hadd fun h=>absurd h hf⟩,by show i-(k+1)<i-k;omega,?_⟩;refine weak_to [] [] ?_ ?_ ?_ ?_ HO2 ?_
    all_goals simp 
  ·simp  at hk2;apply aw_exit;simp(disch:=omega) ;exact go (fun m h=>k2 m (by omega)) _ (by simp )
attribute [-simp] List.getD_eq_getElem?_getD in
theorem validSR_ok (s:Sg)(hs:SzS s)(H:List Blk)(T:Toks):ACall Tryz.prog 75 [sgAV s] H T (Is (.bool (validS s)) H T):=by
 refine ACall.drop' ?_ (by simp);have hd:=hs.d;have htl:=hs.t;have htl':s.tms.length≤9223372036854775807:=by omega
 have hm4:1000≤maxLen:=by decide
 refine acall_enter 10 [] Tryz.ntmps75 Tryz.func75 rfl (fun _ _=>Tryz.call75 _ _) (by simp) (fun HO=>?_);apply aw_reg;intro K h;simp(disch:=omega);apply h;clear h K;have HOa:HOk (H++[.cells (sgC s)]) T:=HO.snoc (by simp);refine aw_then fun K1 hK1=>?_;apply aw_reg;intro K h;simp(disch:=omega);apply h;clear h K;apply aw_block;refine aw_loop (X:=Nat) (fun i=>⟨[(1,.ptr H.length 0),(3,.int .i64 (i:Nat))],H++[.cells (sgC s)],T⟩)
  (fun i=>i≤s.tms.length∧∀j,j<i→okTm s.tms j=true∧((s.tms.getD j t0).l≠[]∧validL (s.tms.getD j t0).l=true)∧(asc s.docs 1 1000000000=true→okL s.docs (s.tms.getD j t0).l=true)∧∀k,k<j→(s.tms.getD k t0).f=(s.tms.getD j t0).f→apartB (s.tms.getD k t0).l (s.tms.getD j t0).l=true) (fun i=>s.tms.length-i) 0 ?_ ?_ ?_
 ·exact⟨Nat.zero_le _,fun j hj=>absurd hj (Nat.not_lt_zero _)⟩
 ·refine weak_to [] [] ?_ ?_ ?_ ?_ HOa ?_
  all_goals simp
 ·rintro i ⟨g1,g2⟩;refine aw_then fun K2 hK2=>?_;apply aw_reg;intro K h;simp(disch:=omega);apply h;clear h K;refine aw_if rfl (fun hk=>?_) (fun hk=>?_)
  ·simp  at hk;have hcut:=tmAV_cut s.tms i hk;obtain⟨q1,q2,q3⟩:=hs.w _ (getD_mem s.tms i t0 hk);apply aw_skip;simp(disch:=omega) ;apply hK2;clear hK2;refine aw_then fun K3 hK3=>?_;apply aw_block;refine aw_reg fun K hK=>?_;simp(disch:=omega)[hcut,tmAV_len];apply hK;clear hK K;have HOc:HOk (H++[.cells (sgC s),.cells (tmC (s.tms.getD i t0))]) T:=by
    have:=HOk.snoc (vs:=tmC (s.tms.getD i t0)) HOa (by simp);simpa using this
   have bad1:okTm s.tms i=false→validS s=false:=fun h=>validS_tm hk h;have bad2:okL s.docs (s.tms.getD i t0).l=false→validS s=false:=fun h=>validS_l hk h;have bad3:=fun h=>validS_docs (s:=s) h;have bad4:=fun k hki hv hf h=>validS_nd (s:=s) (pls_dup (k:=k) hk hki hv hf h);have eok:okTm s.tms i=((decide (1≤(s.tms.getD i t0).f∧(s.tms.getD i t0).f≤4)&&okW (s.tms.getD i t0).w)&&(decide (i=0)||kylt (s.tms.getD (i-1) t0).k (s.tms.getD i t0).k)):=rfl;have hcp:=fun h=>tmAV_cut s.tms (i-1) h;have eokL:okL s.docs (s.tms.getD i t0).l=((decide ((s.tms.getD i t0).l≠[])&&validL (s.tms.getD i t0).l)&&decide (∀p∈(s.tms.getD i t0).l,p.1∈s.docs)):=rfl;generalize s.tms.getD (i-1) t0=tp at *;obtain⟨t,ht⟩:∃t,t=s.tms.getD i t0:=⟨_,rfl⟩
   have hpair:=rpair_loop s hs i hk H T;have hadd:okTm s.tms i=true→t.l≠[]→validL t.l=true→(asc s.docs 1 1000000000=true→okL s.docs t.l=true)→(∀k,k<i→(s.tms.getD k t0).f=t.f→apartB (s.tms.getD k t0).l t.l=true)→∀j,j<i+1→okTm s.tms j=true∧((s.tms.getD j t0).l≠[]∧validL (s.tms.getD j t0).l=true)∧(asc s.docs 1 1000000000=true→okL s.docs (s.tms.getD j t0).l=true)∧∀k,k<j→(s.tms.getD k t0).f=(s.tms.getD j t0).f→apartB (s.tms.getD k t0).l (s.tms.getD j t0).l=true:=fun h1 h2 h3 h4 h5 j hj=>by
    rcases Nat.lt_or_ge j i with h|h
    ·exact g2 j h
    ·have:j=i:=by omega
     subst this;rw[←ht];exact⟨h1,⟨h2,h3⟩,h4,h5⟩
   rw[←ht] at hcut q1 q2 q3 HOc bad2 bad4 eok eokL hpair;simp only[←ht];clear ht;have cw:=fun H=>wordR_ok t.w q1 H T;have ck:=fun H hu hv=>termLess_ok tp.k t.k (.sl tp.l.length (psAV tp.l) .none) (.sl t.l.length (psAV t.l) .none) H T hu hv;have cv:=fun H=>validR_ok t.l (Nat.le_trans q2 (by omega)) (fun p hp=>Nat.le_trans (q3 p hp) hm4) H T .none;have cd:=fun H=>docsRR_ok t.l (Nat.le_trans q2 (by omega)) (fun p hp=>Nat.le_trans (q3 p hp) hm4) H T .none;generalize kylt tp.k t.k=bq at *;obtain⟨f,w,l⟩:=t;simp only at q1 q2 q3 hcut cw ck cv cd eok eokL bad2 hadd bad4;refine aw_then fun K4 hK4=>?_;refine aw_draw [] [] [] drawMixed (by kernel_rfl) (by kernel_rfl) fun K hK=>?_;have key:∀e b,(b=true→okTm s.tms i=true∧l≠[]∧validL l=true)→(b=false→validS s=false)→envLe (H.length+2) T.length e [(1,.ptr H.length 0),(3,.int .i64 (i:Nat)),(4,.ptr (H.length+1) 0),(62,.bool (!b))]→K ⟨e,H++[.cells (sgC s),.cells (tmC ⟨f,w,l⟩)],T⟩:=by
    intro e b hb hb' he;refine hK _ (aw_weak ⟨[(1,.ptr H.length 0),(3,.int .i64 (i:Nat)),(4,.ptr (H.length+1) 0),(62,.bool (!b))],H++[.cells (sgC s),.cells (tmC ⟨f,w,l⟩)],T⟩ (weak_to [] [] (by simp) (by simp) (by simp) (by simp) HOc (by simpa using he)) ?_)
    cases b with
    |false=>
     apply aw_ift rfl;apply aw_reg;intro K h;simp(disch:=omega);apply h;clear h K;apply aw_ret;simp(disch:=omega) ;rw[hb' rfl]
    |true=>
    obtain⟨b1,b2,b3⟩:=hb rfl;have hdl:docsL l=docs l:=by unfold docsL;rw[if_pos b3]
    have hva:asc (docs l) 1 1000000000=true:=by unfold validL at b3;rw[Bool.and_eq_true] at b3;exact b3.1
    rw[hdl] at cd;have cwo:=fun H=>withoutR_ok (docs l) s.docs (by simp[docs];exact q2) hd H T .none .none;have hwl:=keepR_len (fun m=>!m) (docs l) s.docs;have hdc:(docs l).length=l.length:=by simp[docs]
    have hwn:asc s.docs 1 1000000000=true→((keepR (fun m=>!m) (docs l) s.docs).length=0↔∀p∈l,p.1∈s.docs):=fun h=>by
     rw[←without_eq,wo_nil hva h];simp only[docs,List.mem_map,forall_exists_index,and_imp,forall_apply_eq_imp_iff₂]
    have hokl:asc s.docs 1 1000000000=true→((keepR (fun m=>!m) (docs l) s.docs).length=0↔okL s.docs l=true):=fun h=>by
     rw[hwn h,eokL,decide_eq_true b2,b3];simp
    generalize keepR (fun m=>!m) (docs l) s.docs=kr at *;apply aw_iff rfl;apply aw_skip;simp(disch:=omega) ;apply hK4;clear hK4;refine aw_then fun K5 hK5=>?_
    by_cases hkr:kr.length=0
    rotate_left
    ·have bk:decide ((0:Int)<kr.length)=true:=decide_eq_true (by omega);have nk:(0:Int)<kr.length:=by omega
     have n0:kr≠[]:=fun e=>hkr (by rw[e];rfl);have n1:0<kr.length:=by omega
     refine aw_draw [] [] [] drawMixed (by kernel_rfl) (by kernel_rfl) fun K hK=>?_;simp(disch:=omega) ;refine dcall_is (cd _) rfl ?_;simp(disch:=omega) ;refine dcall_is (cwo _) rfl ?_;simp(disch:=omega)[bk,nk,n0,n1];apply hK;clear hK K;apply aw_ift rfl;apply aw_reg;intro K h;simp(disch:=omega);apply h;clear h K;apply aw_ret;simp(disch:=omega) ;have:validS s=false:=by
      cases hdv:asc s.docs 1 1000000000 with
      |false=>exact bad3 hdv
      |true=>
       refine bad2 ?_
       cases ho:okL s.docs l with
       |false=>rfl
       |true=>exact absurd ((hokl hdv).2 ho) hkr
     rw[this]
    ·have e0:kr=[]:=List.length_eq_zero_iff.1 hkr;subst e0;refine aw_draw [] [] [] drawMixed (by kernel_rfl) (by kernel_rfl) fun K hK=>?_;simp(disch:=omega) ;refine dcall_is (cd _) rfl ?_;simp(disch:=omega) ;refine dcall_is (cwo _) rfl ?_;simp(disch:=omega) ;apply hK;clear hK K;apply aw_iff rfl;apply aw_skip;simp(disch:=omega) ;apply hK5;clear hK5;refine aw_weak ⟨[(1,.ptr H.length 0),(3,.int .i64 (i:Nat)),(4,.ptr (H.length+1) 0)],H++[.cells (sgC s),.cells (tmC ⟨f,w,l⟩)],T⟩ (weak_to [] [] (by simp) (by simp) (by simp) (by simp) HOc (by simp)) ?_;refine hpair HOc _ (fun k hki hf hap e rH rT he=>?_) fun hap e he=>?_
     ·show RetQ Tryz.prog Tryz.f75.results.toList (fun r H' T'=>(∃rH,H'=H++rH)∧(∃rT,T'=T++rT)∧(r=.bool (validS s)∨untag r=.bool (validS s))) .ret _;simp[he,bad4 k hki b3 hf hap]
     ·refine hK3 _ (aw_weak ⟨[(1,.ptr H.length 0),(3,.int .i64 (i:Nat))],H++[.cells (sgC s)],T⟩ (weak_to [.cells (tmC ⟨f,w,l⟩)] [] (by simp) (by simp) (by simp) (by simp) HOa (by simpa using he)) ?_);refine aw_reg0 fun K hK=>?_;simp(disch:=omega) ;apply hK;clear hK K;refine⟨i+1,⟨by show i+1≤_;omega,hadd b1 b2 b3 (fun h=>(hokl h).1 rfl) hap⟩,by show s.tms.length-(i+1)<s.tms.length-i;omega,?_⟩;refine weak_to [] [] ?_ ?_ ?_ ?_ HOa ?_
      all_goals simp
   clear hK hpair
   by_cases v1:f<1
   ·have w1:decide (f<1)=true:=decide_eq_true v1;simp(disch:=omega)[w1,v1];refine key _ false (fun h=>by cases h) (fun _=>bad1 (by rw[eok,decide_eq_false (by omega:¬(1≤f∧f≤4))];rfl)) (by simp)
   have w1:decide (f<1)=false:=decide_eq_false v1
   by_cases v2:4<f
   ·have w2:decide (4<f)=true:=decide_eq_true v2;simp(disch:=omega)[w1,v1,w2,v2];refine key _ false (fun h=>by cases h) (fun _=>bad1 (by rw[eok,decide_eq_false (by omega:¬(1≤f∧f≤4))];rfl)) (by simp)
   have w2:decide (4<f)=false:=decide_eq_false v2;rw[decide_eq_true (by omega:1≤f∧f≤4),Bool.true_and] at eok
   cases hw:okW w with
   |false=>
    rw[hw] at cw eok;simp(disch:=omega)[w1,v1,w2,v2];refine dcall_is (cw _) rfl ?_;simp(disch:=omega) ;refine key _ false (fun h=>by cases h) (fun _=>bad1 (by rw[eok];rfl)) (by simp)
   |true=>
   rw[hw] at cw eok;rw[Bool.true_and] at eok
   by_cases v3:l.length=0
   ·have e3:l=[]:=List.length_eq_zero_iff.1 v3;subst e3;simp(disch:=omega)[w1,v1,w2,v2];refine dcall_is (cw _) rfl ?_;simp(disch:=omega) ;refine key _ false (fun h=>by cases h) (fun _=>bad2 (by rw[eokL];rfl)) (by simp)
   have w3:((l.length:Int)==0)=false:=beq_eq_false_iff_ne.2 (by omega);have n3:l≠[]:=fun e=>v3 (by rw[e];rfl)
   cases hvl:validL l with
   |false=>
    rw[hvl] at cv eokL;simp(disch:=omega)[w1,v1,w2,v2];refine dcall_is (cw _) rfl ?_;simp(disch:=omega)[w3,n3];refine dcall_is (cv _) rfl ?_;simp(disch:=omega) ;refine key _ false (fun h=>by cases h) (fun _=>bad2 (by rw[eokL];simp)) (by simp)
   |true=>
   rw[hvl] at cv;rcases Nat.eq_zero_or_pos i with h5|h5
   ·subst h5;simp(disch:=omega)[w1,v1,w2,v2];refine dcall_is (cw _) rfl ?_;simp(disch:=omega)[w3,n3];refine dcall_is (cv _) rfl ?_;simp(disch:=omega) ;refine key _ true (fun _=>⟨by rw[eok];rfl,n3,hvl⟩) (fun h=>by cases h) (by simp)
   ·have e6:((i:Int)-1)=((i-1:Nat):Int):=by omega
    have b5:decide ((0:Int)<(i:Int))=true:=decide_eq_true (by omega);have hcp':=hcp (by omega);rw[decide_eq_false (by omega:¬i=0),Bool.false_or] at eok;simp(disch:=omega)[w1,v1,w2,v2];refine dcall_is (cw _) rfl ?_;simp(disch:=omega)[w3,n3];refine dcall_is (cv _) rfl ?_;simp(disch:=omega)[b5,h5,e6,hcp',tmAV_len];refine dcall_is (ck _ (by simp) (by simp)) rfl ?_;simp(disch:=omega) 
    cases bq with
    |false=>
     refine key _ false (fun h=>by cases h) (fun _=>bad1 (by rw[eok])) (by simp)
    |true=>
     refine key _ true (fun _=>⟨by rw[eok],n3,hvl⟩) (fun h=>by cases h) (by simp)
  ·simp  at hk;apply aw_exit;simp(disch:=omega) ;apply hK1;clear hK1;have hi:i=s.tms.length:=by omega
   subst hi;refine aw_weak ⟨[(1,.ptr H.length 0)],H++[.cells (sgC s)],T⟩ (weak_to [] [] (by simp) (by simp) (by simp) (by simp) HOa (by simp)) ?_;exact rcol_tail s hs (fun hdv=>⟨fun j hj=>⟨(g2 j hj).1,(g2 j hj).2.2.1 hdv⟩,pls_nodup (fun j hj=>(g2 j hj).2.1.2) fun j k hj hkj=>(g2 j hj).2.2.2 k hkj⟩) H T HOa
end Go.Proofs.YtoejlmpbebjemaaGreat
