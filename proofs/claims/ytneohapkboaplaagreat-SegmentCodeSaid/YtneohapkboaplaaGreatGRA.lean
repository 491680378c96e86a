/- The reference's order of terms and items, lists without a common position (layer 39). The reference's Valid (layer 39): the columns. The reference's Valid (layer 39): the terms. The reference's Valid (layer 39): it is the program's.
  Conditions: lengths below 1000 or 1000, as each theorem says. -/
import Derived.Test.YtneohapkboaplaaGreatGV
import Derived.Test.YtneohapkboaplaaGreatPZ
set_option linter.all false
set_option maxRecDepth 100000
set_option maxHeartbeats 16000000
open Nat (zero_le not_lt_zero lt_or_ge le_trans)
namespace Go.Proofs.YtneohapkboaplaaGreat
open Go Go.Am gH eB dc
attribute [-simp] List.getD_eq_getElem?_getD in
theorem AZ (x y:Ky)(u v:AV)(H:List aG)(T:ay)(hu:Below H.length T.length u)(hv:Below H.length T.length v):al Tryz.prog 87 [.agg [.int .i64 x.1,.str x.2,u],.agg [.int .i64 y.1,.str y.2,v]] H T (Is (.bool (bU x y)) H T):=by
 refine al.dS ?_ (by simp);generalize hq:bU x y=q;unfold bU at hq;have hu2:=hu.more (n':=H.length+1) (t':=T.length) (by omega) (Nat.le_refl _);obtain⟨x1,x2⟩:=x;obtain⟨y1,y2⟩:=y;simp only at hq;refine aj 5 [] Tryz.ntmps87 Tryz.func87 rfl (fun _ _=>Tryz.call87 _ _) (by simp) (fun HO=>?_);apply ae;intro K h;simp(disch:=omega);apply h;clear h K
 by_cases h1:x1<y1
 ·have b1:decide (x1<y1)=true:=decide_eq_true h1;rw[b1] at hq;refine ae fun K hK=>?_;simp(disch:=omega)[b1,h1];apply hK;clear hK K;apply an;simp(disch:=omega) ;rw[←hq];rfl
 ·have b1:decide (x1<y1)=false:=decide_eq_false h1
  by_cases h2:x1=y1
  ·have b2:(x1==y1)=true:=by simpa using h2
   rw[b1,decide_eq_true h2,Bool.true_and,Bool.false_or] at hq;refine ae fun K hK=>?_;simp(disch:=omega)[b1,h1,b2,h2];apply hK;clear hK K;apply an;simp(disch:=omega) ;exact hq
  ·have b2:(x1==y1)=false:=by simpa using h2
   rw[b1,decide_eq_false h2,Bool.false_and,Bool.false_or] at hq;refine ae fun K hK=>?_;simp(disch:=omega)[b1,h1,b2,h2];apply hK;clear hK K;apply an;simp(disch:=omega) ;exact hq.symm
attribute [-simp] List.getD_eq_getElem?_getD in
theorem Bk (x y:Nm)(H:List aG)(T:ay):al Tryz.prog 91 [.agg [.int .i64 x.1,.int .i64 x.2],.agg [.int .i64 y.1,.int .i64 y.2]] H T (Is (.bool (dJ x y)) H T):=by
 refine al.dS ?_ (by simp);generalize hq:dJ x y=q;unfold dJ at hq;obtain⟨x1,x2⟩:=x;obtain⟨y1,y2⟩:=y;simp only at hq;refine aj 5 [] Tryz.ntmps91 Tryz.func91 rfl (fun _ _=>Tryz.call91 _ _) (by simp) (fun HO=>?_);apply ae;intro K h;simp(disch:=omega);apply h;clear h K
 by_cases h1:x1<y1
 ·have b1:decide (x1<y1)=true:=decide_eq_true h1;rw[b1] at hq;refine ae fun K hK=>?_;simp(disch:=omega)[b1,h1];apply hK;clear hK K;apply an;simp(disch:=omega) ;rw[←hq];rfl
 ·have b1:decide (x1<y1)=false:=decide_eq_false h1
  by_cases h2:x1=y1
  ·have b2:(x1==y1)=true:=by simpa using h2
   rw[b1,decide_eq_true h2,Bool.true_and,Bool.false_or] at hq;refine ae fun K hK=>?_;simp(disch:=omega)[b1,h1,b2,h2];apply hK;clear hK K;apply an;simp(disch:=omega) ;exact hq
  ·have b2:(x1==y1)=false:=by simpa using h2
   rw[b1,decide_eq_false h2,Bool.false_and,Bool.false_or] at hq;refine ae fun K hK=>?_;simp(disch:=omega)[b1,h1,b2,h2];apply hK;clear hK K;apply an;simp(disch:=omega) ;exact hq.symm
def fu (a b:List Ps):Bool:=(List.range a.length).all fun i=>(List.range (posOf b (a.getD i p0).1).length).all fun k=>!decide ((posOf b (a.getD i p0).1).getD k 0∈(a.getD i p0).2)
theorem JT (l:List Ps)(hp:∀p∈l,p.2.length≤1000)(d:Int):(posOf l d).length≤1000:=by
 induction l with
 |nil=>simp[posOf]
 |cons p l ih=>
  by_cases e:p.1=d
  ·subst e;rw[cH];exact hp p (by simp)
  ·rw[cp e];exact ih fun q hq=>hp q (List.mem_cons_of_mem _ hq)
attribute [-simp] List.getD_eq_getElem?_getD in
theorem Ld (a b:List Ps)(ha:a.length≤1000)(hb:b.length≤1000)(LQ:∀p∈a,p.2.length≤1000)(LP:∀p∈b,p.2.length≤1000)(H:List aG)(T:ay)(ta tb:Tag) :
  al Tryz.prog 90 [.sl a.length (bp a) ta,.sl b.length (bp b) tb] H T (Is (.bool (fu a b)) H T):=by
 refine al.cg (al.nF ?_);have Q3:1000≤maxLen:=by decide
 have bad:∀i k,i<a.length→k<(posOf b (a.getD i p0).1).length→(posOf b (a.getD i p0).1).getD k 0∈(a.getD i p0).2→fu a b=false:=fun i k hi hk h=>
  iI hi (iI hk (by rw[decide_eq_true h];rfl))
 have ub:(∀i,i<a.length→∀k,k<(posOf b (a.getD i p0).1).length→(posOf b (a.getD i p0).1).getD k 0∉(a.getD i p0).2)→fu a b=true:=fun h=>
  fj fun i hi=>fj fun k hk=>by rw[decide_eq_false (h i hi k hk)];rfl
 generalize fu a b=q at *;refine aj 8 [] Tryz.ntmps90 Tryz.func90 rfl (fun _ _=>Tryz.call90 _ _) (by simp) (fun HO=>?_);apply ae;intro K h;simp(disch:=omega);apply h;clear h K;refine af fun K1 aO=>?_;apply ae;intro K h;simp(disch:=omega);apply h;clear h K;apply ai;refine aK (X:=Nat) (fun i=>⟨[(0,.sl a.length (bp a) .none),(1,.sl b.length (bp b) .none),(5,.int .i64 (i:Nat))],H,T⟩)
  (fun i=>i≤a.length∧∀j,j<i→∀k,k<(posOf b (a.getD j p0).1).length→(posOf b (a.getD j p0).1).getD k 0∉(a.getD j p0).2) (fun i=>a.length-i) 0 ?_ ?_ ?_
 ·exact⟨zero_le _,fun j hj=>absurd hj (not_lt_zero _)⟩
 ·refine ag [] [] ?_ ?_ ?_ ?_ HO ?_
  all_goals simp
 ·rintro i ⟨g1,g2⟩;refine af fun K2 aY=>?_;apply ae;intro K h;simp(disch:=omega);apply h;clear h K;refine aP rfl (fun hk=>?_) (fun hk=>?_)
  ·simp  at hk;have lX:=gq a i hk;have c:=QH b (a.getD i p0).1 (by omega) H T .none;have O6:=JT b LP (a.getD i p0).1;have qN:=LQ _ (aR a i p0 hk);replace bad:=fun k=>bad i k hk;have kZ:(∀k,k<(posOf b (a.getD i p0).1).length→(posOf b (a.getD i p0).1).getD k 0∉(a.getD i p0).2)→∀j,j<i+1→∀k,k<(posOf b (a.getD j p0).1).length→(posOf b (a.getD j p0).1).getD k 0∉(a.getD j p0).2:=fun h j hj=>by
    rcases lt_or_ge j i with h1|h1
    ·exact g2 j h1
    ·have:j=i:=by omega
     subst this;exact h
   generalize posOf b (a.getD i p0).1=ps at *;apply ak;simp(disch:=omega) ;apply aY;clear aY;refine af fun K3 bA=>?_;apply ai;refine ae fun K hK=>?_;simp(disch:=omega)[lX,aS];refine ah (c) ?_;simp(disch:=omega) ;apply hK;clear hK K;apply ae;intro K h;simp(disch:=omega);apply h;clear h K;apply ai;refine aK (X:=Nat) (fun k=>⟨[(0,.sl a.length (bp a) .none),(1,.sl b.length (bp b) .none),(5,.int .i64 (i:Nat)),(6,.sl ps.length (ints ps) .none),(7,.int .i64 (k:Nat))],H,T⟩)
    (fun k=>k≤ps.length∧∀m,m<k→ps.getD m 0∉(a.getD i p0).2) (fun k=>ps.length-k) 0 ?_ ?_ ?_
   ·exact⟨zero_le _,fun j hj=>absurd hj (not_lt_zero _)⟩
   ·refine ag [] [] ?_ ?_ ?_ ?_ HO ?_
    all_goals simp
   ·rintro k ⟨k1,k2⟩;refine af fun K5 gO=>?_;apply ae;intro K h;simp(disch:=omega);apply h;clear h K;refine aP rfl (fun da=>?_) (fun da=>?_)
    ·simp  at da;have E6:=aT (xs:=ps) (k:=k) da;have ch:=xJ (a.getD i p0).2 (ps.getD k 0) (by omega) H T .none;replace bad:=bad k da;have T6:ps.getD k 0∉(a.getD i p0).2→∀m,m<k+1→ps.getD m 0∉(a.getD i p0).2:=fun h m hm=>by
      rcases lt_or_ge m k with h1|h1
      ·exact k2 m h1
      ·have:m=k:=by omega
       subst this;exact h
     generalize ps.getD k 0=z at *;apply ak;simp(disch:=omega) ;apply gO;clear gO;refine af fun K6 lp=>?_;apply ai
     by_cases hm:z∈(a.getD i p0).2
     ·rw[decide_eq_true hm] at ch;refine aM [] [] [] au (by kernel_rfl) (by kernel_rfl) fun K hK=>?_;simp(disch:=omega)[lX,aS,E6];refine aB (ch) rfl ?_;simp(disch:=omega) ;apply hK;clear hK K;apply aH rfl;apply ae;intro K h;simp(disch:=omega);apply h;clear h K;apply an;simp(disch:=omega) ;rw[bad hm];exact⟨rfl,rfl,rfl⟩
     ·rw[decide_eq_false hm] at ch;refine aM [] [] [] au (by kernel_rfl) (by kernel_rfl) fun K hK=>?_;simp(disch:=omega)[lX,aS,E6];refine aB (ch) rfl ?_;simp(disch:=omega) ;apply hK;clear hK K;apply aC rfl;apply ak;simp(disch:=omega) ;apply lp;clear lp;refine ar fun K hK=>?_;simp(disch:=omega) ;apply hK;clear hK K;refine⟨k+1,⟨by show k+1≤_;omega,T6 hm⟩,by show ps.length-(k+1)<ps.length-k;omega,?_⟩;refine ag [] [] ?_ ?_ ?_ ?_ HO ?_
      all_goals simp
    ·simp  at da;apply aD;simp(disch:=omega) ;apply bA;clear bA;refine ar fun K hK=>?_;simp(disch:=omega) ;apply hK;clear hK K;refine⟨i+1,⟨by show i+1≤_;omega,kZ fun k h=>k2 k (by omega)⟩,by show a.length-(i+1)<a.length-i;omega,?_⟩;refine ag [] [] ?_ ?_ ?_ ?_ HO ?_
     all_goals simp
  ·simp  at hk;apply aD;simp(disch:=omega) ;apply aO;clear aO;apply ae;intro K h;simp(disch:=omega);apply h;clear h K;apply an;simp(disch:=omega) ;rw[ub fun j hj=>g2 j (by omega)];exact⟨rfl,rfl,rfl⟩
attribute [-simp] List.getD_eq_getElem?_getD in
theorem Gs (aw:List Int)(aJ:List Tm)(az:List Cl)(f:Int)(x:List Nm)(i:Nat)(n9:aw.length≤1000)(yu:x.length≤1000)(H:List aG)(T:ay)
  (fD:bM (H++[.cells (cG ⟨aw,aJ,az⟩),.cells (e7 ⟨f,x⟩)]) T) (Q:Exit→St→Prop)
  (bad:∀k,k<x.length→jC aw x k=false→∀(e:Env)(rH:List aG)(rT:ay),bZ e 2=.bool false→Q .ret ⟨e,H++rH,T++rT⟩)
  (go:(∀k,k<x.length→jC aw x k=true)→∀e:Env,b9 (H.length+2) T.length e [(1,.ptr H.length 0),(6,.int .i64 (i:Nat))]→Q .normal ⟨e,H++[.cells (cG ⟨aw,aJ,az⟩),.cells (e7 ⟨f,x⟩)],T⟩) :
  AW ⟨Tryz.prog,191,10,H.length,T.length,[]⟩ (iN [1,1,0,1,0,0,1,0,0,1,1] (Tryz.f36.body.getD .skip)) Q ⟨[(1,.ptr H.length 0),(6,.int .i64 (i:Nat)),(7,.ptr (H.length+1) 0)],H++[.cells (cG ⟨aw,aJ,az⟩),.cells (e7 ⟨f,x⟩)],T⟩:=by
 conv=>arg 2;whnf
 have Fs:x.length≤9223372036854775807:=by omega
 have ik:1000≤maxLen:=by decide
 apply ae;intro K h;simp(disch:=omega);apply h;clear h K;apply ai;refine aK (X:=Nat) (fun k=>⟨[(1,.ptr H.length 0),(6,.int .i64 (i:Nat)),(7,.ptr (H.length+1) 0),(8,.int .i64 (k:Nat))],H++[.cells (cG ⟨aw,aJ,az⟩),.cells (e7 ⟨f,x⟩)],T⟩)
  (fun k=>k≤x.length∧∀j,j<k→jC aw x j=true) (fun k=>x.length-k) 0 ?_ ?_ ?_
 ·exact⟨zero_le _,fun j hj=>absurd hj (not_lt_zero _)⟩
 ·refine ag [] [] ?_ ?_ ?_ ?_ fD ?_
  all_goals simp
 ·rintro m ⟨m1,m2⟩;refine af fun K5 gO=>?_;apply ae;intro K h;simp(disch:=omega);apply h;clear h K;refine aP rfl (fun da=>?_) (fun da=>?_)
  ·simp  at da;have sN:=fh x m da;have kF:jC aw x m=((decide ((x.getD m n0).2∈aw)&&decide (0≤(x.getD m n0).1∧(x.getD m n0).1≤1000000000000))&&(decide (m=0)||dJ (x.getD (m-1) n0) (x.getD m n0))):=rfl;have cn:=fun H T=>Bk (x.getD (m-1) n0) (x.getD m n0) H T;generalize dJ (x.getD (m-1) n0) (x.getD m n0)=cq at *;have DP:=fun h=>fh x (m-1) h;generalize x.getD (m-1) n0=y at *;generalize DJ:x.getD m n0=z at *;obtain⟨x1,x2⟩:=z;obtain⟨y1,y2⟩:=y;simp only at sN DP kF;apply ak;simp(disch:=omega) ;apply gO;clear gO;refine af fun K6 lp=>?_;apply ai;refine ae fun K hK=>?_;simp(disch:=omega)[sN,cj];apply hK;clear hK K;have SY:bM (H++[.cells (cG ⟨aw,aJ,az⟩),.cells (e7 ⟨f,x⟩),.cells [.int .i64 x1,.int .i64 x2]]) T:=by
    have:=bM.snoc (vs:=[.int .i64 x1,.int .i64 x2]) fD (by simp);simpa using this
   have cb:=xJ aw x2 (by omega) (H++[.cells (cG ⟨aw,aJ,az⟩),.cells (e7 ⟨f,x⟩),.cells [.int .i64 x1,.int .i64 x2]]) T .none;have c:=cn (H++[.cells (cG ⟨aw,aJ,az⟩),.cells (e7 ⟨f,x⟩),.cells [.int .i64 x1,.int .i64 x2]]) T;refine aM [] [] [] au (by kernel_rfl) (by kernel_rfl) fun K hK=>?_;have lu:∀e b,b=jC aw x m→b9 (H.length+3) T.length e [(1,.ptr H.length 0),(6,.int .i64 (i:Nat)),(7,.ptr (H.length+1) 0),(8,.int .i64 (m:Nat)),(181,.bool (!b))]→K ⟨e,H++[.cells (cG ⟨aw,aJ,az⟩),.cells (e7 ⟨f,x⟩),.cells [.int .i64 x1,.int .i64 x2]],T⟩:=by
    intro e b2 fW BL;refine hK _ (aQ ⟨[(1,.ptr H.length 0),(6,.int .i64 (i:Nat)),(7,.ptr (H.length+1) 0),(8,.int .i64 (m:Nat)),(181,.bool (!b2))],H++[.cells (cG ⟨aw,aJ,az⟩),.cells (e7 ⟨f,x⟩)],T⟩ (ag [.cells [.int .i64 x1,.int .i64 x2]] [] (by simp) (by simp) (by simp) (by simp) fD (by simpa using BL)) ?_)
    cases b2 with
    |false=>
     apply aH rfl;apply ae;intro K h;simp(disch:=omega);apply h;clear h K;apply an;rw[←List.append_nil T];exact bad m da fW.symm _ _ _ rfl
    |true=>
     apply aC rfl;apply ak;simp(disch:=omega) ;apply lp;clear lp;refine ar fun K hK=>?_;simp(disch:=omega) ;apply hK;clear hK K;refine⟨m+1,⟨by show m+1≤_;omega,fun j hj=>?_⟩,by show x.length-(m+1)<x.length-m;omega,?_⟩
     ·rcases lt_or_ge j m with h|h
      ·exact m2 j h
      ·have:j=m:=by omega
       subst this;exact fW.symm
     ·refine ag [] [] ?_ ?_ ?_ ?_ fD ?_
      all_goals simp
   clear hK
   by_cases v3:x1<0
   ·have w3:decide (x1<0)=true:=decide_eq_true v3;simp(disch:=omega)[w3,v3];refine lu _ false (by rw[kF,decide_eq_false (by omega:¬(0≤x1∧x1≤1000000000000))];simp) (by simp)
   have w3:decide (x1<0)=false:=decide_eq_false v3
   by_cases v4:1000000000000<x1
   ·have w4:decide (1000000000000<x1)=true:=decide_eq_true v4;simp(disch:=omega)[w3,v3,w4,v4];refine lu _ false (by rw[kF,decide_eq_false (by omega:¬(0≤x1∧x1≤1000000000000))];simp) (by simp)
   have w4:decide (1000000000000<x1)=false:=decide_eq_false v4;rw[decide_eq_true (by omega:0≤x1∧x1≤1000000000000),Bool.and_true] at kF
   by_cases v0:x2∈aw
   rotate_left
   ·rw[decide_eq_false v0] at cb;simp(disch:=omega)[w3,v3,w4,v4];refine aB (cb) rfl ?_;simp(disch:=omega) ;refine lu _ false (by rw[kF,decide_eq_false v0];rfl) (by simp)
   rw[decide_eq_true v0] at cb;rw[decide_eq_true v0,Bool.true_and] at kF;rcases Nat.eq_zero_or_pos m with h5|h5
   ·subst h5;simp(disch:=omega)[w3,v3,w4,v4];refine aB (cb) rfl ?_;simp(disch:=omega) ;refine lu _ true (by rw[kF];rfl) (by simp)
   ·have e6:((m:Int)-1)=((m-1:Nat):Int):=by omega
    have b5:decide ((0:Int)<(m:Int))=true:=decide_eq_true (by omega);have sV:=DP (by omega);rw[decide_eq_false (by omega:¬m=0),Bool.false_or] at kF;simp(disch:=omega)[w3,v3,w4,v4];refine aB (cb) rfl ?_;simp(disch:=omega)[b5,h5,e6,sV,cj];refine aB (c) rfl ?_;simp(disch:=omega) ;refine lu _ cq kF.symm (by simp)
  ·simp  at da;apply aD;simp(disch:=omega) ;exact go (fun k h=>m2 k (by omega)) _ (by simp)
attribute [-simp] List.getD_eq_getElem?_getD in
theorem Gv (s:Sg)(hs:re s)(ht:jd s.aw 1 1000000000=true→(∀i,i<s.aJ.length→jT s.aJ i=true∧qV s.aw (s.aJ.getD i t0).l=true)∧(mX s.aJ).Nodup)
  (H:List aG) (T:ay) (HO:bM (H++[.cells (cG s)]) T) :
  AW ⟨Tryz.prog,191,10,H.length,T.length,[]⟩ (iN [1,1] (Tryz.f36.body.getD .skip)) (rn Tryz.prog Tryz.f36.results.toList fun r H' T'=>(∃rH,H'=H++rH)∧(∃rT,T'=T++rT)∧(r=.bool (aW s)∨cC r=.bool (aW s))) ⟨[(1,.ptr H.length 0)],H++[.cells (cG s)],T⟩:=by
 conv=>arg 2;whnf
 have hd:=hs.d;have n9:s.aw.length≤1000:=le_trans hs.d (by omega);have fS:=hs.c;have hx:=hs.x;have bad:=fun i h=>wa (s:=s) (i:=i) h;have ug:=fun i k h=>zq (s:=s) (i:=i) (k:=k) h;have Tt:=fun h=>nS (s:=s) h;have ub:=fun h=>nR h (by omega) (ht h).1 (ht h).2;have cv:=fun H=>fq s.aw (le_trans hs.d (by decide)) H T .none;obtain⟨aw,aJ,az⟩:=s;simp only at n9 fS hx bad ug ub Tt cv hd;generalize hq:aW ⟨aw,aJ,az⟩=q at *;have Mh:az.length≤9223372036854775807:=by omega
 refine af fun K1 aO=>?_;apply ae;intro K h;simp(disch:=omega);apply h;clear h K;apply ai;refine aK (X:=Nat) (fun i=>⟨[(1,.ptr H.length 0),(6,.int .i64 (i:Nat))],H++[.cells (cG ⟨aw,aJ,az⟩)],T⟩)
  (fun i=>i≤az.length∧∀j,j<i→lq az j=true∧∀k,k<(az.getD j c0).x.length→jC aw (az.getD j c0).x k=true) (fun i=>az.length-i) 0 ?_ ?_ ?_
 ·exact⟨zero_le _,fun j hj=>absurd hj (not_lt_zero _)⟩
 ·refine ag [] [] ?_ ?_ ?_ ?_ HO ?_
  all_goals simp
 ·rintro i ⟨g1,g2⟩;refine af fun K2 aY=>?_;apply ae;intro K h;simp(disch:=omega);apply h;clear h K;refine aP rfl (fun hk=>?_) (fun hk=>?_)
  ·simp  at hk;have bY:=lK az i hk;have yu:=hx _ (aR az i c0 hk);have fX:lq az i=((decide (5≤(az.getD i c0).f∧(az.getD i c0).f≤7)&&decide ((az.getD i c0).x≠[]))&&(decide (i=0)||decide ((az.getD (i-1) c0).f<(az.getD i c0).f))):=rfl;have gR:=fun h=>(qo az (i-1) h).1;generalize (az.getD (i-1) c0).f=fp at *;replace ug:=fun k=>ug i k hk;have kZ:(∀k,k<(az.getD i c0).x.length→jC aw (az.getD i c0).x k=true)→lq az i=true→∀j,j<i+1→lq az j=true∧∀k,k<(az.getD j c0).x.length→jC aw (az.getD j c0).x k=true:=fun h1 h2 j hj=>by
    rcases lt_or_ge j i with h|h
    ·exact g2 j h
    ·have:j=i:=by omega
     subst this;exact⟨h2,h1⟩
   generalize az.getD i c0=c at *;obtain⟨f,x⟩:=c;simp only at bY yu fX ug kZ;have Fs:x.length≤9223372036854775807:=by omega
   apply ak;simp(disch:=omega) ;apply aY;clear aY;refine af fun K3 bA=>?_;apply ai;refine ae fun K hK=>?_;simp(disch:=omega)[bY,de];apply hK;clear hK K;have fD:bM (H++[.cells (cG ⟨aw,aJ,az⟩),.cells (e7 ⟨f,x⟩)]) T:=by
    have:=bM.snoc (vs:=e7 ⟨f,x⟩) HO (by simp);simpa using this
   refine af fun K4 ec=>?_;refine aM [] [] [] au (by kernel_rfl) (by kernel_rfl) fun K hK=>?_;have key:∀e b,b=lq az i→b9 (H.length+2) T.length e [(1,.ptr H.length 0),(6,.int .i64 (i:Nat)),(7,.ptr (H.length+1) 0),(138,.bool (!b))]→K ⟨e,H++[.cells (cG ⟨aw,aJ,az⟩),.cells (e7 ⟨f,x⟩)],T⟩:=by
    intro e b hb he;refine hK _ (aQ ⟨[(1,.ptr H.length 0),(6,.int .i64 (i:Nat)),(7,.ptr (H.length+1) 0),(138,.bool (!b))],H++[.cells (cG ⟨aw,aJ,az⟩),.cells (e7 ⟨f,x⟩)],T⟩ (ag [] [] (by simp) (by simp) (by simp) (by simp) fD (by simpa using he)) ?_)
    cases b with
    |false=>
     apply aH rfl;apply ae;intro K h;simp(disch:=omega);apply h;clear h K;apply an;simp(disch:=omega) ;rw[bad i hk hb.symm]
    |true=>
    apply aC rfl;apply ak;simp(disch:=omega) ;apply ec;clear ec;refine aQ ⟨[(1,.ptr H.length 0),(6,.int .i64 (i:Nat)),(7,.ptr (H.length+1) 0)],H++[.cells (cG ⟨aw,aJ,az⟩),.cells (e7 ⟨f,x⟩)],T⟩ (ag [] [] (by simp) (by simp) (by simp) (by simp) fD (by simp)) ?_;refine Gs aw aJ az f x i n9 yu H T fD _ (fun k ko Fe e rH rT he=>?_) fun hg e he=>?_
    ·show rn Tryz.prog Tryz.f36.results.toList (fun r H' T'=>(∃rH,H'=H++rH)∧(∃rT,T'=T++rT)∧(r=.bool q∨cC r=.bool q)) .ret _;simp[he,ug k ko Fe]
    ·refine bA _ (aQ ⟨[(1,.ptr H.length 0),(6,.int .i64 (i:Nat))],H++[.cells (cG ⟨aw,aJ,az⟩)],T⟩ (ag [.cells (e7 ⟨f,x⟩)] [] (by simp) (by simp) (by simp) (by simp) HO (by simpa using he)) ?_);refine ar fun K hK=>?_;simp(disch:=omega) ;apply hK;clear hK K;refine⟨i+1,⟨by show i+1≤_;omega,kZ hg hb.symm⟩,by show az.length-(i+1)<az.length-i;omega,?_⟩;refine ag [] [] ?_ ?_ ?_ ?_ HO ?_
     all_goals simp
   clear hK
   by_cases v1:f<5
   ·have w1:decide (f<5)=true:=decide_eq_true v1;simp(disch:=omega)[w1,v1];refine key _ false (by rw[fX,decide_eq_false (by omega:¬(5≤f∧f≤7))];rfl) (by simp)
   have w1:decide (f<5)=false:=decide_eq_false v1
   by_cases v2:7<f
   ·have w2:decide (7<f)=true:=decide_eq_true v2;simp(disch:=omega)[w1,v1,w2,v2];refine key _ false (by rw[fX,decide_eq_false (by omega:¬(5≤f∧f≤7))];rfl) (by simp)
   have w2:decide (7<f)=false:=decide_eq_false v2;rw[decide_eq_true (by omega:5≤f∧f≤7),Bool.true_and] at fX
   by_cases v3:x.length=0
   ·have e3:x=[]:=List.length_eq_zero_iff.1 v3;subst e3;have ef:lq az i=false:=by rw[fX];rfl
    rcases Nat.eq_zero_or_pos i with h5|h5
    ·subst h5;simp(disch:=omega)[w1,v1,w2,v2];refine key _ false ef.symm (by simp)
    ·have e6:((i:Int)-1)=((i-1:Nat):Int):=by omega
     have b5:decide ((0:Int)<(i:Int))=true:=decide_eq_true (by omega);have yN:=gR (by omega)
     by_cases v4:f≤fp
     ·have w4:decide (f≤fp)=true:=decide_eq_true v4;simp(disch:=omega)[w1,v1,w2,v2,b5,h5,e6,yN,de,w4,v4];refine key _ false ef.symm (by simp)
     ·have w4:decide (f≤fp)=false:=decide_eq_false v4;simp(disch:=omega)[w1,v1,w2,v2,b5,h5,e6,yN,de,w4,v4];refine key _ false ef.symm (by simp)
   have w3:((x.length:Int)==0)=false:=beq_eq_false_iff_ne.2 (by omega);have n3:x≠[]:=fun e=>v3 (by rw[e];rfl);rw[decide_eq_true n3,Bool.true_and] at fX;rcases Nat.eq_zero_or_pos i with h5|h5
   ·subst h5;simp(disch:=omega)[w1,v1,w2,v2,w3,n3];refine key _ true (by rw[fX];rfl) (by simp)
   ·have e6:((i:Int)-1)=((i-1:Nat):Int):=by omega
    have b5:decide ((0:Int)<(i:Int))=true:=decide_eq_true (by omega);have yN:=gR (by omega);rw[decide_eq_false (by omega:¬i=0),Bool.false_or] at fX
    by_cases v4:f≤fp
    ·have w4:decide (f≤fp)=true:=decide_eq_true v4;simp(disch:=omega)[w1,v1,w2,v2,w3,n3,b5,h5,e6,yN,de,w4,v4];refine key _ false (by rw[fX,decide_eq_false (by omega:¬fp<f)]) (by simp)
    ·have w4:decide (f≤fp)=false:=decide_eq_false v4;simp(disch:=omega)[w1,v1,w2,v2,w3,n3,b5,h5,e6,yN,de,w4,v4];refine key _ true (by rw[fX,decide_eq_true (by omega:fp<f)]) (by simp)
  ·simp  at hk;apply aD;simp(disch:=omega) ;apply aO;clear aO;have b2:decide ((aw.length:Int)≤2000)=true:=decide_eq_true (by omega);have n2:(aw.length:Int)≤2000:=by omega
   cases tS:jd aw 1 1000000000 with
   |true=>
    rw[tS] at cv;refine ae fun K hK=>?_;simp(disch:=omega)[b2,n2];refine ah (cv _) ?_;simp(disch:=omega) ;apply hK;clear hK K;apply an;simp(disch:=omega) ;rw[ub tS (fun j hj=>g2 j (by omega))]
   |false=>
    rw[tS] at cv;refine ae fun K hK=>?_;simp(disch:=omega)[b2,n2];refine ah (cv _) ?_;simp(disch:=omega) ;apply hK;clear hK K;apply an;simp(disch:=omega) ;rw[Tt tS]
theorem qy {t:Tm}{q:Pl}:q∈np t↔q.1=t.f∧∃p∈t.l,p.1=q.2.1∧q.2.2∈p.2:=by
 unfold np eg;rw[List.mem_flatMap]
 constructor
 ·rintro⟨p,hp,hq⟩;obtain⟨a,ha,rfl⟩:=List.mem_map.1 hq;exact⟨rfl,p,hp,rfl,ha⟩
 ·rintro⟨h1,p,hp,h2,h3⟩;exact⟨p,hp,List.mem_map.2 ⟨q.2.2,h3,by obtain⟨a,b,c⟩:=q;simp only at h1 h2 ⊢;rw[h1,h2]⟩⟩
theorem pA {α β:Type}{f:α→List β}:∀{l:List α},(∀x∈l,(f x).Nodup)→(l.Pairwise fun x y=>∀z∈f x,z∉f y)→(l.flatMap f).Nodup
 |[],_,_=>by simp
 |x::l,h1,h2=>by
  rw[List.flatMap_cons,List.nodup_append];rw[List.pairwise_cons] at h2;refine⟨h1 x (by simp),pA (fun y hy=>h1 y (List.mem_cons_of_mem _ hy)) h2.2,fun a ha b hb=>?_⟩;obtain⟨y,hy,tn⟩:=List.mem_flatMap.1 hb;exact fun e=>h2.1 y hy a ha (e▸tn)
theorem Hw {l:List Int}(h:jR l):l.Nodup:=h.imp fun {a b} jA=>by omega
theorem Dd {t:Tm}(h:bc t.l=true):(np t).Nodup:=by
 obtain⟨h1,_,h3⟩:=bS h;refine pA (fun p hp=>?_) ?_
 ·unfold eg;have:=Hw (h3 p hp).2.1;exact List.Pairwise.map _ (fun a b jA e=>jA (by simpa using e)) this
 ·have:t.l.Pairwise fun x y=>x.1<y.1:=List.pairwise_map.1 h1;refine this.imp fun {a b} jA z hz HR=>?_;unfold eg at hz HR;obtain⟨u,_,rfl⟩:=List.mem_map.1 hz;obtain⟨v,_,e⟩:=List.mem_map.1 HR;simp at e;omega
theorem vm {a b:List Ps}(hb:bc b=true):fu a b=true↔∀p∈a,∀q∈b,p.1=q.1→∀z∈q.2,z∉p.2:=by
 obtain⟨h1,_,_⟩:=bS hb;unfold fu
 constructor
 ·intro h p hp q hq e z hz HR;obtain⟨i,hi,rfl⟩:=bP p0 hp;have hpo:posOf b (a.getD i p0).1=q.2:=by rw[e];exact rL h1 hq
  obtain⟨k,hk,rfl⟩:=bP 0 hz;have:=lj (lj h hi) (j:=k) (by rw[hpo];exact hk);rw[hpo] at this;simp only[Bool.not_eq_true',decide_eq_false_iff_not] at this;exact this HR
 ·intro h;refine fj fun i hi=>fj fun k hk=>?_;have hz:=aR (posOf b (a.getD i p0).1) k 0 hk;obtain⟨q,hq,e1,e2⟩:=ur hz;rw[Bool.not_eq_true',decide_eq_false_iff_not];exact h _ (aR a i p0 hi) q hq e1.symm _ (by rw[←e2];exact hz)
theorem oq {l:List Tm}(h1:∀i,i<l.length→bc (l.getD i t0).l=true)(h2:∀i k,i<l.length→k<i→(l.getD k t0).f=(l.getD i t0).f→fu (l.getD k t0).l (l.getD i t0).l=true):(mX l).Nodup:=by
 refine pA (fun t ht=>?_) ?_
 ·obtain⟨i,hi,rfl⟩:=bP t0 ht;exact Dd (h1 i hi)
 ·rw[List.pairwise_iff_getElem];intro k i hk hi Pb z hz HR;have e1:l[k]=l.getD k t0:=by rw[List.getD_eq_getElem?_getD,List.getElem?_eq_getElem hk];rfl
  have e2:l[i]=l.getD i t0:=by rw[List.getD_eq_getElem?_getD,List.getElem?_eq_getElem hi];rfl
  rw[e1] at hz;rw[e2] at HR;obtain⟨f1,p,hp,p1,p2⟩:=qy.1 hz;obtain⟨f2,q,hq,q1,q2⟩:=qy.1 HR;exact(vm (h1 i hi)).1 (h2 i k hi Pb (f1.symm.trans f2)) p hp q hq (p1.trans q1.symm) _ q2 p2
theorem MZ {l:List Tm}{i k:Nat}(hi:i<l.length)(hk:k<i)(hv:bc (l.getD i t0).l=true)(hf:(l.getD k t0).f=(l.getD i t0).f)(h:fu (l.getD k t0).l (l.getD i t0).l=false):¬(mX l).Nodup:=by
 intro hn;have:fu (l.getD k t0).l (l.getD i t0).l=true:=by
  rw[vm hv];intro p hp q hq e z hz HR;have hs:l=l.take i++(l.getD i t0::l.drop (i+1)):=by rw[←ij l i t0 hi,List.take_append_drop]
  rw[hs] at hn;unfold mX at hn;rw[List.flatMap_append,List.nodup_append] at hn;refine hn.2.2 ((l.getD i t0).f,p.1,z) ?_ ((l.getD i t0).f,p.1,z) ?_ rfl
  ·refine List.mem_flatMap.2 ⟨l.getD k t0,?_,qy.2 ⟨hf.symm,p,hp,rfl,HR⟩⟩;have:=aR (l.take i) k t0 (by rw[List.length_take];omega);have e2:(l.take i).getD k t0=l.getD k t0:=by simp[List.getD_eq_getElem?_getD,List.getElem?_take,hk]
   rwa [e2] at this
  ·exact List.mem_flatMap.2 ⟨l.getD i t0,by simp,qy.2 ⟨rfl,q,hq,e.symm,hz⟩⟩
 rw[h] at this
 cases this
attribute [-simp] List.getD_eq_getElem?_getD in
theorem C4 (s:Sg)(hs:re s)(i:Nat)(hi:i<s.aJ.length)(H:List aG)(T:ay)
  (fD:bM (H++[.cells (cG s),.cells (jb (s.aJ.getD i t0))]) T) (Q:Exit→St→Prop)
  (bad:∀k,k<i→(s.aJ.getD k t0).f=(s.aJ.getD i t0).f→fu (s.aJ.getD k t0).l (s.aJ.getD i t0).l=false→∀(e:Env)(rH:List aG)(rT:ay),bZ e 2=.bool false→Q .ret ⟨e,H++rH,T++rT⟩)
  (go:(∀k,k<i→(s.aJ.getD k t0).f=(s.aJ.getD i t0).f→fu (s.aJ.getD k t0).l (s.aJ.getD i t0).l=true)→∀e:Env,b9 (H.length+2) T.length e [(1,.ptr H.length 0),(3,.int .i64 (i:Nat))]→Q .normal ⟨e,H++[.cells (cG s),.cells (jb (s.aJ.getD i t0))],T⟩) :
  AW ⟨Tryz.prog,191,10,H.length,T.length,[]⟩ (iN [1,0,1,0,0,1,0,0,1,1,1] (Tryz.f36.body.getD .skip)) Q ⟨[(1,.ptr H.length 0),(3,.int .i64 (i:Nat)),(4,.ptr (H.length+1) 0)],H++[.cells (cG s),.cells (jb (s.aJ.getD i t0))],T⟩:=by
 conv=>arg 2;whnf
 have lV:=hs.t;have hw:=hs.w;obtain⟨q1,q2,q3⟩:=hw _ (aR s.aJ i t0 hi);apply ae;intro K h;simp(disch:=omega);apply h;clear h K;apply ai;refine aK (X:=Nat) (fun k=>⟨[(1,.ptr H.length 0),(3,.int .i64 (i:Nat)),(4,.ptr (H.length+1) 0),(5,.int .i64 (k:Nat))],H++[.cells (cG s),.cells (jb (s.aJ.getD i t0))],T⟩)
  (fun k=>k≤i∧∀m,m<k→(s.aJ.getD m t0).f=(s.aJ.getD i t0).f→fu (s.aJ.getD m t0).l (s.aJ.getD i t0).l=true) (fun k=>i-k) 0 ?_ ?_ ?_
 ·exact⟨zero_le _,fun j hj=>absurd hj (not_lt_zero _)⟩
 ·refine ag [] [] ?_ ?_ ?_ ?_ fD ?_
  all_goals simp 
 ·rintro k ⟨k1,k2⟩;refine af fun K5 gO=>?_;apply ae;intro K h;simp(disch:=omega);apply h;clear h K;refine aP rfl (fun da=>?_) (fun da=>?_)
  ·simp  at da;have lW:k<s.aJ.length:=by omega
   obtain⟨a1,_,a3⟩:=qf s.aJ k lW;obtain⟨w1,w2,w3⟩:=hw _ (aR s.aJ k t0 lW);have ca:=Ld (s.aJ.getD k t0).l (s.aJ.getD i t0).l w2 q2 w3 q3 (H++[.cells (cG s),.cells (jb (s.aJ.getD i t0))]) T .none .none;replace bad:=bad k da;have kZ:((s.aJ.getD k t0).f=(s.aJ.getD i t0).f→fu (s.aJ.getD k t0).l (s.aJ.getD i t0).l=true)→∀m,m<k+1→(s.aJ.getD m t0).f=(s.aJ.getD i t0).f→fu (s.aJ.getD m t0).l (s.aJ.getD i t0).l=true:=fun h m hm=>by
    rcases lt_or_ge m k with h1|h1
    ·exact k2 m h1
    ·have:m=k:=by omega
     subst this;exact h
   generalize fu (s.aJ.getD k t0).l (s.aJ.getD i t0).l=ab at *;generalize s.aJ.getD k t0=u at *;obtain⟨uf,uw,ul⟩:=u;simp only at a1 a3 ca bad kZ;apply ak;simp(disch:=omega) ;apply gO;clear gO;refine af fun K6 lp=>?_;apply ai
   by_cases hf:uf=(s.aJ.getD i t0).f
   ·have b1:(uf==(s.aJ.getD i t0).f)=true:=by simpa using hf
    cases ab with
    |false=>
     refine aM [] [] [] au (by kernel_rfl) (by kernel_rfl) fun K hK=>?_;simp(disch:=omega)[a1,a3,bH,lW,b1,hf];refine aB (ca) rfl ?_;simp(disch:=omega) ;apply hK;clear hK K;apply aH rfl;apply ae;intro K h;simp(disch:=omega);apply h;clear h K;apply an;rw[←List.append_nil T];exact bad hf rfl _ _ _ rfl
    |true=>
     refine aM [] [] [] au (by kernel_rfl) (by kernel_rfl) fun K hK=>?_;simp(disch:=omega)[a1,a3,bH,lW,b1,hf];refine aB (ca) rfl ?_;simp(disch:=omega) ;apply hK;clear hK K;apply aC rfl;apply ak;simp(disch:=omega) ;apply lp;clear lp;refine ar fun K hK=>?_;simp(disch:=omega) ;apply hK;clear hK K;refine⟨k+1,⟨by show k+1≤_;omega,kZ fun _=>rfl⟩,by show i-(k+1)<i-k;omega,?_⟩;refine ag [] [] ?_ ?_ ?_ ?_ fD ?_
     all_goals simp 
   ·have b1:(uf==(s.aJ.getD i t0).f)=false:=by simpa using hf
    refine aM [] [] [] au (by kernel_rfl) (by kernel_rfl) fun K hK=>?_;simp(disch:=omega)[a1,a3,bH,lW,b1,hf];apply hK;clear hK K;apply aC rfl;apply ak;simp(disch:=omega) ;apply lp;clear lp;refine ar fun K hK=>?_;simp(disch:=omega) ;apply hK;clear hK K;refine⟨k+1,⟨by show k+1≤_;omega,kZ fun h=>absurd h hf⟩,by show i-(k+1)<i-k;omega,?_⟩;refine ag [] [] ?_ ?_ ?_ ?_ fD ?_
    all_goals simp 
  ·simp  at da;apply aD;simp(disch:=omega) ;exact go (fun m h=>k2 m (by omega)) _ (by simp )
attribute [-simp] List.getD_eq_getElem?_getD in
theorem u5 (s:Sg)(hs:re s)(H:List aG)(T:ay):al Tryz.prog 36 [il s] H T (Is (.bool (aW s)) H T):=by
 refine al.dS ?_ (by simp);have hd:=hs.d;have lV:=hs.t;have Mf:s.aJ.length≤9223372036854775807:=by omega
 have Q3:1000≤maxLen:=by decide
 refine aj 10 [] Tryz.ntmps36 Tryz.func36 rfl (fun _ _=>Tryz.call36 _ _) (by simp) (fun HO=>?_);apply ae;intro K h;simp(disch:=omega);apply h;clear h K;have Of:bM (H++[.cells (cG s)]) T:=HO.snoc (by simp);refine af fun K1 aO=>?_;apply ae;intro K h;simp(disch:=omega);apply h;clear h K;apply ai;refine aK (X:=Nat) (fun i=>⟨[(1,.ptr H.length 0),(3,.int .i64 (i:Nat))],H++[.cells (cG s)],T⟩)
  (fun i=>i≤s.aJ.length∧∀j,j<i→jT s.aJ j=true∧((s.aJ.getD j t0).l≠[]∧bc (s.aJ.getD j t0).l=true)∧(jd s.aw 1 1000000000=true→qV s.aw (s.aJ.getD j t0).l=true)∧∀k,k<j→(s.aJ.getD k t0).f=(s.aJ.getD j t0).f→fu (s.aJ.getD k t0).l (s.aJ.getD j t0).l=true) (fun i=>s.aJ.length-i) 0 ?_ ?_ ?_
 ·exact⟨zero_le _,fun j hj=>absurd hj (not_lt_zero _)⟩
 ·refine ag [] [] ?_ ?_ ?_ ?_ Of ?_
  all_goals simp
 ·rintro i ⟨g1,g2⟩;refine af fun K2 aY=>?_;apply ae;intro K h;simp(disch:=omega);apply h;clear h K;refine aP rfl (fun hk=>?_) (fun hk=>?_)
  ·simp  at hk;have bY:=gk s.aJ i hk;obtain⟨q1,q2,q3⟩:=hs.w _ (aR s.aJ i t0 hk);apply ak;simp(disch:=omega) ;apply aY;clear aY;refine af fun K3 bA=>?_;apply ai;refine ae fun K hK=>?_;simp(disch:=omega)[bY,bH];apply hK;clear hK K;have L9:bM (H++[.cells (cG s),.cells (jb (s.aJ.getD i t0))]) T:=by
    have:=bM.snoc (vs:=jb (s.aJ.getD i t0)) Of (by simp);simpa using this
   have vJ:jT s.aJ i=false→aW s=false:=fun h=>v7 hk h;have sZ:qV s.aw (s.aJ.getD i t0).l=false→aW s=false:=fun h=>zp hk h;have aa1:=fun h=>nS (s:=s) h;have P7:=fun k Pb hv hf h=>v8 (s:=s) (MZ (k:=k) hk Pb hv hf h);have fX:jT s.aJ i=((decide (1≤(s.aJ.getD i t0).f∧(s.aJ.getD i t0).f≤4)&&okW (s.aJ.getD i t0).w)&&(decide (i=0)||bU (s.aJ.getD (i-1) t0).k (s.aJ.getD i t0).k)):=rfl;have DP:=fun h=>gk s.aJ (i-1) h;have nw:qV s.aw (s.aJ.getD i t0).l=((decide ((s.aJ.getD i t0).l≠[])&&bc (s.aJ.getD i t0).l)&&decide (∀p∈(s.aJ.getD i t0).l,p.1∈s.aw)):=rfl;generalize s.aJ.getD (i-1) t0=tp at *;obtain⟨t,ht⟩:∃t,t=s.aJ.getD i t0:=⟨_,rfl⟩
   have IJ:=C4 s hs i hk H T;have kZ:jT s.aJ i=true→t.l≠[]→bc t.l=true→(jd s.aw 1 1000000000=true→qV s.aw t.l=true)→(∀k,k<i→(s.aJ.getD k t0).f=t.f→fu (s.aJ.getD k t0).l t.l=true)→∀j,j<i+1→jT s.aJ j=true∧((s.aJ.getD j t0).l≠[]∧bc (s.aJ.getD j t0).l=true)∧(jd s.aw 1 1000000000=true→qV s.aw (s.aJ.getD j t0).l=true)∧∀k,k<j→(s.aJ.getD k t0).f=(s.aJ.getD j t0).f→fu (s.aJ.getD k t0).l (s.aJ.getD j t0).l=true:=fun h1 h2 h3 h4 h5 j hj=>by
    rcases lt_or_ge j i with h|h
    ·exact g2 j h
    ·have:j=i:=by omega
     subst this;rw[←ht];exact⟨h1,⟨h2,h3⟩,h4,h5⟩
   rw[←ht] at bY q1 q2 q3 L9 sZ P7 fX nw IJ;simp only[←ht];clear ht;have cw:=fun H=>Ji t.w q1 H T;have ck:=fun H hu hv=>AZ tp.k t.k (.sl tp.l.length (bp tp.l) .none) (.sl t.l.length (bp t.l) .none) H T hu hv;have cv:=fun H=>oe t.l (le_trans q2 (by omega)) (fun p hp=>le_trans (q3 p hp) Q3) H T .none;have cd:=fun H=>Hf t.l (le_trans q2 (by omega)) (fun p hp=>le_trans (q3 p hp) Q3) H T .none;generalize bU tp.k t.k=bq at *;obtain⟨f,w,l⟩:=t;simp only at q1 q2 q3 bY cw ck cv cd fX nw sZ kZ P7;refine af fun K4 ec=>?_;refine aM [] [] [] au (by kernel_rfl) (by kernel_rfl) fun K hK=>?_;have key:∀e b,(b=true→jT s.aJ i=true∧l≠[]∧bc l=true)→(b=false→aW s=false)→b9 (H.length+2) T.length e [(1,.ptr H.length 0),(3,.int .i64 (i:Nat)),(4,.ptr (H.length+1) 0),(62,.bool (!b))]→K ⟨e,H++[.cells (cG s),.cells (jb ⟨f,w,l⟩)],T⟩:=by
    intro e b hb r8 he;refine hK _ (aQ ⟨[(1,.ptr H.length 0),(3,.int .i64 (i:Nat)),(4,.ptr (H.length+1) 0),(62,.bool (!b))],H++[.cells (cG s),.cells (jb ⟨f,w,l⟩)],T⟩ (ag [] [] (by simp) (by simp) (by simp) (by simp) L9 (by simpa using he)) ?_)
    cases b with
    |false=>
     apply aH rfl;apply ae;intro K h;simp(disch:=omega);apply h;clear h K;apply an;simp(disch:=omega) ;rw[r8 rfl]
    |true=>
    obtain⟨b1,b2,b3⟩:=hb rfl;have n9:kN l=aw l:=by unfold kN;rw[if_pos b3]
    have BC:jd (aw l) 1 1000000000=true:=by unfold bc at b3;rw[Bool.and_eq_true] at b3;exact b3.1
    rw[n9] at cd;have cwo:=fun H=>AR (aw l) s.aw (by simp[aw];exact q2) hd H T .none .none;have Lk:=GX (fun m=>!m) (aw l) s.aw;have hdc:(aw l).length=l.length:=by simp[aw]
    have hwn:jd s.aw 1 1000000000=true→((gW (fun m=>!m) (aw l) s.aw).length=0↔∀p∈l,p.1∈s.aw):=fun h=>by
     rw[←CE,I2 BC h];simp only[aw,List.mem_map,forall_exists_index,and_imp,forall_apply_eq_imp_iff₂]
    have S9:jd s.aw 1 1000000000=true→((gW (fun m=>!m) (aw l) s.aw).length=0↔qV s.aw l=true):=fun h=>by
     rw[hwn h,nw,decide_eq_true b2,b3];simp
    generalize gW (fun m=>!m) (aw l) s.aw=kr at *;apply aC rfl;apply ak;simp(disch:=omega) ;apply ec;clear ec;refine af fun K5 gO=>?_
    by_cases ZT:kr.length=0
    rotate_left
    ·have bk:decide ((0:Int)<kr.length)=true:=decide_eq_true (by omega);have nk:(0:Int)<kr.length:=by omega
     have n0:kr≠[]:=fun e=>ZT (by rw[e];rfl);have n1:0<kr.length:=by omega
     refine aM [] [] [] au (by kernel_rfl) (by kernel_rfl) fun K hK=>?_;simp(disch:=omega) ;refine aB (cd _) rfl ?_;simp(disch:=omega) ;refine aB (cwo _) rfl ?_;simp(disch:=omega)[bk,nk,n0,n1];apply hK;clear hK K;apply aH rfl;apply ae;intro K h;simp(disch:=omega);apply h;clear h K;apply an;simp(disch:=omega) ;have:aW s=false:=by
      cases tS:jd s.aw 1 1000000000 with
      |false=>exact aa1 tS
      |true=>
       refine sZ ?_
       cases ho:qV s.aw l with
       |false=>rfl
       |true=>exact absurd ((S9 tS).2 ho) ZT
     rw[this]
    ·have e0:kr=[]:=List.length_eq_zero_iff.1 ZT;subst e0;refine aM [] [] [] au (by kernel_rfl) (by kernel_rfl) fun K hK=>?_;simp(disch:=omega) ;refine aB (cd _) rfl ?_;simp(disch:=omega) ;refine aB (cwo _) rfl ?_;simp(disch:=omega) ;apply hK;clear hK K;apply aC rfl;apply ak;simp(disch:=omega) ;apply gO;clear gO;refine aQ ⟨[(1,.ptr H.length 0),(3,.int .i64 (i:Nat)),(4,.ptr (H.length+1) 0)],H++[.cells (cG s),.cells (jb ⟨f,w,l⟩)],T⟩ (ag [] [] (by simp) (by simp) (by simp) (by simp) L9 (by simp)) ?_;refine IJ L9 _ (fun k Pb hf Sp e rH rT he=>?_) fun Sp e he=>?_
     ·show rn Tryz.prog Tryz.f36.results.toList (fun r H' T'=>(∃rH,H'=H++rH)∧(∃rT,T'=T++rT)∧(r=.bool (aW s)∨cC r=.bool (aW s))) .ret _;simp[he,P7 k Pb b3 hf Sp]
     ·refine bA _ (aQ ⟨[(1,.ptr H.length 0),(3,.int .i64 (i:Nat))],H++[.cells (cG s)],T⟩ (ag [.cells (jb ⟨f,w,l⟩)] [] (by simp) (by simp) (by simp) (by simp) Of (by simpa using he)) ?_);refine ar fun K hK=>?_;simp(disch:=omega) ;apply hK;clear hK K;refine⟨i+1,⟨by show i+1≤_;omega,kZ b1 b2 b3 (fun h=>(S9 h).1 rfl) Sp⟩,by show s.aJ.length-(i+1)<s.aJ.length-i;omega,?_⟩;refine ag [] [] ?_ ?_ ?_ ?_ Of ?_
      all_goals simp
   clear hK IJ
   by_cases v1:f<1
   ·have w1:decide (f<1)=true:=decide_eq_true v1;simp(disch:=omega)[w1,v1];refine key _ false (fun h=>by cases h) (fun _=>vJ (by rw[fX,decide_eq_false (by omega:¬(1≤f∧f≤4))];rfl)) (by simp)
   have w1:decide (f<1)=false:=decide_eq_false v1
   by_cases v2:4<f
   ·have w2:decide (4<f)=true:=decide_eq_true v2;simp(disch:=omega)[w1,v1,w2,v2];refine key _ false (fun h=>by cases h) (fun _=>vJ (by rw[fX,decide_eq_false (by omega:¬(1≤f∧f≤4))];rfl)) (by simp)
   have w2:decide (4<f)=false:=decide_eq_false v2;rw[decide_eq_true (by omega:1≤f∧f≤4),Bool.true_and] at fX
   cases hw:okW w with
   |false=>
    rw[hw] at cw fX;simp(disch:=omega)[w1,v1,w2,v2];refine aB (cw _) rfl ?_;simp(disch:=omega) ;refine key _ false (fun h=>by cases h) (fun _=>vJ (by rw[fX];rfl)) (by simp)
   |true=>
   rw[hw] at cw fX;rw[Bool.true_and] at fX
   by_cases v3:l.length=0
   ·have e3:l=[]:=List.length_eq_zero_iff.1 v3;subst e3;simp(disch:=omega)[w1,v1,w2,v2];refine aB (cw _) rfl ?_;simp(disch:=omega) ;refine key _ false (fun h=>by cases h) (fun _=>sZ (by rw[nw];rfl)) (by simp)
   have w3:((l.length:Int)==0)=false:=beq_eq_false_iff_ne.2 (by omega);have n3:l≠[]:=fun e=>v3 (by rw[e];rfl)
   cases yv:bc l with
   |false=>
    rw[yv] at cv nw;simp(disch:=omega)[w1,v1,w2,v2];refine aB (cw _) rfl ?_;simp(disch:=omega)[w3,n3];refine aB (cv _) rfl ?_;simp(disch:=omega) ;refine key _ false (fun h=>by cases h) (fun _=>sZ (by rw[nw];simp)) (by simp)
   |true=>
   rw[yv] at cv;rcases Nat.eq_zero_or_pos i with h5|h5
   ·subst h5;simp(disch:=omega)[w1,v1,w2,v2];refine aB (cw _) rfl ?_;simp(disch:=omega)[w3,n3];refine aB (cv _) rfl ?_;simp(disch:=omega) ;refine key _ true (fun _=>⟨by rw[fX];rfl,n3,yv⟩) (fun h=>by cases h) (by simp)
   ·have e6:((i:Int)-1)=((i-1:Nat):Int):=by omega
    have b5:decide ((0:Int)<(i:Int))=true:=decide_eq_true (by omega);have sV:=DP (by omega);rw[decide_eq_false (by omega:¬i=0),Bool.false_or] at fX;simp(disch:=omega)[w1,v1,w2,v2];refine aB (cw _) rfl ?_;simp(disch:=omega)[w3,n3];refine aB (cv _) rfl ?_;simp(disch:=omega)[b5,h5,e6,sV,bH];refine aB (ck _ (by simp) (by simp)) rfl ?_;simp(disch:=omega) 
    cases bq with
    |false=>
     refine key _ false (fun h=>by cases h) (fun _=>vJ (by rw[fX])) (by simp)
    |true=>
     refine key _ true (fun _=>⟨by rw[fX],n3,yv⟩) (fun h=>by cases h) (by simp)
  ·simp  at hk;apply aD;simp(disch:=omega) ;apply aO;clear aO;have hi:i=s.aJ.length:=by omega
   subst hi;refine aQ ⟨[(1,.ptr H.length 0)],H++[.cells (cG s)],T⟩ (ag [] [] (by simp) (by simp) (by simp) (by simp) Of (by simp)) ?_;exact Gv s hs (fun tS=>⟨fun j hj=>⟨(g2 j hj).1,(g2 j hj).2.2.1 tS⟩,oq (fun j hj=>(g2 j hj).2.1.2) fun j k hj hkj=>(g2 j hj).2.2.2 k hkj⟩) H T Of
end Go.Proofs.YtneohapkboaplaaGreat
