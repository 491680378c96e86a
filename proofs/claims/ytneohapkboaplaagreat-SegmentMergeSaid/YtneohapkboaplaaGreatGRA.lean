/- The reference's order of terms and items, lists without a common position (layer 39). The reference's Valid (layer 39): the columns. The reference's Valid (layer 39): the terms. The reference's Valid (layer 39): it is the program's.
  Conditions: lengths below 400 or 1000, as each theorem says. -/
import Derived.Test.YtneohapkboaplaaGreatGV
import Derived.Test.YtneohapkboaplaaGreatPZ
set_option linter.all false
set_option maxRecDepth 100000
set_option maxHeartbeats 16000000
open Nat (zero_le not_lt_zero lt_or_ge le_trans)
namespace Go.Proofs.YtneohapkboaplaaGreat
open Go Go.Am iF eJ dh
attribute [-simp] List.getD_eq_getElem?_getD in
theorem oz (x y:Ky)(u v:AV)(H:List aA)(T:ar)(hu:Below H.length T.length u)(hv:Below H.length T.length v):aq Tryz.prog 87 [.agg [.int .i64 x.1,.str x.2,u],.agg [.int .i64 y.1,.str y.2,v]] H T (Is (.bool (bM x y)) H T):=by
 refine aq.cH ?_ (by simp);generalize hq:bM x y=q;unfold bM at hq;have hu2:=hu.more (n':=H.length+1) (t':=T.length) (by omega) (Nat.le_refl _);obtain⟨x1,x2⟩:=x;obtain⟨y1,y2⟩:=y;simp only at hq;refine aj 5 [] Tryz.ntmps87 Tryz.func87 rfl (fun _ _=>Tryz.call87 _ _) (by simp) (fun HO=>?_);apply ae;intro K h;simp(disch:=omega);apply h;clear h K
 by_cases h1:x1<y1
 ·have b1:decide (x1<y1)=true:=decide_eq_true h1;rw[b1] at hq;refine ae fun K hK=>?_;simp(disch:=omega)[b1,h1];apply hK;clear hK K;apply az;simp(disch:=omega) ;rw[←hq];rfl
 ·have b1:decide (x1<y1)=false:=decide_eq_false h1
  by_cases h2:x1=y1
  ·have b2:(x1==y1)=true:=by simpa using h2
   rw[b1,decide_eq_true h2,Bool.true_and,Bool.false_or] at hq;refine ae fun K hK=>?_;simp(disch:=omega)[b1,h1,b2,h2];apply hK;clear hK K;apply az;simp(disch:=omega) ;exact hq
  ·have b2:(x1==y1)=false:=by simpa using h2
   rw[b1,decide_eq_false h2,Bool.false_and,Bool.false_or] at hq;refine ae fun K hK=>?_;simp(disch:=omega)[b1,h1,b2,h2];apply hK;clear hK K;apply az;simp(disch:=omega) ;exact hq.symm
attribute [-simp] List.getD_eq_getElem?_getD in
theorem sM (x y:Nm)(H:List aA)(T:ar):aq Tryz.prog 91 [.agg [.int .i64 x.1,.int .i64 x.2],.agg [.int .i64 y.1,.int .i64 y.2]] H T (Is (.bool (cP x y)) H T):=by
 refine aq.cH ?_ (by simp);generalize hq:cP x y=q;unfold cP at hq;obtain⟨x1,x2⟩:=x;obtain⟨y1,y2⟩:=y;simp only at hq;refine aj 5 [] Tryz.ntmps91 Tryz.func91 rfl (fun _ _=>Tryz.call91 _ _) (by simp) (fun HO=>?_);apply ae;intro K h;simp(disch:=omega);apply h;clear h K
 by_cases h1:x1<y1
 ·have b1:decide (x1<y1)=true:=decide_eq_true h1;rw[b1] at hq;refine ae fun K hK=>?_;simp(disch:=omega)[b1,h1];apply hK;clear hK K;apply az;simp(disch:=omega) ;rw[←hq];rfl
 ·have b1:decide (x1<y1)=false:=decide_eq_false h1
  by_cases h2:x1=y1
  ·have b2:(x1==y1)=true:=by simpa using h2
   rw[b1,decide_eq_true h2,Bool.true_and,Bool.false_or] at hq;refine ae fun K hK=>?_;simp(disch:=omega)[b1,h1,b2,h2];apply hK;clear hK K;apply az;simp(disch:=omega) ;exact hq
  ·have b2:(x1==y1)=false:=by simpa using h2
   rw[b1,decide_eq_false h2,Bool.false_and,Bool.false_or] at hq;refine ae fun K hK=>?_;simp(disch:=omega)[b1,h1,b2,h2];apply hK;clear hK K;apply az;simp(disch:=omega) ;exact hq.symm
def fE (a b:List Ps):Bool:=(List.range a.length).all fun i=>(List.range (posOf b (a.getD i p0).1).length).all fun k=>!decide ((posOf b (a.getD i p0).1).getD k 0∈(a.getD i p0).2)
theorem KO (l:List Ps)(hp:∀p∈l,p.2.length≤400)(d:Int):(posOf l d).length≤400:=by
 induction l with
 |nil=>simp[posOf]
 |cons p l ih=>
  by_cases e:p.1=d
  ·subst e;rw[cO];exact hp p (by simp)
  ·rw[cG e];exact ih fun q hq=>hp q (List.mem_cons_of_mem _ hq)
attribute [-simp] List.getD_eq_getElem?_getD in
theorem LQ (a b:List Ps)(ha:a.length≤400)(hb:b.length≤400)(Mp:∀p∈a,p.2.length≤400)(Mo:∀p∈b,p.2.length≤400)(H:List aA)(T:ar)(ta tb:Tag) :
  aq Tryz.prog 90 [.sl a.length (bp a) ta,.sl b.length (bp b) tb] H T (Is (.bool (fE a b)) H T):=by
 refine aq.cD (aq.lD ?_);have Ro:400≤maxLen:=by decide
 have bad:∀i k,i<a.length→k<(posOf b (a.getD i p0).1).length→(posOf b (a.getD i p0).1).getD k 0∈(a.getD i p0).2→fE a b=false:=fun i k hi hk h=>
  jd hi (jd hk (by rw[decide_eq_true h];rfl))
 have qt:(∀i,i<a.length→∀k,k<(posOf b (a.getD i p0).1).length→(posOf b (a.getD i p0).1).getD k 0∉(a.getD i p0).2)→fE a b=true:=fun h=>
  fq fun i hi=>fq fun k hk=>by rw[decide_eq_false (h i hi k hk)];rfl
 generalize fE a b=q at *;refine aj 8 [] Tryz.ntmps90 Tryz.func90 rfl (fun _ _=>Tryz.call90 _ _) (by simp) (fun HO=>?_);apply ae;intro K h;simp(disch:=omega);apply h;clear h K;refine af fun K1 aQ=>?_;apply ae;intro K h;simp(disch:=omega);apply h;clear h K;apply ah;refine aG (X:=Nat) (fun i=>⟨[(0,.sl a.length (bp a) .none),(1,.sl b.length (bp b) .none),(5,.int .i64 (i:Nat))],H,T⟩)
  (fun i=>i≤a.length∧∀j,j<i→∀k,k<(posOf b (a.getD j p0).1).length→(posOf b (a.getD j p0).1).getD k 0∉(a.getD j p0).2) (fun i=>a.length-i) 0 ?_ ?_ ?_
 ·exact⟨zero_le _,fun j hj=>absurd hj (not_lt_zero _)⟩
 ·refine ag [] [] ?_ ?_ ?_ ?_ HO ?_
  all_goals simp
 ·rintro i ⟨g1,g2⟩;refine af fun K2 aW=>?_;apply ae;intro K h;simp(disch:=omega);apply h;clear h K;refine aN rfl (fun hk=>?_) (fun hk=>?_)
  ·simp  at hk;have mg:=im a i hk;have c:=Kg b (a.getD i p0).1 (by omega) H T .none;have CC:=KO b Mo (a.getD i p0).1;have pt:=Mp _ (aR a i p0 hk);replace bad:=fun k=>bad i k hk;have iK:(∀k,k<(posOf b (a.getD i p0).1).length→(posOf b (a.getD i p0).1).getD k 0∉(a.getD i p0).2)→∀j,j<i+1→∀k,k<(posOf b (a.getD j p0).1).length→(posOf b (a.getD j p0).1).getD k 0∉(a.getD j p0).2:=fun h j hj=>by
    rcases lt_or_ge j i with h1|h1
    ·exact g2 j h1
    ·have:j=i:=by omega
     subst this;exact h
   generalize posOf b (a.getD i p0).1=ps at *;apply ai;simp(disch:=omega) ;apply aW;clear aW;refine af fun K3 bz=>?_;apply ah;refine ae fun K hK=>?_;simp(disch:=omega)[mg,aY];refine ak (c) ?_;simp(disch:=omega) ;apply hK;clear hK K;apply ae;intro K h;simp(disch:=omega);apply h;clear h K;apply ah;refine aG (X:=Nat) (fun k=>⟨[(0,.sl a.length (bp a) .none),(1,.sl b.length (bp b) .none),(5,.int .i64 (i:Nat)),(6,.sl ps.length (ints ps) .none),(7,.int .i64 (k:Nat))],H,T⟩)
    (fun k=>k≤ps.length∧∀m,m<k→ps.getD m 0∉(a.getD i p0).2) (fun k=>ps.length-k) 0 ?_ ?_ ?_
   ·exact⟨zero_le _,fun j hj=>absurd hj (not_lt_zero _)⟩
   ·refine ag [] [] ?_ ?_ ?_ ?_ HO ?_
    all_goals simp
   ·rintro k ⟨k1,k2⟩;refine af fun K5 gC=>?_;apply ae;intro K h;simp(disch:=omega);apply h;clear h K;refine aN rfl (fun dg=>?_) (fun dg=>?_)
    ·simp  at dg;have FJ:=aS (xs:=ps) (k:=k) dg;have ch:=uI (a.getD i p0).2 (ps.getD k 0) (by omega) H T .none;replace bad:=bad k dg;have Uv:ps.getD k 0∉(a.getD i p0).2→∀m,m<k+1→ps.getD m 0∉(a.getD i p0).2:=fun h m hm=>by
      rcases lt_or_ge m k with h1|h1
      ·exact k2 m h1
      ·have:m=k:=by omega
       subst this;exact h
     generalize ps.getD k 0=z at *;apply ai;simp(disch:=omega) ;apply gC;clear gC;refine af fun K6 iH=>?_;apply ah
     by_cases hm:z∈(a.getD i p0).2
     ·rw[decide_eq_true hm] at ch;refine aI [] [] [] al (by kernel_rfl) (by kernel_rfl) fun K hK=>?_;simp(disch:=omega)[mg,aY,FJ];refine aB (ch) rfl ?_;simp(disch:=omega) ;apply hK;clear hK K;apply aF rfl;apply ae;intro K h;simp(disch:=omega);apply h;clear h K;apply az;simp(disch:=omega) ;rw[bad hm];exact⟨rfl,rfl,rfl⟩
     ·rw[decide_eq_false hm] at ch;refine aI [] [] [] al (by kernel_rfl) (by kernel_rfl) fun K hK=>?_;simp(disch:=omega)[mg,aY,FJ];refine aB (ch) rfl ?_;simp(disch:=omega) ;apply hK;clear hK K;apply aD rfl;apply ai;simp(disch:=omega) ;apply iH;clear iH;refine au fun K hK=>?_;simp(disch:=omega) ;apply hK;clear hK K;refine⟨k+1,⟨by show k+1≤_;omega,Uv hm⟩,by show ps.length-(k+1)<ps.length-k;omega,?_⟩;refine ag [] [] ?_ ?_ ?_ ?_ HO ?_
      all_goals simp
    ·simp  at dg;apply aC;simp(disch:=omega) ;apply bz;clear bz;refine au fun K hK=>?_;simp(disch:=omega) ;apply hK;clear hK K;refine⟨i+1,⟨by show i+1≤_;omega,iK fun k h=>k2 k (by omega)⟩,by show a.length-(i+1)<a.length-i;omega,?_⟩;refine ag [] [] ?_ ?_ ?_ ?_ HO ?_
     all_goals simp
  ·simp  at hk;apply aC;simp(disch:=omega) ;apply aQ;clear aQ;apply ae;intro K h;simp(disch:=omega);apply h;clear h K;apply az;simp(disch:=omega) ;rw[qt fun j hj=>g2 j (by omega)];exact⟨rfl,rfl,rfl⟩
attribute [-simp] List.getD_eq_getElem?_getD in
theorem Hd (an:List Int)(aK:List Tm)(aw:List Cl)(f:Int)(x:List Nm)(i:Nat)(lN:an.length≤1000)(vT:x.length≤1000)(H:List aA)(T:ar)
  (dy:bC (H++[.cells (bH ⟨an,aK,aw⟩),.cells (fL ⟨f,x⟩)]) T) (Q:Exit→St→Prop)
  (bad:∀k,k<x.length→kQ an x k=false→∀(e:Env)(rH:List aA)(rT:ar),bF e 2=.bool false→Q .ret ⟨e,H++rH,T++rT⟩)
  (go:(∀k,k<x.length→kQ an x k=true)→∀e:Env,bt (H.length+2) T.length e [(1,.ptr H.length 0),(6,.int .i64 (i:Nat))]→Q .normal ⟨e,H++[.cells (bH ⟨an,aK,aw⟩),.cells (fL ⟨f,x⟩)],T⟩) :
  AW ⟨Tryz.prog,191,10,H.length,T.length,[]⟩ (du [1,1,0,1,0,0,1,0,0,1,1] (Tryz.f36.body.getD .skip)) Q ⟨[(1,.ptr H.length 0),(6,.int .i64 (i:Nat)),(7,.ptr (H.length+1) 0)],H++[.cells (bH ⟨an,aK,aw⟩),.cells (fL ⟨f,x⟩)],T⟩:=by
 conv=>arg 2;whnf
 have FX:x.length≤9223372036854775807:=by omega
 have hY:1000≤maxLen:=by decide
 apply ae;intro K h;simp(disch:=omega);apply h;clear h K;apply ah;refine aG (X:=Nat) (fun k=>⟨[(1,.ptr H.length 0),(6,.int .i64 (i:Nat)),(7,.ptr (H.length+1) 0),(8,.int .i64 (k:Nat))],H++[.cells (bH ⟨an,aK,aw⟩),.cells (fL ⟨f,x⟩)],T⟩)
  (fun k=>k≤x.length∧∀j,j<k→kQ an x j=true) (fun k=>x.length-k) 0 ?_ ?_ ?_
 ·exact⟨zero_le _,fun j hj=>absurd hj (not_lt_zero _)⟩
 ·refine ag [] [] ?_ ?_ ?_ ?_ dy ?_
  all_goals simp
 ·rintro m ⟨m1,m2⟩;refine af fun K5 gC=>?_;apply ae;intro K h;simp(disch:=omega);apply h;clear h K;refine aN rfl (fun dg=>?_) (fun dg=>?_)
  ·simp  at dg;have pL:=eA x m dg;have er:kQ an x m=((decide ((x.getD m n0).2∈an)&&decide (0≤(x.getD m n0).1∧(x.getD m n0).1≤1000000000000))&&(decide (m=0)||cP (x.getD (m-1) n0) (x.getD m n0))):=rfl;have cn:=fun H T=>sM (x.getD (m-1) n0) (x.getD m n0) H T;generalize cP (x.getD (m-1) n0) (x.getD m n0)=cq at *;have wI:=fun h=>eA x (m-1) h;generalize x.getD (m-1) n0=y at *;generalize Rm:x.getD m n0=z at *;obtain⟨x1,x2⟩:=z;obtain⟨y1,y2⟩:=y;simp only at pL wI er;apply ai;simp(disch:=omega) ;apply gC;clear gC;refine af fun K6 iH=>?_;apply ah;refine ae fun K hK=>?_;simp(disch:=omega)[pL,bG];apply hK;clear hK K;have nG:bC (H++[.cells (bH ⟨an,aK,aw⟩),.cells (fL ⟨f,x⟩),.cells [.int .i64 x1,.int .i64 x2]]) T:=by
    have:=bC.snoc (vs:=[.int .i64 x1,.int .i64 x2]) dy (by simp);simpa using this
   have cb:=uI an x2 (by omega) (H++[.cells (bH ⟨an,aK,aw⟩),.cells (fL ⟨f,x⟩),.cells [.int .i64 x1,.int .i64 x2]]) T .none;have c:=cn (H++[.cells (bH ⟨an,aK,aw⟩),.cells (fL ⟨f,x⟩),.cells [.int .i64 x1,.int .i64 x2]]) T;refine aI [] [] [] al (by kernel_rfl) (by kernel_rfl) fun K hK=>?_;have gn:∀e b,b=kQ an x m→bt (H.length+3) T.length e [(1,.ptr H.length 0),(6,.int .i64 (i:Nat)),(7,.ptr (H.length+1) 0),(8,.int .i64 (m:Nat)),(181,.bool (!b))]→K ⟨e,H++[.cells (bH ⟨an,aK,aw⟩),.cells (fL ⟨f,x⟩),.cells [.int .i64 x1,.int .i64 x2]],T⟩:=by
    intro e b2 iE vM;refine hK _ (aH ⟨[(1,.ptr H.length 0),(6,.int .i64 (i:Nat)),(7,.ptr (H.length+1) 0),(8,.int .i64 (m:Nat)),(181,.bool (!b2))],H++[.cells (bH ⟨an,aK,aw⟩),.cells (fL ⟨f,x⟩)],T⟩ (ag [.cells [.int .i64 x1,.int .i64 x2]] [] (by simp) (by simp) (by simp) (by simp) dy (by simpa using vM)) ?_)
    cases b2 with
    |false=>
     apply aF rfl;apply ae;intro K h;simp(disch:=omega);apply h;clear h K;apply az;rw[←List.append_nil T];exact bad m dg iE.symm _ _ _ rfl
    |true=>
     apply aD rfl;apply ai;simp(disch:=omega) ;apply iH;clear iH;refine au fun K hK=>?_;simp(disch:=omega) ;apply hK;clear hK K;refine⟨m+1,⟨by show m+1≤_;omega,fun j hj=>?_⟩,by show x.length-(m+1)<x.length-m;omega,?_⟩
     ·rcases lt_or_ge j m with h|h
      ·exact m2 j h
      ·have:j=m:=by omega
       subst this;exact iE.symm
     ·refine ag [] [] ?_ ?_ ?_ ?_ dy ?_
      all_goals simp
   clear hK
   by_cases v3:x1<0
   ·have w3:decide (x1<0)=true:=decide_eq_true v3;simp(disch:=omega)[w3,v3];refine gn _ false (by rw[er,decide_eq_false (by omega:¬(0≤x1∧x1≤1000000000000))];simp) (by simp)
   have w3:decide (x1<0)=false:=decide_eq_false v3
   by_cases v4:1000000000000<x1
   ·have w4:decide (1000000000000<x1)=true:=decide_eq_true v4;simp(disch:=omega)[w3,v3,w4,v4];refine gn _ false (by rw[er,decide_eq_false (by omega:¬(0≤x1∧x1≤1000000000000))];simp) (by simp)
   have w4:decide (1000000000000<x1)=false:=decide_eq_false v4;rw[decide_eq_true (by omega:0≤x1∧x1≤1000000000000),Bool.and_true] at er
   by_cases v0:x2∈an
   rotate_left
   ·rw[decide_eq_false v0] at cb;simp(disch:=omega)[w3,v3,w4,v4];refine aB (cb) rfl ?_;simp(disch:=omega) ;refine gn _ false (by rw[er,decide_eq_false v0];rfl) (by simp)
   rw[decide_eq_true v0] at cb;rw[decide_eq_true v0,Bool.true_and] at er;rcases Nat.eq_zero_or_pos m with h5|h5
   ·subst h5;simp(disch:=omega)[w3,v3,w4,v4];refine aB (cb) rfl ?_;simp(disch:=omega) ;refine gn _ true (by rw[er];rfl) (by simp)
   ·have e6:((m:Int)-1)=((m-1:Nat):Int):=by omega
    have b5:decide ((0:Int)<(m:Int))=true:=decide_eq_true (by omega);have nL:=wI (by omega);rw[decide_eq_false (by omega:¬m=0),Bool.false_or] at er;simp(disch:=omega)[w3,v3,w4,v4];refine aB (cb) rfl ?_;simp(disch:=omega)[b5,h5,e6,nL,bG];refine aB (c) rfl ?_;simp(disch:=omega) ;refine gn _ cq er.symm (by simp)
  ·simp  at dg;apply aC;simp(disch:=omega) ;exact go (fun k h=>m2 k (by omega)) _ (by simp)
attribute [-simp] List.getD_eq_getElem?_getD in
theorem He (s:Sg)(hs:mh s)(ht:ju s.an 1 1000000000=true→(∀i,i<s.aK.length→kP s.aK i=true∧vK s.an (s.aK.getD i t0).l=true)∧(nw s.aK).Nodup)
  (H:List aA) (T:ar) (HO:bC (H++[.cells (bH s)]) T) :
  AW ⟨Tryz.prog,191,10,H.length,T.length,[]⟩ (du [1,1] (Tryz.f36.body.getD .skip)) (nN Tryz.prog Tryz.f36.results.toList fun r H' T'=>(∃rH,H'=H++rH)∧(∃rT,T'=T++rT)∧(r=.bool (aP s)∨cY r=.bool (aP s))) ⟨[(1,.ptr H.length 0)],H++[.cells (bH s)],T⟩:=by
 conv=>arg 2;whnf
 have hd:=hs.d;have lN:s.an.length≤1000:=le_trans hs.d (by omega);have fK:=hs.c;have hx:=hs.x;have bad:=fun i h=>wY (s:=s) (i:=i) h;have pV:=fun i k h=>Ar (s:=s) (i:=i) (k:=k) h;have TS:=fun h=>ow (s:=s) h;have qt:=fun h=>ou h (by omega) (ht h).1 (ht h).2;have cv:=fun H=>fy s.an (le_trans hs.d (by decide)) H T .none;obtain⟨an,aK,aw⟩:=s;simp only at lN fK hx bad pV qt TS cv hd;generalize hq:aP ⟨an,aK,aw⟩=q at *;have MS:aw.length≤9223372036854775807:=by omega
 refine af fun K1 aQ=>?_;apply ae;intro K h;simp(disch:=omega);apply h;clear h K;apply ah;refine aG (X:=Nat) (fun i=>⟨[(1,.ptr H.length 0),(6,.int .i64 (i:Nat))],H++[.cells (bH ⟨an,aK,aw⟩)],T⟩)
  (fun i=>i≤aw.length∧∀j,j<i→nJ aw j=true∧∀k,k<(aw.getD j c0).x.length→kQ an (aw.getD j c0).x k=true) (fun i=>aw.length-i) 0 ?_ ?_ ?_
 ·exact⟨zero_le _,fun j hj=>absurd hj (not_lt_zero _)⟩
 ·refine ag [] [] ?_ ?_ ?_ ?_ HO ?_
  all_goals simp
 ·rintro i ⟨g1,g2⟩;refine af fun K2 aW=>?_;apply ae;intro K h;simp(disch:=omega);apply h;clear h K;refine aN rfl (fun hk=>?_) (fun hk=>?_)
  ·simp  at hk;have bA:=ot aw i hk;have vT:=hx _ (aR aw i c0 hk);have gD:nJ aw i=((decide (5≤(aw.getD i c0).f∧(aw.getD i c0).f≤7)&&decide ((aw.getD i c0).x≠[]))&&(decide (i=0)||decide ((aw.getD (i-1) c0).f<(aw.getD i c0).f))):=rfl;have fP:=fun h=>(oN aw (i-1) h).1;generalize (aw.getD (i-1) c0).f=fp at *;replace pV:=fun k=>pV i k hk;have iK:(∀k,k<(aw.getD i c0).x.length→kQ an (aw.getD i c0).x k=true)→nJ aw i=true→∀j,j<i+1→nJ aw j=true∧∀k,k<(aw.getD j c0).x.length→kQ an (aw.getD j c0).x k=true:=fun h1 h2 j hj=>by
    rcases lt_or_ge j i with h|h
    ·exact g2 j h
    ·have:j=i:=by omega
     subst this;exact⟨h2,h1⟩
   generalize aw.getD i c0=c at *;obtain⟨f,x⟩:=c;simp only at bA vT gD pV iK;have FX:x.length≤9223372036854775807:=by omega
   apply ai;simp(disch:=omega) ;apply aW;clear aW;refine af fun K3 bz=>?_;apply ah;refine ae fun K hK=>?_;simp(disch:=omega)[bA,cE];apply hK;clear hK K;have dy:bC (H++[.cells (bH ⟨an,aK,aw⟩),.cells (fL ⟨f,x⟩)]) T:=by
    have:=bC.snoc (vs:=fL ⟨f,x⟩) HO (by simp);simpa using this
   refine af fun K4 eV=>?_;refine aI [] [] [] al (by kernel_rfl) (by kernel_rfl) fun K hK=>?_;have key:∀e b,b=nJ aw i→bt (H.length+2) T.length e [(1,.ptr H.length 0),(6,.int .i64 (i:Nat)),(7,.ptr (H.length+1) 0),(138,.bool (!b))]→K ⟨e,H++[.cells (bH ⟨an,aK,aw⟩),.cells (fL ⟨f,x⟩)],T⟩:=by
    intro e b hb he;refine hK _ (aH ⟨[(1,.ptr H.length 0),(6,.int .i64 (i:Nat)),(7,.ptr (H.length+1) 0),(138,.bool (!b))],H++[.cells (bH ⟨an,aK,aw⟩),.cells (fL ⟨f,x⟩)],T⟩ (ag [] [] (by simp) (by simp) (by simp) (by simp) dy (by simpa using he)) ?_)
    cases b with
    |false=>
     apply aF rfl;apply ae;intro K h;simp(disch:=omega);apply h;clear h K;apply az;simp(disch:=omega) ;rw[bad i hk hb.symm]
    |true=>
    apply aD rfl;apply ai;simp(disch:=omega) ;apply eV;clear eV;refine aH ⟨[(1,.ptr H.length 0),(6,.int .i64 (i:Nat)),(7,.ptr (H.length+1) 0)],H++[.cells (bH ⟨an,aK,aw⟩),.cells (fL ⟨f,x⟩)],T⟩ (ag [] [] (by simp) (by simp) (by simp) (by simp) dy (by simp)) ?_;refine Hd an aK aw f x i lN vT H T dy _ (fun k qm Mz e rH rT he=>?_) fun hg e he=>?_
    ·show nN Tryz.prog Tryz.f36.results.toList (fun r H' T'=>(∃rH,H'=H++rH)∧(∃rT,T'=T++rT)∧(r=.bool q∨cY r=.bool q)) .ret _;simp[he,pV k qm Mz]
    ·refine bz _ (aH ⟨[(1,.ptr H.length 0),(6,.int .i64 (i:Nat))],H++[.cells (bH ⟨an,aK,aw⟩)],T⟩ (ag [.cells (fL ⟨f,x⟩)] [] (by simp) (by simp) (by simp) (by simp) HO (by simpa using he)) ?_);refine au fun K hK=>?_;simp(disch:=omega) ;apply hK;clear hK K;refine⟨i+1,⟨by show i+1≤_;omega,iK hg hb.symm⟩,by show aw.length-(i+1)<aw.length-i;omega,?_⟩;refine ag [] [] ?_ ?_ ?_ ?_ HO ?_
     all_goals simp
   clear hK
   by_cases v1:f<5
   ·have w1:decide (f<5)=true:=decide_eq_true v1;simp(disch:=omega)[w1,v1];refine key _ false (by rw[gD,decide_eq_false (by omega:¬(5≤f∧f≤7))];rfl) (by simp)
   have w1:decide (f<5)=false:=decide_eq_false v1
   by_cases v2:7<f
   ·have w2:decide (7<f)=true:=decide_eq_true v2;simp(disch:=omega)[w1,v1,w2,v2];refine key _ false (by rw[gD,decide_eq_false (by omega:¬(5≤f∧f≤7))];rfl) (by simp)
   have w2:decide (7<f)=false:=decide_eq_false v2;rw[decide_eq_true (by omega:5≤f∧f≤7),Bool.true_and] at gD
   by_cases v3:x.length=0
   ·have e3:x=[]:=List.length_eq_zero_iff.1 v3;subst e3;have ef:nJ aw i=false:=by rw[gD];rfl
    rcases Nat.eq_zero_or_pos i with h5|h5
    ·subst h5;simp(disch:=omega)[w1,v1,w2,v2];refine key _ false ef.symm (by simp)
    ·have e6:((i:Int)-1)=((i-1:Nat):Int):=by omega
     have b5:decide ((0:Int)<(i:Int))=true:=decide_eq_true (by omega);have qs:=fP (by omega)
     by_cases v4:f≤fp
     ·have w4:decide (f≤fp)=true:=decide_eq_true v4;simp(disch:=omega)[w1,v1,w2,v2,b5,h5,e6,qs,cE,w4,v4];refine key _ false ef.symm (by simp)
     ·have w4:decide (f≤fp)=false:=decide_eq_false v4;simp(disch:=omega)[w1,v1,w2,v2,b5,h5,e6,qs,cE,w4,v4];refine key _ false ef.symm (by simp)
   have w3:((x.length:Int)==0)=false:=beq_eq_false_iff_ne.2 (by omega);have n3:x≠[]:=fun e=>v3 (by rw[e];rfl);rw[decide_eq_true n3,Bool.true_and] at gD;rcases Nat.eq_zero_or_pos i with h5|h5
   ·subst h5;simp(disch:=omega)[w1,v1,w2,v2,w3,n3];refine key _ true (by rw[gD];rfl) (by simp)
   ·have e6:((i:Int)-1)=((i-1:Nat):Int):=by omega
    have b5:decide ((0:Int)<(i:Int))=true:=decide_eq_true (by omega);have qs:=fP (by omega);rw[decide_eq_false (by omega:¬i=0),Bool.false_or] at gD
    by_cases v4:f≤fp
    ·have w4:decide (f≤fp)=true:=decide_eq_true v4;simp(disch:=omega)[w1,v1,w2,v2,w3,n3,b5,h5,e6,qs,cE,w4,v4];refine key _ false (by rw[gD,decide_eq_false (by omega:¬fp<f)]) (by simp)
    ·have w4:decide (f≤fp)=false:=decide_eq_false v4;simp(disch:=omega)[w1,v1,w2,v2,w3,n3,b5,h5,e6,qs,cE,w4,v4];refine key _ true (by rw[gD,decide_eq_true (by omega:fp<f)]) (by simp)
  ·simp  at hk;apply aC;simp(disch:=omega) ;apply aQ;clear aQ;have b2:decide ((an.length:Int)≤2000)=true:=decide_eq_true (by omega);have n2:(an.length:Int)≤2000:=by omega
   cases zB:ju an 1 1000000000 with
   |true=>
    rw[zB] at cv;refine ae fun K hK=>?_;simp(disch:=omega)[b2,n2];refine ak (cv _) ?_;simp(disch:=omega) ;apply hK;clear hK K;apply az;simp(disch:=omega) ;rw[qt zB (fun j hj=>g2 j (by omega))]
   |false=>
    rw[zB] at cv;refine ae fun K hK=>?_;simp(disch:=omega)[b2,n2];refine ak (cv _) ?_;simp(disch:=omega) ;apply hK;clear hK K;apply az;simp(disch:=omega) ;rw[TS zB]
theorem qZ {t:Tm}{q:Pl}:q∈nI t↔q.1=t.f∧∃p∈t.l,p.1=q.2.1∧q.2.2∈p.2:=by
 unfold nI eh;rw[List.mem_flatMap]
 constructor
 ·rintro⟨p,hp,hq⟩;obtain⟨a,ha,rfl⟩:=List.mem_map.1 hq;exact⟨rfl,p,hp,rfl,ha⟩
 ·rintro⟨h1,p,hp,h2,h3⟩;exact⟨p,hp,List.mem_map.2 ⟨q.2.2,h3,by obtain⟨a,b,c⟩:=q;simp only at h1 h2 ⊢;rw[h1,h2]⟩⟩
theorem qc {α β:Type}{f:α→List β}:∀{l:List α},(∀x∈l,(f x).Nodup)→(l.Pairwise fun x y=>∀z∈f x,z∉f y)→(l.flatMap f).Nodup
 |[],_,_=>by simp
 |x::l,h1,h2=>by
  rw[List.flatMap_cons,List.nodup_append];rw[List.pairwise_cons] at h2;refine⟨h1 x (by simp),qc (fun y hy=>h1 y (List.mem_cons_of_mem _ hy)) h2.2,fun a ha b hb=>?_⟩;obtain⟨y,hy,sq⟩:=List.mem_flatMap.1 hb;exact fun e=>h2.1 y hy a ha (e▸sq)
theorem x5 {l:List Int}(h:kU l):l.Nodup:=h.imp fun {a b} iZ=>by omega
theorem DM {t:Tm}(h:bX t.l=true):(nI t).Nodup:=by
 obtain⟨h1,_,h3⟩:=cU h;refine qc (fun p hp=>?_) ?_
 ·unfold eh;have:=x5 (h3 p hp).2.1;exact List.Pairwise.map _ (fun a b iZ e=>iZ (by simpa using e)) this
 ·have:t.l.Pairwise fun x y=>x.1<y.1:=List.pairwise_map.1 h1;refine this.imp fun {a b} iZ z hz Co=>?_;unfold eh at hz Co;obtain⟨u,_,rfl⟩:=List.mem_map.1 hz;obtain⟨v,_,e⟩:=List.mem_map.1 Co;simp at e;omega
theorem vE {a b:List Ps}(hb:bX b=true):fE a b=true↔∀p∈a,∀q∈b,p.1=q.1→∀z∈q.2,z∉p.2:=by
 obtain⟨h1,_,_⟩:=cU hb;unfold fE
 constructor
 ·intro h p hp q hq e z hz Co;obtain⟨i,hi,rfl⟩:=bS p0 hp;have Pv:posOf b (a.getD i p0).1=q.2:=by rw[e];exact rW h1 hq
  obtain⟨k,hk,rfl⟩:=bS 0 hz;have:=lG (lG h hi) (j:=k) (by rw[Pv];exact hk);rw[Pv] at this;simp only[Bool.not_eq_true',decide_eq_false_iff_not] at this;exact this Co
 ·intro h;refine fq fun i hi=>fq fun k hk=>?_;have hz:=aR (posOf b (a.getD i p0).1) k 0 hk;obtain⟨q,hq,e1,e2⟩:=uC hz;rw[Bool.not_eq_true',decide_eq_false_iff_not];exact h _ (aR a i p0 hi) q hq e1.symm _ (by rw[←e2];exact hz)
theorem oU {l:List Tm}(h1:∀i,i<l.length→bX (l.getD i t0).l=true)(h2:∀i k,i<l.length→k<i→(l.getD k t0).f=(l.getD i t0).f→fE (l.getD k t0).l (l.getD i t0).l=true):(nw l).Nodup:=by
 refine qc (fun t ht=>?_) ?_
 ·obtain⟨i,hi,rfl⟩:=bS t0 ht;exact DM (h1 i hi)
 ·rw[List.pairwise_iff_getElem];intro k i hk hi SA z hz Co;have e1:l[k]=l.getD k t0:=by rw[List.getD_eq_getElem?_getD,List.getElem?_eq_getElem hk];rfl
  have e2:l[i]=l.getD i t0:=by rw[List.getD_eq_getElem?_getD,List.getElem?_eq_getElem hi];rfl
  rw[e1] at hz;rw[e2] at Co;obtain⟨f1,p,hp,p1,p2⟩:=qZ.1 hz;obtain⟨f2,q,hq,q1,q2⟩:=qZ.1 Co;exact(vE (h1 i hi)).1 (h2 i k hi SA (f1.symm.trans f2)) p hp q hq (p1.trans q1.symm) _ q2 p2
theorem ND {l:List Tm}{i k:Nat}(hi:i<l.length)(hk:k<i)(hv:bX (l.getD i t0).l=true)(hf:(l.getD k t0).f=(l.getD i t0).f)(h:fE (l.getD k t0).l (l.getD i t0).l=false):¬(nw l).Nodup:=by
 intro hn;have:fE (l.getD k t0).l (l.getD i t0).l=true:=by
  rw[vE hv];intro p hp q hq e z hz Co;have hs:l=l.take i++(l.getD i t0::l.drop (i+1)):=by rw[←da l i t0 hi,List.take_append_drop]
  rw[hs] at hn;unfold nw at hn;rw[List.flatMap_append,List.nodup_append] at hn;refine hn.2.2 ((l.getD i t0).f,p.1,z) ?_ ((l.getD i t0).f,p.1,z) ?_ rfl
  ·refine List.mem_flatMap.2 ⟨l.getD k t0,?_,qZ.2 ⟨hf.symm,p,hp,rfl,Co⟩⟩;have:=aR (l.take i) k t0 (by rw[List.length_take];omega);have e2:(l.take i).getD k t0=l.getD k t0:=by simp[List.getD_eq_getElem?_getD,List.getElem?_take,hk]
   rwa [e2] at this
  ·exact List.mem_flatMap.2 ⟨l.getD i t0,by simp,qZ.2 ⟨rfl,q,hq,e.symm,hz⟩⟩
 rw[h] at this
 cases this
attribute [-simp] List.getD_eq_getElem?_getD in
theorem DF (s:Sg)(hs:mh s)(i:Nat)(hi:i<s.aK.length)(H:List aA)(T:ar)
  (dy:bC (H++[.cells (bH s),.cells (js (s.aK.getD i t0))]) T) (Q:Exit→St→Prop)
  (bad:∀k,k<i→(s.aK.getD k t0).f=(s.aK.getD i t0).f→fE (s.aK.getD k t0).l (s.aK.getD i t0).l=false→∀(e:Env)(rH:List aA)(rT:ar),bF e 2=.bool false→Q .ret ⟨e,H++rH,T++rT⟩)
  (go:(∀k,k<i→(s.aK.getD k t0).f=(s.aK.getD i t0).f→fE (s.aK.getD k t0).l (s.aK.getD i t0).l=true)→∀e:Env,bt (H.length+2) T.length e [(1,.ptr H.length 0),(3,.int .i64 (i:Nat))]→Q .normal ⟨e,H++[.cells (bH s),.cells (js (s.aK.getD i t0))],T⟩) :
  AW ⟨Tryz.prog,191,10,H.length,T.length,[]⟩ (du [1,0,1,0,0,1,0,0,1,1,1] (Tryz.f36.body.getD .skip)) Q ⟨[(1,.ptr H.length 0),(3,.int .i64 (i:Nat)),(4,.ptr (H.length+1) 0)],H++[.cells (bH s),.cells (js (s.aK.getD i t0))],T⟩:=by
 conv=>arg 2;whnf
 have pg:=hs.t;have hw:=hs.w;obtain⟨q1,q2,q3⟩:=hw _ (aR s.aK i t0 hi);apply ae;intro K h;simp(disch:=omega);apply h;clear h K;apply ah;refine aG (X:=Nat) (fun k=>⟨[(1,.ptr H.length 0),(3,.int .i64 (i:Nat)),(4,.ptr (H.length+1) 0),(5,.int .i64 (k:Nat))],H++[.cells (bH s),.cells (js (s.aK.getD i t0))],T⟩)
  (fun k=>k≤i∧∀m,m<k→(s.aK.getD m t0).f=(s.aK.getD i t0).f→fE (s.aK.getD m t0).l (s.aK.getD i t0).l=true) (fun k=>i-k) 0 ?_ ?_ ?_
 ·exact⟨zero_le _,fun j hj=>absurd hj (not_lt_zero _)⟩
 ·refine ag [] [] ?_ ?_ ?_ ?_ dy ?_
  all_goals simp 
 ·rintro k ⟨k1,k2⟩;refine af fun K5 gC=>?_;apply ae;intro K h;simp(disch:=omega);apply h;clear h K;refine aN rfl (fun dg=>?_) (fun dg=>?_)
  ·simp  at dg;have gB:k<s.aK.length:=by omega
   obtain⟨a1,_,a3⟩:=qI s.aK k gB;obtain⟨w1,w2,w3⟩:=hw _ (aR s.aK k t0 gB);have ca:=LQ (s.aK.getD k t0).l (s.aK.getD i t0).l w2 q2 w3 q3 (H++[.cells (bH s),.cells (js (s.aK.getD i t0))]) T .none .none;replace bad:=bad k dg;have iK:((s.aK.getD k t0).f=(s.aK.getD i t0).f→fE (s.aK.getD k t0).l (s.aK.getD i t0).l=true)→∀m,m<k+1→(s.aK.getD m t0).f=(s.aK.getD i t0).f→fE (s.aK.getD m t0).l (s.aK.getD i t0).l=true:=fun h m hm=>by
    rcases lt_or_ge m k with h1|h1
    ·exact k2 m h1
    ·have:m=k:=by omega
     subst this;exact h
   generalize fE (s.aK.getD k t0).l (s.aK.getD i t0).l=ab at *;generalize s.aK.getD k t0=u at *;obtain⟨uf,uw,ul⟩:=u;simp only at a1 a3 ca bad iK;apply ai;simp(disch:=omega) ;apply gC;clear gC;refine af fun K6 iH=>?_;apply ah
   by_cases hf:uf=(s.aK.getD i t0).f
   ·have b1:(uf==(s.aK.getD i t0).f)=true:=by simpa using hf
    cases ab with
    |false=>
     refine aI [] [] [] al (by kernel_rfl) (by kernel_rfl) fun K hK=>?_;simp(disch:=omega)[a1,a3,bU,gB,b1,hf];refine aB (ca) rfl ?_;simp(disch:=omega) ;apply hK;clear hK K;apply aF rfl;apply ae;intro K h;simp(disch:=omega);apply h;clear h K;apply az;rw[←List.append_nil T];exact bad hf rfl _ _ _ rfl
    |true=>
     refine aI [] [] [] al (by kernel_rfl) (by kernel_rfl) fun K hK=>?_;simp(disch:=omega)[a1,a3,bU,gB,b1,hf];refine aB (ca) rfl ?_;simp(disch:=omega) ;apply hK;clear hK K;apply aD rfl;apply ai;simp(disch:=omega) ;apply iH;clear iH;refine au fun K hK=>?_;simp(disch:=omega) ;apply hK;clear hK K;refine⟨k+1,⟨by show k+1≤_;omega,iK fun _=>rfl⟩,by show i-(k+1)<i-k;omega,?_⟩;refine ag [] [] ?_ ?_ ?_ ?_ dy ?_
     all_goals simp 
   ·have b1:(uf==(s.aK.getD i t0).f)=false:=by simpa using hf
    refine aI [] [] [] al (by kernel_rfl) (by kernel_rfl) fun K hK=>?_;simp(disch:=omega)[a1,a3,bU,gB,b1,hf];apply hK;clear hK K;apply aD rfl;apply ai;simp(disch:=omega) ;apply iH;clear iH;refine au fun K hK=>?_;simp(disch:=omega) ;apply hK;clear hK K;refine⟨k+1,⟨by show k+1≤_;omega,iK fun h=>absurd h hf⟩,by show i-(k+1)<i-k;omega,?_⟩;refine ag [] [] ?_ ?_ ?_ ?_ dy ?_
    all_goals simp 
  ·simp  at dg;apply aC;simp(disch:=omega) ;exact go (fun m h=>k2 m (by omega)) _ (by simp )
attribute [-simp] List.getD_eq_getElem?_getD in
theorem qb (s:Sg)(hs:mh s)(H:List aA)(T:ar):aq Tryz.prog 36 [ec s] H T (Is (.bool (aP s)) H T):=by
 refine aq.cH ?_ (by simp);have hd:=hs.d;have pg:=hs.t;have MQ:s.aK.length≤9223372036854775807:=by omega
 have Ro:400≤maxLen:=by decide
 refine aj 10 [] Tryz.ntmps36 Tryz.func36 rfl (fun _ _=>Tryz.call36 _ _) (by simp) (fun HO=>?_);apply ae;intro K h;simp(disch:=omega);apply h;clear h K;have IL:bC (H++[.cells (bH s)]) T:=HO.snoc (by simp);refine af fun K1 aQ=>?_;apply ae;intro K h;simp(disch:=omega);apply h;clear h K;apply ah;refine aG (X:=Nat) (fun i=>⟨[(1,.ptr H.length 0),(3,.int .i64 (i:Nat))],H++[.cells (bH s)],T⟩)
  (fun i=>i≤s.aK.length∧∀j,j<i→kP s.aK j=true∧((s.aK.getD j t0).l≠[]∧bX (s.aK.getD j t0).l=true)∧(ju s.an 1 1000000000=true→vK s.an (s.aK.getD j t0).l=true)∧∀k,k<j→(s.aK.getD k t0).f=(s.aK.getD j t0).f→fE (s.aK.getD k t0).l (s.aK.getD j t0).l=true) (fun i=>s.aK.length-i) 0 ?_ ?_ ?_
 ·exact⟨zero_le _,fun j hj=>absurd hj (not_lt_zero _)⟩
 ·refine ag [] [] ?_ ?_ ?_ ?_ IL ?_
  all_goals simp
 ·rintro i ⟨g1,g2⟩;refine af fun K2 aW=>?_;apply ae;intro K h;simp(disch:=omega);apply h;clear h K;refine aN rfl (fun hk=>?_) (fun hk=>?_)
  ·simp  at hk;have bA:=gH s.aK i hk;obtain⟨q1,q2,q3⟩:=hs.w _ (aR s.aK i t0 hk);apply ai;simp(disch:=omega) ;apply aW;clear aW;refine af fun K3 bz=>?_;apply ah;refine ae fun K hK=>?_;simp(disch:=omega)[bA,bU];apply hK;clear hK K;have MK:bC (H++[.cells (bH s),.cells (js (s.aK.getD i t0))]) T:=by
    have:=bC.snoc (vs:=js (s.aK.getD i t0)) IL (by simp);simpa using this
   have wj:kP s.aK i=false→aP s=false:=fun h=>wW hk h;have tD:vK s.an (s.aK.getD i t0).l=false→aP s=false:=fun h=>Aq hk h;have aaX:=fun h=>ow (s:=s) h;have Qr:=fun k SA hv hf h=>wX (s:=s) (ND (k:=k) hk SA hv hf h);have gD:kP s.aK i=((decide (1≤(s.aK.getD i t0).f∧(s.aK.getD i t0).f≤4)&&okW (s.aK.getD i t0).w)&&(decide (i=0)||bM (s.aK.getD (i-1) t0).k (s.aK.getD i t0).k)):=rfl;have wI:=fun h=>gH s.aK (i-1) h;have nM:vK s.an (s.aK.getD i t0).l=((decide ((s.aK.getD i t0).l≠[])&&bX (s.aK.getD i t0).l)&&decide (∀p∈(s.aK.getD i t0).l,p.1∈s.an)):=rfl;generalize s.aK.getD (i-1) t0=tp at *;obtain⟨t,ht⟩:∃t,t=s.aK.getD i t0:=⟨_,rfl⟩
   have Jz:=DF s hs i hk H T;have iK:kP s.aK i=true→t.l≠[]→bX t.l=true→(ju s.an 1 1000000000=true→vK s.an t.l=true)→(∀k,k<i→(s.aK.getD k t0).f=t.f→fE (s.aK.getD k t0).l t.l=true)→∀j,j<i+1→kP s.aK j=true∧((s.aK.getD j t0).l≠[]∧bX (s.aK.getD j t0).l=true)∧(ju s.an 1 1000000000=true→vK s.an (s.aK.getD j t0).l=true)∧∀k,k<j→(s.aK.getD k t0).f=(s.aK.getD j t0).f→fE (s.aK.getD k t0).l (s.aK.getD j t0).l=true:=fun h1 h2 h3 h4 h5 j hj=>by
    rcases lt_or_ge j i with h|h
    ·exact g2 j h
    ·have:j=i:=by omega
     subst this;rw[←ht];exact⟨h1,⟨h2,h3⟩,h4,h5⟩
   rw[←ht] at bA q1 q2 q3 MK tD Qr gD nM Jz;simp only[←ht];clear ht;have cw:=fun H=>Ak t.w q1 H T;have ck:=fun H hu hv=>oz tp.k t.k (.sl tp.l.length (bp tp.l) .none) (.sl t.l.length (bp t.l) .none) H T hu hv;have cv:=fun H=>wZ t.l (le_trans q2 (by omega)) (fun p hp=>le_trans (q3 p hp) Ro) H T .none;have cd:=fun H=>H7 t.l (le_trans q2 (by omega)) (fun p hp=>le_trans (q3 p hp) Ro) H T .none;generalize bM tp.k t.k=bq at *;obtain⟨f,w,l⟩:=t;simp only at q1 q2 q3 bA cw ck cv cd gD nM tD iK Qr;refine af fun K4 eV=>?_;refine aI [] [] [] al (by kernel_rfl) (by kernel_rfl) fun K hK=>?_;have key:∀e b,(b=true→kP s.aK i=true∧l≠[]∧bX l=true)→(b=false→aP s=false)→bt (H.length+2) T.length e [(1,.ptr H.length 0),(3,.int .i64 (i:Nat)),(4,.ptr (H.length+1) 0),(62,.bool (!b))]→K ⟨e,H++[.cells (bH s),.cells (js ⟨f,w,l⟩)],T⟩:=by
    intro e b hb vN he;refine hK _ (aH ⟨[(1,.ptr H.length 0),(3,.int .i64 (i:Nat)),(4,.ptr (H.length+1) 0),(62,.bool (!b))],H++[.cells (bH s),.cells (js ⟨f,w,l⟩)],T⟩ (ag [] [] (by simp) (by simp) (by simp) (by simp) MK (by simpa using he)) ?_)
    cases b with
    |false=>
     apply aF rfl;apply ae;intro K h;simp(disch:=omega);apply h;clear h K;apply az;simp(disch:=omega) ;rw[vN rfl]
    |true=>
    obtain⟨b1,b2,b3⟩:=hb rfl;have lN:kZ l=an l:=by unfold kZ;rw[if_pos b3]
    have ye:ju (an l) 1 1000000000=true:=by unfold bX at b3;rw[Bool.and_eq_true] at b3;exact b3.1
    rw[lN] at cd;have cwo:=fun H=>BD (an l) s.an (by simp[an];exact q2) hd H T .none .none;have ua:=HI (fun m=>!m) (an l) s.an;have hdc:(an l).length=l.length:=by simp[an]
    have hwn:ju s.an 1 1000000000=true→((gG (fun m=>!m) (an l) s.an).length=0↔∀p∈l,p.1∈s.an):=fun h=>by
     rw[←De,JP ye h];simp only[an,List.mem_map,forall_exists_index,and_imp,forall_apply_eq_imp_iff₂]
    have Ts:ju s.an 1 1000000000=true→((gG (fun m=>!m) (an l) s.an).length=0↔vK s.an l=true):=fun h=>by
     rw[hwn h,nM,decide_eq_true b2,b3];simp
    generalize gG (fun m=>!m) (an l) s.an=kr at *;apply aD rfl;apply ai;simp(disch:=omega) ;apply eV;clear eV;refine af fun K5 gC=>?_
    by_cases Sz:kr.length=0
    rotate_left
    ·have bk:decide ((0:Int)<kr.length)=true:=decide_eq_true (by omega);have nk:(0:Int)<kr.length:=by omega
     have n0:kr≠[]:=fun e=>Sz (by rw[e];rfl);have n1:0<kr.length:=by omega
     refine aI [] [] [] al (by kernel_rfl) (by kernel_rfl) fun K hK=>?_;simp(disch:=omega) ;refine aB (cd _) rfl ?_;simp(disch:=omega) ;refine aB (cwo _) rfl ?_;simp(disch:=omega)[bk,nk,n0,n1];apply hK;clear hK K;apply aF rfl;apply ae;intro K h;simp(disch:=omega);apply h;clear h K;apply az;simp(disch:=omega) ;have:aP s=false:=by
      cases zB:ju s.an 1 1000000000 with
      |false=>exact aaX zB
      |true=>
       refine tD ?_
       cases ho:vK s.an l with
       |false=>rfl
       |true=>exact absurd ((Ts zB).2 ho) Sz
     rw[this]
    ·have e0:kr=[]:=List.length_eq_zero_iff.1 Sz;subst e0;refine aI [] [] [] al (by kernel_rfl) (by kernel_rfl) fun K hK=>?_;simp(disch:=omega) ;refine aB (cd _) rfl ?_;simp(disch:=omega) ;refine aB (cwo _) rfl ?_;simp(disch:=omega) ;apply hK;clear hK K;apply aD rfl;apply ai;simp(disch:=omega) ;apply gC;clear gC;refine aH ⟨[(1,.ptr H.length 0),(3,.int .i64 (i:Nat)),(4,.ptr (H.length+1) 0)],H++[.cells (bH s),.cells (js ⟨f,w,l⟩)],T⟩ (ag [] [] (by simp) (by simp) (by simp) (by simp) MK (by simp)) ?_;refine Jz MK _ (fun k SA hf PA e rH rT he=>?_) fun PA e he=>?_
     ·show nN Tryz.prog Tryz.f36.results.toList (fun r H' T'=>(∃rH,H'=H++rH)∧(∃rT,T'=T++rT)∧(r=.bool (aP s)∨cY r=.bool (aP s))) .ret _;simp[he,Qr k SA b3 hf PA]
     ·refine bz _ (aH ⟨[(1,.ptr H.length 0),(3,.int .i64 (i:Nat))],H++[.cells (bH s)],T⟩ (ag [.cells (js ⟨f,w,l⟩)] [] (by simp) (by simp) (by simp) (by simp) IL (by simpa using he)) ?_);refine au fun K hK=>?_;simp(disch:=omega) ;apply hK;clear hK K;refine⟨i+1,⟨by show i+1≤_;omega,iK b1 b2 b3 (fun h=>(Ts h).1 rfl) PA⟩,by show s.aK.length-(i+1)<s.aK.length-i;omega,?_⟩;refine ag [] [] ?_ ?_ ?_ ?_ IL ?_
      all_goals simp
   clear hK Jz
   by_cases v1:f<1
   ·have w1:decide (f<1)=true:=decide_eq_true v1;simp(disch:=omega)[w1,v1];refine key _ false (fun h=>by cases h) (fun _=>wj (by rw[gD,decide_eq_false (by omega:¬(1≤f∧f≤4))];rfl)) (by simp)
   have w1:decide (f<1)=false:=decide_eq_false v1
   by_cases v2:4<f
   ·have w2:decide (4<f)=true:=decide_eq_true v2;simp(disch:=omega)[w1,v1,w2,v2];refine key _ false (fun h=>by cases h) (fun _=>wj (by rw[gD,decide_eq_false (by omega:¬(1≤f∧f≤4))];rfl)) (by simp)
   have w2:decide (4<f)=false:=decide_eq_false v2;rw[decide_eq_true (by omega:1≤f∧f≤4),Bool.true_and] at gD
   cases hw:okW w with
   |false=>
    rw[hw] at cw gD;simp(disch:=omega)[w1,v1,w2,v2];refine aB (cw _) rfl ?_;simp(disch:=omega) ;refine key _ false (fun h=>by cases h) (fun _=>wj (by rw[gD];rfl)) (by simp)
   |true=>
   rw[hw] at cw gD;rw[Bool.true_and] at gD
   by_cases v3:l.length=0
   ·have e3:l=[]:=List.length_eq_zero_iff.1 v3;subst e3;simp(disch:=omega)[w1,v1,w2,v2];refine aB (cw _) rfl ?_;simp(disch:=omega) ;refine key _ false (fun h=>by cases h) (fun _=>tD (by rw[nM];rfl)) (by simp)
   have w3:((l.length:Int)==0)=false:=beq_eq_false_iff_ne.2 (by omega);have n3:l≠[]:=fun e=>v3 (by rw[e];rfl)
   cases Cz:bX l with
   |false=>
    rw[Cz] at cv nM;simp(disch:=omega)[w1,v1,w2,v2];refine aB (cw _) rfl ?_;simp(disch:=omega)[w3,n3];refine aB (cv _) rfl ?_;simp(disch:=omega) ;refine key _ false (fun h=>by cases h) (fun _=>tD (by rw[nM];simp)) (by simp)
   |true=>
   rw[Cz] at cv;rcases Nat.eq_zero_or_pos i with h5|h5
   ·subst h5;simp(disch:=omega)[w1,v1,w2,v2];refine aB (cw _) rfl ?_;simp(disch:=omega)[w3,n3];refine aB (cv _) rfl ?_;simp(disch:=omega) ;refine key _ true (fun _=>⟨by rw[gD];rfl,n3,Cz⟩) (fun h=>by cases h) (by simp)
   ·have e6:((i:Int)-1)=((i-1:Nat):Int):=by omega
    have b5:decide ((0:Int)<(i:Int))=true:=decide_eq_true (by omega);have nL:=wI (by omega);rw[decide_eq_false (by omega:¬i=0),Bool.false_or] at gD;simp(disch:=omega)[w1,v1,w2,v2];refine aB (cw _) rfl ?_;simp(disch:=omega)[w3,n3];refine aB (cv _) rfl ?_;simp(disch:=omega)[b5,h5,e6,nL,bU];refine aB (ck _ (by simp) (by simp)) rfl ?_;simp(disch:=omega) 
    cases bq with
    |false=>
     refine key _ false (fun h=>by cases h) (fun _=>wj (by rw[gD])) (by simp)
    |true=>
     refine key _ true (fun _=>⟨by rw[gD],n3,Cz⟩) (fun h=>by cases h) (by simp)
  ·simp  at hk;apply aC;simp(disch:=omega) ;apply aQ;clear aQ;have hi:i=s.aK.length:=by omega
   subst hi;refine aH ⟨[(1,.ptr H.length 0)],H++[.cells (bH s)],T⟩ (ag [] [] (by simp) (by simp) (by simp) (by simp) IL (by simp)) ?_;exact He s hs (fun zB=>⟨fun j hj=>⟨(g2 j hj).1,(g2 j hj).2.2.1 zB⟩,oU (fun j hj=>(g2 j hj).2.1.2) fun j k hj hkj=>(g2 j hj).2.2.2 k hkj⟩) H T IL
end Go.Proofs.YtneohapkboaplaaGreat
