/- The law's same, SameTexts, the reference's Small (layer 39). The example of the document (layer 39): it holds.
  Conditions: lengths below 400 or 1000, as each theorem says. -/
import Derived.Test.YtneohapkboaplaaGreatGV
import Derived.Test.YtneohapkboaplaaGreatGBC
import Derived.Test.YtneohapkboaplaaGreatGFA
import Derived.Test.YtneohapkboaplaaGreatGFB
set_option linter.all false
set_option maxRecDepth 100000
set_option maxHeartbeats 8000000
open List (length_cons length_nil)
namespace Go.Proofs.YtneohapkboaplaaGreat
open Go Go.Am iF eJ dh
attribute [-simp] List.getD_eq_getElem?_getD in
theorem Kw (a b:List Ps)(ha:a.length≤1000)(hb:b.length≤1000)(Mp:∀p∈a,p.2.length≤maxLen)(Mo:∀p∈b,p.2.length≤maxLen)(H:List aA)(T:ar)(ta tb:Tag) :
  aq Tryz.prog 19 [.sl a.length (bp a) ta,.sl b.length (bp b) tb] H T (Is (.bool (decide (a=b))) H T):=by
 refine aq.cD (aq.lD ?_);have c1:=w9 a ha H T .none;have c2:=AE a b ha hb Mp Mo H T .none .none;generalize decide (a=b)=q at *;refine aj 5 [] Tryz.ntmps19 Tryz.func19 rfl (fun _ _=>Tryz.call19 _ _) (by simp) (fun HO=>?_);apply ae;intro K h;simp(disch:=omega);apply h;clear h K;refine ae fun K hK=>?_;simp(disch:=omega) ;refine ak (c1) ?_;simp(disch:=omega) ;refine ak (c2) ?_;simp(disch:=omega) ;apply hK;clear hK K;apply az;simp(disch:=omega) ;exact⟨rfl,rfl,rfl⟩
structure RP (s:Sg):Prop where
 d:s.an.length≤maxLen
 t:s.aK.length≤maxLen
 w:∀t∈s.aK,t.w.length≤maxLen∧t.l.length≤maxLen∧∀p∈t.l,p.2.length≤maxLen
 c:s.aw.length≤maxLen
 x:∀c∈s.aw,c.x.length≤maxLen
def zN (l:List Ps):Bool:=decide (l.length≤30∧∀p∈l,p.2.length≤30)
def ko (s:Sg):Bool:=((List.range s.aK.length).all (fun i=>zN (s.aK.getD i t0).l)&&(List.range s.aw.length).all (fun i=>decide ((s.aw.getD i c0).x.length≤30)))&&decide (s.an.length≤20∧s.aK.length≤60∧s.aw.length≤6)
attribute [-simp] List.getD_eq_getElem?_getD in
theorem xb (s:Sg)(hs:RP s)(H:List aA)(T:ar):aq Tryz.prog 17 [ec s] H T (Is (.bool (ko s)) H T):=by
 refine aq.cH ?_ (by simp);have hY:maxLen≤9223372036854775807:=by decide
 have hd:=Nat.le_trans hs.d hY;have ht:=Nat.le_trans hs.t hY;have hc:=Nat.le_trans hs.c hY;have wj:∀i,i<s.aK.length→zN (s.aK.getD i t0).l=false→ko s=false:=fun i hi h=>by unfold ko;rw[jd hi h];rfl
 have tD:∀i,i<s.aw.length→¬(s.aw.getD i c0).x.length≤30→ko s=false:=fun i hi h=>by unfold ko;rw[jd hi (decide_eq_false h)];simp
 have qt:(∀i,i<s.aK.length→zN (s.aK.getD i t0).l=true)→(∀i,i<s.aw.length→(s.aw.getD i c0).x.length≤30)→ko s=decide (s.an.length≤20∧s.aK.length≤60∧s.aw.length≤6):=fun h1 h2=>by
  unfold ko;rw[fq h1,fq fun i hi=>decide_eq_true (h2 i hi)];rfl
 refine aj 6 [] Tryz.ntmps17 Tryz.func17 rfl (fun _ _=>Tryz.call17 _ _) (by simp) (fun HO=>?_);apply ae;intro K h;simp(disch:=omega);apply h;clear h K;have eX:bC (H++[.cells (bH s)]) T:=HO.snoc (by simp);refine af fun K1 aQ=>?_;apply ae;intro K h;simp(disch:=omega);apply h;clear h K;apply ah;refine aG (X:=Nat) (fun i=>⟨[(1,.ptr H.length 0),(3,.int .i64 (i:Nat))],H++[.cells (bH s)],T⟩)
  (fun i=>i≤s.aK.length∧∀j,j<i→zN (s.aK.getD j t0).l=true) (fun i=>s.aK.length-i) 0 ?_ ?_ ?_
 ·exact⟨Nat.zero_le _,fun j hj=>absurd hj (Nat.not_lt_zero _)⟩
 ·refine ag [] [] ?_ ?_ ?_ ?_ eX ?_
  all_goals simp
 ·rintro i ⟨g1,g2⟩;refine af fun K2 aW=>?_;apply ae;intro K h;simp(disch:=omega);apply h;clear h K;refine aN rfl (fun hk=>?_) (fun hk=>?_)
  ·simp  at hk;obtain⟨_,_,a3⟩:=qI s.aK i hk;obtain⟨_,q2,q3⟩:=hs.w _ (aR s.aK i t0 hk);have cf:=fun H=>QS (s.aK.getD i t0).l q2 q3 H T .none;have hfb:decide ((s.aK.getD i t0).l.length≤30∧∀p∈(s.aK.getD i t0).l,p.2.length≤30)=zN (s.aK.getD i t0).l:=rfl;rw[hfb] at cf;replace wj:=wj i hk;have iK:zN (s.aK.getD i t0).l=true→∀j,j<i+1→zN (s.aK.getD j t0).l=true:=fun h j hj=>by
    rcases Nat.lt_or_ge j i with h1|h1
    ·exact g2 j h1
    ·have:j=i:=by omega
     subst this;exact h
   generalize zN (s.aK.getD i t0).l=fb at *;apply ai;simp(disch:=omega) ;apply aW;clear aW;refine af fun K3 bz=>?_;apply ah
   cases fb with
   |false=>
    refine ae fun K hK=>?_;simp(disch:=omega)[a3,bU,hk];refine ak (cf _) ?_;simp(disch:=omega) ;apply hK;clear hK K;apply aF rfl;apply ae;intro K h;simp(disch:=omega);apply h;clear h K;apply az;simp(disch:=omega) ;rw[wj rfl]
   |true=>
    refine ae fun K hK=>?_;simp(disch:=omega)[a3,bU,hk];refine ak (cf _) ?_;simp(disch:=omega) ;apply hK;clear hK K;apply aD rfl;apply ai;simp(disch:=omega) ;apply bz;clear bz;refine au fun K hK=>?_;simp(disch:=omega) ;apply hK;clear hK K;refine⟨i+1,⟨by show i+1≤_;omega,iK rfl⟩,by show s.aK.length-(i+1)<s.aK.length-i;omega,?_⟩;refine ag [] [] ?_ ?_ ?_ ?_ eX ?_
    all_goals simp
  ·simp  at hk;apply aC;simp(disch:=omega) ;apply aQ;clear aQ;refine af fun K1 aQ=>?_;apply ae;intro K h;simp(disch:=omega);apply h;clear h K;apply ah;refine aG (X:=Nat) (fun i=>⟨[(1,.ptr H.length 0),(4,.int .i64 (i:Nat))],H++[.cells (bH s)],T⟩)
    (fun i=>i≤s.aw.length∧∀j,j<i→(s.aw.getD j c0).x.length≤30) (fun i=>s.aw.length-i) 0 ?_ ?_ ?_
   ·exact⟨Nat.zero_le _,fun j hj=>absurd hj (Nat.not_lt_zero _)⟩
   ·refine ag [] [] ?_ ?_ ?_ ?_ eX ?_
    all_goals simp
   ·rintro m ⟨m1,m2⟩;refine af fun K2 aW=>?_;apply ae;intro K h;simp(disch:=omega);apply h;clear h K;refine aN rfl (fun dg=>?_) (fun dg=>?_)
    ·simp  at dg;obtain⟨_,a2⟩:=oN s.aw m dg;have vT:=Nat.le_trans (hs.x _ (aR s.aw m c0 dg)) hY;replace tD:=tD m dg;have iK:(s.aw.getD m c0).x.length≤30→∀j,j<m+1→(s.aw.getD j c0).x.length≤30:=fun h j hj=>by
      rcases Nat.lt_or_ge j m with h1|h1
      ·exact m2 j h1
      ·have:j=m:=by omega
       subst this;exact h
     generalize (s.aw.getD m c0).x=x at *;apply ai;simp(disch:=omega) ;apply aW;clear aW;refine af fun K3 bz=>?_;apply ah
     by_cases hx:x.length≤30
     ·have b1:decide ((30:Int)<x.length)=false:=decide_eq_false (by omega);have n1:¬(30:Int)<x.length:=by omega
      have n2:¬30<x.length:=by omega
      refine ae fun K hK=>?_;simp(disch:=omega)[a2,cE,dg,b1,n1,n2];apply hK;clear hK K;apply aD rfl;apply ai;simp(disch:=omega) ;apply bz;clear bz;refine au fun K hK=>?_;simp(disch:=omega) ;apply hK;clear hK K;refine⟨m+1,⟨by show m+1≤_;omega,iK hx⟩,by show s.aw.length-(m+1)<s.aw.length-m;omega,?_⟩;refine ag [] [] ?_ ?_ ?_ ?_ eX ?_
      all_goals simp
     ·have b1:decide ((30:Int)<x.length)=true:=decide_eq_true (by omega);have n1:(30:Int)<x.length:=by omega
      have n2:30<x.length:=by omega
      refine ae fun K hK=>?_;simp(disch:=omega)[a2,cE,dg,b1,n1,n2];apply hK;clear hK K;apply aF rfl;apply ae;intro K h;simp(disch:=omega);apply h;clear h K;apply az;simp(disch:=omega) ;rw[tD hx]
    ·simp  at dg;apply aC;simp(disch:=omega) ;apply aQ;clear aQ;rw[qt (fun j hj=>g2 j (by omega)) (fun j hj=>m2 j (by omega))];generalize hq:decide (s.an.length≤20∧s.aK.length≤60∧s.aw.length≤6)=q
     by_cases h1:s.an.length≤20
     ·have b1:decide ((s.an.length:Int)≤20)=true:=decide_eq_true (by omega)
      by_cases h2:s.aK.length≤60
      ·have b2:decide ((s.aK.length:Int)≤60)=true:=decide_eq_true (by omega)
       by_cases h3:s.aw.length≤6
       ·have b3:decide ((s.aw.length:Int)≤6)=true:=decide_eq_true (by omega);refine ae fun K hK=>?_;simp(disch:=omega)[b1,h1,b2,h2,b3,h3];apply hK;clear hK K;apply az;simp(disch:=omega) ;rw[←hq,decide_eq_true ⟨h1,h2,h3⟩]
       ·have b3:decide ((s.aw.length:Int)≤6)=false:=decide_eq_false (by omega);refine ae fun K hK=>?_;simp(disch:=omega)[b1,h1,b2,h2,b3,h3];apply hK;clear hK K;apply az;simp(disch:=omega) ;rw[←hq,decide_eq_false (fun h=>h3 h.2.2)]
      ·have b2:decide ((s.aK.length:Int)≤60)=false:=decide_eq_false (by omega);refine ae fun K hK=>?_;simp(disch:=omega)[b1,h1,b2,h2];apply hK;clear hK K;apply az;simp(disch:=omega) ;rw[←hq,decide_eq_false (fun h=>h2 h.2.1)]
     ·have b1:decide ((s.an.length:Int)≤20)=false:=decide_eq_false (by omega);refine ae fun K hK=>?_;simp(disch:=omega)[b1,h1];apply hK;clear hK K;apply az;simp(disch:=omega) ;rw[←hq,decide_eq_false (fun h=>h1 h.1)]
abbrev ZT:Dc:=⟨3,[⟨1,[([97],0),([98],1),([97],2)]⟩],[(5,1999)]⟩
abbrev I1:Sg:=⟨[3],[⟨1,[97],[(3,[0,2])]⟩,⟨1,[98],[(3,[1])]⟩],[⟨5,[(1999,3)]⟩]⟩
theorem Lo:bY [ZT]=(I1,0):=by kernel_rfl
theorem rb:aP I1=true:=by kernel_rfl
theorem N4:pC I1 (1,[97])=[(3,[0,2])]:=by unfold pC;rw[rb];kernel_rfl
theorem Ln:lC I1 1 []=[[97],[98]]:=by unfold lC;rw[rb];kernel_rfl
theorem QU:yu I1 5 1990 1999=[3]:=by
 unfold yu;rw[rb];simp only[if_true];have h:rG 5 1990 1999 I1.aw=[3]:=by kernel_rfl
 rw[h];exact lj _ _ (LP _) (by unfold kU;simp) fun z=>Bt [3] z
theorem EJ:mh I1:=by
 have hm:400≤maxLen:=by decide
 refine⟨by simp,by simp,fun t ht=>?_,by simp,fun c hc=>?_⟩
 ·simp only[List.mem_cons,List.not_mem_nil,or_false] at ht;rcases ht with rfl|rfl
  ·exact⟨by simp only[length_cons,length_nil];omega,by simp,fun p hp=>by simp at hp;subst hp;simp⟩
  ·exact⟨by simp only[length_cons,length_nil];omega,by simp,fun p hp=>by simp at hp;subst hp;simp⟩
 ·simp at hc;subst hc;simp
theorem QT:wa ZT:=by
 have hm:400≤maxLen:=by decide
 refine⟨?_,?_,?_⟩
 ·simp only[length_cons,length_nil];omega
 ·intro z hz;simp only[List.mem_singleton] at hz;subst hz;refine⟨by simp only[length_cons,length_nil];omega,fun w hw=>?_⟩;simp only[List.mem_cons,List.not_mem_nil,or_false] at hw;rcases hw with rfl|rfl|rfl<;>(simp only[length_cons,length_nil];omega)
 ·simp only[length_cons,length_nil];omega
attribute [-simp] List.getD_eq_getElem?_getD in
theorem Im (H:List aA)(T:ar):aq Tryz.prog 11 [] H T (Is (.bool true) H T):=by
 have hm:1000≤maxLen:=by decide
 have cb:=fun H=>o7 [ZT] (by simp) (fun d hd=>by simp at hd;subst hd;exact QT) (fun d hd=>by simp at hd;subst hd;simp) H T .full;rw[Lo] at cb;have cv:=fun H=>iV I1 EJ H T;rw[rb] at cv;have cf:=fun H=>Lm I1 EJ 1 [97] H T;rw[N4] at cf;have cs:=fun H=>Kw [(3,[0,2])] [(3,[0,2])] (by simp) (by simp) (fun p hp=>by simp at hp;subst hp;simp only[length_cons,length_nil];omega) (fun p hp=>by simp at hp;subst hp;simp only[length_cons,length_nil];omega) H T .none .full;have ct:=fun H=>Of I1 EJ 5 1990 1999 H T;rw[QU] at ct;have ci:=fun H=>oA [3] [3] (by simp only[length_cons,length_nil];omega) (by simp only[length_cons,length_nil];omega) H T .none .full;have cw:=fun H=>Gp I1 EJ 1 [] (by simp) H T;rw[Ln] at cw;refine aq.cH ?_ (by simp);have e6:fH [.str [],.int .i64 0] 6=[.str [],.int .i64 0,.str [],.int .i64 0,.str [],.int .i64 0]:=rfl;refine aj 12 [] Tryz.ntmps11 Tryz.func11 rfl (fun _ _=>Tryz.call11 _ _) (by simp) (fun HO=>?_);apply ae;intro K h;simp(disch:=omega);apply h;clear h K;refine ae fun K hK=>?_;simp(disch:=omega)[e6];apply hK;clear hK K;refine ae fun K hK=>?_;simp(disch:=omega) ;refine ak (cb _) ?_;simp(disch:=omega) ;apply hK;clear hK K;refine ae fun K hK=>?_;simp(disch:=omega) ;refine ak (cv _) ?_;simp(disch:=omega) ;refine ak (cf _) ?_;simp(disch:=omega) ;refine ak (cs _) ?_;simp(disch:=omega) ;refine ak (ct _) ?_;simp(disch:=omega) ;refine ak (ci _) ?_;simp(disch:=omega) ;refine ak (cw _) ?_;simp(disch:=omega) ;apply hK;clear hK K;apply az;simp(disch:=omega) 
end Go.Proofs.YtneohapkboaplaaGreat
