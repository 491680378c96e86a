/- The law's same, SameTexts, the reference's Small (layer 39). The example of the document (layer 39): it holds.
  Conditions: lengths below 1000 or 1000, as each theorem says. -/
import Derived.Test.YtneohapkboaplaaGreatGV
import Derived.Test.YtneohapkboaplaaGreatGBC
import Derived.Test.YtneohapkboaplaaGreatGFA
import Derived.Test.YtneohapkboaplaaGreatGFB
set_option linter.all false
set_option maxRecDepth 100000
set_option maxHeartbeats 8000000
open List (length_cons length_nil)
namespace Go.Proofs.YtneohapkboaplaaGreat
open Go Go.Am gH eB dc
attribute [-simp] List.getD_eq_getElem?_getD in
theorem JA (a b:List Ps)(ha:a.length≤1000)(hb:b.length≤1000)(LQ:∀p∈a,p.2.length≤maxLen)(LP:∀p∈b,p.2.length≤maxLen)(H:List aG)(T:ay)(ta tb:Tag) :
  al Tryz.prog 19 [.sl a.length (bp a) ta,.sl b.length (bp b) tb] H T (Is (.bool (decide (a=b))) H T):=by
 refine al.cg (al.nF ?_);have c1:=wi a (by omega) H T .none;have c2:=zC a b (by omega) (by omega) LQ LP H T .none .none;generalize decide (a=b)=q at *;refine aj 5 [] Tryz.ntmps19 Tryz.func19 rfl (fun _ _=>Tryz.call19 _ _) (by simp) (fun HO=>?_);apply ae;intro K h;simp(disch:=omega);apply h;clear h K;refine ae fun K hK=>?_;simp(disch:=omega) ;refine ah (c1) ?_;simp(disch:=omega) ;refine ah (c2) ?_;simp(disch:=omega) ;apply hK;clear hK K;apply an;simp(disch:=omega) ;exact⟨rfl,rfl,rfl⟩
structure SV (s:Sg):Prop where
 d:s.aw.length≤maxLen
 t:s.aJ.length≤maxLen
 w:∀t∈s.aJ,t.w.length≤maxLen∧t.l.length≤maxLen∧∀p∈t.l,p.2.length≤maxLen
 c:s.az.length≤maxLen
 x:∀c∈s.az,c.x.length≤maxLen
def yO (l:List Ps):Bool:=decide (l.length≤30∧∀p∈l,p.2.length≤30)
def lf (s:Sg):Bool:=((List.range s.aJ.length).all (fun i=>yO (s.aJ.getD i t0).l)&&(List.range s.az.length).all (fun i=>decide ((s.az.getD i c0).x.length≤30)))&&decide (s.aw.length≤20∧s.aJ.length≤60∧s.az.length≤6)
attribute [-simp] List.getD_eq_getElem?_getD in
theorem Ge (s:Sg)(hs:SV s)(H:List aG)(T:ay):al Tryz.prog 17 [il s] H T (Is (.bool (lf s)) H T):=by
 refine al.dS ?_ (by simp);have ik:maxLen≤9223372036854775807:=by decide
 have hd:=Nat.le_trans hs.d ik;have ht:=Nat.le_trans hs.t ik;have hc:=Nat.le_trans hs.c ik;have vJ:∀i,i<s.aJ.length→yO (s.aJ.getD i t0).l=false→lf s=false:=fun i hi h=>by unfold lf;rw[iI hi h];rfl
 have sZ:∀i,i<s.az.length→¬(s.az.getD i c0).x.length≤30→lf s=false:=fun i hi h=>by unfold lf;rw[iI hi (decide_eq_false h)];simp
 have ub:(∀i,i<s.aJ.length→yO (s.aJ.getD i t0).l=true)→(∀i,i<s.az.length→(s.az.getD i c0).x.length≤30)→lf s=decide (s.aw.length≤20∧s.aJ.length≤60∧s.az.length≤6):=fun h1 h2=>by
  unfold lf;rw[fj h1,fj fun i hi=>decide_eq_true (h2 i hi)];rfl
 refine aj 6 [] Tryz.ntmps17 Tryz.func17 rfl (fun _ _=>Tryz.call17 _ _) (by simp) (fun HO=>?_);apply ae;intro K h;simp(disch:=omega);apply h;clear h K;have kx:bM (H++[.cells (cG s)]) T:=HO.snoc (by simp);refine af fun K1 aO=>?_;apply ae;intro K h;simp(disch:=omega);apply h;clear h K;apply ai;refine aK (X:=Nat) (fun i=>⟨[(1,.ptr H.length 0),(3,.int .i64 (i:Nat))],H++[.cells (cG s)],T⟩)
  (fun i=>i≤s.aJ.length∧∀j,j<i→yO (s.aJ.getD j t0).l=true) (fun i=>s.aJ.length-i) 0 ?_ ?_ ?_
 ·exact⟨Nat.zero_le _,fun j hj=>absurd hj (Nat.not_lt_zero _)⟩
 ·refine ag [] [] ?_ ?_ ?_ ?_ kx ?_
  all_goals simp
 ·rintro i ⟨g1,g2⟩;refine af fun K2 aY=>?_;apply ae;intro K h;simp(disch:=omega);apply h;clear h K;refine aP rfl (fun hk=>?_) (fun hk=>?_)
  ·simp  at hk;obtain⟨_,_,a3⟩:=qf s.aJ i hk;obtain⟨_,q2,q3⟩:=hs.w _ (aR s.aJ i t0 hk);have cf:=fun H=>QE (s.aJ.getD i t0).l q2 q3 H T .none;have hfb:decide ((s.aJ.getD i t0).l.length≤30∧∀p∈(s.aJ.getD i t0).l,p.2.length≤30)=yO (s.aJ.getD i t0).l:=rfl;rw[hfb] at cf;replace vJ:=vJ i hk;have kZ:yO (s.aJ.getD i t0).l=true→∀j,j<i+1→yO (s.aJ.getD j t0).l=true:=fun h j hj=>by
    rcases Nat.lt_or_ge j i with h1|h1
    ·exact g2 j h1
    ·have:j=i:=by omega
     subst this;exact h
   generalize yO (s.aJ.getD i t0).l=fb at *;apply ak;simp(disch:=omega) ;apply aY;clear aY;refine af fun K3 bA=>?_;apply ai
   cases fb with
   |false=>
    refine ae fun K hK=>?_;simp(disch:=omega)[a3,bH,hk];refine ah (cf _) ?_;simp(disch:=omega) ;apply hK;clear hK K;apply aH rfl;apply ae;intro K h;simp(disch:=omega);apply h;clear h K;apply an;simp(disch:=omega) ;rw[vJ rfl]
   |true=>
    refine ae fun K hK=>?_;simp(disch:=omega)[a3,bH,hk];refine ah (cf _) ?_;simp(disch:=omega) ;apply hK;clear hK K;apply aC rfl;apply ak;simp(disch:=omega) ;apply bA;clear bA;refine ar fun K hK=>?_;simp(disch:=omega) ;apply hK;clear hK K;refine⟨i+1,⟨by show i+1≤_;omega,kZ rfl⟩,by show s.aJ.length-(i+1)<s.aJ.length-i;omega,?_⟩;refine ag [] [] ?_ ?_ ?_ ?_ kx ?_
    all_goals simp
  ·simp  at hk;apply aD;simp(disch:=omega) ;apply aO;clear aO;refine af fun K1 aO=>?_;apply ae;intro K h;simp(disch:=omega);apply h;clear h K;apply ai;refine aK (X:=Nat) (fun i=>⟨[(1,.ptr H.length 0),(4,.int .i64 (i:Nat))],H++[.cells (cG s)],T⟩)
    (fun i=>i≤s.az.length∧∀j,j<i→(s.az.getD j c0).x.length≤30) (fun i=>s.az.length-i) 0 ?_ ?_ ?_
   ·exact⟨Nat.zero_le _,fun j hj=>absurd hj (Nat.not_lt_zero _)⟩
   ·refine ag [] [] ?_ ?_ ?_ ?_ kx ?_
    all_goals simp
   ·rintro m ⟨m1,m2⟩;refine af fun K2 aY=>?_;apply ae;intro K h;simp(disch:=omega);apply h;clear h K;refine aP rfl (fun da=>?_) (fun da=>?_)
    ·simp  at da;obtain⟨_,a2⟩:=qo s.az m da;have yu:=Nat.le_trans (hs.x _ (aR s.az m c0 da)) ik;replace sZ:=sZ m da;have kZ:(s.az.getD m c0).x.length≤30→∀j,j<m+1→(s.az.getD j c0).x.length≤30:=fun h j hj=>by
      rcases Nat.lt_or_ge j m with h1|h1
      ·exact m2 j h1
      ·have:j=m:=by omega
       subst this;exact h
     generalize (s.az.getD m c0).x=x at *;apply ak;simp(disch:=omega) ;apply aY;clear aY;refine af fun K3 bA=>?_;apply ai
     by_cases hx:x.length≤30
     ·have b1:decide ((30:Int)<x.length)=false:=decide_eq_false (by omega);have n1:¬(30:Int)<x.length:=by omega
      have n2:¬30<x.length:=by omega
      refine ae fun K hK=>?_;simp(disch:=omega)[a2,de,da,b1,n1,n2];apply hK;clear hK K;apply aC rfl;apply ak;simp(disch:=omega) ;apply bA;clear bA;refine ar fun K hK=>?_;simp(disch:=omega) ;apply hK;clear hK K;refine⟨m+1,⟨by show m+1≤_;omega,kZ hx⟩,by show s.az.length-(m+1)<s.az.length-m;omega,?_⟩;refine ag [] [] ?_ ?_ ?_ ?_ kx ?_
      all_goals simp
     ·have b1:decide ((30:Int)<x.length)=true:=decide_eq_true (by omega);have n1:(30:Int)<x.length:=by omega
      have n2:30<x.length:=by omega
      refine ae fun K hK=>?_;simp(disch:=omega)[a2,de,da,b1,n1,n2];apply hK;clear hK K;apply aH rfl;apply ae;intro K h;simp(disch:=omega);apply h;clear h K;apply an;simp(disch:=omega) ;rw[sZ hx]
    ·simp  at da;apply aD;simp(disch:=omega) ;apply aO;clear aO;rw[ub (fun j hj=>g2 j (by omega)) (fun j hj=>m2 j (by omega))];generalize hq:decide (s.aw.length≤20∧s.aJ.length≤60∧s.az.length≤6)=q
     by_cases h1:s.aw.length≤20
     ·have b1:decide ((s.aw.length:Int)≤20)=true:=decide_eq_true (by omega)
      by_cases h2:s.aJ.length≤60
      ·have b2:decide ((s.aJ.length:Int)≤60)=true:=decide_eq_true (by omega)
       by_cases h3:s.az.length≤6
       ·have b3:decide ((s.az.length:Int)≤6)=true:=decide_eq_true (by omega);refine ae fun K hK=>?_;simp(disch:=omega)[b1,h1,b2,h2,b3,h3];apply hK;clear hK K;apply an;simp(disch:=omega) ;rw[←hq,decide_eq_true ⟨h1,h2,h3⟩]
       ·have b3:decide ((s.az.length:Int)≤6)=false:=decide_eq_false (by omega);refine ae fun K hK=>?_;simp(disch:=omega)[b1,h1,b2,h2,b3,h3];apply hK;clear hK K;apply an;simp(disch:=omega) ;rw[←hq,decide_eq_false (fun h=>h3 h.2.2)]
      ·have b2:decide ((s.aJ.length:Int)≤60)=false:=decide_eq_false (by omega);refine ae fun K hK=>?_;simp(disch:=omega)[b1,h1,b2,h2];apply hK;clear hK K;apply an;simp(disch:=omega) ;rw[←hq,decide_eq_false (fun h=>h2 h.2.1)]
     ·have b1:decide ((s.aw.length:Int)≤20)=false:=decide_eq_false (by omega);refine ae fun K hK=>?_;simp(disch:=omega)[b1,h1];apply hK;clear hK K;apply an;simp(disch:=omega) ;rw[←hq,decide_eq_false (fun h=>h1 h.1)]
abbrev exD:Dc:=⟨3,[⟨1,[([97],0),([98],1),([97],2)]⟩],[(5,1999)]⟩
abbrev H5:Sg:=⟨[3],[⟨1,[97],[(3,[0,2])]⟩,⟨1,[98],[(3,[1])]⟩],[⟨5,[(1999,3)]⟩]⟩
theorem KD:gD [exD]=(H5,0):=by kernel_rfl
theorem qB:aW H5=true:=by kernel_rfl
theorem Nq:oY H5 (1,[97])=[(3,[0,2])]:=by unfold oY;rw[qB];kernel_rfl
theorem KB:k9 H5 1 []=[[97],[98]]:=by unfold k9;rw[qB];kernel_rfl
theorem QG:xA H5 5 1990 1999=[3]:=by
 unfold xA;rw[qB];simp only[if_true];have h:rj 5 1990 1999 H5.az=[3]:=by kernel_rfl
 rw[h];exact mr _ _ (Lc _) (by unfold jR;simp) fun z=>AI [3] z
theorem D0:re H5:=by
 have hm:1000≤maxLen:=by decide
 refine⟨by simp,by simp,fun t ht=>?_,by simp,fun c hc=>?_⟩
 ·simp only[List.mem_cons,List.not_mem_nil,or_false] at ht;rcases ht with rfl|rfl
  ·exact⟨by simp only[length_cons,length_nil];omega,by simp,fun p hp=>by simp at hp;subst hp;simp⟩
  ·exact⟨by simp only[length_cons,length_nil];omega,by simp,fun p hp=>by simp at hp;subst hp;simp⟩
 ·simp at hc;subst hc;simp
theorem QF:Oe exD:=by
 have hm:1000≤maxLen:=by decide
 refine⟨?_,?_,?_⟩
 ·simp only[length_cons,length_nil];omega
 ·intro z hz;simp only[List.mem_singleton] at hz;subst hz;refine⟨by simp only[length_cons,length_nil];omega,fun w hw=>?_⟩;simp only[List.mem_cons,List.not_mem_nil,or_false] at hw;rcases hw with rfl|rfl|rfl<;>(simp only[length_cons,length_nil];omega)
 ·simp only[length_cons,length_nil];omega
attribute [-simp] List.getD_eq_getElem?_getD in
theorem Hu (H:List aG)(T:ay):al Tryz.prog 11 [] H T (Is (.bool true) H T):=by
 have hm:1000≤maxLen:=by decide
 have cb:=fun H=>Hr [exD] (by simp) (fun d hd=>by simp at hd;subst hd;exact QF) (fun d hd=>by simp at hd;subst hd;simp) H T .full;rw[KD] at cb;have cv:=fun H=>jL H5 D0 H T;rw[qB] at cv;have cf:=fun H=>Kz H5 D0 1 [97] H T;rw[Nq] at cf;have cs:=fun H=>JA [(3,[0,2])] [(3,[0,2])] (by simp) (by simp) (fun p hp=>by simp at hp;subst hp;simp only[length_cons,length_nil];omega) (fun p hp=>by simp at hp;subst hp;simp only[length_cons,length_nil];omega) H T .none .full;have ct:=fun H=>NB H5 D0 5 1990 1999 H T;rw[QG] at ct;have ci:=fun H=>nU [3] [3] (by simp only[length_cons,length_nil];omega) (by simp only[length_cons,length_nil];omega) H T .none .full;have cw:=fun H=>FN H5 D0 1 [] (by simp) H T;rw[KB] at cw;refine al.dS ?_ (by simp);have e6:gj [.str [],.int .i64 0] 6=[.str [],.int .i64 0,.str [],.int .i64 0,.str [],.int .i64 0]:=rfl;refine aj 12 [] Tryz.ntmps11 Tryz.func11 rfl (fun _ _=>Tryz.call11 _ _) (by simp) (fun HO=>?_);apply ae;intro K h;simp(disch:=omega);apply h;clear h K;refine ae fun K hK=>?_;simp(disch:=omega)[e6];apply hK;clear hK K;refine ae fun K hK=>?_;simp(disch:=omega) ;refine ah (cb _) ?_;simp(disch:=omega) ;apply hK;clear hK K;refine ae fun K hK=>?_;simp(disch:=omega) ;refine ah (cv _) ?_;simp(disch:=omega) ;refine ah (cf _) ?_;simp(disch:=omega) ;refine ah (cs _) ?_;simp(disch:=omega) ;refine ah (ct _) ?_;simp(disch:=omega) ;refine ah (ci _) ?_;simp(disch:=omega) ;refine ah (cw _) ?_;simp(disch:=omega) ;apply hK;clear hK K;apply an;simp(disch:=omega) 
end Go.Proofs.YtneohapkboaplaaGreat
