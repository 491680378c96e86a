/- Reading texts and lists of integers (layer 1), of the reference.
  Conditions: lengths below 2^40, as each theorem says. -/
import Derived.Test.YtneohapkboaplaaGreatGW1
import Derived.Test.YtneohapkboaplaaGreatWPl
set_option linter.all false
set_option maxRecDepth 100000
namespace Go.Proofs.YtneohapkboaplaaGreat
open Go Go.Am gB
attribute [-simp] List.getD_eq_getElem?_getD in
theorem Jo (bs:List UInt8)(s:Rd)(mx:Int)(hs:s.at_≤bs.length)(hb:bs.length≤1099511627776)(H:List aG)(T:ay)(i:Nat)(fV:H[i]?=some (.cells (rd bs s))) :
  al Tryz.prog 134 [.ptr i 0,.int .i64 mx] H T (Is (.str (bD bs mx s).1) (H.set i (.cells (rd bs (bD bs mx s).2))) T):=by
 have hl:=(List.getElem?_eq_some_iff.1 fV).1;have et:=(List.getElem?_eq_some_iff.1 fV).2;have hle:=bI bs 0 mx s hs;have DJ:=dR bs mx s;have hc:=lM bs s 0 mx hs hb H T i fV;unfold bD;refine aj 7 [] Tryz.ntmps134 Tryz.func134 rfl (fun _ _=>Tryz.call134 _ _) (by simp) (fun HO=>?_);apply ae;intro K h;simp(disch:=omega);apply h;clear h K;refine ae fun K hK=>?_;simp(disch:=omega)[fV,et,hl,rd];apply hK;clear hK K;refine ae fun K hK=>?_;simp(disch:=omega) ;refine ah (hc) ?_;simp(disch:=omega) ;apply hK;clear hK K;have hup:=(uJ bs 0 mx s).2;generalize hv:(aI bs 0 mx s).1=v at *;generalize hq:(aI bs 0 mx s).2=q at *;have aat:(H.set i (aG.cells (rd bs q)))[i]?=some (.cells (rd bs q)):=by simp[hl]
 clear hc;refine af fun K1 aO=>?_
 cases dG:q.bad
 ·refine aM [] [] [] au (by kernel_rfl) (by kernel_rfl) fun K hK=>?_;simp(disch:=omega)[hl,rd,dG];apply hK;clear hK K;refine aP rfl (fun h=>?_) (fun h=>?_)
  ·simp at h;refine ae fun K hK=>?_;simp(disch:=omega)[hl];apply hK;clear hK K;apply ae;intro K h;simp(disch:=omega);apply h;clear h K;apply an;simp(disch:=omega) ;exact⟨rfl,rfl,rfl⟩
  ·simp at h;have hn:¬(q.bad=true∨v>(bs.length:Int)-q.at_):=by rw[dG];simp;omega
   have e2:(q.at_:Int)+v=((q.at_+v.toNat:Nat):Int):=by omega
   have e3:(q.at_:Int)+v-v=(q.at_:Int):=by omega
   apply ak;simp(disch:=omega) ;apply aO;clear aO;refine ae fun K hK=>?_;simp(disch:=omega)[hl];apply hK;clear hK K;refine aM [] [] [] au (by kernel_rfl) (by kernel_rfl) fun K hK=>?_;simp(disch:=omega)[hl,wY,wX,e3];apply hK;clear hK K;apply an;simp(disch:=omega) ;simp only[dG,rd,←e2];exact⟨rfl,rfl,rfl⟩
 ·refine aM [] [] [] au (by kernel_rfl) (by kernel_rfl) fun K hK=>?_;simp(disch:=omega)[hl,rd,dG];apply hK;clear hK K;apply aH rfl;refine ae fun K hK=>?_;simp(disch:=omega)[hl];apply hK;clear hK K;apply ae;intro K h;simp(disch:=omega);apply h;clear h K;apply an;simp(disch:=omega) ;exact⟨rfl,rfl,rfl⟩
attribute [-simp] List.getD_eq_getElem?_getD in
theorem Kk (bs:List UInt8)(s:Rd)(mx lo hi:Int)(hs:s.at_≤bs.length)(hb:bs.length≤1099511627776)(H:List aG)(T:ay)(i:Nat)(fV:H[i]?=some (.cells (rd bs s))) :
  al Tryz.prog 132 [.ptr i 0,.int .i64 mx,.int .i64 lo,.int .i64 hi] H T
   (Is (.sl (eu bs mx (aI bs lo hi) s).1.length (ints (eu bs mx (aI bs lo hi) s).1) .none) (H.set i (.cells (rd bs (eu bs mx (aI bs lo hi) s).2))) T):=by
 have hl:=(List.getElem?_eq_some_iff.1 fV).1;have et:=(List.getElem?_eq_some_iff.1 fV).2;have qQ:=lM bs s 0 mx hs hb H T i fV;have hle:=bI bs 0 mx s hs;have DJ:=dR bs mx s;have hup:=(uJ bs 0 mx s).2;refine al.cut _ T (by simp) (Nat.le_refl _) (fun h=>h.set (by simp[rd])) (by simp) ?_;refine aj 13 [] Tryz.ntmps132 Tryz.func132 rfl (fun _ _=>Tryz.call132 _ _) (by simp) (fun HO=>?_);apply ae;intro K h;simp(disch:=omega);apply h;clear h K;refine ae fun K hK=>?_;simp(disch:=omega)[fV,et,hl,rd];apply hK;clear hK K;refine ae fun K hK=>?_;simp(disch:=omega) ;refine ah (qQ) ?_;simp(disch:=omega) ;apply hK;clear hK K;apply ae;intro K h;simp(disch:=omega);apply h;clear h K;refine af fun K1 aO=>?_;apply ae;intro K h;simp(disch:=omega);apply h;clear h K;apply ai;refine jm 11 0 1 [] (by omega) (by simp) ?_;clear qQ;generalize DK:(aI bs 0 mx s).1=n0 at *;generalize ZG:(aI bs 0 mx s).2=q0 at *;have fC:∀(q:Rd)(k:Nat),bM (H.set i (.cells (rd bs q))) (T++[(k,1)]):=fun q k=>(HO.set (k:=i) (vs:=rd bs q) (by simp[rd])).df (T':=T++[(k,1)]) (by simp);refine aK (X:=Nat×Rd×List Int) (fun x=>⟨[(0,.ptr i 0),(2,.int .i64 lo),(3,.int .i64 hi),(9,.int .i64 (s.at_:Nat)),(10,.int .i64 n0),(11,.sl x.2.2.length (ints x.2.2) (.own T.length)),(12,.int .i64 (x.1:Nat))],
   H.set i (.cells (rd bs x.2.1)),T++[(x.2.2.length,1)]⟩)
  (fun x=>x.2.1.at_≤bs.length∧(x.1≤n0.toNat∧(x.2.1.bad=false→x.2.2.length≤x.2.1.at_))∧bO (aI bs lo hi) n0.toNat q0 []=bO (aI bs lo hi) (n0.toNat-x.1) x.2.1 x.2.2) (fun x=>n0.toNat-x.1) (0,q0,[]) ?_ ?_ ?_
 ·exact⟨hle,⟨Nat.zero_le _,fun _=>Nat.zero_le _⟩,rfl⟩
 ·refine ag [] [] ?_ ?_ ?_ ?_ (fC _ _) ?_
  all_goals simp[hl]
 ·rintro⟨k,⟨qa,qb⟩,out⟩ ⟨hq,⟨hk,sK⟩,hr⟩;simp only at hq hk sK hr;have xn:(H.set i (.cells (rd bs ⟨qa,qb⟩)))[i]?=some (.cells (rd bs ⟨qa,qb⟩)):=by simp[hl]
  by_cases hn:k<n0.toNat∧qb=false
  ·obtain⟨hn,rfl⟩:=hn;have sK:=sK rfl;have P1:=zL (bs:=bs) (s:=⟨qa,false⟩) (lo:=lo) (hi:=hi) rfl;have hc:=lM bs ⟨qa,false⟩ lo hi hq hb (H.set i (.cells (rd bs ⟨qa,false⟩))) (T++[(out.length,1)]) i xn;simp only[List.set_set] at hc;have ZF:=bI bs lo hi ⟨qa,false⟩ hq;have dA:=eF (aI bs lo hi) (n0.toNat-k) ⟨qa,false⟩ out (by omega) rfl;have hd:decide ((k:Int)<n0)=true:=by simp;omega
   have jc:(k:Int)<n0:=by omega
   simp only[rd] at xn;generalize hx:((aI bs lo hi) ⟨qa,false⟩).1=x at *;generalize hy:((aI bs lo hi) ⟨qa,false⟩).2=y at *;refine af fun K2 aY=>?_;refine ae fun K hK=>?_;simp(disch:=omega)[xn,hl,rd,hd,jc];apply hK;clear hK K;apply aH rfl;apply ak;simp(disch:=omega) ;apply aY;clear aY;refine af fun K3 bA=>?_;apply ai;refine ar fun K hK=>?_;simp(disch:=omega) ;refine ah (hc) ?_;simp(disch:=omega) ;apply hK;clear hK K;apply bA;clear bA;refine ar fun K hK=>?_;simp(disch:=omega) ;apply hK;clear hK K;refine⟨(k+1,y,out++[x]),⟨ZF,⟨by show k+1≤_;omega,fun hy=>by have:=P1 hy;simp only[List.length_append,List.length_cons,List.length_nil] at this ⊢;omega⟩,by rw[hr,dA,Nat.sub_sub]⟩,by show n0.toNat-(k+1)<n0.toNat-k;omega,?_⟩;refine ag [] [] ?_ ?_ ?_ ?_ (fC _ _) ?_
   ·simp
   ·simp
   ·simp
   ·simp
   ·simp[cN,hl]
  ·have mc:bO (aI bs lo hi) (n0.toNat-k) ⟨qa,qb⟩ out=(out,⟨qa,qb⟩):=by
    rcases Nat.lt_or_ge k n0.toNat with h0|h0
    ·exact dL _ _ _ _ (by cases qb<;>simp_all)
    ·rw[show n0.toNat-k=0 by omega];rfl
   have gf:eu bs mx (aI bs lo hi) s=if qb=true then ([],⟨s.at_,true⟩) else (out,⟨qa,qb⟩):=by
    unfold eu;rw[DK,ZG,hr,mc]
   simp only[rd] at xn
   cases qb
   ·have hkn:k=n0.toNat:=by
     rcases Nat.lt_or_ge k n0.toNat with h0|h0
     ·exact absurd ⟨h0,rfl⟩ hn
     ·omega
    have hd:decide ((k:Int)<n0)=false:=by simp;omega
    have jc:¬(k:Int)<n0:=by omega
    refine af fun K2 aY=>?_;refine ae fun K hK=>?_;simp(disch:=omega)[hd,jc];apply hK;clear hK K;apply aC rfl;apply aD;simp(disch:=omega) ;apply aO;clear aO;refine af fun K4 ec=>?_;refine ae fun K hK=>?_;simp(disch:=omega)[xn,hl,rd];apply hK;clear hK K;apply aC rfl;apply ak;simp(disch:=omega) ;apply ec;clear ec;apply ae;intro K h;simp(disch:=omega);apply h;clear h K;apply an;simp(disch:=omega) ;rw[gf];exact⟨⟨[],by simp[rd]⟩,rfl,rfl⟩
   ·rcases Nat.lt_or_ge k n0.toNat with hp|hp
    ·have hd:decide ((k:Int)<n0)=true:=by simp;omega
     have jc:(k:Int)<n0:=by omega
     refine af fun K2 aY=>?_;refine ae fun K hK=>?_;simp(disch:=omega)[xn,hl,rd,hd,jc];apply hK;clear hK K;apply aC rfl;apply aD;simp(disch:=omega) ;apply aO;clear aO;refine af fun K4 ec=>?_;refine ae fun K hK=>?_;simp(disch:=omega)[xn,hl,rd];apply hK;clear hK K;apply aH rfl;refine ae fun K hK=>?_;simp(disch:=omega)[xn,hl,rd];apply hK;clear hK K;apply ae;intro K h;simp(disch:=omega);apply h;clear h K;apply an;simp(disch:=omega) ;rw[gf];exact⟨⟨[],by simp[rd]⟩,rfl,rfl⟩
    ·have hd:decide ((k:Int)<n0)=false:=by simp;omega
     have jc:¬(k:Int)<n0:=by omega
     refine af fun K2 aY=>?_;refine ae fun K hK=>?_;simp(disch:=omega)[xn,hl,rd,hd,jc];apply hK;clear hK K;apply aC rfl;apply aD;simp(disch:=omega) ;apply aO;clear aO;refine af fun K4 ec=>?_;refine ae fun K hK=>?_;simp(disch:=omega)[xn,hl,rd];apply hK;clear hK K;apply aH rfl;refine ae fun K hK=>?_;simp(disch:=omega)[xn,hl,rd];apply hK;clear hK K;apply ae;intro K h;simp(disch:=omega);apply h;clear h K;apply an;simp(disch:=omega) ;rw[gf];exact⟨⟨[],by simp[rd]⟩,rfl,rfl⟩
end Go.Proofs.YtneohapkboaplaaGreat
