/- SegmentCode (layer 39): it returns true.
  Conditions: none. -/
import Derived.Test.YtneohapkboaplaaGreatGCe
import Derived.Test.YtneohapkboaplaaGreatGEr
import Derived.Test.YtneohapkboaplaaGreatGZw
set_option linter.all false
set_option maxRecDepth 100000
set_option maxHeartbeats 16000000
namespace Go.Proofs.YtneohapkboaplaaGreat
open Go Go.Am gH eB dc
open gB hiding aR
theorem wo {bs:Bs}(hl:bs.length≤600):∀i,i<(dN bs).1.toNat→(qK (jP (db bs) jJ bs) (dN bs).2 i).1.bad=false→Zm (LG bs (qK (jP (db bs) jJ bs) (dN bs).2 i).1):=fun i _ _=>by
 generalize (qK (jP (db bs) jJ bs) (dN bs).2 i).1=r;have h1:(LG bs r).length≤bs.length:=wB;have h2:=qh (LG bs r) (((LG bs r).length:Nat):Int) ⟨0,false⟩ (by omega);exact⟨by omega,by omega⟩
attribute [-simp] List.getD_eq_getElem?_getD in
theorem vo (s:Sg)(hs:SV s)(b:Bs)(hb:b.length≤maxLen):al Tryz.prog 10 [il s,.sl b.length (bu b) .none] [] [] (fun r _ _=>r=.bool true):=by
 have ik:maxLen≤9223372036854775807:=by decide
 have r8:=Nat.le_trans hb ik;have ca:=fun H=>Hu H [];have cs:=fun H=>Ge s hs H [];refine aj 17 [] Tryz.ntmps10 Tryz.func10 rfl (fun _ _=>Tryz.call10 _ _) (by simp) (fun HO=>?_);apply ae;intro K h;simp(disch:=omega);apply h;clear h K;refine af fun K1 aO=>?_;refine ae fun K hK=>?_;simp(disch:=omega) ;refine ah (ca _) ?_;simp(disch:=omega) ;apply hK;clear hK K;apply aC rfl;apply ak;simp(disch:=omega) ;apply aO;clear aO;refine af fun K1 aO=>?_
 cases ZD:lf s with
 |false=>
  rw[ZD] at cs;refine ae fun K hK=>?_;simp(disch:=omega) ;refine ah (cs _) ?_;simp(disch:=omega) ;apply hK;clear hK K;apply aH rfl;apply ae;intro K h;simp(disch:=omega);apply h;clear h K;apply an;simp(disch:=omega) 
 |true=>
 rw[ZD] at cs
 by_cases hl:(600:Int)<b.length
 ·have b1:decide ((600:Int)<b.length)=true:=decide_eq_true hl;refine ae fun K hK=>?_;simp(disch:=omega) ;refine ah (cs _) ?_;simp(disch:=omega)[b1,hl];apply hK;clear hK K;apply aH rfl;apply ae;intro K h;simp(disch:=omega);apply h;clear h K;apply an;simp(disch:=omega) 
 have b1:decide ((600:Int)<b.length)=false:=decide_eq_false hl;have Lo:b.length≤600:=by omega
 have hz:=Jx ZD hs;have co:=fun H T=>Qm s hz.sz H T;have ce:=fun H T=>sE s hz.sz H T;have cr:=fun H T=>Bo s hz.sz H T;have c4:=fun H T=>zD (fG s).1 (fG s).1 H T .none .none;rw[beq_self_eq_true] at c4;have cdP:=fun H T=>nZ b (by omega) (wo Lo) (szP Lo) H T .none;have cdR:=fun H T=>Br b Lo (szR Lo) H T .none;obtain⟨d1,d2,d3,d4⟩:=KR Lo;rw[d1] at cdR;have cEu:=fun H T=>Ah (gX b).1 d3 H T;have cZ:=fun H T=>sE (gX b).1 d3 H T;have cSb:=fun H T=>zD b b H T .none .none;rw[beq_self_eq_true] at cSb;have hdS:(fG s=(jK s,0)∧∀H T,al Tryz.prog 52 [.sl (jK s).length (bu (jK s)) .none] H T (Is (.cJ [il s,.int .i64 0]) H T))∨
   (fG s=([],1)∧∃B:Sg,∃G:Int,∀H T,al Tryz.prog 52 [.sl 0 [] .none] H T (Is (.cJ [il B,.int .i64 G]) H T)):=by
  unfold fG
  cases hv:aW s with
  |true=>
   obtain⟨k1,k2,k3,k4⟩:=Nu hv hz;refine .inl ⟨rfl,fun H T=>?_⟩;have:=nZ (jK s) k2 k3 k4 H T .none
   rwa [k1] at this
  |false=>
   refine .inr ⟨rfl,(gX []).1,(gX []).2,fun H T=>?_⟩;exact nZ [] (by simp) (wo (by simp)) (szP (by simp)) H T .none
 have cEs:=fun H T=>Ah s hz.sz H T;clear hz d1 d3;generalize fG s=xr at *;generalize jK s=xs at *;generalize fG (gX b).1=zr at *;generalize gX b=dr at *;obtain⟨u,g⟩:=dr;simp only at cdP cdR cEu cZ d2 d4;refine ae fun K hK=>?_;simp(disch:=omega) ;refine ah (cs _) ?_;simp(disch:=omega)[b1,hl];apply hK;clear hK K;apply aC rfl;apply ak;simp(disch:=omega) ;apply aO;clear aO;refine ae fun K hK=>?_;simp(disch:=omega) ;refine ah (co _ _) ?_;simp(disch:=omega) ;refine ah (ce _ _) ?_;simp(disch:=omega) ;apply hK;clear hK K;refine ae fun K hK=>?_;simp(disch:=omega) ;refine ah (cr _ _) ?_;simp(disch:=omega) ;apply hK;clear hK K;refine af fun K1 aO=>?_;refine ae fun K hK=>?_;simp(disch:=omega) ;refine ah (c4 _ _) ?_;simp(disch:=omega) ;apply hK;clear hK K;apply aC rfl;apply ak;simp(disch:=omega) ;apply aO;clear aO;refine af fun K1 aO=>?_;have tail:∀e J,b9 2 0 e [(1,.sl b.length (bu b) .none)]→J.length=2→K1 ⟨e,J,[]⟩:=fun e J he hJ=>by
  refine aO _ (lg fun fD=>aQ ⟨[(1,.sl b.length (bu b) .none)],J,[]⟩ (ag [] [] (by simp) (by simp) (by simp) (by simp) fD (by rw[hJ];exact he)) ?_);refine ae fun K hK=>?_;simp(disch:=omega) ;refine ah (cdP _ _) ?_;simp(disch:=omega) ;apply hK;clear hK K;refine ae fun K hK=>?_;simp(disch:=omega) ;refine ah (cdR _ _) ?_;simp(disch:=omega) ;apply hK;clear hK K;refine af fun K1 aO=>?_;refine ae fun K hK=>?_;simp(disch:=omega) ;refine ah (cEu _ _) ?_;simp(disch:=omega) ;apply hK;clear hK K;apply aC rfl;apply ak;simp(disch:=omega) ;apply aO;clear aO;refine ae fun K hK=>?_;simp(disch:=omega) ;refine ah (cZ _ _) ?_;simp(disch:=omega) ;apply hK;clear hK K;rcases d4 with rfl|rfl
  ·have d2:=d2 rfl;subst d2;refine ae fun K hK=>?_;simp(disch:=omega) ;refine ah (cSb _ _) ?_;simp(disch:=omega) ;apply hK;clear hK K;apply an;simp(disch:=omega) 
  ·apply ae;intro K h;simp(disch:=omega);apply h;clear h K;apply an;simp(disch:=omega) 
 rcases hdS with⟨rfl,cD⟩|⟨rfl,B,G,cD⟩
 ·refine ae fun K hK=>?_;simp(disch:=omega) ;refine ah (cD _ _) ?_;simp(disch:=omega) ;apply hK;clear hK K;refine ae fun K hK=>?_;simp(disch:=omega) ;refine ah (cEs _ _) ?_;simp(disch:=omega) ;apply hK;clear hK K;apply aC rfl;apply ak;simp(disch:=omega) ;exact tail _ _ (by simp) (by simp)
 ·refine ae fun K hK=>?_;simp(disch:=omega) ;refine ah (cD _ _) ?_;simp(disch:=omega) ;apply hK;clear hK K;apply ae;intro K h;simp(disch:=omega);apply h;clear h K;apply aC rfl;apply ak;simp(disch:=omega) ;exact tail _ _ (by simp) (by simp)
end Go.Proofs.YtneohapkboaplaaGreat
