/- The reference's readers of layer 1.
  Conditions: lengths below 2^40. -/
import Derived.Test.YtneohapkboaplaaGreatPW3
import Derived.Test.YtneohapkboaplaaGreatWPl2
set_option linter.all false
set_option maxRecDepth 100000
namespace Go.Proofs.YtneohapkboaplaaGreat
open Go Go.Am gB
theorem Oi (u:Nat):(u:Int).tmod 2=((u % 2:Nat):Int):=rfl
theorem MD (u:Nat):(u:Int).tmod 128=((u % 128:Nat):Int):=rfl
theorem Oj (u:Nat):(u:Int).tdiv 2=((u / 2:Nat):Int):=rfl
attribute [-simp] List.getD_eq_getElem?_getD in
theorem nT (u:Nat)(hu:u<18446744073709551616)(H:List aG)(T:ay):al Tryz.prog 216 [.int .u64 (u:Nat)] H T (Is (.int .i64 (oK u)) H T):=by
 have hw:IntKind.i64.wrap ((u / 2:Nat):Int)=((u / 2:Nat):Int):=by rw[IntKind.wrap_i64];omega
 refine aj 4 [] Tryz.ntmps216 Tryz.func216 rfl (fun _ _=>Tryz.call216 _ _) (by simp) (fun HO=>?_);apply ae;intro K h;simp(disch:=omega);apply h;clear h K;refine af fun K1 aO=>?_
 by_cases h1:u % 2=1
 ·have b1:(((u % 2:Nat):Int)==0)=false:=by rw[h1];decide
  refine ae fun K hK=>?_;simp(disch:=omega)[Oi,b1,h1];apply hK;clear hK K;apply aC rfl;apply ak;simp(disch:=omega) ;apply aO;clear aO;refine ae fun K hK=>?_;simp(disch:=omega)[Oj,hw];apply hK;clear hK K;apply an;simp(disch:=omega) ;refine⟨?_,rfl,rfl⟩;simp only[oK,if_pos h1]
  congr 1
 ·have h0:u % 2=0:=by omega
  have b1:(((u % 2:Nat):Int)==0)=true:=by rw[h0];decide
  refine ae fun K hK=>?_;simp(disch:=omega)[Oi,b1,h0];apply hK;clear hK K;apply aH rfl;refine ae fun K hK=>?_;simp(disch:=omega)[Oj,hw];apply hK;clear hK K;apply an;simp(disch:=omega) ;refine⟨?_,rfl,rfl⟩;simp only[oK,if_neg h1]
  congr 1
def y7 (at_:Nat)(r:Int×Nat×Bool):AV:=.cJ [.int .i64 r.1,.int .i64 ((if r.2.1=0 then 0 else at_+r.2.1:Nat):Int),.bool r.2.2]
theorem JK (f k u:Nat)(l:List UInt8)(h:10≤k∨(k=9∧129<f)):ET f k u l=(0,0,false):=by
 cases l with
 |nil=>rfl
 |cons c r=>rw[ET,if_pos h]
attribute [-simp] List.getD_eq_getElem?_getD in
theorem G2 (bs:List UInt8)(at_:Nat)(hs:at_≤bs.length)(hb:bs.length≤1099511627776)(H:List aG)(T:ay)(tg:Tag) :
  al Tryz.prog 174 [.sl bs.length (bu bs) tg,.int .i64 (at_:Nat)] H T (Is (y7 at_ (pq bs at_)) H T):=by
 refine al.cg ?_;refine aj 9 [] Tryz.ntmps174 Tryz.func174 rfl (fun _ _=>Tryz.call174 _ _) (by simp) (fun HO=>?_);apply ae;intro K h;simp(disch:=omega);apply h;clear h K;apply ae;intro K h;simp(disch:=omega);apply h;clear h K;refine af fun K1 aO=>?_;apply ae;intro K h;simp(disch:=omega);apply h;clear h K;apply ai;refine aK (X:=Nat×Nat) (fun x=>⟨[(0,.sl bs.length (bu bs) .none),(1,.int .i64 (at_:Nat)),(7,.int .u64 (x.1:Nat)),(8,.int .i64 ((at_+x.2:Nat):Int))],H,T⟩)
  (fun x=>x.2≤10∧at_+x.2≤bs.length∧QX (bs.getD at_ 0).toNat x.2 x.1∧pq bs at_=ET (bs.getD at_ 0).toNat x.2 x.1 (bs.drop (at_+x.2))) (fun x=>10-x.2) (0,0) ?_ ?_ ?_
 ·exact⟨by simp only;omega,hs,.inl ⟨rfl,rfl⟩,rfl⟩
 ·refine ag [] [] ?_ ?_ ?_ ?_ HO ?_
  all_goals simp
 ·rintro⟨u,k⟩ ⟨h1,h2,h3,h4⟩;simp only at h1 h2 h3 h4
  by_cases hi:at_+k<bs.length
  ·have bi:decide ((at_:Int)+k<bs.length)=true:=by simp;omega
   by_cases hk:k<10
   ·have bk:decide ((at_:Int)+k<(at_:Int)+10)=true:=by simp;omega
    have gR:at_<bs.length:=by omega
    have ZR:(k:Int)<10:=by omega
    have hf:(bs.getD at_ 0).toNat<256:=UInt8.toNat_lt _;have hc:(bs.getD (at_+k) 0).toNat<256:=UInt8.toNat_lt _;have NV:=rS gR;have W8:=rS hi;rw[iz bs (at_+k) hi,ET] at h4;have Lp:k=0→(bs.getD (at_+k) 0).toNat=(bs.getD at_ 0).toNat:=fun h=>by rw[h];rfl
    generalize jz:(bs.getD (at_+k) 0).toNat=c at *;generalize Sc:(bs.getD at_ 0).toNat=f at *;refine af fun K2 aY=>?_;refine ae fun K hK=>?_;simp(disch:=omega)[bi,bk,hi,hk,ZR];apply hK;clear hK K;apply aH rfl;apply ak;simp(disch:=omega) ;apply aY;clear aY;refine af fun K3 bA=>?_;apply ai;refine af fun K4 ec=>?_;refine ae fun K hK=>?_;have key:∀e b,b=decide (k=9∧129<f)→b9 H.length T.length e [(0,.sl bs.length (bu bs) .none),(1,.int .i64 (at_:Nat)),(7,.int .u64 (u:Nat)),(8,.int .i64 ((at_+k:Nat):Int)),(32,.bool b)]→K ⟨e,H,T⟩:=by
     intro e b r8 he;refine hK _ (aQ ⟨[(0,.sl bs.length (bu bs) .none),(1,.int .i64 (at_:Nat)),(7,.int .u64 (u:Nat)),(8,.int .i64 ((at_+k:Nat):Int)),(32,.bool b)],H,T⟩ (ag [] [] (by simp) (by simp) (by simp) (by simp) HO he) ?_)
     by_cases h9:k=9∧129<f
     ·rw[decide_eq_true h9] at r8;subst r8;rw[if_pos (.inr h9)] at h4;apply aH rfl;apply ae;intro K h;simp(disch:=omega);apply h;clear h K;apply an;simp(disch:=omega) ;rw[h4];exact⟨rfl,rfl,rfl⟩
     ·rw[decide_eq_false h9] at r8;subst r8;rw[if_neg (by rintro (h|h);omega;exact h9 h)] at h4;have hu:=wz h3 hf hk h9;apply aC rfl;apply ak;simp(disch:=omega) ;apply ec;clear ec;refine ae fun K hK=>?_;simp(disch:=omega)[W8,MD];apply hK;clear hK K;have hv:u*128+c % 128<18446744073709551616:=by omega
      rw[show (128*(u:Int)+(c:Int) % 128)=((u*128+c % 128:Nat):Int) from by omega]
      by_cases bh:c<128
      ·have bl:decide ((c:Int)<128)=true:=by simp;omega
       rw[if_pos bh] at h4;refine ae fun K hK=>?_;simp(disch:=omega)[W8,bl,bh];apply hK;clear hK K;apply aH rfl
       by_cases tm:k=0
       ·subst tm;refine aM [] [] [] au (by kernel_rfl) (by kernel_rfl) fun K hK=>?_;simp(disch:=omega) ;refine aB (nT _ hv _ _) rfl ?_;simp(disch:=omega) ;apply hK;clear hK K;apply an;simp(disch:=omega) ;rw[h4];refine⟨?_,rfl,rfl⟩;simp[y7]
       ·have b5:((at_:Int)+k==at_)=false:=by rw[beq_eq_false_iff_ne];omega
        by_cases Sb:f=128
        ·have b6:((f:Int)!=128)=false:=by rw[Sb];decide
         refine aM [] [] [] au (by kernel_rfl) (by kernel_rfl) fun K hK=>?_;simp(disch:=omega)[b5,tm];refine aB (nT _ hv _ _) rfl ?_;simp(disch:=omega)[b5,tm,NV,b6,Sb];apply hK;clear hK K;apply an;simp(disch:=omega) ;rw[h4];refine⟨?_,rfl,rfl⟩;simp[y7,tm,Sb];omega
        ·have b6:((f:Int)!=128)=true:=by rw[bne_iff_ne];omega
         refine aM [] [] [] au (by kernel_rfl) (by kernel_rfl) fun K hK=>?_;simp(disch:=omega)[b5,tm];refine aB (nT _ hv _ _) rfl ?_;simp(disch:=omega)[b5,tm,NV,b6,Sb];apply hK;clear hK K;apply an;simp(disch:=omega) ;rw[h4];refine⟨?_,rfl,rfl⟩;simp[y7,tm,Sb];omega
      ·have bl:decide ((c:Int)<128)=false:=by simp;omega
       rw[if_neg bh] at h4;refine ae fun K hK=>?_;simp(disch:=omega)[W8,bl,bh];apply hK;clear hK K;apply aC rfl;apply ak;simp(disch:=omega) ;apply bA;clear bA;refine ar fun K hK=>?_;simp(disch:=omega) ;apply hK;clear hK K;refine⟨(u*128+c % 128,k+1),⟨by show k+1≤10;omega,by show at_+(k+1)≤_;omega,zI h3 hf Lp (by omega) hc,h4⟩,by show 10-(k+1)<10-k;omega,?_⟩;refine ag [] [] ?_ ?_ ?_ ?_ HO ?_
       ·simp
       ·simp
       ·simp
       ·simp
       ·simp
        try omega
    clear hK
    by_cases h9:k=9
    ·subst h9
     by_cases Xb:129<f
     ·have b2:decide ((129:Int)<f)=true:=by simp;omega
      simp(disch:=omega)[NV,b2,Xb];refine key _ true ?_ (by simp);simp[Xb]
     ·have b2:decide ((129:Int)<f)=false:=by simp;omega
      simp(disch:=omega)[NV,b2,Xb];refine key _ false ?_ (by simp);simp[Xb]
    ·have b1:((at_:Int)+k==(at_:Int)+9)=false:=by rw[beq_eq_false_iff_ne];omega
     have hk9:¬(k:Int)=9:=by omega
     simp(disch:=omega)[b1,h9,hk9];refine key _ false ?_ (by simp);simp[h9]
   ·have ZR:¬(k:Int)<10:=by omega
    have bk:decide ((at_:Int)+k<(at_:Int)+10)=false:=by simp;omega
    rw[JK _ _ _ _ (.inl (by omega))] at h4;refine af fun K2 aY=>?_;refine ae fun K hK=>?_;simp(disch:=omega)[bi,bk,hi,hk,ZR];apply hK;clear hK K;apply aC rfl;apply aD;simp(disch:=omega) ;apply aO;clear aO;apply ae;intro K h;simp(disch:=omega);apply h;clear h K;apply an;simp(disch:=omega) ;rw[h4];exact⟨rfl,rfl,rfl⟩
  ·have bi:decide ((at_:Int)+k<bs.length)=false:=by simp;omega
   rw[List.drop_eq_nil_of_le (by omega),ET] at h4;refine af fun K2 aY=>?_;refine ae fun K hK=>?_;simp(disch:=omega)[bi,hi];apply hK;clear hK K;apply aC rfl;apply aD;simp(disch:=omega) ;apply aO;clear aO;apply ae;intro K h;simp(disch:=omega);apply h;clear h K;apply an;simp(disch:=omega) ;rw[h4];exact⟨rfl,rfl,rfl⟩
attribute [-simp] List.getD_eq_getElem?_getD in
theorem lM (bs:List UInt8)(s:Rd)(lo hi:Int)(hs:s.at_≤bs.length)(hb:bs.length≤1099511627776)(H:List aG)(T:ay)(i:Nat)(fV:H[i]?=some (.cells (rd bs s))) :
  al Tryz.prog 133 [.ptr i 0,.int .i64 lo,.int .i64 hi] H T (Is (.int .i64 (aI bs lo hi s).1) (H.set i (.cells (rd bs (aI bs lo hi s).2))) T):=by
 have hl:=(List.getElem?_eq_some_iff.1 fV).1;have et:=(List.getElem?_eq_some_iff.1 fV).2;have hc:=G2 bs s.at_ hs hb H T .none;have hgl:=x8 bs s.at_ hs;refine aj 10 [] Tryz.ntmps133 Tryz.func133 rfl (fun _ _=>Tryz.call133 _ _) (by simp) (fun HO=>?_);apply ae;intro K h;simp(disch:=omega);apply h;clear h K;refine aM [] [] [] au (by kernel_rfl) (by kernel_rfl) fun K hK=>?_;simp(disch:=omega)[fV,et,hl,rd];refine aB (hc) rfl ?_;simp(disch:=omega)[y7];apply hK;clear hK K;refine af fun K1 aO=>?_;refine ae fun K hK=>?_
 cases hg:fZ bs s.at_ with
 |none=>
  have h3:=Bb hg;generalize pq bs s.at_=r at *;obtain⟨n,z,ok⟩:=r;simp only at h3;subst h3;have gf:aI bs lo hi s=(0,⟨s.at_,true⟩):=by
   unfold aI
   split
   ·rename_i h;obtain⟨a,b⟩:=s;simp only at h;subst h;rfl
   ·rw[if_pos (.inl (by rw[hg];rfl))]
  cases dG:s.bad
  all_goals
   simp(disch:=omega)[fV,et,hl,rd,dG];refine hK _ ?_;apply aH rfl;refine ae fun K hK=>?_;simp(disch:=omega)[fV,et,hl,rd,dG];apply hK;clear hK K;apply ae;intro K h;simp(disch:=omega);apply h;clear h K;apply an;simp(disch:=omega) ;rw[gf];exact⟨rfl,rfl,rfl⟩
 |some p=>
  obtain⟨v,z⟩:=p;have h3:=Ba hg;rw[h3];obtain⟨f1,f2,f3⟩:=mw hg;have hub:=py f1;have PY:sX (fZ bs s.at_)=z:=by rw[hg];rfl
  have PX:sW (fZ bs s.at_)=oK v:=by rw[hg];rfl
  have hz:¬z=0:=by omega
  cases dG:s.bad
  ·by_cases h1:oK v<lo
   ·have b1:decide (oK v<lo)=true:=by simpa using h1
    have gf:aI bs lo hi s=(0,⟨s.at_,true⟩):=by
     unfold aI;rw[dG,PY,PX,if_neg (by decide),if_pos (.inr (.inl h1))]
    simp(disch:=omega)[fV,et,hl,rd,dG,b1,h1];refine hK _ ?_;apply aH rfl;refine ae fun K hK=>?_;simp(disch:=omega)[fV,et,hl,rd,dG];apply hK;clear hK K;apply ae;intro K h;simp(disch:=omega);apply h;clear h K;apply an;simp(disch:=omega) ;rw[gf];exact⟨rfl,rfl,rfl⟩
   ·have b1:decide (oK v<lo)=false:=by simpa using h1
    by_cases h2:hi<oK v
    ·have b2:decide (hi<oK v)=true:=by simpa using h2
     have gf:aI bs lo hi s=(0,⟨s.at_,true⟩):=by
      unfold aI;rw[dG,PY,PX,if_neg (by decide),if_pos (.inr (.inr h2))]
     simp(disch:=omega)[fV,et,hl,rd,dG,b1,h1,b2,h2];refine hK _ ?_;apply aH rfl;refine ae fun K hK=>?_;simp(disch:=omega)[fV,et,hl,rd,dG];apply hK;clear hK K;apply ae;intro K h;simp(disch:=omega);apply h;clear h K;apply an;simp(disch:=omega) ;rw[gf];exact⟨rfl,rfl,rfl⟩
    ·have b2:decide (hi<oK v)=false:=by simpa using h2
     have gf:aI bs lo hi s=(oK v,⟨s.at_+z,false⟩):=by
      unfold aI;rw[dG,PY,PX,if_neg (by decide),if_neg (by rintro (h|h|h);exact hz h;exact h1 h;exact h2 h)]
     simp(disch:=omega)[fV,et,hl,rd,dG,b1,h1,b2,h2];refine hK _ ?_;apply aC rfl;apply ak;simp(disch:=omega) ;apply aO;clear aO;refine ae fun K hK=>?_;simp(disch:=omega)[fV,et,hl,rd,dG,hz];apply hK;clear hK K;apply ae;intro K h;simp(disch:=omega);apply h;clear h K;apply an;simp(disch:=omega) ;rw[gf];exact⟨rfl,rfl,rfl⟩
  ·have gf:aI bs lo hi s=(0,⟨s.at_,true⟩):=by
    unfold aI;rw[if_pos dG];obtain⟨a,b⟩:=s;simp only at dG;subst dG;rfl
   simp(disch:=omega)[fV,et,hl,rd,dG];refine hK _ ?_;apply aH rfl;refine ae fun K hK=>?_;simp(disch:=omega)[fV,et,hl,rd,dG];apply hK;clear hK K;apply ae;intro K h;simp(disch:=omega);apply h;clear h K;apply an;simp(disch:=omega) ;rw[gf];exact⟨rfl,rfl,rfl⟩
attribute [-simp] List.getD_eq_getElem?_getD in
theorem JL (bs:List UInt8)(s:Rd)(hs:s.at_≤bs.length)(hb:bs.length≤1099511627776)(H:List aG)(T:ay)(i:Nat)(fV:H[i]?=some (.cells (rd bs s))) :
  al Tryz.prog 175 [.ptr i 0] H T (Is (.int .i64 ((bs.length-s.at_:Nat):Int)) H T):=by
 have hl:=(List.getElem?_eq_some_iff.1 fV).1;have et:=(List.getElem?_eq_some_iff.1 fV).2;refine aj 3 [] Tryz.ntmps175 Tryz.func175 rfl (fun _ _=>Tryz.call175 _ _) (by simp) (fun HO=>?_);apply ae;intro K h;simp(disch:=omega);apply h;clear h K;refine aM [] [] [] au (by kernel_rfl) (by kernel_rfl) fun K hK=>?_;simp(disch:=omega)[fV,et,hl,rd];apply hK;clear hK K;apply an;simp(disch:=omega) ;refine⟨?_,rfl,rfl⟩
 congr 1
 omega
attribute [-simp] List.getD_eq_getElem?_getD in
theorem Ap (bs:List UInt8)(s:Rd)(hs:s.at_≤bs.length)(hb:bs.length≤1099511627776)(H:List aG)(T:ay)(i:Nat)(fV:H[i]?=some (.cells (rd bs s))) :
  al Tryz.prog 136 [.ptr i 0] H T (Is (.int .i64 (dt bs s)) H T):=by
 have hl:=(List.getElem?_eq_some_iff.1 fV).1;have et:=(List.getElem?_eq_some_iff.1 fV).2;have hc:=JL bs s hs hb H T i fV;refine aj 3 [] Tryz.ntmps136 Tryz.func136 rfl (fun _ _=>Tryz.call136 _ _) (by simp) (fun HO=>?_);apply ae;intro K h;simp(disch:=omega);apply h;clear h K;refine af fun K1 aO=>?_
 cases dG:s.bad
 ·by_cases h1:s.at_<bs.length
  ·have b1:decide ((0:Int)<((bs.length-s.at_:Nat):Int))=true:=by simp;omega
   have b2:(0:Int)<((bs.length-s.at_:Nat):Int):=by omega
   have b3:0<bs.length-s.at_:=by omega
   refine ae fun K hK=>?_;simp(disch:=omega)[fV,et,hl,rd,dG];refine ah (hc) ?_;simp(disch:=omega)[b1,b2,b3,h1];apply hK;clear hK K;apply aH rfl;apply ae;intro K h;simp(disch:=omega);apply h;clear h K;apply an;simp(disch:=omega) ;unfold dt;rw[if_pos (.inr h1)];exact⟨rfl,rfl,rfl⟩
  ·have b3:bs.length-s.at_=0:=by omega
   rw[b3] at hc;refine ae fun K hK=>?_;simp(disch:=omega)[fV,et,hl,rd,dG];refine ah (hc) ?_;simp(disch:=omega) ;apply hK;clear hK K;apply aC rfl;apply ak;simp(disch:=omega) ;apply aO;clear aO;apply ae;intro K h;simp(disch:=omega);apply h;clear h K;apply an;simp(disch:=omega) ;unfold dt;rw[if_neg (by rw[dG];rintro (h|h);cases h;exact h1 h)];exact⟨rfl,rfl,rfl⟩
 ·refine ae fun K hK=>?_;simp(disch:=omega)[fV,et,hl,rd,dG];apply hK;clear hK K;apply aH rfl;apply ae;intro K h;simp(disch:=omega);apply h;clear h K;apply an;simp(disch:=omega) ;unfold dt;rw[if_pos (.inl dG)];exact⟨rfl,rfl,rfl⟩
end Go.Proofs.YtneohapkboaplaaGreat
