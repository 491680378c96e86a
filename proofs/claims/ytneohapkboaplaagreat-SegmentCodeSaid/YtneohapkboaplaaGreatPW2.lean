/- The readers of layer 1, as contracts over lists.
  Conditions: lengths below 2^40. -/
import Derived.Test.YtneohapkboaplaaGreatPW
import Derived.Test.YtneohapkboaplaaGreatWRd
set_option linter.all false
set_option maxRecDepth 100000
namespace Go.Proofs.YtneohapkboaplaaGreat
open Go Go.Am gB
def rd (bs:List UInt8)(s:Rd):List AV:=[.sl bs.length (bu bs) .none,.int .i64 (s.at_:Nat),.bool s.bad]
theorem aa3 {u:Nat}(h:u<18446744073709551616):bits .and .u64 (u:Int) 1=((u % 2:Nat):Int):=by
 have h1:=qJ u 1 h (by omega);have h2:u &&& 1=u % 2:=Nat.and_two_pow_sub_one_eq_mod u 1;rw[h2] at h1;exact h1
theorem Mx {n:Int}(h1:-9223372036854775808≤n)(h2:n≤9223372036854775807):bits .xor .i64 (-1) n=-n-1:=by
 have e1:(BitVec.ofInt 64 (-1:Int))=BitVec.allOnes 64:=by decide
 show IntKind.i64.wrap ((BitVec.ofInt 64 (-1:Int) ^^^ BitVec.ofInt 64 n).toNat:Int)=_;rw[e1,BitVec.allOnes_xor,BitVec.toNat_not,IntKind.wrap_i64,BitVec.toNat_ofInt];omega
attribute [-simp] List.getD_eq_getElem?_getD in
theorem FY (u:Nat)(hu:u<18446744073709551616)(H:List aG)(T:ay):al Tryz.prog 215 [.int .u64 (u:Nat)] H T (Is (.int .i64 (oK u)) H T):=by
 refine aj 4 [] Tryz.ntmps215 Tryz.func215 rfl (fun _ _=>Tryz.call215 _ _) (by simp) (fun HO=>?_);apply ae;intro K h;simp(disch:=omega);apply h;clear h K;apply ae;intro K h;simp(disch:=omega);apply h;clear h K;refine af fun K1 aO=>?_;refine ae fun K hK=>?_;simp(disch:=omega)[aa3 hu];apply hK;clear hK K;refine aP rfl (fun h=>?_) (fun h=>?_)
 ·simp at h;apply ae;intro K h;simp(disch:=omega);apply h;clear h K;apply an;simp(disch:=omega) ;refine⟨?_,rfl,rfl⟩;have h3:u % 2=1:=by omega
  rw[Mx (by omega) (by omega)];simp only[oK,h3,if_true]
  congr 1
 ·simp at h;apply ak;simp(disch:=omega) ;apply aO;clear aO;apply ae;intro K h;simp(disch:=omega);apply h;clear h K;apply an;simp(disch:=omega) ;refine⟨?_,rfl,rfl⟩;have h3:¬u % 2=1:=by omega
  simp only[oK,h3,if_false]
  congr 1
attribute [-simp] List.getD_eq_getElem?_getD in
theorem KW (bs:List UInt8)(hb:bs.length≤1099511627776)(H:List aG)(T:ay):al Tryz.prog 170 [.sl bs.length (bu bs) .none] H T (Is (.sl bs.length (bu bs) .none) H T):=by
 refine al.cut H T (Nat.le_refl _) (Nat.le_refl _) id (by simp) ?_;refine aj 3 [] Tryz.ntmps170 Tryz.func170 rfl (fun _ _=>Tryz.call170 _ _) (by simp) (fun HO=>?_);apply ae;intro K h;simp(disch:=omega);apply h;clear h K;refine af fun K1 aO=>?_;refine ae fun K hK=>?_;simp(disch:=omega) ;refine⟨hK _ ?_,fun he=>hK _ ?_⟩
 ·apply aC rfl;apply ak;simp(disch:=omega) ;apply aO;clear aO;apply ae;intro K h;simp(disch:=omega);apply h;clear h K;apply an;simp(disch:=omega) 
 ·apply aH rfl;apply ae;intro K h;simp(disch:=omega);apply h;clear h K;apply an;simp(disch:=omega)[he]
attribute [-simp] List.getD_eq_getElem?_getD in
theorem EB (bs:List UInt8)(hb:bs.length≤1099511627776)(H:List aG)(T:ay):al Tryz.prog 125 [.sl bs.length (bu bs) .none] H T (Is (.ptr H.length 0) (H++[.cells (rd bs ⟨0,false⟩)]) T):=by
 refine aj 3 [] Tryz.ntmps125 Tryz.func125 rfl (fun _ _=>Tryz.call125 _ _) (by simp) (fun HO=>?_);apply ae;intro K h;simp(disch:=omega);apply h;clear h K;refine ae fun K hK=>?_;simp(disch:=omega) ;refine ah (KW bs hb H T) ?_;simp(disch:=omega)[rd];apply hK;clear hK K;apply an;simp(disch:=omega) ;exact⟨rfl,rfl,rfl⟩
def P5 (o:Option (Nat×Nat)):AV:=.cJ [.int .i64 (sW o),.int .i64 (sX o:Nat)]
theorem OK (u:Nat):((u:Int) / 144115188075855872!=0)=decide (144115188075855872≤u):=by
 rw[bne,Bool.not_eq_eq_eq_not,←decide_not]
 by_cases h:144115188075855872≤u
 ·simp[h];omega
 ·simp[h];omega
theorem By (a b:Nat)(ha:a<256)(hb:b<256):bits .and .u8 (a:Int) (b:Int)=((a &&& b:Nat):Int):=by
 have hx:a &&& b<2 ^ 8:=Nat.and_lt_two_pow _ (by omega);have e1:∀x:Nat,x<256→(BitVec.ofInt 8 (x:Int)).toNat=x:=fun x hx=>by
  rw[BitVec.ofInt_natCast,BitVec.toNat_ofNat];exact Nat.mod_eq_of_lt (by omega)
 show IntKind.u8.wrap ((BitVec.ofInt 8 (a:Int) &&& BitVec.ofInt 8 (b:Int)).toNat:Int)=_;rw[BitVec.toNat_and,e1 a ha,e1 b hb];exact Cm (by omega) (by omega)
theorem Bx (a b:Nat)(ha:a<18446744073709551616)(hb:b<18446744073709551616):bits .or .u64 (a:Int) (b:Int)=((a ||| b:Nat):Int):=by
 have hx:a ||| b<2 ^ 64:=Nat.or_lt_two_pow (by omega) (by omega)
 have e1:∀x:Nat,x<18446744073709551616→(BitVec.ofInt 64 (x:Int)).toNat=x:=fun x hx=>by
  rw[BitVec.ofInt_natCast,BitVec.toNat_ofNat];exact Nat.mod_eq_of_lt (by omega)
 show IntKind.u64.wrap ((BitVec.ofInt 64 (a:Int) ||| BitVec.ofInt 64 (b:Int)).toNat:Int)=_;rw[BitVec.toNat_or,e1 a ha,e1 b hb];exact tz (by omega) (by omega)
theorem Ud (u c:Nat)(hu:u<144115188075855872)(hc:c<256):bits .or .u64 ((u:Int)*128) (IntKind.u64.wrap (bits .and .u8 (c:Int) 127))=((u*128+c % 128:Nat):Int):=by
 have h1:=By c 127 hc (by omega);have h2:c &&& 127=c % 128:=Nat.and_two_pow_sub_one_eq_mod c 7;rw[h2] at h1;rw[show ((127:Nat):Int)=127 from rfl] at h1;rw[h1,tz (by omega) (by omega)];have h3:=Bx (u*128) (c % 128) (by omega) (by omega);have h4:=Nat.two_pow_add_eq_or_of_lt (i:=7) (b:=c % 128) (by omega) u;rw[show ((u:Int)*128)=((u*128:Nat):Int) from by omega,h3,Nat.mul_comm u 128];exact congrArg _ h4.symm
attribute [-simp] List.getD_eq_getElem?_getD in
theorem Kq (bs:List UInt8)(s:Rd)(hs:s.at_≤bs.length)(hb:bs.length≤1099511627776)(H:List aG)(T:ay)(i:Nat)(hi:H[i]?=some (.cells (rd bs s))) :
  al Tryz.prog 173 [.ptr i 0] H T (Is (P5 (fZ bs s.at_)) H T):=by
 have hl:=(List.getElem?_eq_some_iff.1 hi).1;have et:=(List.getElem?_eq_some_iff.1 hi).2;refine aj 7 [] Tryz.ntmps173 Tryz.func173 rfl (fun _ _=>Tryz.call173 _ _) (by simp) (fun HO=>?_);apply ae;intro K h;simp(disch:=omega);apply h;clear h K;apply ae;intro K h;simp(disch:=omega);apply h;clear h K;refine af fun K1 aO=>?_;refine ae fun K hK=>?_;simp(disch:=omega)[hi,et,hl,rd];apply hK;clear hK K;apply ai;refine aK (X:=Nat×Nat) (fun x=>⟨[(0,.ptr i 0),(4,.int .u64 (x.1:Nat)),(5,.int .i64 ((s.at_+x.2:Nat):Int))],H,T⟩) (fun x=>x.1<18446744073709551616∧s.at_+x.2≤bs.length∧fZ bs s.at_=yR x.2 (gl (x.2==0) x.1 (bs.drop (s.at_+x.2)))) (fun x=>bs.length-x.2) (0,0) ?_ ?_ ?_
 ·exact⟨by decide,by simpa using hs,by simp[xi,fZ]⟩
 ·refine ag [] [] ?_ ?_ ?_ ?_ ?_ ?_
  ·simp
  ·simp
  ·simp
  ·simp
  ·exact HO
  ·simp[hl,rd]
 ·rintro⟨u,k⟩ ⟨hu,hk,hg⟩;simp only at hu hk hg;refine af fun K2 aY=>?_;refine ae fun K hK=>?_;simp(disch:=omega)[hi,et,hl,rd];apply hK;clear hK K;refine aP rfl (fun h=>?_) (fun h=>?_)
  ·simp at h;apply ak;simp(disch:=omega) ;apply aY;clear aY;refine af fun K3 bA=>?_;apply ai;have bh:s.at_+k<bs.length:=by omega
   refine ae fun K hK=>?_;simp(disch:=omega)[hi,et,hl,rd,rS bh];apply hK;clear hK K;have hc:(bs.getD (s.at_+k) 0).toNat<256:=UInt8.toNat_lt _;generalize NX:(bs.getD (s.at_+k) 0).toNat=c at hc;refine af fun K4 ec=>?_;refine ae fun K hK=>?_;have key:∀e,b9 H.length T.length e [(0,.ptr i 0),(4,.int .u64 (u:Nat)),(5,.int .i64 ((s.at_+k:Nat):Int)),(6,.int .u8 (c:Nat)),(41,.bool (decide ((k=0∧c=128)∨144115188075855872≤u)))]→K ⟨e,H,T⟩:=by
    intro e he;refine hK _ (aQ ⟨[(0,.ptr i 0),(4,.int .u64 (u:Nat)),(5,.int .i64 ((s.at_+k:Nat):Int)),(6,.int .u8 (c:Nat)),(41,.bool (decide ((k=0∧c=128)∨144115188075855872≤u)))],H,T⟩ (ag [] [] (by simp) (by simp) (by simp) (by simp) HO he) ?_);refine aP rfl (fun h=>?_) (fun h=>?_)
    ·simp at h;apply ae;intro K h;simp(disch:=omega);apply h;clear h K;apply an;simp(disch:=omega) ;rw[hg,QC _ _ _ _ bh (by rw[←UInt8.toNat_inj,NX];simpa using h)];exact⟨rfl,rfl,rfl⟩
    ·simp only[decide_eq_false_iff_not] at h;have h':¬((k==0)=true∧bs.getD (s.at_+k) 0=128∨144115188075855872≤u):=by rw[←UInt8.toNat_inj,NX];simpa using h
     have hv:u*128+c % 128<18446744073709551616:=by omega
     apply ak;simp(disch:=omega) ;apply ec;clear ec;refine ae fun K hK=>?_;simp(disch:=omega)[Ud u c (by omega) hc];apply hK;clear hK K;apply ae;intro K h;simp(disch:=omega);apply h;clear h K;refine aP rfl (fun h=>?_) (fun h=>?_)
     ·simp at h;refine aM [] [] [] au (by kernel_rfl) (by kernel_rfl) fun K hK=>?_;simp(disch:=omega) ;refine aB (FY _ hv _ _) rfl ?_;simp(disch:=omega)[hi,et,hl,rd];apply hK;clear hK K;apply an;simp(disch:=omega) ;have PU:bs.getD (s.at_+k) 0<128:=by rw[UInt8.lt_iff_toNat_lt,NX];exact(show c<128 by omega)
      rw[hg,Nn _ _ _ _ bh h' PU,NX];refine⟨?_,rfl,rfl⟩;simp[P5,yR,sW,sX];omega
     ·simp at h;apply ak;simp(disch:=omega) ;apply bA;clear bA;refine ar fun K hK=>?_;simp(disch:=omega) ;apply hK;clear hK K;have PU:¬bs.getD (s.at_+k) 0<128:=by rw[UInt8.lt_iff_toNat_lt,NX];simp;omega
      refine⟨(u*128+c % 128,k+1),⟨hv,by show s.at_+(k+1)≤_;omega,?_⟩,by show bs.length-(k+1)<bs.length-k;omega,?_⟩
      ·rw[hg,Nl _ _ _ _ bh h' PU,NX,AL];rfl
      ·refine ag [] [] ?_ ?_ ?_ ?_ ?_ ?_
       ·simp
       ·simp
       ·simp
       ·simp
       ·exact HO
       ·simp[hl];omega
   clear hK
   by_cases tm:k=0
   ·by_cases ua:c=128
    ·simp(disch:=omega)[hi,et,hl,rd,tm,ua];exact key _ (by simp[tm,ua,hl])
    ·have hb:((c:Int)==128)=false:=by simp;omega
     simp(disch:=omega)[hi,et,hl,rd,tm,hb,OK];exact key _ (by simp[tm,ua,hl])
   ·have hb:((s.at_:Int)+(k:Int)==s.at_)=false:=by simp;omega
    simp(disch:=omega)[hi,et,hl,rd,hb,OK];exact key _ (by simp[tm,hl])
  ·simp at h;apply aD;simp(disch:=omega) ;apply aO;clear aO;apply ae;intro K h;simp(disch:=omega);apply h;clear h K;apply an;simp(disch:=omega) ;rw[hg,QA _ _ _ _ (by omega)];exact⟨rfl,rfl,rfl⟩
end Go.Proofs.YtneohapkboaplaaGreat
