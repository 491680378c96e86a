/- Int of layer 1 and of its reference.
  Conditions: lengths below 2^40. -/
import Derived.Test.YtneohapkboaplaaGreatAmFacts
import Derived.Test.YtneohapkboaplaaGreatAmB
import Derived.Test.YtneohapkboaplaaGreatPZ
import Derived.Test.YtneohapkboaplaaGreatWEnc
set_option linter.all false
set_option maxRecDepth 100000
namespace Go.Proofs.YtneohapkboaplaaGreat
open Go Go.Am gB
theorem rD (u:Nat):(HC u).toNat=u % 128:=by simp[HC,UInt8.toNat_ofNat'];omega
theorem we (u:Nat):(HW u).toNat=u % 128+128:=by simp[HW,UInt8.toNat_ofNat'];omega
theorem EK {u:Nat}(h:u<18446744073709551616):IntKind.u8.wrap (bits .and .u64 (u:Int) 127)=((HC u).toNat:Int):=by
 have h1:=qJ u 127 h (by omega);have h2:u &&& 127=u % 128:=Nat.and_two_pow_sub_one_eq_mod u 7;rw[h2] at h1;rw[show ((127:Nat):Int)=127 from rfl] at h1;rw[h1,Cm (by omega) (by omega),rD]
theorem Ny (u:Nat):bits .or .u8 ((HC u).toNat:Int) 128=((HW u).toNat:Int):=by
 rw[rD,we];have h1:=Dv (u % 128) 128 (by omega) (by omega);rw[show ((128:Nat):Int)=128 from rfl] at h1;rw[h1];have h2:=Nat.two_pow_add_eq_or_of_lt (i:=7) (b:=u % 128) (by omega) 1;rw[Nat.or_comm] at h2;simp at h2;omega
theorem Mw {n:Int}(h1:0≤n)(h2:n<18446744073709551616):bits .xor .u64 18446744073709551615 n=18446744073709551615-n:=by
 obtain⟨k,rfl⟩:=Int.eq_ofNat_of_zero_le h1;have e1:(BitVec.ofInt 64 (18446744073709551615:Int))=BitVec.allOnes 64:=by decide
 have e2:(BitVec.ofInt 64 (k:Int)).toNat=k:=by rw[BitVec.ofInt_natCast,BitVec.toNat_ofNat];exact Nat.mod_eq_of_lt (by omega)
 show IntKind.u64.wrap ((BitVec.ofInt 64 (18446744073709551615:Int) ^^^ BitVec.ofInt 64 (k:Int)).toNat:Int)=_;rw[e1,BitVec.allOnes_xor,BitVec.toNat_not,e2];rw[tz (by omega) (by omega)];omega
attribute [-simp] List.getD_eq_getElem?_getD in
theorem No (n:Int)(h1:-9223372036854775808≤n)(h2:n≤9223372036854775807)(H:List aG)(T:ay):al Tryz.prog 167 [.int .i64 n] H T (Is (.int .u64 (fo n:Nat)) H T):=by
 refine aj 4 [] Tryz.ntmps167 Tryz.func167 rfl (fun _ _=>Tryz.call167 _ _) (by simp) (fun HO=>?_);apply ae;intro K h;simp(disch:=omega);apply h;clear h K;apply ae;intro K h;simp(disch:=omega);apply h;clear h K;refine af fun K1 aO=>?_;apply ae;intro K h;simp(disch:=omega);apply h;clear h K;refine aP rfl (fun h=>?_) (fun h=>?_)
 ·simp at h;apply ae;intro K h;simp(disch:=omega);apply h;clear h K;apply an;simp(disch:=omega) ;refine⟨?_,rfl,rfl⟩;have e:IntKind.u64.wrap (IntKind.u64.wrap n*2)=18446744073709551616+n*2:=by
   show (n % 18446744073709551616*2) % 18446744073709551616=_;omega
  rw[e,Mw (by omega) (by omega)];simp only[fo,h,if_true]
  congr 1
  omega
 ·simp at h;apply ak;simp(disch:=omega) ;apply aO;clear aO;apply ae;intro K h;simp(disch:=omega);apply h;clear h K;apply an;simp(disch:=omega) ;refine⟨?_,rfl,rfl⟩;have:¬n<0:=by omega
  simp only[fo,this,if_false]
  congr 1
  omega
def H4 (a:Nat)(sfx:List UInt8):List AV:=List.replicate a (.int .u8 0)++bu sfx
@[simp] theorem QR (a:Nat) (sfx:List UInt8):(H4 a sfx).length=a+sfx.length:=by simp[H4]
theorem KM {a k:Nat}{sfx:List UInt8}(h:sfx.length=k):List.take k (List.drop a (H4 a sfx))=bu sfx:=by
 unfold H4;rw[List.drop_left' (by simp)];rw[List.take_of_length_le (by simp;omega)]
theorem MN (a:Nat)(sfx:List UInt8)(x:UInt8):(H4 (a+1) sfx).set a (.int .u8 (x.toNat:Int))=H4 a (x::sfx):=by
 unfold H4;rw[List.replicate_succ',List.append_assoc];have:=qx (List.replicate a (AV.int .u8 0)) ([AV.int .u8 0]++bu sfx) (AV.int .u8 (x.toNat:Int));simp only[List.length_replicate] at this;rw[this];simp[bu]
structure abe (U:Nat)(x:Nat×Nat×List UInt8):Prop where
 le:x.2.1+x.2.2.length=10
 lt:x.2.1≤9
 u:x.1*128 ^ x.2.2.length<18446744073709551616
 e:lA x.1++x.2.2=pg U
attribute [-simp] List.getD_eq_getElem?_getD in
theorem rq (b:List UInt8)(k:Nat)(n:Int)(h1:-9223372036854775808≤n)(h2:n≤9223372036854775807)(H:List aG)(T:ay)(hT:T[k]?=some (b.length,1))(hb:b.length≤1099511627776) :
  al Tryz.prog 117 [.sl b.length (bu b) (.own k),.int .i64 n] H T (Is (.sl (b++enc n).length (bu (b++enc n)) (.own k)) H (T.set k ((b++enc n).length,1))):=by
 have hk:=(List.getElem?_eq_some_iff.1 hT).1;have Z8:=(List.getElem?_eq_some_iff.1 hT).2;have hlen:=eN h1 h2;have hfo:=DY h1 h2;refine al.cut H _ (Nat.le_refl _) (by simp) (fun h=>h.df (by simp)) (by simp[hk]) ?_;refine aj 8 [] Tryz.ntmps117 Tryz.func117 rfl (fun _ _=>Tryz.call117 _ _) (by simp) (fun HO=>?_);apply ae;intro K h;simp(disch:=omega);apply h;clear h K;apply ae;intro K h;simp(disch:=omega);apply h;clear h K;refine ae fun K hK=>?_;simp(disch:=omega) ;refine ah (No n h1 h2 _ _) ?_;simp(disch:=omega) ;apply hK;clear hK K;apply ae;intro K h;simp(disch:=omega);apply h;clear h K;apply ae;intro K h;simp(disch:=omega);apply h;clear h K;refine af fun K1 aO=>?_;apply ae;intro K h;simp(disch:=omega);apply h;clear h K;apply ai;refine aK (X:=Nat×Nat×List UInt8) (fun x=>⟨[(0,.sl b.length (bu b) (.own k)),(5,.ptr H.length 0),(6,.int .u64 (x.1:Nat)),(7,.int .i64 (x.2.1:Nat))],H++[.cells (H4 x.2.1 x.2.2)],T⟩) (abe (fo n)) (fun x=>x.1) ((fo n) / 128,9,[HC (fo n)]) ?_ ?_ ?_
 ·exact⟨rfl,by simp,by simp;omega,rfl⟩
 ·refine ag [] [] ?_ ?_ ?_ ?_ ?_ ?_
  ·simp[EK hfo,H4,bu,List.replicate_succ]
  ·simp
  ·simp
  ·simp
  ·refine bM.snoc HO ?_;simp[H4]
  ·simp[hk]
 ·rintro⟨u,a,sfx⟩ ⟨hle,bh,hu,he⟩;simp at hle bh hu he;refine af fun K2 aY=>?_;apply ae;intro K h;simp(disch:=omega);apply h;clear h K;refine aP rfl (fun h=>?_) (fun h=>?_)
  ·simp at h;obtain⟨a,rfl⟩:∃a',a=a'+1:=by
    rcases Nat.eq_zero_or_pos a with h0|h0
    ·exfalso;have:sfx.length=10:=by omega
     rw[this] at hu;omega
    ·exact⟨a-1,by omega⟩
   have aam:u<18446744073709551616:=Nat.lt_of_le_of_lt (Nat.le_mul_of_pos_right _ (Nat.pow_pos (by omega))) hu;apply ak;simp(disch:=omega) ;apply aY;clear aY;refine af fun K3 bA=>?_;apply ai;apply ae;intro K h;simp(disch:=omega);apply h;clear h K;refine ar fun K hK=>?_;simp(disch:=omega)[EK aam,Ny,MN];apply hK;clear hK K
   (try simp(disch:=omega) )
   apply bA;clear bA;refine ar fun K hK=>?_;simp(disch:=omega) ;apply hK;clear hK K
   (try simp(disch:=omega) )
   refine⟨u / 128,a,HW u::sfx,⟨by simp;omega,by show a≤9;omega,?_,?_⟩,by omega,?_⟩
   ·simp only[List.length_cons,Nat.pow_succ];have:u / 128*(128 ^ sfx.length*128)≤u*128 ^ sfx.length:=by
     rw[Nat.mul_comm (128 ^ sfx.length) 128,←Nat.mul_assoc];exact Nat.mul_le_mul_right _ (Nat.div_mul_le_self u 128)
    show u / 128*(128 ^ sfx.length*128)<_;omega
   ·rw[←he,lQ h];simp
   ·refine ag [] [] ?_ ?_ ?_ ?_ ?_ ?_
    ·simp
    ·simp
    ·simp
    ·simp
    ·exact bM.snoc HO (by simp[H4])
    ·simp[hk]
  ·simp at h;subst h;rw[iw] at he;simp at he;subst he;have vv:=KM (a:=a) (k:=10-a) (sfx:=pg (fo n)) (by omega);apply aD;simp(disch:=omega) ;apply aO;clear aO;refine ae fun K hK=>?_;simp(disch:=omega)[vv,Z8];apply hK;clear hK K;apply an;simp(disch:=omega) ;have e2:10-a=(enc n).length:=by unfold enc;omega
   rw[e2];exact⟨⟨[],by simp⟩,by simp[dn,enc]⟩
theorem Kl (b:List UInt8)(n:Int)(h1:-9223372036854775808≤n)(h2:n≤9223372036854775807)(H:List aG)(T:ay)(hb:b.length≤1099511627776) :
  al Tryz.prog 117 [.sl b.length (bu b) .full,.int .i64 n] H T (Is (.sl (b++enc n).length (bu (b++enc n)) (.own T.length)) H (T++[((b++enc n).length,1)])):=by
 refine al.aai (z:=1) (by omega) ?_;have:=rq b T.length n h1 h2 H (T++[((bu b).length,1)]) (by simp) hb;simpa using this
attribute [-simp] List.getD_eq_getElem?_getD in
theorem G5 (n:Int)(h1:-9223372036854775808≤n)(h2:n≤9223372036854775807)(H:List aG)(T:ay):al Tryz.prog 169 [.int .i64 n] H T (Is (.int .u64 (fo n:Nat)) H T):=by
 refine aj 3 [] Tryz.ntmps169 Tryz.func169 rfl (fun _ _=>Tryz.call169 _ _) (by simp) (fun HO=>?_);apply ae;intro K h;simp(disch:=omega);apply h;clear h K;refine af fun K1 aO=>?_;apply ae;intro K h;simp(disch:=omega);apply h;clear h K;refine aP rfl (fun h=>?_) (fun h=>?_)
 ·simp at h;apply ae;intro K h;simp(disch:=omega);apply h;clear h K;apply an;simp(disch:=omega) ;refine⟨?_,rfl,rfl⟩;have:¬n<0:=by omega
  simp only[fo,this,if_false]
  congr 1
  omega
 ·simp at h;apply ak;simp(disch:=omega) ;apply aO;clear aO;apply ae;intro K h;simp(disch:=omega);apply h;clear h K;apply an;simp(disch:=omega) ;refine⟨?_,rfl,rfl⟩;simp only[fo,h,if_true]
  congr 1
  omega
attribute [-simp] List.getD_eq_getElem?_getD in
theorem zD (a b:List UInt8)(H:List aG)(T:ay)(ta tb:Tag):al Tryz.prog 51 [.sl a.length (bu a) ta,.sl b.length (bu b) tb] H T (Is (.bool (a==b)) H T):=by
 refine aj 5 [] Tryz.ntmps51 Tryz.func51 rfl (fun _ _=>Tryz.call51 _ _) (by simp) (fun HO=>?_);apply ae;intro K h;simp(disch:=omega);apply h;clear h K;apply ae;intro K h;simp(disch:=omega);apply h;clear h K;apply an;simp(disch:=omega) ;exact⟨rfl,rfl,rfl⟩
end Go.Proofs.YtneohapkboaplaaGreat
