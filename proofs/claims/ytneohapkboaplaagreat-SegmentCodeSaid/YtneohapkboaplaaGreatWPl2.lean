/- The reference's reading of one number is the program's: a law on lists of bytes.
  Conditions: none. -/
import Derived.Test.YtneohapkboaplaaGreatWRd
set_option linter.all false
namespace gB
def ET (f:Nat):Nat→Nat→List UInt8→Int×Nat×Bool
 |_,_,[]=>(0,0,false)
 |k,u,c::r=>if 10≤k∨(k=9∧129<f) then (0,0,false)
  else if c.toNat<128 then (oK (u*128+c.toNat % 128),k+1,decide (k=0∨f≠128))
  else ET f (k+1) (u*128+c.toNat % 128) r
def QX (f k u:Nat):Prop:=(k=0∧u=0)∨(1≤k∧128≤f∧(f-128)*128 ^ (k-1)≤u∧u<(f-127)*128 ^ (k-1))
theorem zI {f k u c:Nat}(h:QX f k u)(hf:f<256)(hk:k=0→c=f)(hc:128≤c)(lZ:c<256):QX f (k+1) (u*128+c % 128):=by
 rcases h with⟨h1,h2⟩|⟨h1,h2,h3,h4⟩
 ·have:=hk h1;subst h1;subst h2;subst this;refine .inr ⟨by omega,by omega,?_,?_⟩
  ·simp;omega
  ·simp;omega
 ·obtain⟨m,rfl⟩:∃m,k=m+1:=⟨k-1,by omega⟩
  rw[Nat.add_sub_cancel] at h3 h4;refine .inr ⟨by omega,h2,?_,?_⟩
  ·rw[Nat.add_sub_cancel,Nat.pow_succ,←Nat.mul_assoc];omega
  ·rw[Nat.add_sub_cancel,Nat.pow_succ,←Nat.mul_assoc];omega
theorem wz {f k u:Nat}(h:QX f k u)(hf:f<256)(hk:k<10)(h9:¬(k=9∧129<f)):u<144115188075855872:=by
 rcases h with⟨h1,h2⟩|⟨h1,h2,h3,h4⟩
 ·omega
 ·by_cases h:k=9
  ·subst h;have:(f-127)*128 ^ (9-1)≤2*128 ^ 8:=Nat.mul_le_mul (by omega) (Nat.le_refl _);have e:2*128 ^ 8=144115188075855872:=by decide
   omega
  ·have h5:128 ^ (k-1)≤128 ^ 7:=Nat.pow_le_pow_right (by omega) (by omega);have h6:(f-127)*128 ^ (k-1)≤128*128 ^ 7:=Nat.mul_le_mul (by omega) h5;have e:128*128 ^ 7=72057594037927936:=by decide
   omega
theorem Gt {f k u:Nat}(h:QX f k u)(hf:f≠128)(hk:10≤k∨(k=9∧129<f)):144115188075855872≤u:=by
 rcases h with⟨h1,h2⟩|⟨h1,h2,h3,h4⟩
 ·omega
 ·rcases hk with hk|⟨hk,da⟩
  ·have h5:128 ^ 9≤128 ^ (k-1):=Nat.pow_le_pow_right (by omega) (by omega);have h6:1*128 ^ 9≤(f-128)*128 ^ (k-1):=Nat.mul_le_mul (by omega) h5;have e:1*128 ^ 9=9223372036854775808:=by decide
   omega
  ·subst hk;have h6:2*128 ^ (9-1)≤(f-128)*128 ^ (9-1):=Nat.mul_le_mul (by omega) (Nat.le_refl _);have e:2*128 ^ (9-1)=144115188075855872:=by decide
   omega
theorem MX:∀(l:List UInt8)(k u:Nat),(ET 128 (k+1) u l).2.2=false:=by
 intro l
 induction l with
 |nil=>intro k u;rfl
 |cons c r ih=>
  intro k u;rw[ET]
  split
  ·rfl
  ·split
   ·simp
   ·exact ih _ _
theorem Eg (f:Nat)(hf:f<256)(dW:f≠128):∀(l:List UInt8)(k u:Nat),QX f k u→(k=0→∀c r,l=c::r→c.toNat=f)→
  (gl (k==0) u l=none→(ET f k u l).2.2=false)∧∀v z,gl (k==0) u l=some (v,z)→ET f k u l=(oK v,k+z,true):=by
 intro l
 induction l with
 |nil=>intro k u _ _;exact⟨fun _=>rfl,fun v z h=>by simp[gl] at h⟩
 |cons c r ih=>
  intro k u hb hk;have hc:c.toNat<256:=UInt8.toNat_lt _;have ua:(128:UInt8).toNat=128:=rfl;rw[gl,ET]
  by_cases hg:10≤k∨(k=9∧129<f)
  ·rw[if_pos hg,if_pos (Or.inr (Gt hb dW hg))];exact⟨fun _=>rfl,fun v z h=>by cases h⟩
  ·have hs:=wz hb hf (by omega) (fun h=>hg (.inr h));have hn:¬((k==0)=true∧c=128∨144115188075855872≤u):=by
    rintro (⟨h1,h2⟩|h1)
    ·have e:=hk (by simpa using h1) c r rfl;rw[h2,ua] at e;exact dW e.symm
    ·omega
   rw[if_neg hg,if_neg hn]
   by_cases bh:c.toNat<128
   ·rw[if_pos (by rw[UInt8.lt_iff_toNat_lt,ua];exact bh),if_pos bh];refine⟨fun h=>(by cases h),fun v z h=>?_⟩;simp only[Option.some.injEq,Prod.mk.injEq] at h;obtain⟨rfl,rfl⟩:=h;simp[dW]
   ·rw[if_neg (by rw[UInt8.lt_iff_toNat_lt,ua];exact bh),if_neg bh];obtain⟨i1,i2⟩:=ih (k+1) (u*128+c.toNat % 128) (zI hb hf (fun h=>hk h c r rfl) (by omega) hc) (fun h=>by omega);have e:(k+1==0)=false:=by simp
    rw[e] at i1 i2;refine⟨fun h=>i1 (by simpa using h),fun v z h=>?_⟩;obtain⟨⟨v',z'⟩,h1,h2⟩:=Option.map_eq_some_iff.1 h;simp only[Prod.mk.injEq] at h2;obtain⟨rfl,rfl⟩:=h2;rw[i2 _ _ h1]
    congr 2
    omega
def pq (bs:List UInt8)(at_:Nat):Int×Nat×Bool:=ET (bs.getD at_ 0).toNat 0 0 (bs.drop at_)
theorem Bb {bs:List UInt8}{at_:Nat}(h:fZ bs at_=none):(pq bs at_).2.2=false:=by
 unfold pq;unfold fZ at h;rcases Nat.lt_or_ge at_ bs.length with hl|hl
 ·have hd:=iz bs at_ hl
  by_cases hf:(bs.getD at_ 0).toNat=128
  ·rw[hf,hd,ET];rw[if_neg (by omega),if_neg (by rw[hf];omega)];exact MX _ _ _
  ·refine(Eg _ (UInt8.toNat_lt _) hf (bs.drop at_) 0 0 (.inl ⟨rfl,rfl⟩) (fun _ c r e=>?_)).1 h;rw[hd] at e
   cases e
   rfl
 ·rw[List.drop_eq_nil_of_le hl];rfl
theorem Ba {bs:List UInt8}{at_ v z:Nat}(h:fZ bs at_=some (v,z)):pq bs at_=(oK v,z,true):=by
 unfold pq;unfold fZ at h;rcases Nat.lt_or_ge at_ bs.length with hl|hl
 ·have hd:=iz bs at_ hl
  by_cases hf:(bs.getD at_ 0).toNat=128
  ·exfalso;have:bs.getD at_ 0=128:=by rw[←UInt8.toNat_inj];exact hf
   rw[hd,gl,if_pos (.inl ⟨rfl,this⟩)] at h
   cases h
  ·have:=(Eg _ (UInt8.toNat_lt _) hf (bs.drop at_) 0 0 (.inl ⟨rfl,rfl⟩) (fun _ c r e=>by
    rw[hd] at e
    cases e
    rfl)).2 v z h
   rw[Nat.zero_add] at this;exact this
 ·rw[List.drop_eq_nil_of_le hl] at h;cases h
end gB
