/- The reading of integers, as a function on lists of bytes.
  Conditions: none. -/
import Derived.Test.YtneohapkboaplaaGreatWEnc
set_option linter.all false
namespace gB
def gl (first:Bool)(u:Nat):List UInt8→Option (Nat×Nat)
 |[]=>none
 |c::r=>if (first=true∧c=128)∨144115188075855872≤u then none
  else if c<128 then some (u*128+c.toNat % 128,1)
  else (gl false (u*128+c.toNat % 128) r).map fun x=>(x.1,x.2+1)
def yR (k:Nat)(o:Option (Nat×Nat)):Option (Nat×Nat):=o.map fun x=>(x.1,x.2+k)
def sW:Option (Nat×Nat)→Int
 |none=>0
 |some x=>oK x.1
def sX:Option (Nat×Nat)→Nat
 |none=>0
 |some x=>x.2
def fZ (bs:List UInt8)(at_:Nat):Option (Nat×Nat):=gl true 0 (bs.drop at_)
theorem xi (o:Option (Nat×Nat)):yR 0 o=o:=by cases o<;>rfl
theorem AL (k:Nat)(o:Option (Nat×Nat)):yR k (o.map fun x=>(x.1,x.2+1))=yR (k+1) o:=by
 cases o with
 |none=>rfl
 |some x=>simp[yR];omega
theorem iz (bs:List UInt8)(i:Nat)(h:i<bs.length):bs.drop i=bs.getD i 0::bs.drop (i+1):=by
 rw[List.drop_eq_getElem_cons h,List.getD_eq_getElem?_getD,List.getElem?_eq_getElem h];rfl
theorem QA (f:Bool)(u:Nat)(bs:List UInt8)(i:Nat)(h:bs.length≤i):gl f u (bs.drop i)=none:=by
 rw[List.drop_eq_nil_of_le h];rfl
theorem QC (f:Bool)(u:Nat)(bs:List UInt8)(i:Nat)(h:i<bs.length)(hb:(f=true∧bs.getD i 0=128)∨144115188075855872≤u):gl f u (bs.drop i)=none:=by
 rw[iz bs i h,gl,if_pos hb]
theorem Nn (f:Bool)(u:Nat)(bs:List UInt8)(i:Nat)(h:i<bs.length)(hb:¬((f=true∧bs.getD i 0=128)∨144115188075855872≤u))(hc:bs.getD i 0<128) :
  gl f u (bs.drop i)=some (u*128+(bs.getD i 0).toNat % 128,1):=by
 rw[iz bs i h,gl,if_neg hb,if_pos hc]
theorem Nl (f:Bool)(u:Nat)(bs:List UInt8)(i:Nat)(h:i<bs.length)(hb:¬((f=true∧bs.getD i 0=128)∨144115188075855872≤u))(hc:¬bs.getD i 0<128) :
  gl f u (bs.drop i)=(gl false (u*128+(bs.getD i 0).toNat % 128) (bs.drop (i+1))).map fun x=>(x.1,x.2+1):=by
 rw[iz bs i h,gl,if_neg hb,if_neg hc]
theorem Ks:∀(bs:List UInt8)(f:Bool)(u:Nat)(v n:Nat),gl f u bs=some (v,n)→v<18446744073709551616∧1≤n∧n≤bs.length:=by
 intro bs
 induction bs with
 |nil=>intro f u v n h;simp[gl] at h
 |cons c r ih=>
  intro f u v n h;rw[gl] at h
  split at h
  ·simp at h
  ·rename_i hn
   split at h
   ·simp at h;obtain⟨h1,h2⟩:=h;have:c.toNat % 128<128:=Nat.mod_lt _ (by omega);simp only[not_or] at hn;simp only[List.length_cons];omega
   ·obtain⟨⟨v',n'⟩,h1,h2⟩:=Option.map_eq_some_iff.1 h;simp at h2;have:=ih _ _ _ _ h1;simp only[List.length_cons];omega
theorem mw {bs:List UInt8}{i v n:Nat}(h:fZ bs i=some (v,n)):v<18446744073709551616∧1≤n∧i+n≤bs.length:=by
 have:=Ks _ _ _ _ _ h;simp at this;omega
theorem x8 (bs:List UInt8)(i:Nat)(h:i≤bs.length):i+sX (fZ bs i)≤bs.length:=by
 cases hg:fZ bs i with
 |none=>simpa[sX] using h
 |some x=>exact(mw (v:=x.1) (n:=x.2) hg).2.2
theorem py {u:Nat}(h:u<18446744073709551616):-9223372036854775808≤oK u∧oK u≤9223372036854775807:=by
 unfold oK;split<;>omega
theorem Bm (bs:List UInt8)(i:Nat):-9223372036854775808≤sW (fZ bs i)∧sW (fZ bs i)≤9223372036854775807:=by
 cases hg:fZ bs i with
 |none=>simp[sW]
 |some x=>exact py (mw (v:=x.1) (n:=x.2) hg).1
theorem Kr {bs:List UInt8}{i:Nat}(h:sX (fZ bs i)≠0):∃v,fZ bs i=some (v,sX (fZ bs i)):=by
 cases hg:fZ bs i with
 |none=>rw[hg] at h;simp[sX] at h
 |some x=>exact⟨x.1,rfl⟩
structure Rd where
 at_:Nat
 bad:Bool
def aI (bs:List UInt8)(lo hi:Int)(s:Rd):Int×Rd:=
 if s.bad=true then (0,s)
 else if sX (fZ bs s.at_)=0∨sW (fZ bs s.at_)<lo∨sW (fZ bs s.at_)>hi then (0,⟨s.at_,true⟩)
 else (sW (fZ bs s.at_),⟨s.at_+sX (fZ bs s.at_),s.bad⟩)
theorem bI (bs:List UInt8)(lo hi:Int)(s:Rd)(h:s.at_≤bs.length):(aI bs lo hi s).2.at_≤bs.length:=by
 unfold aI
 split
 ·exact h
 ·split
  ·exact h
  ·exact x8 bs _ h
theorem dR (bs:List UInt8)(hi:Int)(s:Rd):0≤(aI bs 0 hi s).1:=by
 unfold aI
 split
 ·exact Int.le_refl _
 ·split
  ·exact Int.le_refl _
  ·rename_i h;simp only[not_or] at h;simp only;omega
theorem qh (bs:List UInt8)(hi:Int)(s:Rd)(h:0≤hi):(aI bs 0 hi s).1≤hi:=by
 unfold aI
 split
 ·exact h
 ·split
  ·exact h
  ·rename_i h;simp only[not_or] at h;simp only;omega
theorem uJ (bs:List UInt8)(lo hi:Int)(s:Rd):-9223372036854775808≤(aI bs lo hi s).1∧(aI bs lo hi s).1≤9223372036854775807:=by
 have:=Bm bs s.at_;unfold aI
 split
 ·simp
 ·split
  ·simp
  ·exact this
theorem zL {bs:List UInt8}{lo hi:Int}{s:Rd}(hs:s.bad=false)(h:(aI bs lo hi s).2.bad=false):s.at_+1≤(aI bs lo hi s).2.at_:=by
 unfold aI at h ⊢;rw[if_neg (by rw[hs];decide)] at h ⊢
 split at h
 ·cases h
 ·rename_i h1;rw[if_neg h1];simp only[not_or] at h1;simp only;omega
def bD (bs:List UInt8)(mx:Int)(s:Rd):List UInt8×Rd:=
 if (aI bs 0 mx s).2.bad=true∨(aI bs 0 mx s).1>(bs.length:Int)-(aI bs 0 mx s).2.at_ then ([],⟨s.at_,true⟩)
 else ((bs.drop (aI bs 0 mx s).2.at_).take (aI bs 0 mx s).1.toNat,⟨(aI bs 0 mx s).2.at_+(aI bs 0 mx s).1.toNat,(aI bs 0 mx s).2.bad⟩)
theorem iS (bs:List UInt8)(mx:Int)(s:Rd)(h:s.at_≤bs.length):(bD bs mx s).2.at_≤bs.length:=by
 unfold bD;have h1:=bI bs 0 mx s h;have h2:=dR bs mx s
 split
 ·exact h
 ·rename_i hn;simp only[not_or] at hn;simp only;omega
def bO {α:Type}(f:Rd→α×Rd):Nat→Rd→List α→List α×Rd
 |0,q,out=>(out,q)
 |n+1,q,out=>if q.bad=true then (out,q) else bO f n (f q).2 (out++[(f q).1])
def eu {α:Type}(bs:List UInt8)(mx:Int)(f:Rd→α×Rd)(s:Rd):List α×Rd:=
 if (bO f (aI bs 0 mx s).1.toNat (aI bs 0 mx s).2 []).2.bad=true then ([],⟨s.at_,true⟩)
 else bO f (aI bs 0 mx s).1.toNat (aI bs 0 mx s).2 []
theorem dL {α:Type}(f:Rd→α×Rd)(n:Nat)(q:Rd)(out:List α)(h:q.bad=true):bO f n q out=(out,q):=by
 cases n with
 |zero=>rfl
 |succ n=>simp[bO,h]
theorem eF {α:Type}(f:Rd→α×Rd)(n:Nat)(q:Rd)(out:List α)(hn:0<n)(h:q.bad=false):bO f n q out=bO f (n-1) (f q).2 (out++[(f q).1]):=by
 cases n with
 |zero=>omega
 |succ n=>simp[bO,h]
end gB
