/- Reading posting lists: what is read is the encoding, and what is encoded is read back; laws on lists of bytes.
  Conditions: none. -/
import Derived.Test.YtneohapkboaplaaGreatPEnc
import Derived.Test.YtneohapkboaplaaGreatPW4
import Derived.Test.YtneohapkboaplaaGreatPZ
import Derived.Test.YtneohapkboaplaaGreatWPl
set_option linter.all false
set_option maxRecDepth 100000
open List (append_assoc drop_drop drop_left length_append length_cons nil_append)
namespace Go.Proofs.YtneohapkboaplaaGreat
open Go Go.Am dc gB
def ju (bs:List UInt8)(x:Rd×Int×List Int):Rd×Int×List Int:=((aI bs 1 1000001 x.1).2,x.2.1+(aI bs 1 1000001 x.1).1,x.2.2++[x.2.1+(aI bs 1 1000001 x.1).1])
def iC (bs:List UInt8):Nat→Rd×Int×List Int→Rd×Int×List Int
 |0,x=>x
 |n+1,x=>iC bs n (ju bs x)
theorem uM (bs:List UInt8):∀(n:Nat)(x:Rd×Int×List Int),iC bs (n+1) x=ju bs (iC bs n x):=by
 intro n
 induction n with
 |zero=>intro x;rfl
 |succ n ih=>intro x;rw[iC,ih (ju bs x)];rfl
def kI (bs:List UInt8)(limM:Rd→Int)(x:Rd×Int×PL):Rd×Int×PL:=
 let a:=aI bs 1 1000000000 x.1
 let m:=aI bs 1 (limM a.2) a.2
 let q:=iC bs m.1.toNat (m.2,-1,[])
 (q.1,x.2.1+a.1,x.2.2++[(x.2.1+a.1,q.2.2)])
def ja (bs:List UInt8)(limM:Rd→Int):Nat→Rd×Int×PL→Rd×Int×PL
 |0,x=>x
 |n+1,x=>ja bs limM n (kI bs limM x)
theorem qw (bs:List UInt8)(limM:Rd→Int):∀(n:Nat)(x:Rd×Int×PL),ja bs limM (n+1) x=kI bs limM (ja bs limM n x):=by
 intro n
 induction n with
 |zero=>intro x;rfl
 |succ n ih=>intro x;rw[ja,ih (kI bs limM x)];rfl
def fin (bs:List UInt8)(x:Rd×Int×PL):PL×Int:=if dt bs x.1≠0∨bc x.2.2=false then ([],5) else (x.2.2,0)
def dec (bs:List UInt8)(limN limM:Rd→Int):PL×Int:=
 let n:=aI bs 0 (limN ⟨0,false⟩) ⟨0,false⟩
 fin bs (ja bs limM n.1.toNat (n.2,0,[]))
theorem fl {bs:List UInt8}{lo hi:Int}{s:Rd}(h:s.bad=true):aI bs lo hi s=(0,s):=by unfold aI;rw[if_pos h]
theorem iT {bs:List UInt8}{lo hi:Int}{s:Rd}(h:(aI bs lo hi s).2.bad=false):s.bad=false:=by
 cases hb:s.bad with
 |false=>rfl
 |true=>rw[fl hb,hb] at h;cases h
theorem tD {bs:List UInt8}:∀(n:Nat)(x:Rd×Int×List Int),x.1.bad=true→(iC bs n x).1=x.1:=by
 intro n
 induction n with
 |zero=>intro x _;rfl
 |succ n ih=>
  intro x h;have e:(ju bs x).1=x.1:=by unfold ju;rw[fl h]
  rw[iC,ih _ (by rw[e];exact h),e]
theorem GG {bs:List UInt8}{limM:Rd→Int}{x:Rd×Int×PL}(h:x.1.bad=true):(kI bs limM x).1=x.1:=by
 unfold kI;simp only;rw[fl (lo:=1) (hi:=1000000000) h];simp only;rw[fl h];exact tD _ _ h
theorem tE {bs:List UInt8}{limM:Rd→Int}:∀(n:Nat)(x:Rd×Int×PL),x.1.bad=true→(ja bs limM n x).1=x.1:=by
 intro n
 induction n with
 |zero=>intro x _;rfl
 |succ n ih=>
  intro x h;have e:=GG (bs:=bs) (limM:=limM) h;rw[ja,ih _ (by rw[e];exact h),e]
def mV:Int→List Int→List UInt8
 |_,[]=>[]
 |q,x::l=>enc (x-q)++mV x l
def vV:Int→List Int→Prop
 |_,[]=>True
 |q,x::l=>1≤x-q∧x-q≤1000001∧vV x l
def DV:Int→List Int→Int
 |q,[]=>q
 |_,x::l=>DV x l
def dX:Int→PL→List UInt8
 |_,[]=>[]
 |d,p::l=>enc (p.1-d)++(enc (p.2.length:Int)++(mV (-1) p.2++dX p.1 l))
def od:Int→PL→Prop
 |_,[]=>True
 |d,p::l=>(1≤p.1-d∧p.1-d≤1000000000∧1≤p.2.length∧(p.2.length:Int)≤1000000000∧vV (-1) p.2)∧od p.1 l
def DW:Int→PL→Int
 |d,[]=>d
 |_,p::l=>DW p.1 l
theorem Qi:∀(l:List Int)(b:List UInt8)(q:Int),(l.foldl qL (b,q)).1=b++mV q l:=by
 intro l
 induction l with
 |nil=>intro b q;simp[mV]
 |cons x l ih=>
  intro b q;rw[List.foldl_cons];show (l.foldl qL (b++enc (x-q),x)).1=_;rw[ih,mV,append_assoc]
theorem Qj:∀(l:PL)(b:List UInt8)(d:Int),(l.foldl tQ (b,d)).1=b++dX d l:=by
 intro l
 induction l with
 |nil=>intro b q;simp[dX]
 |cons p l ih=>
  intro b d;rw[List.foldl_cons];show (l.foldl tQ ((p.2.foldl qL (b++enc (p.1-d)++enc (p.2.length:Int),-1)).1,p.1)).1=_;rw[ih,Qi,dX];simp only[append_assoc]
theorem y8 (l:PL):eL l=enc (l.length:Int)++dX 0 l:=Qj l _ 0
theorem GC {bs:List UInt8}:∀(l:List Int)(at_:Nat)(q:Int)(acc:List Int)(rest:List UInt8),vV q l→bs.drop at_=mV q l++rest→
  iC bs l.length (⟨at_,false⟩,q,acc)=(⟨at_+(mV q l).length,false⟩,DV q l,acc++l):=by
 intro l
 induction l with
 |nil=>intro at_ q acc rest _ _;simp[iC,mV,DV]
 |cons x l ih=>
  intro at_ q acc rest ⟨h1,h2,h3⟩ hd;rw[mV,append_assoc] at hd;have hr:=(bz 1 1000001).round bs at_ _ (x-q) ⟨h1,h2,by constructor<;>omega⟩ hd;have dA:ju bs (⟨at_,false⟩,q,acc)=(⟨at_+(enc (x-q)).length,false⟩,x,acc++[x]):=by
   unfold ju;rw[hr,show q+(x-q)=x by omega]
  rw[length_cons,iC,dA,ih _ x _ rest h3 (by rw[←drop_drop,hd,drop_left])];simp[mV,DV,Nat.add_assoc]
theorem GD {bs:List UInt8}:∀(n at_:Nat)(q:Int)(acc:List Int),at_≤bs.length→(iC bs n (⟨at_,false⟩,q,acc)).1.bad=false→
  ∃l,l.length=n∧vV q l∧(iC bs n (⟨at_,false⟩,q,acc)).2.2=acc++l∧(iC bs n (⟨at_,false⟩,q,acc)).1.at_≤bs.length∧bs.drop at_=mV q l++bs.drop (iC bs n (⟨at_,false⟩,q,acc)).1.at_:=by
 intro n
 induction n with
 |zero=>intro at_ q acc hle _;exact⟨[],rfl,trivial,by simp[iC],hle,by simp[iC,mV]⟩
 |succ n ih=>
  intro at_ q acc hle hb;rw[iC] at hb ⊢;have fx:(ju bs (⟨at_,false⟩,q,acc)).1.bad=false:=by
   cases h:(ju bs (⟨at_,false⟩,q,acc)).1.bad with
   |false=>rfl
   |true=>rw[tD _ _ h,h] at hb;cases hb
  obtain⟨⟨g1,g2,_⟩,g3,g4⟩:=(bz 1 1000001).canon bs at_ hle fx;have dA:ju bs (⟨at_,false⟩,q,acc)=((aI bs 1 1000001 ⟨at_,false⟩).2,q+(aI bs 1 1000001 ⟨at_,false⟩).1,acc++[q+(aI bs 1 1000001 ⟨at_,false⟩).1]):=rfl;rw[dA] at hb fx ⊢;simp only at g1 g2 g3 g4 fx;generalize aI bs 1 1000001 ⟨at_,false⟩=r at *;obtain⟨v,⟨ra,rb⟩⟩:=r;simp only at fx g1 g2 g3 g4;subst fx;simp only at hb ⊢;obtain⟨l,k1,k2,k3,k4,k5⟩:=ih ra (q+v) (acc++[q+v]) g3 hb;refine⟨(q+v)::l,by simp[k1],⟨by omega,by omega,k2⟩,by rw[k3];simp,k4,?_⟩;rw[g4,k5,mV,show q+v-q=v by omega,append_assoc]
theorem ya (n:Int)(h:o3 n):0<(enc n).length:=(eN h.1 h.2).1
theorem Al:∀(l:List Int)(q:Int),vV q l→l.length≤(mV q l).length:=by
 intro l
 induction l with
 |nil=>intro q _;exact Nat.le_refl _
 |cons x l ih=>
  intro q ⟨h1,h2,h3⟩;have:=ih x h3;have:=ya (x-q) (by constructor<;>omega);rw[mV,length_append,length_cons];omega
theorem Dm:∀(l:PL)(d:Int),od d l→l.length≤(dX d l).length:=by
 intro l
 induction l with
 |nil=>intro q _;exact Nat.le_refl _
 |cons p l ih=>
  intro d ⟨⟨h1,h2,h3,h4,h5⟩,h6⟩;have:=ih p.1 h6;have:=ya (p.1-d) (by constructor<;>omega);rw[dX];simp only[length_append,length_cons];omega
theorem GH {bs:List UInt8}{limM:Rd→Int}(hM:∀s (k:Nat),k≤bs.length-s.at_→(k:Int)≤limM s):∀(l:PL)(at_:Nat)(d:Int)(out:PL)(rest:List UInt8),od d l→bs.drop at_=dX d l++rest→
  ja bs limM l.length (⟨at_,false⟩,d,out)=(⟨at_+(dX d l).length,false⟩,DW d l,out++l):=by
 intro l
 induction l with
 |nil=>intro at_ q acc rest _ _;simp[ja,dX,DW]
 |cons p l ih=>
  intro at_ d out rest ⟨⟨h1,h2,h3,h4,h5⟩,h6⟩ hd;rw[dX] at hd;simp only[append_assoc] at hd;have hr:=(bz 1 1000000000).round bs at_ _ (p.1-d) ⟨h1,h2,by constructor<;>omega⟩ hd;have jc:bs.drop (at_+(enc (p.1-d)).length)=enc (p.2.length:Int)++(mV (-1) p.2++(dX p.1 l++rest)):=by rw[←drop_drop,hd,drop_left]
  have ik:(p.2.length:Int)≤limM ⟨at_+(enc (p.1-d)).length,false⟩:=hM _ _ (by
   have:=congrArg List.length jc;simp only[List.length_drop,length_append] at this;have:=Al p.2 (-1) h5;show p.2.length≤bs.length-(at_+(enc (p.1-d)).length);omega)
  have o4:=(bz 1 (limM ⟨at_+(enc (p.1-d)).length,false⟩)).round bs (at_+(enc (p.1-d)).length) _ (p.2.length:Int) ⟨by omega,ik,by constructor<;>omega⟩ jc;have HI:bs.drop (at_+(enc (p.1-d)).length+(enc (p.2.length:Int)).length)=mV (-1) p.2++(dX p.1 l++rest):=by rw[←drop_drop,jc,drop_left]
  have hr3:=GC p.2 _ (-1) [] _ h5 HI;have dA:kI bs limM (⟨at_,false⟩,d,out)=(⟨at_+(enc (p.1-d)).length+(enc (p.2.length:Int)).length+(mV (-1) p.2).length,false⟩,p.1,out++[p]):=by
   unfold kI;simp only;rw[hr];simp only;rw[o4];simp only[Int.toNat_natCast];rw[hr3,show d+(p.1-d)=p.1 by omega];simp
  rw[length_cons,ja,dA,ih _ p.1 _ rest h6 (by rw[←drop_drop,HI,drop_left])];simp only[dX,DW,length_append]
  congr 2
  ·simp only[Nat.add_assoc]
  ·simp
theorem wI {bs:List UInt8}{limM:Rd→Int}(hM2:∀s,limM s≤1000000000):∀(n at_:Nat)(d:Int)(out:PL),at_≤bs.length→(ja bs limM n (⟨at_,false⟩,d,out)).1.bad=false→
  ∃l,l.length=n∧od d l∧(ja bs limM n (⟨at_,false⟩,d,out)).2.2=out++l∧(ja bs limM n (⟨at_,false⟩,d,out)).1.at_≤bs.length∧bs.drop at_=dX d l++bs.drop (ja bs limM n (⟨at_,false⟩,d,out)).1.at_:=by
 intro n
 induction n with
 |zero=>intro at_ q acc hle _;exact⟨[],rfl,trivial,by simp[ja],hle,by simp[ja,dX]⟩
 |succ n ih=>
  intro at_ d out hle hb;rw[ja] at hb ⊢;have fx:(kI bs limM (⟨at_,false⟩,d,out)).1.bad=false:=by
   cases h:(kI bs limM (⟨at_,false⟩,d,out)).1.bad with
   |false=>rfl
   |true=>rw[tE _ _ h,h] at hb;cases hb
  have dA:kI bs limM (⟨at_,false⟩,d,out)=(let a:=aI bs 1 1000000000 ⟨at_,false⟩;let m:=aI bs 1 (limM a.2) a.2;let q:=iC bs m.1.toNat (m.2,-1,[]);(q.1,d+a.1,out++[(d+a.1,q.2.2)])):=rfl;simp only at dA;rw[dA] at hb fx ⊢;simp only at fx;have hq:(aI bs 1 (limM (aI bs 1 1000000000 ⟨at_,false⟩).2) (aI bs 1 1000000000 ⟨at_,false⟩).2).2.bad=false:=by
   cases h:(aI bs 1 (limM (aI bs 1 1000000000 ⟨at_,false⟩).2) (aI bs 1 1000000000 ⟨at_,false⟩).2).2.bad with
   |false=>rfl
   |true=>rw[tD _ _ h] at fx;rw[h] at fx;cases fx
  have ha:=iT hq;obtain⟨⟨g1,g2,_⟩,g3,g4⟩:=(bz 1 1000000000).canon bs at_ hle ha;generalize aI bs 1 1000000000 ⟨at_,false⟩=a at *;obtain⟨v,⟨ra,rb⟩⟩:=a;simp only at ha g1 g2 g3 g4 hq hb fx;subst ha;obtain⟨⟨m1,m2,_⟩,m3,m4⟩:=(bz 1 (limM ⟨ra,false⟩)).canon bs ra g3 hq;have Cd:=hM2 ⟨ra,false⟩;generalize aI bs 1 (limM ⟨ra,false⟩) ⟨ra,false⟩=m at *;obtain⟨w,⟨sa,sb⟩⟩:=m;simp only at hq m1 m2 m3 m4 hb fx ⊢;subst hq;obtain⟨pl,p1,p2,p3,p4,p5⟩:=GD w.toNat sa (-1) [] m3 fx;generalize iC bs w.toNat (⟨sa,false⟩,-1,[])=q at *;obtain⟨⟨qa,qb⟩,ql,Ia⟩:=q;simp only at fx p3 p4 p5 hb ⊢;subst fx;rw[nil_append] at p3;subst p3;obtain⟨l,k1,k2,k3,k4,k5⟩:=ih qa (d+v) (out++[(d+v,Ia)]) p4 hb;have hw:(Ia.length:Int)=w:=by omega
  refine⟨(d+v,Ia)::l,by simp[k1],⟨⟨by show 1≤d+v-d;omega,by show d+v-d≤_;omega,by show 1≤Ia.length;omega,by show (Ia.length:Int)≤_;omega,p2⟩,k2⟩,by rw[k3];simp,k4,?_⟩;rw[g4,m4,p5,k5,dX];simp only[show d+v-d=v by omega,hw,append_assoc]
theorem zT {l:List Int}:∀{q:Int},-1≤q→jR l→(∀x∈l,q<x∧x≤1000000)→vV q l:=by
 induction l with
 |nil=>intro q _ _ _;trivial
 |cons x l ih=>
  intro q hq hs hl;obtain⟨h1,h2⟩:=iW hs;have hx:=hl x (by simp);exact⟨by omega,by omega,ih (by omega) h1 fun y hy=>⟨h2 y hy,(hl y (by simp[hy])).2⟩⟩
theorem Da {l:PL}:∀{d:Int},0≤d→mW l→(∀p∈l,d<p.1∧p.1≤1000000000∧p.2.length≤1000000000∧p.2≠[]∧jR p.2∧∀q∈p.2,0≤q∧q≤1000000)→od d l:=by
 induction l with
 |nil=>intro q _ _ _;trivial
 |cons p l ih=>
  intro d hd hs hl;obtain⟨h1,h2⟩:=gK hs;obtain⟨g1,g2,g3,g4,g5,g6⟩:=hl p (by simp);have hlen:=List.length_pos_iff.2 g4;exact⟨⟨by omega,by omega,by omega,by omega,zT (by omega) g5 fun x hx=>⟨by have:=g6 x hx;omega,(g6 x hx).2⟩⟩,ih (by omega) h1 fun y hy=>⟨h2 y hy,(hl y (by simp[hy])).2⟩⟩
theorem KA {bs:List UInt8}{x:Rd×Int×PL}:(fin bs x=(x.2.2,0)∧dt bs x.1=0∧bc x.2.2=true)∨fin bs x=([],5):=by
 unfold fin
 by_cases h1:dt bs x.1=0
 ·cases h2:bc x.2.2 with
  |true=>exact .inl ⟨by rw[if_neg (by rintro (h|h);exact h h1;cases h)],h1,rfl⟩
  |false=>exact .inr (by rw[if_pos (.inr rfl)])
 ·exact .inr (by rw[if_pos (.inl h1)])
theorem mj {bs:List UInt8}{s:Rd}:dt bs s=0↔s.bad=false∧¬s.at_<bs.length:=by
 unfold dt
 cases s.bad<;>by_cases h:s.at_<bs.length<;>simp[h]
theorem EF {bs:List UInt8}{limN limM:Rd→Int}(hM2:∀s,limM s≤1000000000):(∃l,dec bs limN limM=(l,0)∧bc l=true∧bs=eL l)∨dec bs limN limM=([],5):=by
 unfold dec;simp only;rcases KA (bs:=bs) (x:=ja bs limM (aI bs 0 (limN ⟨0,false⟩) ⟨0,false⟩).1.toNat ((aI bs 0 (limN ⟨0,false⟩) ⟨0,false⟩).2,0,[])) with⟨h1,h2,h3⟩|h
 ·refine .inl ⟨_,h1,h3,?_⟩;rw[mj] at h2;obtain⟨h4,h5⟩:=h2;clear h1 h3;have ha:(aI bs 0 (limN ⟨0,false⟩) ⟨0,false⟩).2.bad=false:=by
   cases h:(aI bs 0 (limN ⟨0,false⟩) ⟨0,false⟩).2.bad with
   |false=>rfl
   |true=>rw[tE _ _ h] at h4;rw[h] at h4;cases h4
  obtain⟨⟨g1,g2,_⟩,g3,g4⟩:=(bz 0 (limN ⟨0,false⟩)).canon bs 0 (Nat.zero_le _) ha;generalize aI bs 0 (limN ⟨0,false⟩) ⟨0,false⟩=a at *;obtain⟨v,⟨ra,rb⟩⟩:=a;simp only at ha g1 g2 g3 g4 h4 h5 ⊢;subst ha;obtain⟨l,k1,k2,k3,k4,k5⟩:=wI hM2 v.toNat ra 0 [] g3 h4;rw[k3,nil_append,y8];rw[List.drop_zero] at g4;have hv:(l.length:Int)=v:=by omega
  have Mg:bs.drop (ja bs limM v.toNat (⟨ra,false⟩,0,[])).1.at_=[]:=List.drop_eq_nil_of_le (by omega);rw[Mg,List.append_nil] at k5;rw[g4,k5,hv]
 ·exact .inr h
theorem w9 {l:PL}{limN limM:Rd→Int}(hv:bc l=true)(hl:l.length≤1000000)(hp:∀p∈l,p.2.length≤1000000000)(hN:(l.length:Int)≤limN ⟨0,false⟩)(hM:∀s (k:Nat),k≤(eL l).length-s.at_→(k:Int)≤limM s):dec (eL l) limN limM=(l,0):=by
 obtain⟨a1,a2,a3⟩:=bS hv;have fC:od 0 l:=Da (by omega) a1 fun p h=>⟨by have:=a2 p h;omega,(a2 p h).2,hp p h,(a3 p h).1,(a3 p h).2.1,(a3 p h).2.2⟩
 have hd:(eL l).drop 0=enc (l.length:Int)++dX 0 l:=by rw[List.drop_zero];exact y8 l
 have hr:=(bz 0 (limN ⟨0,false⟩)).round (eL l) 0 _ (l.length:Int) ⟨by omega,hN,by constructor<;>omega⟩ hd;have jc:(eL l).drop (0+(enc (l.length:Int)).length)=dX 0 l++[]:=by rw[←drop_drop,hd,drop_left,List.append_nil]
 have ho:=GH hM l _ 0 [] [] fC jc;unfold dec;rw[hr];simp only[Int.toNat_natCast];rw[ho];unfold fin;rw[if_neg]
 ·simp
 ·rintro (h|h)
  ·apply h;rw[mj];refine⟨rfl,?_⟩;have:=congrArg List.length (y8 l);rw[length_append] at this;show ¬0+(enc (l.length:Int)).length+(dX 0 l).length<(eL l).length;omega
  ·rw[nil_append] at h;rw[hv] at h
   cases h
end Go.Proofs.YtneohapkboaplaaGreat
