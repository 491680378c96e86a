/- What is encoded is read back, and only what is encoded is read: laws on lists of bytes.
  Conditions: none. -/
import Derived.Test.YtneohapkboaplaaGreatWRd
set_option linter.all false
open List (append_assoc length_append drop_drop drop_zero drop_left length_drop)
namespace gB
theorem Qd {n:Int}(h:o3 n):oK (fo n)=n:=by
 unfold fo;unfold o3 at h
 split
 ·have h1:(-(2*n)-1).toNat % 2=1:=by omega
  have h2:(((-(2*n)-1).toNat / 2:Nat):Int)=-n-1:=by omega
  simp only[oK,if_pos h1,h2];omega
 ·have h1:¬(2*n).toNat % 2=1:=by omega
  have h2:(((2*n).toNat / 2:Nat):Int)=n:=by omega
  simp only[oK,if_neg h1,h2]
theorem QD (u:Nat):fo (oK u)=u:=by
 by_cases h:u % 2=1
 ·have h1:oK u=-((u / 2:Nat):Int)-1:=by simp only[oK,if_pos h]
  have h2:oK u<0:=by omega
  simp only[fo,if_pos h2];omega
 ·have h1:oK u=((u / 2:Nat):Int):=by simp only[oK,if_neg h]
  have h2:¬oK u<0:=by omega
  simp only[fo,if_neg h2];omega
theorem tL (w:Nat):(HW w).toNat=w % 128+128:=by
 unfold HW;rw[UInt8.toNat_ofNat'];omega
theorem tJ (w:Nat):(HC w).toNat=w % 128:=by
 unfold HC;rw[UInt8.toNat_ofNat'];omega
theorem T8:∀(w:Nat)(r:List UInt8),w<144115188075855872→gl true 0 (lA w++r)=yR (lA w).length (gl (w==0) w r):=by
 intro w
 induction w using Nat.strongRecOn with
 |ind w ih=>
  intro r hw;rcases Nat.eq_zero_or_pos w with h0|h0
  ·subst h0;rw[iw];simp[xi]
  ·rw[lQ h0,append_assoc,ih (w / 128) (by omega) _ (by omega),List.singleton_append,gl,if_neg,if_neg]
   ·rw[AL,tL];have e1:w / 128*128+(w % 128+128) % 128=w:=by omega
    have e2:(w==0)=false:=by simp;omega
    rw[e1,e2,length_append];rfl
   ·rw[UInt8.lt_iff_toNat_lt,tL];show ¬w % 128+128<128;omega
   ·rw[←UInt8.toNat_inj,tL];intro h;rcases h with⟨h1,h2⟩|h1
    ·have N4:w / 128=0:=by simpa using h1
     have h2':w % 128+128=128:=h2;omega
    ·omega
theorem QB (u:Nat)(h:u<18446744073709551616)(r:List UInt8):gl true 0 (pg u++r)=some (u,(pg u).length):=by
 unfold pg;rw[append_assoc,T8 _ _ (by omega),List.singleton_append,gl,if_neg,if_pos]
 ·rw[tJ];have e1:u / 128*128+u % 128 % 128=u:=by omega
  rw[e1];simp[yR];omega
 ·rw[UInt8.lt_iff_toNat_lt,tJ];exact(Nat.mod_lt _ (by omega))
 ·rw[←UInt8.toNat_inj,tJ];intro h;rcases h with⟨h1,h2⟩|h1
  ·have h2':u % 128=128:=h2;omega
  ·omega
theorem Kt:∀(r:List UInt8)(w u n:Nat),gl (w==0) w r=some (u,n)→lA w++r.take n=pg u:=by
 intro r
 induction r with
 |nil=>intro w u n h;simp[gl] at h
 |cons c r ih=>
  intro w u n h;rw[gl] at h;have hc:c.toNat<256:=UInt8.toNat_lt _
  split at h
  ·simp at h
  ·rename_i hb;rw[←UInt8.toNat_inj] at hb;have ua:(128:UInt8).toNat=128:=rfl;rw[ua] at hb
   split at h
   ·rename_i bh;rw[UInt8.lt_iff_toNat_lt,ua] at bh;simp only[Option.some.injEq,Prod.mk.injEq] at h;obtain⟨h1,h2⟩:=h;subst h2;unfold pg;have e1:u / 128=w:=by omega
    have e2:HC u=c:=by rw[←UInt8.toNat_inj,tJ];omega
    rw[e1,e2];rfl
   ·rename_i bh;rw[UInt8.lt_iff_toNat_lt,ua] at bh;obtain⟨⟨v',n'⟩,h1,h2⟩:=Option.map_eq_some_iff.1 h;simp only[Prod.mk.injEq] at h2;obtain⟨rfl,rfl⟩:=h2;have dW:0<w*128+c.toNat % 128:=by
     rcases Nat.eq_zero_or_pos w with h0|h0
     ·subst h0;have:¬c.toNat=128:=fun hh=>hb (.inl ⟨rfl,hh⟩);omega
     ·omega
    have hf:(w*128+c.toNat % 128==0)=false:=by simp;omega
    have:=ih (w*128+c.toNat % 128) v' n' (by rw[hf];exact h1);rw[←this,lQ dW];have e1:(w*128+c.toNat % 128) / 128=w:=by omega
    have e2:HW (w*128+c.toNat % 128)=c:=by rw[←UInt8.toNat_inj,tL];omega
    rw[e1,e2];simp
theorem G3 {bs:List UInt8}{u n:Nat}(h:gl true 0 bs=some (u,n)):bs=pg u++bs.drop n:=by
 have:=Kt bs 0 u n h;rw[iw,List.nil_append] at this;rw[←this,List.take_append_drop]
structure lC {α:Type}(e:α→List UInt8)(f:List UInt8→Rd→α×Rd)(ok:α→Prop):Prop where
 round:∀(bs:List UInt8)(at_:Nat)(rest:List UInt8)(x:α),ok x→bs.drop at_=e x++rest→f bs ⟨at_,false⟩=(x,⟨at_+(e x).length,false⟩)
 canon:∀(bs:List UInt8)(at_:Nat),at_≤bs.length→(f bs ⟨at_,false⟩).2.bad=false→
  ok (f bs ⟨at_,false⟩).1∧(f bs ⟨at_,false⟩).2.at_≤bs.length∧bs.drop at_=e (f bs ⟨at_,false⟩).1++bs.drop (f bs ⟨at_,false⟩).2.at_
theorem lC.pre {α:Type}{e:α→List UInt8}{f:List UInt8→Rd→α×Rd}{ok:α→Prop}(C:lC e f ok){x:α}{k:Nat}(hx:ok x)(hk:k<(e x).length):(f ((e x).take k) ⟨0,false⟩).2.bad=true:=by
 cases hb:(f ((e x).take k) ⟨0,false⟩).2.bad with
 |true=>rfl
 |false=>
  exfalso;obtain⟨h1,_,h3⟩:=C.canon _ 0 (Nat.zero_le _) hb;generalize (f ((e x).take k) ⟨0,false⟩).1=y at *;generalize ((e x).take k).drop (f ((e x).take k) ⟨0,false⟩).2.at_=r at *;rw[drop_zero] at h3;have h4:e x=e y++(r++(e x).drop k):=by
   rw[←append_assoc,←h3,List.take_append_drop]
  have h5:=C.round (e x) 0 [] x hx (by simp);have h6:=C.round (e x) 0 _ y h1 (by rw[drop_zero];exact h4);rw[h5] at h6;have h7:x=y:=congrArg Prod.fst h6;subst h7;have h8:=congrArg List.length h3;rw[List.length_take,length_append] at h8;omega
theorem lC.whole {α:Type}{e:α→List UInt8}{f:List UInt8→Rd→α×Rd}{ok:α→Prop}(C:lC e f ok){bs:List UInt8}(hb:(f bs ⟨0,false⟩).2.bad=false)(ha:¬(f bs ⟨0,false⟩).2.at_<bs.length):bs=e (f bs ⟨0,false⟩).1:=by
 obtain⟨_,h2,h3⟩:=C.canon _ 0 (Nat.zero_le _) hb;rw[drop_zero,List.drop_eq_nil_of_le (by omega),List.append_nil] at h3;exact h3
def OW (lo hi:Int)(n:Int):Prop:=lo≤n∧n≤hi∧o3 n
theorem bz (lo hi:Int):lC enc (fun bs s=>aI bs lo hi s) (OW lo hi):=by
 constructor
 ·intro bs at_ rest x ⟨h1,h2,h3⟩ hd;have hg:fZ bs at_=some (fo x,(enc x).length):=by
   unfold fZ;rw[hd];exact QB _ (DY h3.1 h3.2) _
  have hl:=(eN h3.1 h3.2).1;have hn:¬((enc x).length=0∨x<lo∨x>hi):=by omega
  have e1:sX (fZ bs at_)=(enc x).length:=by rw[hg];rfl
  have e2:sW (fZ bs at_)=x:=by rw[hg];exact Qd h3
  simp only[aI,e1,e2,if_neg hn];rfl
 ·intro bs at_ hle hb;simp only[aI] at hb ⊢
  split at hb
  ·rename_i h;cases h
  ·rename_i h0;rw[if_neg h0]
   split at hb
   ·cases hb
   ·rename_i h1;rw[if_neg h1];simp only[not_or] at h1;obtain⟨v,hv⟩:=Kr h1.1;obtain⟨f1,f2,f3⟩:=mw hv;have R8:sW (fZ bs at_)=oK v:=by rw[hv];rfl
    have pN:=py f1;refine⟨⟨by omega,by omega,by rw[R8];exact pN⟩,f3,?_⟩;have:=G3 hv;rw[drop_drop] at this;rw[R8];show _=pg (fo (oK v))++_;rw[QD];exact this
def Li (m:Int)(s:List UInt8):Prop:=(s.length:Int)≤m∧o3 s.length
theorem lL (m:Int):lC bf (fun bs s=>bD bs m s) (Li m):=by
 constructor
 ·intro bs at_ rest x ⟨h1,h2⟩ hd;have hi:aI bs 0 m ⟨at_,false⟩=_:=(bz 0 m).round bs at_ (x++rest) x.length ⟨by omega,h1,h2⟩ (by rw[hd,bf,append_assoc]);have jc:bs.drop (at_+(enc x.length).length)=x++rest:=by
   rw[←drop_drop,hd,bf,append_assoc,drop_left]
  have hlen:=congrArg List.length jc;rw[length_drop,length_append] at hlen;simp only[bD,hi];rw[if_neg]
  ·rw[jc];simp[bf];omega
  ·intro h;rcases h with h|h
   ·cases h
   ·rcases Nat.eq_zero_or_pos x.length with h0|h0
    ·have dW:0<(enc (x.length:Int)).length:=(eN h2.1 h2.2).1;have h5:=congrArg List.length hd;rw[length_drop,length_append,bf,length_append] at h5;omega
    ·omega
 ·intro bs at_ hle hb;have hi:=(bz 0 m).canon bs at_ hle;simp only[bD] at hb ⊢
  split at hb
  ·cases hb
  ·rename_i h0;rw[if_neg h0];simp only[not_or] at h0;obtain⟨⟨a1,a2,a3⟩,h2,h3⟩:=hi hb;generalize aI bs 0 m ⟨at_,false⟩=p at *;obtain⟨n,⟨qa,qb⟩⟩:=p;simp only at *;have hn:((bs.drop qa).take n.toNat).length=n.toNat:=by
    rw[List.length_take,length_drop];omega
   have DJ:((n.toNat:Nat):Int)=n:=by omega
   unfold Li bf;rw[hn,DJ];refine⟨⟨a2,a3⟩,by omega,?_⟩;rw[h3,append_assoc]
   congr 1
   rw[←drop_drop,List.take_append_drop]
theorem kQ {α:Type}{e:α→List UInt8}{f:List UInt8→Rd→α×Rd}{ok:α→Prop}(C:lC e f ok)(bs:List UInt8):∀(l:List α)(at_:Nat)(rest:List UInt8)(out:List α),(∀x∈l,ok x)→bs.drop at_=l.flatMap e++rest→
  bO (f bs) l.length ⟨at_,false⟩ out=(out++l,⟨at_+(l.flatMap e).length,false⟩):=by
 intro l
 induction l with
 |nil=>intro at_ rest out _ _;simp[bO]
 |cons x l ih=>
  intro at_ rest out fC hd;rw[List.flatMap_cons,append_assoc] at hd;have h1:=C.round bs at_ _ x (fC x (by simp)) hd;rw[List.length_cons,eF _ _ _ _ (by omega) rfl,h1];have h2:=ih (at_+(e x).length) rest (out++[x]) (fun y hy=>fC y (by simp[hy])) (by rw[←drop_drop,hd,drop_left]);rw[Nat.add_sub_cancel];rw[h2];simp;omega
theorem gL {α:Type}{e:α→List UInt8}{f:List UInt8→Rd→α×Rd}{ok:α→Prop}(C:lC e f ok)(bs:List UInt8):∀(n:Nat)(at_:Nat)(out:List α),at_≤bs.length→(bO (f bs) n ⟨at_,false⟩ out).2.bad=false→
  ∃l,l.length=n∧(∀x∈l,ok x)∧(bO (f bs) n ⟨at_,false⟩ out).1=out++l∧(bO (f bs) n ⟨at_,false⟩ out).2.at_≤bs.length∧bs.drop at_=l.flatMap e++bs.drop (bO (f bs) n ⟨at_,false⟩ out).2.at_:=by
 intro n
 induction n with
 |zero=>intro at_ out hle _;exact⟨[],rfl,by simp,by simp[bO],hle,by simp[bO]⟩
 |succ n ih=>
  intro at_ out hle hb;rw[eF _ _ _ _ (by omega) rfl,Nat.add_sub_cancel] at hb ⊢
  cases hq:(f bs ⟨at_,false⟩).2.bad with
  |true=>rw[dL _ _ _ _ hq] at hb;rw[hq] at hb;cases hb
  |false=>
   obtain⟨h1,h2,h3⟩:=C.canon bs at_ hle hq;generalize f bs ⟨at_,false⟩=p at *;obtain⟨x,⟨qa,qb⟩⟩:=p;simp only at *;subst hq;obtain⟨l,k1,k2,k3,k4,k5⟩:=ih qa (out++[x]) h2 hb;refine⟨x::l,by simp[k1],?_,by rw[k3];simp,k4,?_⟩
   ·intro y hy;rcases List.mem_cons.1 hy with rfl|hy
    ·exact h1
    ·exact k2 y hy
   ·rw[h3,k5,List.flatMap_cons,append_assoc]
def qV {α:Type}(mx:Int)(ok:α→Prop)(l:List α):Prop:=(l.length:Int)≤mx∧o3 l.length∧∀x∈l,ok x
theorem oB {α:Type}{e:α→List UInt8}{f:List UInt8→Rd→α×Rd}{ok:α→Prop}(C:lC e f ok)(mx:Int):lC (fun l=>enc l.length++l.flatMap e) (fun bs s=>eu bs mx (f bs) s) (qV mx ok):=by
 constructor
 ·intro bs at_ rest l ⟨h1,h2,h3⟩ hd;simp only[append_assoc] at hd;have hi:aI bs 0 mx ⟨at_,false⟩=_:=(bz 0 mx).round bs at_ _ l.length ⟨by omega,h1,h2⟩ hd;have jc:bs.drop (at_+(enc l.length).length)=l.flatMap e++rest:=by
   rw[←drop_drop,hd,drop_left]
  have hr:=kQ C bs l _ rest [] h3 jc;simp only[eu,hi,Int.toNat_natCast,hr];simp;omega
 ·intro bs at_ hle hb;have hi:=(bz 0 mx).canon bs at_ hle;simp only[eu] at hb ⊢
  split at hb
  ·cases hb
  ·rename_i h0;rw[if_neg h0];have hq:(aI bs 0 mx ⟨at_,false⟩).2.bad=false:=by
    cases hq:(aI bs 0 mx ⟨at_,false⟩).2.bad with
    |false=>rfl
    |true=>rw[dL _ _ _ _ hq,hq] at hb;cases hb
   obtain⟨⟨a1,a2,a3⟩,h2,h3⟩:=hi hq;generalize aI bs 0 mx ⟨at_,false⟩=p at *;obtain⟨n,⟨qa,qb⟩⟩:=p;simp only at *;subst hq;obtain⟨l,k1,k2,k3,k4,k5⟩:=gL C bs n.toNat qa [] h2 hb;have DJ:((n.toNat:Nat):Int)=n:=by omega
   rw[List.nil_append] at k3;rw[k3];refine⟨⟨by rw[k1,DJ];exact a2,by rw[k1,DJ];exact a3,k2⟩,k4,?_⟩;rw[h3,k5,k1,DJ,append_assoc]
theorem uI {α:Type}{f:Rd→α×Rd}{m:Nat}(hf:∀s,s.at_≤m→(f s).2.at_≤m):∀(n:Nat)(q:Rd)(out:List α),q.at_≤m→(bO f n q out).2.at_≤m:=by
 intro n
 induction n with
 |zero=>intro q out h;exact h
 |succ n ih=>
  intro q out h;unfold bO
  split
  ·exact h
  ·exact ih _ _ (hf _ h)
theorem zK {α:Type}{bs:List UInt8}{mx:Int}{f:Rd→α×Rd}(hf:∀s,s.at_≤bs.length→(f s).2.at_≤bs.length)(s:Rd)(h:s.at_≤bs.length):(eu bs mx f s).2.at_≤bs.length:=by
 unfold eu
 split
 ·exact h
 ·exact uI hf _ _ _ (bI _ _ _ _ h)
theorem JP {bs:List UInt8}{lo hi:Int}{at_:Nat}(h:(aI bs lo hi ⟨at_,false⟩).2.bad=true):aI bs lo hi ⟨at_,false⟩=(0,⟨at_,true⟩):=by
 unfold aI at h ⊢;simp only[Bool.false_eq_true,if_false] at h ⊢
 split at h
 ·rename_i h1;rw[if_pos h1]
 ·cases h
end gB
