/- Encode of the reference of layer 38.
  Conditions: lengths below 1000. -/
import Derived.Test.YtneohapkboaplaaGreatPEnc
set_option linter.all false
set_option maxRecDepth 100000
set_option maxHeartbeats 2000000
namespace Go.Proofs.YtneohapkboaplaaGreat
open Go Go.Am dc gB
theorem On (u:Nat):(u:Int) % 128=((HC u).toNat:Int):=by rw[rD];omega
theorem TW (u:Nat):(u:Int) % 128+128=((HW u).toNat:Int):=by rw[we];omega
theorem zu (u:Nat):(u:Int).tmod 128=(u:Int) % 128:=by rw[Int.tmod_eq_emod_of_nonneg (by omega)]
theorem zx (u:Nat):(u:Int).tdiv 128=((u / 128:Nat):Int):=by rw[Int.tdiv_eq_ediv_of_nonneg (by omega)];omega
theorem Dk (c:UInt8)(l:List UInt8):bu (c::l)=.int .u8 (c.toNat:Int)::bu l:=rfl
attribute [-simp] List.getD_eq_getElem?_getD in
theorem qz (n:Int)(h1:-9223372036854775808≤n)(h2:n≤9223372036854775807)(H:List aG)(T:ay) :
  al Tryz.prog 122 [.int .i64 n] H T (fun r H' T'=>H'=H∧∃TT,T'=T++TT++[((enc n).length,1)]∧r=.sl (enc n).length (bu (enc n)) (.own (T++TT).length)):=by
 have c1:=G5 n h1 h2 H T;have hu:=DY h1 h2;have aaK:enc n=pg (fo n):=rfl;have mZ:=(Ai hu).2;generalize fo n=U at *;refine aj 5 [] Tryz.ntmps122 Tryz.func122 rfl (fun _ _=>Tryz.call122 _ _) (by simp) (fun HO=>?_);apply ae;intro K h;simp(disch:=omega);apply h;clear h K;refine ae fun K hK=>?_;simp(disch:=omega) ;refine ah (c1) ?_;simp(disch:=omega) ;apply hK;clear hK K;have sK:=On U;have O2:=zu U;have Q0:=zx U;refine ae fun K hK=>?_;simp(disch:=omega)[sK,O2];apply hK;clear hK K;refine af fun K1 aO=>?_;refine ae fun K hK=>?_;simp(disch:=omega)[Q0];apply hK;clear hK K;apply ai;refine jm 4 1 1 [.int .u8 ((HC U).toNat:Int)] (by omega) (by simp) ?_;refine aK (X:=Nat×List UInt8×ay) (fun x=>⟨[(3,.int .u64 (x.1:Nat)),(4,.sl x.2.1.length (bu x.2.1) (.own (T++x.2.2).length))],H,T++x.2.2++[(x.2.1.length,1)]⟩) (fun x=>lA x.1++x.2.1=pg U∧x.1<18446744073709551616∧0<x.2.1.length) (fun x=>x.1) (U / 128,[HC U],[]) ?_ ?_ ?_
 ·exact⟨rfl,by simp only;omega,by simp⟩
 ·refine ag [] [] ?_ ?_ ?_ ?_ (HO.df (by simp)) ?_
  all_goals simp[bu]
 ·rintro⟨u,out,TT⟩ ⟨g1,g2,aav⟩;simp only at g1 g2 aav;have hol:out.length≤10:=by
   have:=congrArg List.length g1;rw[List.length_append] at this;omega
  have fD:bM H (T++TT++[(out.length,1)]):=HO.df (by simp);have lV:(T++TT).length=T.length+TT.length:=List.length_append;refine af fun K2 aY=>?_;apply ae;intro K h;simp(disch:=omega);apply h;clear h K;refine aP rfl (fun hk=>?_) (fun hk=>?_)
  ·have kE:0<u:=by simpa using hk
   have Pd:=lQ kE;have e1:=On u;have e2:=TW u;have e3:=zu u;have e4:=zx u;apply ak;simp(disch:=omega) ;apply aY;clear aY;refine af fun K3 bA=>?_;apply ai;refine ar fun K hK=>?_;simp(disch:=omega)[e3];rw[e2];apply hK;clear hK K;apply bA;clear bA;refine ar fun K hK=>?_;simp(disch:=omega)[e4];apply hK;clear hK K;refine⟨(u / 128,HW u::out,TT++[(out.length,1)]),⟨by rw[←g1,Pd];simp,by show u / 128<_;omega,by simp⟩,by show u / 128<u;omega,?_⟩;refine ag [] [] ?_ ?_ ?_ ?_ (HO.df (by simp)) ?_
   all_goals simp[Dk,Nat.add_comm]
  ·have h0:u=0:=by
    have:¬0<u:=by simpa using hk
    omega
   subst h0;rw[iw,List.nil_append] at g1;apply aD;simp(disch:=omega) ;apply aO;clear aO;apply ae;intro K h;simp(disch:=omega);apply h;clear h K;apply an;simp(disch:=omega) ;rw[aaK,g1];exact⟨TT,⟨rfl,rfl⟩,rfl,rfl,rfl⟩
theorem hZ (n:Int)(h1:-9223372036854775808≤n)(h2:n≤9223372036854775807)(H:List aG)(T:ay) :
  al Tryz.prog 122 [.int .i64 n] H T (Is (.sl (enc n).length (bu (enc n)) .none) H T):=by
 refine al.dS (al.mono (qz n h1 h2 H T) ?_) (by simp);rintro r H' T' ⟨rfl,TT,rfl,rfl⟩;exact⟨⟨[],by simp⟩,⟨TT++[((enc n).length,1)],by simp⟩,.inr rfl⟩
attribute [-simp] List.getD_eq_getElem?_getD in
theorem Dj (l:PL)(hl:l.length≤1000)(hp:∀p∈l,p.2.length≤1000)(H:List aG)(T:ay)(tg:Tag) :
  al Tryz.prog 123 [.sl l.length (bp l) tg] H T (Is (.cJ [.sl (mU l).1.length (bu (mU l).1) .none,.int .i64 (mU l).2]) H T):=by
 refine al.cg ?_;refine al.vX ?_ (by simp);have ik:1000≤maxLen:=by decide
 have c1:=oe l (by omega) (fun p h=>Nat.le_trans (hp p h) ik) H T .none;refine aj 9 [] Tryz.ntmps123 Tryz.func123 rfl (fun _ _=>Tryz.call123 _ _) (by simp) (fun HO=>?_);apply ae;intro K h;simp(disch:=omega);apply h;clear h K;refine af fun K1 aO=>?_
 cases hv:bc l with
 |false=>
  rw[hv] at c1;have hr:mU l=([],1):=by unfold mU;rw[hv];rfl
  refine ae fun K hK=>?_;simp(disch:=omega) ;refine ah (c1) ?_;simp(disch:=omega) ;apply hK;clear hK K;apply aH rfl;apply ae;intro K h;simp(disch:=omega);apply h;clear h K;apply an;simp(disch:=omega) ;rw[hr];simp
 |true=>
  rw[hv] at c1;have hr:mU l=(eL l,0):=by unfold mU;rw[hv];rfl
  obtain⟨a1,a2,a3⟩:=bS hv;have fC:∀p∈l,(0≤p.1∧p.1≤1000000000)∧p.2.length≤1000∧∀q∈p.2,0≤q∧q≤1000000:=fun p h=>⟨by have:=a2 p h;omega,hp p h,(a3 p h).2.2⟩
  have c2:=qz (l.length:Int) (by omega) (by omega) H T;have mZ:(enc (l.length:Int)).length≤10:=dY (by omega) (by omega);generalize Z0:enc (l.length:Int)=e0 at *;refine ae fun K hK=>?_;simp(disch:=omega) ;refine ah (c1) ?_;simp(disch:=omega) ;apply hK;clear hK K;apply aC rfl;apply ak;simp(disch:=omega) ;apply aO;clear aO;refine ae fun K hK=>?_;simp(disch:=omega) ;refine⟨_,c2,?_⟩;rintro r H' T' ⟨rfl,TT,rfl,rfl⟩;simp(disch:=omega) ;apply hK;clear hK K;apply ae;intro K h;simp(disch:=omega);apply h;clear h K;refine af fun K1 aO=>?_;apply ae;intro K h;simp(disch:=omega);apply h;clear h K;apply ai;refine aK (X:=Nat) (fun k=>⟨[(0,.sl l.length (bp l) .none),(4,.sl ((l.take k).foldl tQ (e0,0)).1.length (bu ((l.take k).foldl tQ (e0,0)).1) (.own (T++TT).length)),(5,.int .i64 ((l.take k).foldl tQ (e0,0)).2),(6,.int .i64 (k:Nat))],H',T++TT++[(((l.take k).foldl tQ (e0,0)).1.length,1)]⟩) (fun k=>k≤l.length) (fun k=>l.length-k) 0 ?_ ?_ ?_
  ·exact Nat.zero_le _
  ·refine ag [] [] ?_ ?_ ?_ ?_ (HO.df (by simp)) ?_
   all_goals simp
  ·intro k tm;have lV:(T++TT).length=T.length+TT.length:=List.length_append;have hS:=xT (l.take k) (fun p h=>fC p (List.mem_of_mem_take h)) e0 0 (by omega);rw[List.length_take] at hS;refine af fun K2 aY=>?_;apply ae;intro K h;simp(disch:=omega);apply h;clear h K;refine aP rfl (fun hk=>?_) (fun hk=>?_)
   ·simp  at hk;have gR:=gq l k hk;have dA:=mA tQ (e0,0) l k (0,[]) hk;have RZ:=fC _ (oN l k (0,[]) hk);generalize (l.take k).foldl tQ (e0,0)=S at *;generalize l.getD k (0,[])=p at *;obtain⟨B,d⟩:=S;simp only at hS;obtain⟨s1,s2,s3⟩:=hS;obtain⟨p1,p2,p3⟩:=RZ;have n1:(enc (p.1-d)).length≤10:=dY (by omega) (by omega);have n2:(enc (p.2.length:Int)).length≤10:=dY (by omega) (by omega);have c3:=fun T=>hZ (p.1-d) (by omega) (by omega) H' T;have c4:=fun T=>hZ (p.2.length:Int) (by omega) (by omega) H' T;have yJ:(l.take (k+1)).foldl tQ (e0,0)=((p.2.foldl qL (B++enc (p.1-d)++enc (p.2.length:Int),-1)).1,p.1):=dA;have m1:0<(enc (p.1-d)).length:=(eN (by omega) (by omega)).1;have m2:0<(enc (p.2.length:Int)).length:=(eN (by omega) (by omega)).1;generalize enc (p.1-d)=x1 at *;generalize enc (p.2.length:Int)=x2 at *;apply ak;simp(disch:=omega) ;apply aY;clear aY;refine af fun K3 bA=>?_;apply ai;refine aM [9,17] [0,0,0,0,0,0,0,0,0,0,0,0,0,0,0,0,1,1,2] [[],[]] au (by kernel_rfl) (by kernel_rfl) fun K hK=>?_;simp(disch:=omega)[gR.1,gR.2,aS,hk];refine aB (c3 _) rfl ?_;simp(disch:=omega)[gR.1,gR.2,aS,hk,dn];refine aB (c4 _) rfl ?_;simp(disch:=omega)[gR.1,gR.2,aS,hk,dn];apply hK;clear hK K;refine ae fun K hK=>?_;simp(disch:=omega)[gR.1,aS];apply hK;clear hK K;apply ae;intro K h;simp(disch:=omega);apply h;clear h K;apply ae;intro K h;simp(disch:=omega);apply h;clear h K;obtain⟨B2,yz⟩:∃b,b=B++x1++x2:=⟨_,rfl⟩
    have hBl:B2.length=B.length+x1.length+x2.length:=by rw[yz,List.length_append,List.length_append]
    rw[←yz] at yJ;apply ai;refine aK (X:=Nat) (fun j=>⟨[(0,.sl l.length (bp l) .none),(4,.sl ((p.2.take j).foldl qL (B2,-1)).1.length (bu ((p.2.take j).foldl qL (B2,-1)).1) (.own (T++TT).length)),(5,.int .i64 p.1),(6,.int .i64 (k:Nat)),(7,.int .i64 ((p.2.take j).foldl qL (B2,-1)).2),(8,.int .i64 (j:Nat))],H',T++TT++[(((p.2.take j).foldl qL (B2,-1)).1.length,1)]⟩) (fun j=>j≤p.2.length) (fun j=>p.2.length-j) 0 ?_ ?_ ?_
    ·exact Nat.zero_le _
    ·refine ag [] [] ?_ ?_ ?_ ?_ (HO.df (by simp)) ?_
     all_goals simp[yz,Nat.add_assoc]
    ·intro j W6;have LY:=tA (p.2.take j) (fun q h=>p3 q (List.mem_of_mem_take h)) B2 (-1) (by omega);rw[List.length_take] at LY;refine af fun K4 ec=>?_;refine ae fun K hK=>?_;simp(disch:=omega)[gR.2,aS];apply hK;clear hK K;refine aP rfl (fun hj=>?_) (fun hj=>?_)
     ·simp  at hj;have W9:=aT (xs:=p.2) (k:=j) hj;have Ih:=mA qL (B2,-1) p.2 j 0 hj;have hq:=p3 _ (oN p.2 j 0 hj);generalize (p.2.take j).foldl qL (B2,-1)=S2 at *;generalize p.2.getD j 0=q at *;obtain⟨C,e⟩:=S2;simp only at LY;obtain⟨t1,t2,t3⟩:=LY;have c5:=fun T=>hZ (q-e) (by omega) (by omega) H' T;have IF:(p.2.take (j+1)).foldl qL (B2,-1)=(C++enc (q-e),q):=Ih;have m3:0<(enc (q-e)).length:=(eN (by omega) (by omega)).1;have m4:(enc (q-e)).length≤10:=dY (by omega) (by omega);generalize enc (q-e)=x3 at *;apply ak;simp(disch:=omega) ;apply ec;clear ec;refine af fun K5 gO=>?_;apply ai;refine ae fun K hK=>?_;simp(disch:=omega)[gR.2,aS,W9,hj,hk];refine ah (c5 _) ?_;simp(disch:=omega)[dn];apply hK;clear hK K;refine ar fun K hK=>?_;simp(disch:=omega)[gR.2,aS,W9,hj,hk];apply hK;clear hK K;apply gO;clear gO;refine ar fun K hK=>?_;simp(disch:=omega) ;apply hK;clear hK K;refine⟨j+1,by show j+1≤_;omega,by show p.2.length-(j+1)<p.2.length-j;omega,?_⟩;simp only[IF];refine ag [] [] ?_ ?_ ?_ ?_ (HO.df (by simp)) ?_
      all_goals simp[dn]
     ·simp at hj;have:j=p.2.length:=by omega
      subst this;rw[List.take_length] at LY ⊢;apply aD;simp(disch:=omega) ;apply bA;clear bA;refine ar fun K hK=>?_;simp(disch:=omega) ;apply hK;clear hK K;refine⟨k+1,by show k+1≤_;omega,by show l.length-(k+1)<l.length-k;omega,?_⟩;simp only[yJ];refine ag [] [] ?_ ?_ ?_ ?_ (HO.df (by simp)) ?_
      all_goals simp
   ·simp at hk;have:k=l.length:=by omega
    subst this;rw[List.take_length];apply aD;simp(disch:=omega) ;apply aO;clear aO;apply ae;intro K h;simp(disch:=omega);apply h;clear h K;apply an;simp(disch:=omega) ;rw[hr];unfold eL;rw[Z0];simp
end Go.Proofs.YtneohapkboaplaaGreat
