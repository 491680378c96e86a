/- Encode of layer 38.
  Conditions: lengths below 1000. -/
import Derived.Test.YtneohapkboaplaaGreatPW
import Derived.Test.YtneohapkboaplaaGreatPZ
import Derived.Test.YtneohapkboaplaaGreatAmC
set_option linter.all false
set_option maxRecDepth 100000
set_option maxHeartbeats 2000000
namespace Go.Proofs.YtneohapkboaplaaGreat
open Go Go.Am dc gB
def qL (s:List UInt8×Int)(x:Int):List UInt8×Int:=(s.1++enc (x-s.2),x)
def tQ (s:List UInt8×Int)(p:Int×List Int):List UInt8×Int:=((p.2.foldl qL (s.1++enc (p.1-s.2)++enc p.2.length,-1)).1,p.1)
def eL (l:PL):List UInt8:=(l.foldl tQ (enc l.length,0)).1
def mU (l:PL):List UInt8×Int:=if bc l=true then (eL l,0) else ([],1)
theorem mA {α β:Type}(f:β→α→β)(s:β)(l:List α)(k:Nat)(d:α)(h:k<l.length):(l.take (k+1)).foldl f s=f ((l.take k).foldl f s) (l.getD k d):=by
 rw[CK l k d h,List.foldl_append];rfl
theorem dY {n:Int}(h1:-2000000000≤n)(h2:n≤2000000000):(enc n).length≤10:=(eN (by omega) (by omega)).2
theorem tA (l:List Int)(hl:∀q∈l,0≤q∧q≤1000000):∀(b:List UInt8)(d:Int),-1≤d∧d≤1000000→(l.foldl qL (b,d)).1.length≤b.length+10*l.length∧-1≤(l.foldl qL (b,d)).2∧(l.foldl qL (b,d)).2≤1000000:=by
 induction l with
 |nil=>intro b d hd;exact⟨by simp,hd⟩
 |cons x l ih=>
  intro b d hd;have hx:=hl x (by simp);obtain⟨g1,g2⟩:=ih (fun q hq=>hl q (by simp[hq])) (b++enc (x-d)) x (by omega);have:=dY (n:=x-d) (by omega) (by omega);refine⟨?_,g2⟩;simp only[List.foldl_cons,List.length_cons];rw[List.length_append] at g1;show ((l.foldl qL (b++enc (x-d),x)).1).length≤_;omega
theorem xT (l:PL)(hl:∀p∈l,(0≤p.1∧p.1≤1000000000)∧p.2.length≤1000∧∀q∈p.2,0≤q∧q≤1000000):∀(b:List UInt8)(d:Int),0≤d∧d≤1000000000→(l.foldl tQ (b,d)).1.length≤b.length+20000*l.length∧0≤(l.foldl tQ (b,d)).2∧(l.foldl tQ (b,d)).2≤1000000000:=by
 induction l with
 |nil=>intro b d hd;exact⟨by simp,hd⟩
 |cons p l ih=>
  intro b d hd;obtain⟨h1,h2,h3⟩:=hl p (by simp);have e1:=dY (n:=p.1-d) (by omega) (by omega);have e2:=dY (n:=(p.2.length:Int)) (by omega) (by omega);have e3:=(tA p.2 h3 (b++enc (p.1-d)++enc p.2.length) (-1) (by omega)).1;rw[List.length_append,List.length_append] at e3;obtain⟨g1,g2⟩:=ih (fun q hq=>hl q (by simp[hq])) (p.2.foldl qL (b++enc (p.1-d)++enc p.2.length,-1)).1 p.1 (by omega);refine⟨?_,g2⟩;simp only[List.foldl_cons,List.length_cons];show ((l.foldl tQ ((p.2.foldl qL (b++enc (p.1-d)++enc p.2.length,-1)).1,p.1)).1).length≤_;omega
theorem x7 (b:List UInt8)(n:Int)(h1:-2000000000≤n)(h2:n≤2000000000)(H:List aG)(T:ay)(hb:b.length≤1099511627776) :
  al Tryz.prog 117 [.sl b.length (bu b) (.own T.length),.int .i64 n] H (T++[(b.length,1)]) (Is (.sl (b++enc n).length (bu (b++enc n)) (.own T.length)) H (T++[((b++enc n).length,1)])):=by
 have:=rq b T.length n (by omega) (by omega) H (T++[(b.length,1)]) (by simp) hb;rw[qx] at this;exact this
attribute [-simp] List.getD_eq_getElem?_getD in
theorem G9 (l:PL)(hl:l.length≤1000)(hp:∀p∈l,p.2.length≤1000)(H:List aG)(T:ay)(tg:Tag) :
  al Tryz.prog 119 [.sl l.length (bp l) tg] H T (Is (.cJ [.sl (mU l).1.length (bu (mU l).1) .none,.int .i64 (mU l).2]) H T):=by
 refine al.cg ?_;refine al.vX ?_ (by simp);have ik:1000≤maxLen:=by decide
 have c1:=lD l (by omega) (fun p h=>Nat.le_trans (hp p h) ik) H T .none;refine aj 39 [] Tryz.ntmps119 Tryz.func119 rfl (fun _ _=>Tryz.call119 _ _) (by simp) (fun HO=>?_);apply ae;intro K h;simp(disch:=omega);apply h;clear h K;refine af fun K1 aO=>?_
 cases hv:bc l with
 |false=>
  rw[hv] at c1;have hr:mU l=([],1):=by unfold mU;rw[hv];rfl
  refine ae fun K hK=>?_;simp(disch:=omega) ;refine ah (c1) ?_;simp(disch:=omega) ;apply hK;clear hK K;apply aH rfl;apply ae;intro K h;simp(disch:=omega);apply h;clear h K;apply an;simp(disch:=omega) ;rw[hr];simp
 |true=>
  rw[hv] at c1;have hr:mU l=(eL l,0):=by unfold mU;rw[hv];rfl
  obtain⟨a1,a2,a3⟩:=bS hv;have fC:∀p∈l,(0≤p.1∧p.1≤1000000000)∧p.2.length≤1000∧∀q∈p.2,0≤q∧q≤1000000:=fun p h=>⟨by have:=a2 p h;omega,hp p h,(a3 p h).2.2⟩
  have c2:=Kl [] (l.length:Int) (by omega) (by omega) H T (by simp);rw[List.nil_append] at c2;have mZ:(enc (l.length:Int)).length≤10:=dY (by omega) (by omega);generalize Z0:enc (l.length:Int)=e0 at *;refine ae fun K hK=>?_;simp(disch:=omega) ;refine ah (c1) ?_;simp(disch:=omega) ;apply hK;clear hK K;apply aC rfl;apply ak;simp(disch:=omega) ;apply aO;clear aO;refine ae fun K hK=>?_;simp(disch:=omega) ;refine ah (c2) ?_;simp(disch:=omega) ;apply hK;clear hK K;apply ae;intro K h;simp(disch:=omega);apply h;clear h K;refine af fun K1 aO=>?_;apply ae;intro K h;simp(disch:=omega);apply h;clear h K;apply ai;refine aK (X:=Nat) (fun k=>⟨[(4,.sl ((l.take k).foldl tQ (e0,0)).1.length (bu ((l.take k).foldl tQ (e0,0)).1) (.own T.length)),(5,.int .i64 ((l.take k).foldl tQ (e0,0)).2),(17,.sl l.length (bp l) .none),(18,.int .i64 (l.length:Nat)),(19,.int .i64 (k:Nat))],H,T++[(((l.take k).foldl tQ (e0,0)).1.length,1)]⟩) (fun k=>k≤l.length) (fun k=>l.length-k) 0 ?_ ?_ ?_
  ·exact Nat.zero_le _
  ·refine ag [] [] ?_ ?_ ?_ ?_ (HO.df (by simp)) ?_
   all_goals simp
  ·intro k tm;have hS:=xT (l.take k) (fun p h=>fC p (List.mem_of_mem_take h)) e0 0 (by omega);rw[List.length_take] at hS;apply ae;intro K h;simp(disch:=omega);apply h;clear h K;refine af fun K2 aY=>?_;refine aP rfl (fun hk=>?_) (fun hk=>?_)
   ·simp  at hk;have bY:=iU l k hk;have dA:=mA tQ (e0,0) l k (0,[]) hk;have RZ:=fC _ (oN l k (0,[]) hk);generalize (l.take k).foldl tQ (e0,0)=S at *;generalize l.getD k (0,[])=p at *;obtain⟨B,d⟩:=S;simp only at hS;obtain⟨s1,s2,s3⟩:=hS;obtain⟨p1,p2,p3⟩:=RZ;have n1:(enc (p.1-d)).length≤10:=dY (by omega) (by omega);have n2:(enc (p.2.length:Int)).length≤10:=dY (by omega) (by omega);have c3:=x7 B (p.1-d) (by omega) (by omega) (H++[.cells [.int .i64 p.1,.sl p.2.length (ints p.2) .none]]) T (by omega);have c4:=x7 (B++enc (p.1-d)) (p.2.length:Int) (by omega) (by omega) (H++[.cells [.int .i64 p.1,.sl p.2.length (ints p.2) .none]]) T (by rw[List.length_append];omega);have yJ:(l.take (k+1)).foldl tQ (e0,0)=((p.2.foldl qL (B++enc (p.1-d)++enc (p.2.length:Int),-1)).1,p.1):=dA;have hB1:(B++enc (p.1-d)++enc (p.2.length:Int)).length≤30000000:=by rw[List.length_append,List.length_append];omega
    generalize B++enc (p.1-d)++enc (p.2.length:Int)=B2 at *;generalize B++enc (p.1-d)=B1 at *;apply ak;simp(disch:=omega) ;apply aY;clear aY;refine af fun K3 bA=>?_;apply ai;refine ae fun K hK=>?_;simp(disch:=omega)[bY,aS];apply hK;clear hK K;refine aM [5,9] [0,0,0,0,0,0,0,0,0,1,2] [[],[]] au (by kernel_rfl) (by kernel_rfl) fun K hK=>?_;simp(disch:=omega) ;refine dz (c3) rfl ?_;simp(disch:=omega) ;refine dz (c4) rfl ?_;simp(disch:=omega) ;apply hK;clear hK K;apply ae;intro K h;simp(disch:=omega);apply h;clear h K;apply ae;intro K h;simp(disch:=omega);apply h;clear h K;apply ae;intro K h;simp(disch:=omega);apply h;clear h K;apply ai;refine aK (X:=Nat) (fun j=>⟨[(4,.sl ((p.2.take j).foldl qL (B2,-1)).1.length (bu ((p.2.take j).foldl qL (B2,-1)).1) (.own T.length)),(5,.int .i64 p.1),(8,.int .i64 ((p.2.take j).foldl qL (B2,-1)).2),(17,.sl l.length (bp l) .none),(18,.int .i64 (l.length:Nat)),(19,.int .i64 (k:Nat)),(36,.sl p.2.length (ints p.2) .none),(37,.int .i64 (p.2.length:Nat)),(38,.int .i64 (j:Nat))],H,T++[(((p.2.take j).foldl qL (B2,-1)).1.length,1)]⟩) (fun j=>j≤p.2.length) (fun j=>p.2.length-j) 0 ?_ ?_ ?_
    ·exact Nat.zero_le _
    ·refine ag [.cells [.int .i64 p.1,.sl p.2.length (ints p.2) .none]] [] ?_ ?_ ?_ ?_ (HO.df (by simp)) ?_
     all_goals simp
    ·intro j W6;have LY:=tA (p.2.take j) (fun q h=>p3 q (List.mem_of_mem_take h)) B2 (-1) (by omega);rw[List.length_take] at LY;apply ae;intro K h;simp(disch:=omega);apply h;clear h K;refine af fun K4 ec=>?_;refine aP rfl (fun hj=>?_) (fun hj=>?_)
     ·simp  at hj;have W9:=aT (xs:=p.2) (k:=j) hj;have Ih:=mA qL (B2,-1) p.2 j 0 hj;have hq:=p3 _ (oN p.2 j 0 hj);generalize (p.2.take j).foldl qL (B2,-1)=S2 at *;generalize p.2.getD j 0=q at *;obtain⟨C,e⟩:=S2;simp only at LY;obtain⟨t1,t2,t3⟩:=LY;have c5:=x7 C (q-e) (by omega) (by omega) H T (by omega);have IF:(p.2.take (j+1)).foldl qL (B2,-1)=(C++enc (q-e),q):=Ih;generalize C++enc (q-e)=C2 at *;apply ak;simp(disch:=omega) ;apply ec;clear ec;refine af fun K5 gO=>?_;apply ai;refine ae fun K hK=>?_;simp(disch:=omega)[W9,hj];apply hK;clear hK K;refine ae fun K hK=>?_;simp(disch:=omega) ;refine ah (c5) ?_;simp(disch:=omega) ;apply hK;clear hK K;refine ar fun K hK=>?_;simp(disch:=omega) ;apply hK;clear hK K;apply gO;clear gO;refine ar fun K hK=>?_;simp(disch:=omega) ;apply hK;clear hK K;refine⟨j+1,by show j+1≤_;omega,by show p.2.length-(j+1)<p.2.length-j;omega,?_⟩;simp only[IF];refine ag [] [] ?_ ?_ ?_ ?_ (HO.df (by simp)) ?_
      all_goals simp
     ·simp at hj;have:j=p.2.length:=by omega
      subst this;rw[List.take_length] at LY ⊢;apply aD;simp(disch:=omega) ;apply bA;clear bA;refine ar fun K hK=>?_;simp(disch:=omega) ;apply hK;clear hK K;refine⟨k+1,by show k+1≤_;omega,by show l.length-(k+1)<l.length-k;omega,?_⟩;simp only[yJ];refine ag [] [] ?_ ?_ ?_ ?_ (HO.df (by simp)) ?_
      all_goals simp
   ·simp at hk;have:k=l.length:=by omega
    subst this;rw[List.take_length];apply aD;simp(disch:=omega) ;apply aO;clear aO;apply ae;intro K h;simp(disch:=omega);apply h;clear h K;apply an;simp(disch:=omega) ;rw[hr];unfold eL;rw[Z0];simp
end Go.Proofs.YtneohapkboaplaaGreat
