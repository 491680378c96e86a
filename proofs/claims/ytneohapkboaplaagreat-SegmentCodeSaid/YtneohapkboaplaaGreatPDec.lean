/- Decode of layer 38.
  Conditions: at most 10000 bytes. -/
import Derived.Test.YtneohapkboaplaaGreatPPl7
set_option linter.all false
set_option maxRecDepth 100000
set_option maxHeartbeats 4000000
namespace Go.Proofs.YtneohapkboaplaaGreat
open Go Go.Am dc gB
def gy (bs:List UInt8)(s:Rd):Int:=max 1 ((bs.length-s.at_:Nat):Int)
def kJ (bs:List UInt8)(s:Rd):Int:=((bs.length-s.at_:Nat):Int)
def eQ (acc:List Int)(tk:Nat):AV:=if acc=[] then .sl 0 [] .full else .sl acc.length (ints acc) (.own tk)
def gu (acc:List Int):ay:=if acc=[] then [] else [(acc.length,1)]
theorem xE (bs:List UInt8)(s:Rd)(lo hi:Int)(hs:s.at_≤bs.length)(hb:bs.length≤10000)(H R:List aG)(T:ay) :
  al Tryz.prog 127 [.ptr H.length 0,.int .i64 lo,.int .i64 hi] (H++.cells (rd bs s)::R) T (Is (.int .i64 (aI bs lo hi s).1) (H++.cells (rd bs (aI bs lo hi s).2)::R) T):=by
 have:=qe bs s lo hi hs (by omega) (H++.cells (rd bs s)::R) T H.length (by simp);rw[qx] at this;exact this
theorem wA (bs:List UInt8)(s:Rd)(hs:s.at_≤bs.length)(hb:bs.length≤10000)(H R:List aG)(T:ay) :
  al Tryz.prog 128 [.ptr H.length 0] (H++.cells (rd bs s)::R) T (Is (.int .i64 ((bs.length-s.at_:Nat):Int)) (H++.cells (rd bs s)::R) T):=
 zl bs s hs (by omega) (H++.cells (rd bs s)::R) T H.length (by simp)
theorem cV (bs:List UInt8)(lo hi:Int)(s:Rd)(h0:0≤hi)(h1:0≤lo):0≤(aI bs lo hi s).1∧(aI bs lo hi s).1≤hi:=by
 unfold aI
 split
 ·exact⟨Int.le_refl _,h0⟩
 ·split
  ·exact⟨Int.le_refl _,h0⟩
  ·rename_i h;simp only[not_or] at h;simp only;omega
theorem ot (bs:List UInt8)(s:Rd)(hs:s.at_≤bs.length):∀j,(iC bs j (s,-1,[])).1.at_≤bs.length∧-1≤(iC bs j (s,-1,[])).2.1∧(iC bs j (s,-1,[])).2.1≤(j:Int)*1000001∧(iC bs j (s,-1,[])).2.2.length=j∧∀q∈(iC bs j (s,-1,[])).2.2,-1≤q∧q≤(j:Int)*1000001:=by
 intro j
 induction j with
 |zero=>exact⟨hs,by simp[iC],by simp[iC],rfl,by simp[iC]⟩
 |succ j ih=>
  rw[uM];obtain⟨g1,g2,g3,g4,g5⟩:=ih;generalize iC bs j (s,-1,[])=x at *;have hb:=cV bs 1 1000001 x.1 (by omega) (by omega);refine⟨bI bs _ _ _ g1,by unfold ju;simp only;omega,by unfold ju;simp only;omega,by unfold ju;simp[g4],fun q hq=>?_⟩;unfold ju at hq;rcases List.mem_append.1 hq with hq|hq
  ·have:=g5 q hq;omega
  ·simp at hq;omega
theorem mq {H:List aG}{T:ay}(h:bM H T)(bs:List UInt8)(s:Rd)(d:Int)(acc:List Int)(m:Nat):bM (H++[.cells (rd bs s),.cells [.int .i64 d,eQ acc (T.length+1)]]) (T++(m,2)::gu acc):=by
 have e:H++[aG.cells (rd bs s),.cells [.int .i64 d,eQ acc (T.length+1)]]=(H++[.cells (rd bs s)])++[.cells [.int .i64 d,eQ acc (T.length+1)]]:=by simp
 rw[e];refine bM.snoc (bM.snoc (h.df (by simp)) (by simp[rd])) ?_;unfold eQ gu
 split
 ·simp
 ·simp
theorem Eo (bs:List UInt8)(hb:bs.length≤10000)(s:Rd):1≤gy bs s∧gy bs s≤10000:=by
 unfold gy;omega
theorem GJ (bs:List UInt8)(hb:bs.length≤10000)(s:Rd)(hs:s.at_≤bs.length):∀k,(ja bs (gy bs) k (s,0,[])).1.at_≤bs.length∧0≤(ja bs (gy bs) k (s,0,[])).2.1∧(ja bs (gy bs) k (s,0,[])).2.1≤(k:Int)*1000000000∧(ja bs (gy bs) k (s,0,[])).2.2.length=k∧∀p∈(ja bs (gy bs) k (s,0,[])).2.2,p.2.length≤10000:=by
 intro k
 induction k with
 |zero=>exact⟨hs,by simp[ja],by simp[ja],rfl,by simp[ja]⟩
 |succ k ih=>
  rw[qw];obtain⟨g1,g2,g3,g4,g5⟩:=ih;generalize ja bs (gy bs) k (s,0,[])=x at *;have hd:=cV bs 1 1000000000 x.1 (by omega) (by omega);have HF:=bI bs 1 1000000000 x.1 g1;unfold kI;simp only;generalize aI bs 1 1000000000 x.1=a at *;have hl:=Eo bs hb a.2;have hm:=cV bs 1 (gy bs a.2) a.2 (by omega) (by omega);have HT:=bI bs 1 (gy bs a.2) a.2 HF;generalize aI bs 1 (gy bs a.2) a.2=m at *;obtain⟨q1,q2,q3,q4,q5⟩:=ot bs m.2 HT m.1.toNat;generalize iC bs m.1.toNat (m.2,-1,[])=q at *;refine⟨q1,by omega,by omega,by simp[g4],fun p hp=>?_⟩;rcases List.mem_append.1 hp with hp|hp
  ·exact g5 p hp
  ·simp at hp;subst hp;show q.2.2.length≤10000;omega
attribute [-simp] List.getD_eq_getElem?_getD in
theorem Hh (bs:List UInt8)(hb:bs.length≤10000)(hN:(aI bs 0 ((bs.length:Nat):Int) ⟨0,false⟩).1≤1000)(H:List aG)(T:ay)(tg:Tag) :
  al Tryz.prog 130 [.sl bs.length (bu bs) tg] H T (Is (.cJ [.sl (dec bs (kJ bs) (gy bs)).1.length (bp (dec bs (kJ bs) (gy bs)).1) .none,.int .i64 (dec bs (kJ bs) (gy bs)).2]) H T):=by
 refine al.cg ?_;refine al.vX ?_ (by simp);have c1:=EB bs (by omega) H T;have c2:=wA bs ⟨0,false⟩ (Nat.zero_le _) hb H [] T;have c3:=xE bs ⟨0,false⟩ 0 (kJ bs ⟨0,false⟩) (Nat.zero_le _) hb H [] T;have hn:=cV bs 0 (kJ bs ⟨0,false⟩) ⟨0,false⟩ (by unfold kJ;omega) (by omega);have DG:=bI bs 0 (kJ bs ⟨0,false⟩) ⟨0,false⟩ (Nat.zero_le _);have mf:dec bs (kJ bs) (gy bs)=fin bs (ja bs (gy bs) (aI bs 0 (kJ bs ⟨0,false⟩) ⟨0,false⟩).1.toNat ((aI bs 0 (kJ bs ⟨0,false⟩) ⟨0,false⟩).2,0,[])):=rfl;have Cd:kJ bs ⟨0,false⟩=((bs.length:Nat):Int):=rfl;rw[Cd] at c3 hn DG mf;generalize aI bs 0 ((bs.length:Nat):Int) ⟨0,false⟩=r0 at *;obtain⟨n,s1⟩:=r0;simp only at hn DG mf c3;obtain⟨N,rfl⟩:=Int.eq_ofNat_of_zero_le hn.1;rw[Int.toNat_natCast] at mf;refine aj 30 [] Tryz.ntmps130 Tryz.func130 rfl (fun _ _=>Tryz.call130 _ _) (by simp) (fun HO=>?_);apply ae;intro K h;simp(disch:=omega);apply h;clear h K;refine ae fun K hK=>?_;simp(disch:=omega) ;refine ah (c1) ?_;simp(disch:=omega) ;apply hK;clear hK K;apply ae;intro K h;simp(disch:=omega);apply h;clear h K;apply ae;intro K h;simp(disch:=omega);apply h;clear h K;refine af fun K1 aO=>?_;refine ae fun K hK=>?_;simp(disch:=omega) ;refine ah (c2) ?_;simp(disch:=omega) ;refine ah (c3) ?_;simp(disch:=omega) ;apply hK;clear hK K;have xI:=GJ bs hb s1 DG;have ID:=qw bs (gy bs);apply ai;refine jm 5 0 2 [] (by omega) (by simp) ?_;refine aK (X:=Nat) (fun k=>⟨[(4,.ptr H.length 0),(5,.sl k (bp (ja bs (gy bs) k (s1,0,[])).2.2) (.own T.length)),(6,.int .i64 (ja bs (gy bs) k (s1,0,[])).2.1),(14,.int .i64 (N:Nat)),(15,.int .i64 (k:Nat))],H++[.cells (rd bs (ja bs (gy bs) k (s1,0,[])).1)],T++[(k*2,2)]⟩) (fun k=>k≤N) (fun k=>N-k) 0 ?_ ?_ ?_
 ·exact Nat.zero_le _
 ·refine ag [] [] ?_ ?_ ?_ ?_ (bM.snoc (HO.df (by simp)) (by simp[rd])) ?_
  all_goals simp[ja,qv]
 ·intro k tm;obtain⟨f1,f2,f3,f4,f5⟩:=xI k;have dA:=ID k (s1,0,[]);generalize hX:ja bs (gy bs) k (s1,0,[])=X at *;obtain⟨s,last,out⟩:=X;simp only at f1 f2 f3 f4 f5;apply ae;intro K h;simp(disch:=omega);apply h;clear h K;refine af fun K2 aY=>?_;refine aP rfl (fun hk=>?_) (fun hk=>?_)
  ·have NT:k<N:=by simpa using hk
   have c4:=xE bs s 1 1000000000 f1 hb H [] (T++[(k*2,2)]);have hd:=cV bs 1 1000000000 s (by omega) (by omega);have HF:=bI bs 1 1000000000 s f1;unfold kI at dA;simp only at dA;generalize aI bs 1 1000000000 s=a at *;obtain⟨d,sa⟩:=a;simp only at hd HF dA c4;have c5:=wA bs sa HF hb H [.cells [.int .i64 (last+d),.sl 0 [] .full]] (T++[(k*2,2)]);have c6:=xE bs sa 1 (gy bs sa) HF hb H [.cells [.int .i64 (last+d),.sl 0 [] .full]] (T++[(k*2,2)]);have ab9:=Eo bs hb sa;have hm:=cV bs 1 (gy bs sa) sa (by omega) (by omega);have HT:=bI bs 1 (gy bs sa) sa HF;generalize aI bs 1 (gy bs sa) sa=m at *;obtain⟨w,sm⟩:=m;simp only at hm HT dA c6;obtain⟨M,rfl⟩:=Int.eq_ofNat_of_zero_le hm.1;rw[Int.toNat_natCast] at dA;unfold gy at c6;apply ak;simp(disch:=omega) ;apply aY;clear aY;refine af fun K3 bA=>?_;apply ai;refine ae fun K hK=>?_;simp(disch:=omega) ;refine ah (c4) ?_;simp(disch:=omega) ;apply hK;clear hK K;apply ae;intro K h;simp(disch:=omega);apply h;clear h K;apply ae;intro K h;simp(disch:=omega);apply h;clear h K;refine af fun K4 ec=>?_;refine ae fun K hK=>?_;simp(disch:=omega) ;refine ah (c5) ?_;simp(disch:=omega) ;refine ah (c6) ?_;simp(disch:=omega) ;apply hK;clear hK K;have xF:=ot bs sm HT;have IB:=uM bs;have o9:(bp out).length=k*2:=by rw[aS,f4]
   apply ai;refine aK (X:=Nat) (fun j=>⟨[(4,.ptr H.length 0),(5,.sl k (bp out) (.own T.length)),(6,.int .i64 (last+d)),(7,.ptr (H.length+1) 0),(8,.int .i64 (iC bs j (sm,-1,[])).2.1),(14,.int .i64 (N:Nat)),(15,.int .i64 (k:Nat)),(28,.int .i64 (M:Nat)),(29,.int .i64 (j:Nat))],H++[.cells (rd bs (iC bs j (sm,-1,[])).1),.cells [.int .i64 (last+d),eQ (iC bs j (sm,-1,[])).2.2 (T.length+1)]],T++(k*2,2)::gu (iC bs j (sm,-1,[])).2.2⟩) (fun j=>j≤M) (fun j=>M-j) 0 ?_ ?_ ?_
   ·exact Nat.zero_le _
   ·refine ag [] [] ?_ ?_ ?_ ?_ ?_ ?_
    ·simp[iC,eQ]
    ·simp[iC,gu]
    ·simp
    ·simp
    ·exact mq HO bs _ _ _ _
    ·simp[iC]
   ·intro j W6;apply ae;intro K h;simp(disch:=omega);apply h;clear h K;refine af fun K5 gO=>?_;refine aP rfl (fun hj=>?_) (fun hj=>?_)
    ·have Q8:j<M:=by simpa using hj
     obtain⟨q1,q2,q3,q4,q5⟩:=xF j;have vq:=IB j (sm,-1,[]);generalize iC bs j (sm,-1,[])=Y at *;obtain⟨t,at_,acc⟩:=Y;simp only at q1 q2 q3 q4;have c7:=xE bs t 1 1000001 q1 hb H [.cells [.int .i64 (last+d),eQ acc (T.length+1)]] (T++(k*2,2)::gu acc);have hx:=cV bs 1 1000001 t (by omega) (by omega);unfold ju at vq;simp only at vq;generalize aI bs 1 1000001 t=x at *;obtain⟨x,t'⟩:=x;simp only at hx vq c7;have kH:=cN acc (at_+x);apply ak;simp(disch:=omega) ;apply gO;clear gO;refine af fun K6 lp=>?_;apply ai
     by_cases h0:acc=[]
     ·subst h0;simp only[eQ,gu,if_true] at c7 ⊢;refine ae fun K hK=>?_;simp(disch:=omega) ;refine ah (c7) ?_;simp(disch:=omega) ;apply hK;clear hK K;refine ar fun K hK=>?_;simp(disch:=omega) ;apply hK;clear hK K;apply lp;clear lp;refine ar fun K hK=>?_;simp(disch:=omega) ;apply hK;clear hK K;refine⟨j+1,by show j+1≤_;omega,by show M-(j+1)<M-j;omega,?_⟩;simp only[vq];refine ag [] [] ?_ ?_ ?_ ?_ (mq HO bs _ _ _ _) ?_
      all_goals simp[eQ,gu,ints]
     ·simp only[eQ,gu,if_neg h0] at c7 ⊢;refine ae fun K hK=>?_;simp(disch:=omega) ;refine ah (c7) ?_;simp(disch:=omega) ;apply hK;clear hK K;refine ar fun K hK=>?_;simp(disch:=omega)[kH];apply hK;clear hK K;apply lp;clear lp;refine ar fun K hK=>?_;simp(disch:=omega) ;apply hK;clear hK K;refine⟨j+1,by show j+1≤_;omega,by show M-(j+1)<M-j;omega,?_⟩;simp only[vq];refine ag [] [] ?_ ?_ ?_ ?_ (mq HO bs _ _ _ _) ?_
      all_goals simp[eQ,gu]
    ·have Q8:j=M:=by
      have:¬j<M:=by simpa using hj
      omega
     subst Q8;obtain⟨q1,q2,q3,q4,q5⟩:=xF j;generalize iC bs j (sm,-1,[])=Y at *;obtain⟨t,at_,acc⟩:=Y;simp only at q1 q2 q3 q4 dA;have qN:=jO out (last+d) acc;apply aD;simp(disch:=omega) ;apply ec;clear ec
     by_cases h0:acc=[]
     ·subst h0;simp only[eQ,gu,if_true] at qN ⊢;have h0:True:=trivial;have PQ:bp out++[.int .i64 (last+d),.sl 0 [] .none]=bp (out++[(last+d,[])]):=qN;refine oH (H++[.cells (rd bs t)]) [.int .i64 (last+d),.sl 0 [] .full] (by simp) ?_;simp only[List.map_cons,List.map_nil,cC];refine ar fun K hK=>?_;simp(disch:=omega)[o9,PQ];apply hK;clear hK K;apply bA;clear bA;refine ar fun K hK=>?_;simp(disch:=omega) ;apply hK;clear hK K;refine⟨k+1,by show k+1≤_;omega,by show N-(k+1)<N-k;omega,?_⟩;simp only[dA];refine ag [.cells [.int .i64 (last+d),.sl 0 [] .none]] (gu []) ?_ ?_ ?_ ?_ (bM.snoc (HO.df (by simp)) (by simp[rd])) ?_
      all_goals simp[eQ,gu,h0]
     ·simp only[eQ,gu,if_neg h0];refine oH (H++[.cells (rd bs t)]) [.int .i64 (last+d),.sl acc.length (ints acc) (.own (T.length+1))] (by simp) ?_;simp only[List.map_cons,List.map_nil,cC];refine ar fun K hK=>?_;simp(disch:=omega)[o9,qN];apply hK;clear hK K;apply bA;clear bA;refine ar fun K hK=>?_;simp(disch:=omega) ;apply hK;clear hK K;refine⟨k+1,by show k+1≤_;omega,by show N-(k+1)<N-k;omega,?_⟩;simp only[dA];refine ag [.cells [.int .i64 (last+d),.sl acc.length (ints acc) .none]] (gu acc) ?_ ?_ ?_ ?_ (bM.snoc (HO.df (by simp)) (by simp[rd])) ?_
      all_goals simp[eQ,gu,h0]
  ·have NT:k=N:=by
    have:¬k<N:=by simpa using hk
    omega
   subst NT;rw[hX] at mf;have c8:=zm bs s f1 (by omega) (H++[.cells (rd bs s)]) (T++[(k*2,2)]) H.length (by simp);have c9:=lD out (by omega) (fun p hp=>Nat.le_trans (f5 p hp) (by decide)) (H++[.cells (rd bs s)]) (T++[(k*2,2)]) (.own T.length);rw[f4] at c9;apply aD;simp(disch:=omega) ;apply aO;clear aO;refine af fun K9 SA=>?_
   by_cases DN:dt bs s=0
   ·rw[DN] at c8
    cases hv:bc out with
    |true=>
     rw[hv] at c9;have mc:fin bs (s,last,out)=(out,0):=by unfold fin;rw[if_neg (by rintro (h|h);exact h DN;rw[hv] at h;cases h)]
     rw[mc] at mf;refine ae fun K hK=>?_;simp(disch:=omega) ;refine ah (c8) ?_;simp(disch:=omega) ;refine ah (c9) ?_;simp(disch:=omega) ;apply hK;clear hK K;apply aC rfl;apply ak;simp(disch:=omega) ;apply SA;clear SA;apply ae;intro K h;simp(disch:=omega);apply h;clear h K;apply an;simp(disch:=omega) ;rw[mf];simp[f4]
    |false=>
     rw[hv] at c9;have mc:fin bs (s,last,out)=([],5):=by unfold fin;rw[if_pos (.inr hv)]
     rw[mc] at mf;refine ae fun K hK=>?_;simp(disch:=omega) ;refine ah (c8) ?_;simp(disch:=omega) ;refine ah (c9) ?_;simp(disch:=omega) ;apply hK;clear hK K;apply aH rfl;apply ae;intro K h;simp(disch:=omega);apply h;clear h K;apply an;simp(disch:=omega) ;rw[mf];simp[bp]
   ·have Z2:dt bs s=5:=by
     unfold dt at DN ⊢
     split
     ·rfl
     ·rename_i h;rw[if_neg h] at DN;exact absurd rfl DN
    rw[Z2] at c8;have mc:fin bs (s,last,out)=([],5):=by unfold fin;rw[if_pos (.inl DN)]
    rw[mc] at mf;refine ae fun K hK=>?_;simp(disch:=omega) ;refine ah (c8) ?_;simp(disch:=omega) ;apply hK;clear hK K;apply aH rfl;apply ae;intro K h;simp(disch:=omega);apply h;clear h K;apply an;simp(disch:=omega) ;rw[mf];simp[bp]
end Go.Proofs.YtneohapkboaplaaGreat
