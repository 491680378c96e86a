/- Decode of the reference of layer 38.
  Conditions: at most 600 bytes. -/
import Derived.Test.YtneohapkboaplaaGreatPDec
set_option linter.all false
set_option maxRecDepth 100000
set_option maxHeartbeats 4000000
namespace Go.Proofs.YtneohapkboaplaaGreat
open Go Go.Am dc gB
def sf (_:Rd):Int:=1000000000
def gd (_:Rd):Int:=1000001
theorem tB (bs:List UInt8)(s:Rd)(lo hi:Int)(hs:s.at_≤bs.length)(hb:bs.length≤10000)(H R:List aG)(T:ay) :
  al Tryz.prog 133 [.ptr H.length 0,.int .i64 lo,.int .i64 hi] (H++.cells (rd bs s)::R) T (Is (.int .i64 (aI bs lo hi s).1) (H++.cells (rd bs (aI bs lo hi s).2)::R) T):=by
 have:=lM bs s lo hi hs (by omega) (H++.cells (rd bs s)::R) T H.length (by simp);rw[qx] at this;exact this
theorem M5 (bs:List UInt8):∀(m n:Nat)(x:Rd×Int×List Int),iC bs (n+m) x=iC bs m (iC bs n x):=by
 intro m n
 induction n with
 |zero=>intro x;rw[Nat.zero_add];rfl
 |succ n ih=>intro x;rw[show n+1+m=n+m+1 by omega,iC,ih,iC]
theorem C9 {bs:List UInt8}{m n:Nat}{x:Rd×Int×List Int}(h:(iC bs n x).1.bad=true)(hm:n≤m):(iC bs m x).1.bad=true:=by
 have:m=n+(m-n):=by omega
 rw[this,M5,tD _ _ h];exact h
theorem Qo (bs:List UInt8)(s:Rd)(hs:s.at_≤bs.length):∀k,(ja bs gd k (s,0,[])).1.at_≤bs.length∧0≤(ja bs gd k (s,0,[])).2.1∧(ja bs gd k (s,0,[])).2.1≤(k:Int)*1000000000∧(ja bs gd k (s,0,[])).2.2.length=k∧∀p∈(ja bs gd k (s,0,[])).2.2,p.2.length≤1000001:=by
 intro k
 induction k with
 |zero=>exact⟨hs,by simp[ja],by simp[ja],rfl,by simp[ja]⟩
 |succ k ih=>
  rw[qw];obtain⟨g1,g2,g3,g4,g5⟩:=ih;generalize ja bs gd k (s,0,[])=x at *;have hd:=cV bs 1 1000000000 x.1 (by omega) (by omega);have HF:=bI bs 1 1000000000 x.1 g1;unfold kI;simp only;generalize aI bs 1 1000000000 x.1=a at *;have hm:=cV bs 1 (gd a.2) a.2 (by unfold gd;omega) (by omega);have HT:=bI bs 1 (gd a.2) a.2 HF;generalize hl:gd a.2=L at *;unfold gd at hl;generalize aI bs 1 L a.2=m at *;obtain⟨q1,q2,q3,q4,q5⟩:=ot bs m.2 HT m.1.toNat;generalize iC bs m.1.toNat (m.2,-1,[])=q at *;refine⟨q1,by omega,by omega,by simp[g4],fun p hp=>?_⟩;rcases List.mem_append.1 hp with hp|hp
  ·exact g5 p hp
  ·simp at hp;subst hp;show q.2.2.length≤1000001;omega
def ROk (bs:List UInt8)(s1:Rd)(k:Nat)(x:Rd×Int×PL):Prop:=(x.1.bad=false→x=ja bs gd k (s1,0,[]))∧(x.1.bad=true→(ja bs gd k (s1,0,[])).1.bad=true)∧x.1.at_≤bs.length∧x.2.2.length=k
attribute [-simp] List.getD_eq_getElem?_getD in
theorem Dp (bs:List UInt8)(hb:bs.length≤600)(H:List aG)(T:ay)(tg:Tag) :
  al Tryz.prog 135 [.sl bs.length (bu bs) tg] H T (Is (.cJ [.sl (dec bs sf gd).1.length (bp (dec bs sf gd).1) .none,.int .i64 (dec bs sf gd).2]) H T):=by
 refine al.cg ?_;refine al.vX ?_ (by simp);have fW:bs.length≤10000:=by omega
 have c3:=tB bs ⟨0,false⟩ 0 1000000000 (Nat.zero_le _) fW H [] T;have hn:=cV bs 0 1000000000 ⟨0,false⟩ (by omega) (by omega);have DG:=bI bs 0 1000000000 ⟨0,false⟩ (Nat.zero_le _);have mf:dec bs sf gd=fin bs (ja bs gd (aI bs 0 1000000000 ⟨0,false⟩).1.toNat ((aI bs 0 1000000000 ⟨0,false⟩).2,0,[])):=rfl;generalize aI bs 0 1000000000 ⟨0,false⟩=r0 at *;obtain⟨n,s1⟩:=r0;simp only at hn DG mf c3;obtain⟨N,rfl⟩:=Int.eq_ofNat_of_zero_le hn.1;rw[Int.toNat_natCast] at mf;have PN:rd bs ⟨0,false⟩=[.sl bs.length (bu bs) .none,.int .i64 0,.bool false]:=rfl;rw[PN] at c3;refine aj 13 [] Tryz.ntmps135 Tryz.func135 rfl (fun _ _=>Tryz.call135 _ _) (by simp) (fun HO=>?_);apply ae;intro K h;simp(disch:=omega);apply h;clear h K;apply ae;intro K h;simp(disch:=omega);apply h;clear h K;refine ae fun K hK=>?_;simp(disch:=omega) ;refine ah (c3) ?_;simp(disch:=omega) ;apply hK;clear hK K;apply ae;intro K h;simp(disch:=omega);apply h;clear h K;apply ae;intro K h;simp(disch:=omega);apply h;clear h K;refine af fun K1 aO=>?_;apply ae;intro K h;simp(disch:=omega);apply h;clear h K;have xI:=Qo bs s1 DG;have ID:=qw bs gd;apply ai;refine jm 6 0 2 [] (by omega) (by simp) ?_;refine aK (X:=Nat×Rd×Int×PL) (fun x=>⟨[(4,.ptr H.length 0),(5,.int .i64 (N:Nat)),(6,.sl x.1 (bp x.2.2.2) (.own T.length)),(7,.int .i64 x.2.2.1),(8,.int .i64 (x.1:Nat))],H++[.cells (rd bs x.2.1)],T++[(x.1*2,2)]⟩) (fun x=>x.1≤N∧ROk bs s1 x.1 x.2) (fun x=>N-x.1) (0,s1,0,[]) ?_ ?_ ?_
 ·exact⟨Nat.zero_le _,fun _=>rfl,fun h=>h,DG,rfl⟩
 ·refine ag [] [] ?_ ?_ ?_ ?_ (bM.snoc (HO.df (by simp)) (by simp[rd])) ?_
  all_goals simp[qv]
 ·rintro⟨k,s,last,out⟩ ⟨tm,r1,r2,f1,f4⟩;simp only at tm r1 r2 f1 f4;have done:(s.bad=true∨k=N)→∀e,b9 (H++[aG.cells (rd bs s)]).length (T++[(k*2,2)]).length e [(4,.ptr H.length 0),(6,.sl k (bp out) .none)]→K1 ⟨e,H++[.cells (rd bs s)],T++[(k*2,2)]⟩:=fun pe e he=>by
   refine aO _ (aQ ⟨[(4,.ptr H.length 0),(6,.sl k (bp out) .none)],H++[.cells (rd bs s)],T++[(k*2,2)]⟩ (ag [] [] (by simp) (by simp) (by simp) (by simp) (bM.snoc (HO.df (by simp)) (by simp[rd])) he) ?_);have c8:=Ap bs s f1 (by omega) (H++[.cells (rd bs s)]) (T++[(k*2,2)]) H.length (by simp);refine af fun K9 SA=>?_
   by_cases DN:dt bs s=0
   ·have fx:=(mj.1 DN).1;have NT:k=N:=pe.resolve_left (by rw[fx];decide);have hx:=r1 fx;obtain⟨g1,g2,g3,g4,g5⟩:=xI k;have Ll:s1.bad=false:=by
     cases h:s1.bad with
     |false=>rfl
     |true=>have:=tE (limM:=gd) (bs:=bs) k (s1,0,[]) h;rw[←hx] at this;simp only at this;rw[this,h] at fx;cases fx
    have aca:k≤600:=by
     obtain⟨a,b⟩:=s1;simp only at Ll;subst Ll;obtain⟨l,l1,l2,_,_,l5⟩:=wI (bs:=bs) (limM:=gd) (fun _=>by unfold gd;omega) k a 0 [] DG (by rw[←hx];exact fx);have:=Dm l 0 l2;have:=congrArg List.length l5;rw[List.length_drop,List.length_append] at this;omega
    rw[←hx] at g5;simp only at g5;have c9:=oe out (by omega) (fun p hp=>Nat.le_trans (g5 p hp) (by decide)) (H++[.cells (rd bs s)]) (T++[(k*2,2)]) .none;rw[f4] at c9;rw[←NT,←hx] at mf;rw[DN] at c8
    cases hv:bc out with
    |true=>
     rw[hv] at c9;have mc:fin bs (s,last,out)=(out,0):=by unfold fin;rw[if_neg (by rintro (h|h);exact h DN;rw[hv] at h;cases h)]
     rw[mc] at mf;refine ae fun K hK=>?_;simp(disch:=omega) ;refine ah (c8) ?_;simp(disch:=omega) ;refine ah (c9) ?_;simp(disch:=omega) ;apply hK;clear hK K;apply aC rfl;apply ak;simp(disch:=omega) ;apply SA;clear SA;apply ae;intro K h;simp(disch:=omega);apply h;clear h K;apply an;simp(disch:=omega) ;rw[mf];simp[f4]
    |false=>
     rw[hv] at c9;have mc:fin bs (s,last,out)=([],5):=by unfold fin;rw[if_pos (.inr hv)]
     rw[mc] at mf;refine ae fun K hK=>?_;simp(disch:=omega) ;refine ah (c8) ?_;simp(disch:=omega) ;refine ah (c9) ?_;simp(disch:=omega) ;apply hK;clear hK K;apply aH rfl;apply ae;intro K h;simp(disch:=omega);apply h;clear h K;apply an;simp(disch:=omega) ;rw[mf];simp[bp]
   ·have Z2:dt bs s=5:=by
     unfold dt at DN ⊢
     split
     ·rfl
     ·rename_i h;rw[if_neg h] at DN;exact absurd rfl DN
    rw[Z2] at c8;have TY:dec bs sf gd=([],5):=by
     rw[mf]
     cases dG:s.bad with
     |true=>
      have qR:=r2 dG;have hbN:(ja bs gd N (s1,0,[])).1.bad=true:=by
       have e:∀(m n:Nat)(x:Rd×Int×PL),ja bs gd (n+m) x=ja bs gd m (ja bs gd n x):=by
        intro m n
        induction n with
        |zero=>intro x;rw[Nat.zero_add];rfl
        |succ n ih=>intro x;rw[show n+1+m=n+m+1 by omega,ja,ih,ja]
       have:N=k+(N-k):=by omega
       rw[this,e,tE _ _ qR];exact qR
      unfold fin;rw[if_pos (.inl (fun h=>by rw[(mj.1 h).1] at hbN;cases hbN))]
     |false=>
      have NT:k=N:=pe.resolve_left (by rw[dG];decide);rw[←NT,←r1 dG];unfold fin;rw[if_pos (.inl DN)]
    refine ae fun K hK=>?_;simp(disch:=omega) ;refine ah (c8) ?_;simp(disch:=omega) ;apply hK;clear hK K;apply aH rfl;apply ae;intro K h;simp(disch:=omega);apply h;clear h K;apply an;simp(disch:=omega) ;rw[TY];simp[bp]
  clear aO;refine af fun K2 aY=>?_
  by_cases hk:k<N
  ·cases dG:s.bad with
   |true=>
    refine ae fun K hK=>?_;simp(disch:=omega)[rd,hk,dG];apply hK;clear hK K;apply aC rfl;apply aD;simp(disch:=omega) ;have RX:rd bs s=[.sl bs.length (bu bs) .none,.int .i64 (s.at_:Nat),.bool true]:=by unfold rd;rw[dG]
    rw[RX] at done;exact done (.inl dG) _ (by simp)
   |false=>
    have hx:=r1 dG;obtain⟨g1,g2,g3,g4,g5⟩:=xI k;have dA:=ID k (s1,0,[]);rw[←hx] at g2 g3 dA;simp only at g2 g3;have c4:=tB bs s 1 1000000000 f1 fW H [] (T++[(k*2,2)]);have hd:=cV bs 1 1000000000 s (by omega) (by omega);have HF:=bI bs 1 1000000000 s f1;unfold kI at dA;simp only at dA;generalize aI bs 1 1000000000 s=a at *;obtain⟨d,sa⟩:=a;simp only at hd HF dA c4;have c6:=tB bs sa 1 1000001 HF fW H [.cells [.int .i64 (last+d),.sl 0 [] .full]] (T++[(k*2,2)]);rw[show gd sa=1000001 from rfl] at dA;have hm:=cV bs 1 1000001 sa (by omega) (by omega);have HT:=bI bs 1 1000001 sa HF;generalize aI bs 1 1000001 sa=m at *;obtain⟨w,sm⟩:=m;simp only at hm HT dA c6;obtain⟨M,rfl⟩:=Int.eq_ofNat_of_zero_le hm.1;rw[Int.toNat_natCast] at dA;have RX:rd bs s=[.sl bs.length (bu bs) .none,.int .i64 (s.at_:Nat),.bool false]:=by unfold rd;rw[dG]
    rw[RX] at c4 ⊢;refine ae fun K hK=>?_;simp(disch:=omega)[hk];apply hK;clear hK K;apply aH rfl;apply ak;simp(disch:=omega) ;apply aY;clear aY;refine af fun K3 bA=>?_;apply ai;refine ae fun K hK=>?_;simp(disch:=omega) ;refine ah (c4) ?_;simp(disch:=omega) ;apply hK;clear hK K;apply ae;intro K h;simp(disch:=omega);apply h;clear h K;refine ae fun K hK=>?_;simp(disch:=omega) ;refine ah (c6) ?_;simp(disch:=omega) ;apply hK;clear hK K;apply ae;intro K h;simp(disch:=omega);apply h;clear h K;refine af fun K4 ec=>?_;apply ae;intro K h;simp(disch:=omega);apply h;clear h K;have xF:=ot bs sm HT;have IB:=uM bs;have o9:(bp out).length=k*2:=by rw[aS,f4]
    apply ai;refine aK (X:=Nat) (fun j=>⟨[(4,.ptr H.length 0),(5,.int .i64 (N:Nat)),(6,.sl k (bp out) (.own T.length)),(7,.int .i64 (last+d)),(8,.int .i64 (k:Nat)),(9,.ptr (H.length+1) 0),(10,.int .i64 (M:Nat)),(11,.int .i64 (iC bs j (sm,-1,[])).2.1),(12,.int .i64 (j:Nat))],H++[.cells (rd bs (iC bs j (sm,-1,[])).1),.cells [.int .i64 (last+d),eQ (iC bs j (sm,-1,[])).2.2 (T.length+1)]],T++(k*2,2)::gu (iC bs j (sm,-1,[])).2.2⟩) (fun j=>j≤M) (fun j=>M-j) 0 ?_ ?_ ?_
    ·exact Nat.zero_le _
    ·refine ag [] [] ?_ ?_ ?_ ?_ ?_ ?_
     ·simp[iC,eQ]
     ·simp[iC,gu]
     ·simp
     ·simp
     ·exact mq HO bs _ _ _ _
     ·simp[iC]
    ·intro j W6;obtain⟨q1,q2,q3,q4,q5⟩:=xF j;have vq:=IB j (sm,-1,[]);generalize hY:iC bs j (sm,-1,[])=Y at *;obtain⟨t,at_,acc⟩:=Y;simp only at q1 q2 q3 q4;have IT:(t.bad=true∨j=M)→∀e,b9 (H++[aG.cells (rd bs t),.cells [.int .i64 (last+d),eQ acc (T.length+1)]]).length (T++(k*2,2)::gu acc).length e [(4,.ptr H.length 0),(5,.int .i64 (N:Nat)),(6,.sl k (bp out) (.own T.length)),(7,.int .i64 (last+d)),(8,.int .i64 (k:Nat)),(9,.ptr (H.length+1) 0)]→K4 ⟨e,H++[.cells (rd bs t),.cells [.int .i64 (last+d),eQ acc (T.length+1)]],T++(k*2,2)::gu acc⟩:=fun pe e he=>by
      have S8:ROk bs s1 (k+1) (t,last+d,out++[(last+d,acc)]):=by
       refine⟨fun hg=>?_,fun hg=>?_,q1,by simp[f4]⟩
       ·have Q8:j=M:=pe.resolve_left (by simp only at hg;rw[hg];decide);rw[dA,←Q8,hY]
       ·rw[dA];exact C9 (n:=j) (by rw[hY];exact hg) W6
      refine ec _ (aQ ⟨[(4,.ptr H.length 0),(5,.int .i64 (N:Nat)),(6,.sl k (bp out) (.own T.length)),(7,.int .i64 (last+d)),(8,.int .i64 (k:Nat)),(9,.ptr (H.length+1) 0)],H++[.cells (rd bs t),.cells [.int .i64 (last+d),eQ acc (T.length+1)]],T++(k*2,2)::gu acc⟩ (ag [] [] (by simp) (by simp) (by simp) (by simp) (mq HO bs _ _ _ _) he) ?_);have qN:=jO out (last+d) acc
      by_cases h0:acc=[]
      ·subst h0;have PQ:bp out++[.int .i64 (last+d),.sl 0 [] .none]=bp (out++[(last+d,[])]):=qN;have h0:True:=trivial;simp only[eQ,gu,if_true];refine oH (H++[.cells (rd bs t)]) [.int .i64 (last+d),.sl 0 [] .full] (by simp) ?_;simp only[List.map_cons,List.map_nil,cC];refine ar fun K hK=>?_;simp(disch:=omega)[o9,PQ];apply hK;clear hK K;apply bA;clear bA;refine ar fun K hK=>?_;simp(disch:=omega) ;apply hK;clear hK K;refine⟨(k+1,t,last+d,out++[(last+d,[])]),⟨by show k+1≤_;omega,S8⟩,by show N-(k+1)<N-k;omega,?_⟩;refine ag [.cells [.int .i64 (last+d),.sl 0 [] .none]] (gu []) ?_ ?_ ?_ ?_ (bM.snoc (HO.df (by simp)) (by simp[rd])) ?_
       all_goals simp[gu,h0]
      ·simp only[eQ,gu,if_neg h0];refine oH (H++[.cells (rd bs t)]) [.int .i64 (last+d),.sl acc.length (ints acc) (.own (T.length+1))] (by simp) ?_;simp only[List.map_cons,List.map_nil,cC];refine ar fun K hK=>?_;simp(disch:=omega)[o9,qN];apply hK;clear hK K;apply bA;clear bA;refine ar fun K hK=>?_;simp(disch:=omega) ;apply hK;clear hK K;refine⟨(k+1,t,last+d,out++[(last+d,acc)]),⟨by show k+1≤_;omega,S8⟩,by show N-(k+1)<N-k;omega,?_⟩;refine ag [.cells [.int .i64 (last+d),.sl acc.length (ints acc) .none]] (gu acc) ?_ ?_ ?_ ?_ (bM.snoc (HO.df (by simp)) (by simp[rd])) ?_
       all_goals simp[gu,h0]
     clear ec;refine af fun K5 gO=>?_
     by_cases hj:j<M
     ·cases iq:t.bad with
      |true=>
       have PM:rd bs t=[.sl bs.length (bu bs) .none,.int .i64 (t.at_:Nat),.bool true]:=by unfold rd;rw[iq]
       rw[PM] at IT ⊢;refine ae fun K hK=>?_;simp(disch:=omega)[hj];apply hK;clear hK K;apply aC rfl;apply aD;simp(disch:=omega) ;exact IT (.inl iq) _ (by simp)
      |false=>
       have PM:rd bs t=[.sl bs.length (bu bs) .none,.int .i64 (t.at_:Nat),.bool false]:=by unfold rd;rw[iq]
       have c7:=tB bs t 1 1000001 q1 fW H [.cells [.int .i64 (last+d),eQ acc (T.length+1)]] (T++(k*2,2)::gu acc);have hx:=cV bs 1 1000001 t (by omega) (by omega);unfold ju at vq;simp only at vq;generalize aI bs 1 1000001 t=x at *;obtain⟨x,t'⟩:=x;simp only at hx vq c7;have kH:=cN acc (at_+x);rw[PM] at c7 ⊢;refine ae fun K hK=>?_;simp(disch:=omega)[hj];apply hK;clear hK K;apply aH rfl;apply ak;simp(disch:=omega) ;apply gO;clear gO;refine af fun K6 lp=>?_;apply ai
       by_cases h0:acc=[]
       ·subst h0;simp only[eQ,gu,if_true] at c7 ⊢;refine ae fun K hK=>?_;simp(disch:=omega) ;refine ah (c7) ?_;simp(disch:=omega) ;apply hK;clear hK K;refine ar fun K hK=>?_;simp(disch:=omega) ;apply hK;clear hK K;apply lp;clear lp;refine ar fun K hK=>?_;simp(disch:=omega) ;apply hK;clear hK K;refine⟨j+1,by show j+1≤_;omega,by show M-(j+1)<M-j;omega,?_⟩;simp only[vq];refine ag [] [] ?_ ?_ ?_ ?_ (mq HO bs _ _ _ _) ?_
        all_goals simp[eQ,gu,ints]
       ·simp only[eQ,gu,if_neg h0] at c7 ⊢;refine ae fun K hK=>?_;simp(disch:=omega) ;refine ah (c7) ?_;simp(disch:=omega) ;apply hK;clear hK K;refine ar fun K hK=>?_;simp(disch:=omega)[kH];apply hK;clear hK K;apply lp;clear lp;refine ar fun K hK=>?_;simp(disch:=omega) ;apply hK;clear hK K;refine⟨j+1,by show j+1≤_;omega,by show M-(j+1)<M-j;omega,?_⟩;simp only[vq];refine ag [] [] ?_ ?_ ?_ ?_ (mq HO bs _ _ _ _) ?_
        all_goals simp[eQ,gu,ints]
     ·have Q8:j=M:=by omega
      refine ae fun K hK=>?_;simp(disch:=omega)[hj];apply hK;clear hK K;apply aC rfl;apply aD;simp(disch:=omega) ;exact IT (.inr Q8) _ (by simp)
  ·have NT:k=N:=by omega
   refine ae fun K hK=>?_;simp(disch:=omega)[hk];apply hK;clear hK K;apply aC rfl;apply aD;simp(disch:=omega) ;exact done (.inr NT) _ (by simp)
end Go.Proofs.YtneohapkboaplaaGreat
