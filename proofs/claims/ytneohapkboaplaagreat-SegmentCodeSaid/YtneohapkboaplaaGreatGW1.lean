/- Writing and reading texts and lists of integers (layer 1), of the program and of the reference.
  Conditions: lengths below 2^40, as each theorem says. -/
import Derived.Test.YtneohapkboaplaaGreatPW4
import Derived.Test.YtneohapkboaplaaGreatPEncR
import Derived.Test.YtneohapkboaplaaGreatAmC
set_option linter.all false
set_option maxRecDepth 100000
namespace Go.Proofs.YtneohapkboaplaaGreat
open Go Go.Am gB
attribute [-simp] List.getD_eq_getElem?_getD in
theorem ME (b s:List UInt8)(k:Nat)(H:List aG)(T:ay)(hT:T[k]?=some (b.length,1))(hb:b.length+s.length≤1099511627776) :
  al Tryz.prog 120 [.sl b.length (bu b) (.own k),.str s] H T (Is (.sl (b++bf s).length (bu (b++bf s)) (.own k)) H (T.set k ((b++bf s).length,1))):=by
 have hk:=(List.getElem?_eq_some_iff.1 hT).1;have hl:=eN (n:=s.length) (by omega) (by omega);refine aj 5 [] Tryz.ntmps120 Tryz.func120 rfl (fun _ _=>Tryz.call120 _ _) (by simp) (fun HO=>?_);apply ae;intro K h;simp(disch:=omega);apply h;clear h K;refine ae fun K hK=>?_;simp(disch:=omega) ;refine ah (rq b k s.length (by omega) (by omega) _ _ hT (by omega)) ?_;simp(disch:=omega)[hk];apply hK;clear hK K;apply an;simp(disch:=omega) ;refine⟨?_,rfl,?_⟩
 ·simp[bf,dn,Nat.add_assoc]
 ·simp[bf,Nat.add_assoc]
attribute [-simp] List.getD_eq_getElem?_getD in
theorem Bj (b:List UInt8)(k:Nat)(l:List Int)(H:List aG)(T:ay)(hT:T[k]?=some (b.length,1))(hl:∀x∈l,o3 x)(hb:b.length+10+10*l.length≤1099511627776) :
  al Tryz.prog 168 [.sl b.length (bu b) (.own k),.sl l.length (ints l) .none,.fn 117 [] []] H T (Is (.sl (b++cM l).length (bu (b++cM l)) (.own k)) H (T.set k ((b++cM l).length,1))):=by
 have hk:=(List.getElem?_eq_some_iff.1 hT).1;have BZ:=fun i=>EO b l enc 10 i (by omega) (fun x hx=>(eN (hl x hx).1 (hl x hx).2).2);refine al.is (r:=.sl (acc b l enc l.length).length (bu (acc b l enc l.length)) (.own k)) (H':=H) (T':=T.set k ((acc b l enc l.length).length,1)) ?_ (by rw[yg];rfl) rfl (by rw[yg];rfl);refine aj 16 [] Tryz.ntmps168 Tryz.func168 rfl (fun _ _=>Tryz.call168 _ _) (by simp) (fun HO=>?_);apply ae;intro K h;simp(disch:=omega);apply h;clear h K;refine ae fun K hK=>?_;simp(disch:=omega) ;refine ah (rq b k l.length (by omega) (by omega) _ _ hT (by omega)) ?_;simp(disch:=omega) ;rw[←qF b l enc];apply hK;clear hK K;refine af fun K1 aO=>?_;apply ae;intro K h;simp(disch:=omega);apply h;clear h K;apply ai;refine aK (X:=Nat) (fun i=>⟨[(0,.sl (acc b l enc i).length (bu (acc b l enc i)) (.own k)),(1,.sl l.length (ints l) .none),(2,.fn 117 [] []),(13,.sl l.length (ints l) .none),(14,.int .i64 l.length),(15,.int .i64 i)],H,T.set k ((acc b l enc i).length,1)⟩) (fun i=>i≤l.length) (fun i=>l.length-i) 0 (by omega) ?_ ?_
 ·refine ag [] [] ?_ ?_ ?_ ?_ ?_ ?_
  ·simp
  ·simp[qF]
  ·simp
  ·simp
  ·exact HO.df (by simp)
  ·simp[hk,qF]
 ·intro i hi;apply ae;intro K h;simp(disch:=omega);apply h;clear h K;refine af fun K2 aY=>?_;refine aP rfl (fun h=>?_) (fun h=>?_)
  ·simp at h;have hx:=hl _ (aR l i 0 h);have ha:=BZ i;apply ak;simp(disch:=omega) ;apply aY;clear aY;refine af fun K3 bA=>?_;apply ai;refine ae fun K hK=>?_;simp(disch:=omega)[aT h];apply hK;clear hK K;refine ar fun K hK=>?_;simp(disch:=omega) ;have hc:=rq (acc b l enc i) k (l.getD i 0) hx.1 hx.2 H (T.set k ((acc b l enc i).length,1)) (by simp[hk]) (by omega);rw[AN b l enc i 0 h] at hc;refine ah (hc) ?_;simp(disch:=omega)[hk];apply hK;clear hK K
   (try simp(disch:=omega) )
   apply bA;clear bA;refine ar fun K hK=>?_;simp(disch:=omega) ;apply hK;clear hK K;refine⟨i+1,h,by omega,?_⟩;refine ag [] [] ?_ ?_ ?_ ?_ ?_ ?_
   ·simp
   ·simp
   ·simp
   ·simp
   ·exact HO.df (by simp)
   ·simp[hk]
  ·simp at h;have:i=l.length:=by omega
   subst this;apply aD;simp(disch:=omega) ;apply aO;clear aO;apply ae;intro K h;simp(disch:=omega);apply h;clear h K;apply an;simp(disch:=omega) ;exact⟨rfl,rfl,rfl⟩
attribute [-simp] List.getD_eq_getElem?_getD in
theorem Jj (bs:List UInt8)(s:Rd)(mx:Int)(hs:s.at_≤bs.length)(hb:bs.length≤1099511627776)(H:List aG)(T:ay)(i:Nat)(fV:H[i]?=some (.cells (rd bs s))) :
  al Tryz.prog 129 [.ptr i 0,.int .i64 mx] H T (Is (.str (bD bs mx s).1) (H.set i (.cells (rd bs (bD bs mx s).2))) T):=by
 have hl:=(List.getElem?_eq_some_iff.1 fV).1;have et:=(List.getElem?_eq_some_iff.1 fV).2;have hle:=bI bs 0 mx s hs;have DJ:=dR bs mx s;have hc:=qe bs s 0 mx hs hb H T i fV;unfold bD;refine aj 7 [] Tryz.ntmps129 Tryz.func129 rfl (fun _ _=>Tryz.call129 _ _) (by simp) (fun HO=>?_);apply ae;intro K h;simp(disch:=omega);apply h;clear h K;refine af fun K1 aO=>?_;apply ae;intro K h;simp(disch:=omega);apply h;clear h K;apply aC rfl;apply ak;simp(disch:=omega) ;apply aO;clear aO;refine ae fun K hK=>?_;simp(disch:=omega)[fV,et,hl,rd];apply hK;clear hK K;refine ae fun K hK=>?_;simp(disch:=omega) ;refine ah (hc) ?_;simp(disch:=omega) ;apply hK;clear hK K;generalize hv:(aI bs 0 mx s).1=v at *;generalize hq:(aI bs 0 mx s).2=q at *;have aat:(H.set i (aG.cells (rd bs q)))[i]?=some (.cells (rd bs q)):=by simp[hl]
 clear hc;refine af fun K1 aO=>?_
 cases dG:q.bad
 ·refine aM [] [] [] au (by kernel_rfl) (by kernel_rfl) fun K hK=>?_;simp(disch:=omega)[hl,rd,dG];apply hK;clear hK K;refine aP rfl (fun h=>?_) (fun h=>?_)
  ·simp at h;refine ae fun K hK=>?_;simp(disch:=omega)[hl];apply hK;clear hK K;apply ae;intro K h;simp(disch:=omega);apply h;clear h K;apply an;simp(disch:=omega) ;exact⟨rfl,rfl,rfl⟩
  ·simp at h;have hn:¬(q.bad=true∨v>(bs.length:Int)-q.at_):=by rw[dG];simp;omega
   have e1:(v.toNat:Int)=v:=by omega
   have e2:(q.at_:Int)+v=((q.at_+v.toNat:Nat):Int):=by omega
   apply ak;simp(disch:=omega) ;apply aO;clear aO;refine ae fun K hK=>?_;simp(disch:=omega)[hl];apply hK;clear hK K;refine aM [] [] [] au (by kernel_rfl) (by kernel_rfl) fun K hK=>?_;simp(disch:=omega)[hl,wY,wX];apply hK;clear hK K;apply an;simp(disch:=omega) ;simp only[dG,rd,←e2];exact⟨rfl,rfl,rfl⟩
 ·refine aM [] [] [] au (by kernel_rfl) (by kernel_rfl) fun K hK=>?_;simp(disch:=omega)[hl,rd,dG];apply hK;clear hK K;apply aH rfl;refine ae fun K hK=>?_;simp(disch:=omega)[hl];apply hK;clear hK K;apply ae;intro K h;simp(disch:=omega);apply h;clear h K;apply an;simp(disch:=omega) ;exact⟨rfl,rfl,rfl⟩
def ny (i:Nat)(lo hi:Int):List aG:=[.cells [.ptr i 0],.cells [.int .i64 lo],.cells [.int .i64 hi]]
attribute [-simp] List.getD_eq_getElem?_getD in
theorem KH (bs:List UInt8)(s:Rd)(lo hi:Int)(hs:s.at_≤bs.length)(hb:bs.length≤1099511627776)(H:List aG)(T:ay)(i:Nat)(fV:H[i]?=some (.cells (rd bs s))) :
  al Tryz.prog 172 [.ptr H.length 0,.ptr (H.length+1) 0,.ptr (H.length+2) 0] (H++ny i lo hi) T (Is (.int .i64 (aI bs lo hi s).1) (H.set i (.cells (rd bs (aI bs lo hi s).2))++ny i lo hi) T):=by
 have hl:=(List.getElem?_eq_some_iff.1 fV).1;have hc:=qe bs s lo hi hs hb (H++ny i lo hi) T i (by rw[List.getElem?_append_left hl];exact fV);rw[List.set_append_left _ _ hl] at hc;have c0:(H++ny i lo hi)[H.length]?=some (.cells [.ptr i 0]):=tG _ _;have c1:(H++ny i lo hi)[H.length+1]?=some (.cells [.int .i64 lo]):=xH _ _ 1;have c2:(H++ny i lo hi)[H.length+2]?=some (.cells [.int .i64 hi]):=xH _ _ 2;refine aj 4 [] Tryz.ntmps172 Tryz.func172 rfl (fun _ _=>Tryz.call172 _ _) (by simp) (fun HO=>?_);apply ae;intro K h;simp(disch:=omega);apply h;clear h K;refine ae fun K hK=>?_;simp(disch:=omega)[c0,c1,c2];refine ah (hc) ?_;simp(disch:=omega) ;apply hK;clear hK K;apply an;simp(disch:=omega) ;exact⟨rfl,rfl,rfl⟩
attribute [-simp] List.getD_eq_getElem?_getD in
theorem C6 (bs:List UInt8)(s:Rd)(mx lo hi:Int)(hs:s.at_≤bs.length)(hb:bs.length≤1099511627776)(H:List aG)(T:ay)(i:Nat)(fV:H[i]?=some (.cells (rd bs s))) :
  al Tryz.prog 171 [.ptr i 0,.int .i64 mx,.fn 172 [] [.ptr H.length 0,.ptr (H.length+1) 0,.ptr (H.length+2) 0]] (H++ny i lo hi) T
   (Is (.sl (eu bs mx (aI bs lo hi) s).1.length (ints (eu bs mx (aI bs lo hi) s).1) .none) (H.set i (.cells (rd bs (eu bs mx (aI bs lo hi) s).2))++ny i lo hi) T):=by
 have hl:=(List.getElem?_eq_some_iff.1 fV).1;have hg:(H++ny i lo hi)[i]?=some (.cells (rd bs s)):=by rw[List.getElem?_append_left hl];exact fV
 have hc:=qe bs s 0 mx hs hb (H++ny i lo hi) T i hg;rw[List.set_append_left _ _ hl] at hc;have hle:=bI bs 0 mx s hs;have DJ:=dR bs mx s;have hup:=(uJ bs 0 mx s).2;refine al.cut _ T (by simp) (Nat.le_refl _) (fun h=>?_) (by simp) ?_
 ·have:=h.set (k:=i) (vs:=rd bs (eu bs mx (aI bs lo hi) s).2) (by simp[rd])
  rwa [List.set_append_left _ _ hl] at this
 refine aj 10 [] Tryz.ntmps171 Tryz.func171 rfl (fun _ _=>Tryz.call171 _ _) (by simp) (fun HO=>?_);apply ae;intro K h;simp(disch:=omega);apply h;clear h K;refine af fun K1 aO=>?_;apply ae;intro K h;simp(disch:=omega);apply h;clear h K;apply aC rfl;apply ak;simp(disch:=omega) ;apply aO;clear aO;refine ae fun K hK=>?_;simp(disch:=omega)[hg,hl,rd];apply hK;clear hK K;apply ae;intro K h;simp(disch:=omega);apply h;clear h K;refine af fun K1 aO=>?_;refine ae fun K hK=>?_;simp(disch:=omega) ;refine ah (hc) ?_;simp(disch:=omega) ;apply hK;clear hK K;apply ai;refine jm 8 0 1 [] (by omega) (by simp) ?_;generalize DK:(aI bs 0 mx s).1=n0 at *;generalize ZG:(aI bs 0 mx s).2=q0 at *;have hlen:(H++ny i lo hi).length=H.length+3:=by simp[ny]
 have fC:∀(q:Rd)(k:Nat),bM (H.set i (.cells (rd bs q))++ny i lo hi) (T++[(k,1)]):=fun q k=>by
  have:=(HO.set (k:=i) (vs:=rd bs q) (by simp[rd])).df (T':=T++[(k,1)]) (by simp)
  rwa [List.set_append_left _ _ hl] at this
 refine aK (X:=Nat×Rd×List Int) (fun x=>⟨[(0,.ptr i 0),(2,.fn 172 [] [.ptr H.length 0,.ptr (H.length+1) 0,.ptr (H.length+2) 0]),(7,.int .i64 (s.at_:Nat)),(8,.sl x.2.2.length (ints x.2.2) (.own T.length)),(9,.int .i64 (x.1:Nat))],
   H.set i (.cells (rd bs x.2.1))++ny i lo hi,T++[(x.2.2.length,1)]⟩)
  (fun x=>x.2.1.at_≤bs.length∧(x.1≤9223372036854775807∧(x.2.1.bad=false→x.2.2.length≤x.2.1.at_))∧bO (aI bs lo hi) n0.toNat q0 []=bO (aI bs lo hi) x.1 x.2.1 x.2.2) (fun x=>x.1) (n0.toNat,q0,[]) ?_ ?_ ?_
 ·exact⟨hle,⟨by simp only;omega,fun _=>Nat.zero_le _⟩,rfl⟩
 ·refine ag [] [] ?_ ?_ ?_ ?_ ?_ ?_
  ·simp
  ·simp
  ·simp
  ·simp
  ·exact fC _ _
  ·have e:((n0.toNat:Nat):Int)=n0:=by omega
   simp[e,ny];omega
 ·rintro⟨n,⟨qa,qb⟩,out⟩ ⟨hq,⟨aaA,sK⟩,hr⟩;simp only at hq aaA sK hr;have xn:(H.set i (.cells (rd bs ⟨qa,qb⟩))++ny i lo hi)[i]?=some (.cells (rd bs ⟨qa,qb⟩)):=by rw[List.getElem?_append_left (by simp[hl])];simp[hl]
  have hc:=KH bs ⟨qa,qb⟩ lo hi hq hb (H.set i (.cells (rd bs ⟨qa,qb⟩))) (T++[(out.length,1)]) i (by simp[hl]);simp only[List.length_set,List.set_set] at hc;have ZF:=bI bs lo hi ⟨qa,qb⟩ hq;simp only[rd] at xn
  by_cases hn:0<n∧qb=false
  ·obtain⟨hn,rfl⟩:=hn;have sK:=sK rfl;have P1:=zL (bs:=bs) (s:=⟨qa,false⟩) (lo:=lo) (hi:=hi) rfl;have hd:decide (0<(n:Int))=true:=by simp;omega
   have dA:=eF (aI bs lo hi) n ⟨qa,false⟩ out hn rfl;generalize hx:(aI bs lo hi ⟨qa,false⟩).1=x at *;generalize hy:(aI bs lo hi ⟨qa,false⟩).2=y at *;refine af fun K2 aY=>?_;refine ae fun K hK=>?_;simp(disch:=omega)[xn,hl,rd,hn];apply hK;clear hK K;apply aH rfl;apply ak;simp(disch:=omega) ;apply aY;clear aY;refine af fun K3 bA=>?_;apply ai;refine ar fun K hK=>?_;simp(disch:=omega) ;refine ah (hc) ?_;simp(disch:=omega) ;apply hK;clear hK K
   (try simp(disch:=omega) )
   apply bA;clear bA;refine ar fun K hK=>?_;simp(disch:=omega) ;apply hK;clear hK K;refine⟨(n-1,y,out++[x]),⟨ZF,⟨by show n-1≤_;omega,fun hy=>by have:=P1 hy;simp only[List.length_append,List.length_cons,List.length_nil] at this ⊢;omega⟩,by rw[hr,dA]⟩,by show n-1<n;omega,?_⟩;refine ag [] [] ?_ ?_ ?_ ?_ ?_ ?_
   ·simp
   ·simp
   ·simp
   ·simp
   ·exact fC _ _
   ·simp[cN,ny];omega
  ·have mc:bO (aI bs lo hi) n ⟨qa,qb⟩ out=(out,⟨qa,qb⟩):=by
    rcases Nat.eq_zero_or_pos n with h0|h0
    ·subst h0;rfl
    ·exact dL _ _ _ _ (by cases qb<;>simp_all)
   have gf:eu bs mx (aI bs lo hi) s=if qb=true then ([],⟨s.at_,true⟩) else (out,⟨qa,qb⟩):=by
    unfold eu;rw[DK,ZG,hr,mc]
   cases qb
   ·have aaB:n=0:=by
     rcases Nat.eq_zero_or_pos n with h0|h0
     ·exact h0
     ·exact absurd ⟨h0,rfl⟩ hn
    subst aaB;refine af fun K2 aY=>?_;refine ae fun K hK=>?_;simp(disch:=omega)[xn,hl,rd];apply hK;clear hK K;apply aC rfl;apply aD;simp(disch:=omega) ;apply aO;clear aO;refine af fun K4 ec=>?_;refine ae fun K hK=>?_;simp(disch:=omega)[xn,hl,rd];apply hK;clear hK K;apply aC rfl;apply ak;simp(disch:=omega) ;apply ec;clear ec;apply ae;intro K h;simp(disch:=omega);apply h;clear h K;apply an;simp(disch:=omega) ;rw[gf];exact⟨⟨[],by simp[rd]⟩,rfl,rfl⟩
   ·rcases Nat.eq_zero_or_pos n with hp|hp
    all_goals
     refine af fun K2 aY=>?_;refine ae fun K hK=>?_;simp(disch:=omega)[xn,hl,rd,hp];apply hK;clear hK K;apply aC rfl;apply aD;simp(disch:=omega) ;apply aO;clear aO;refine af fun K4 ec=>?_;refine ae fun K hK=>?_;simp(disch:=omega)[xn,hl,rd];apply hK;clear hK K;apply aH rfl;refine ae fun K hK=>?_;simp(disch:=omega)[xn,hl,rd];apply hK;clear hK K;apply ae;intro K h;simp(disch:=omega);apply h;clear h K;apply an;simp(disch:=omega) ;rw[gf,List.set_append_left _ _ (by simp[hl])];exact⟨⟨[],by simp[rd]⟩,rfl,rfl⟩
attribute [-simp] List.getD_eq_getElem?_getD in
theorem Jk (bs:List UInt8)(s:Rd)(mx lo hi:Int)(hs:s.at_≤bs.length)(hb:bs.length≤1099511627776)(H:List aG)(T:ay)(i:Nat)(fV:H[i]?=some (.cells (rd bs s))) :
  al Tryz.prog 126 [.ptr i 0,.int .i64 mx,.int .i64 lo,.int .i64 hi] H T
   (Is (.sl (eu bs mx (aI bs lo hi) s).1.length (ints (eu bs mx (aI bs lo hi) s).1) .none) (H.set i (.cells (rd bs (eu bs mx (aI bs lo hi) s).2))) T):=by
 have hc:=C6 bs s mx lo hi hs hb H T i fV;refine al.cut _ T (by simp) (Nat.le_refl _) (fun h=>h.set (by simp[rd])) (by simp) ?_;refine aj 9 [] Tryz.ntmps126 Tryz.func126 rfl (fun _ _=>Tryz.call126 _ _) (by simp) (fun HO=>?_);apply ae;intro K h;simp(disch:=omega);apply h;clear h K;refine ae fun K hK=>?_;simp(disch:=omega) ;refine ah (hc) ?_;simp(disch:=omega) ;apply hK;clear hK K;apply an;simp(disch:=omega) 
end Go.Proofs.YtneohapkboaplaaGreat
