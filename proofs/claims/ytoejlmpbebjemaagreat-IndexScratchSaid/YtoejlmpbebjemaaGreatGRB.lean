/- The reference's Find and Words (layer 39). The reference's Between (layer 39).
  Conditions: lengths below 1000 or 1000, as each theorem says. -/
import Derived.Test.YtoejlmpbebjemaaGreatGRA
import Derived.Test.YtoejlmpbebjemaaGreatGFA
import Derived.Test.YtoejlmpbebjemaaGreatGFB
set_option linter.all false
set_option maxRecDepth 100000
set_option maxHeartbeats 16000000
namespace Go.Proofs.YtoejlmpbebjemaaGreat
open Go Go.Am ie eN cN
attribute [-simp] List.getD_eq_getElem?_getD in
theorem Mu (s:Sg)(hs:rz s)(f:Int)(w:Bs)(H:List aA)(T:au):aq Tryz.prog 40 [jh s,.int .i64 f,.str w] H T (Is (.sl (fU s (f,w)).length (bD (fU s (f,w))) .none) H T):=by
 refine aq.bK ?_ zS;have cv:=λH=>sv s hs H T;have sM:=hs.t;refine ah 12 [] Tryz.ntmps40 Tryz.func40 rfl (λ_ _=>Tryz.call40 _ _) zS (λHO=>?_);refine af ?_;refine ae λK1 aN=>?_;have eu:bM (H++[.cells (cH s)]) T:=HO.snoc zS
 cases hv:aT s with
 |false=>
  rw[hv] at cv;have hf:fU s (f,w)=[]:=by unfold fU;rw[hv];rfl
  apply ar;refine zQ ?_;refine ai (cv _) ?_;refine zQ ?_;apply aC rfl;refine af ?_;refine aI ?_;simp[hf];rfl
 |true=>
 rw[hv] at cv;have hf:fU s (f,w)=xk s.aW (f,w):=by unfold fU;rw[ahF hv]
 have ho:=su hv;apply ar;refine zQ ?_;refine ai (cv _) ?_;refine zQ ?_;apply aB rfl;apply aj;refine zQ ?_;apply aN;clear aN;refine ae λK1 aN=>?_;refine af ?_;apply ag;refine aG (X:=Nat) (λi=>⟨[(1,.int .i64 f),(2,.str w),(3,.ptr H.length 0),(7,.int .i64 (i:Nat))],H++[.cells (cH s)],T⟩)
  (λi=>i<=s.aW.length/\∀j,j<i->(s.aW.getD j t0).k≠(f,w)) (λi=>s.aW.length-i) 0 ?_ ?_ ?_
 ·exact⟨ahE _,λj hj=>absurd hj (ahT _)⟩
 ·exact wk eu
 ·rintro i ⟨g1,g2⟩;refine ae λK2 ba=>?_;refine af ?_;refine aV rfl (λhk=>?_) (λhk=>?_)
  ·simp  at hk;obtain⟨a1,a2,a3⟩:=wH s.aW i hk;have gu:=λh=>Em (k:=(f,w)) ho hk h;have kJ:(s.aW.getD i t0).k≠(f,w)->∀j,j<i+1->(s.aW.getD j t0).k≠(f,w):=λh j hj=>by
    rcases ahD j i with h1|h1
    ·exact g2 j h1
    ·have:j=i:=zO;subst this;exact h
   generalize s.aW.getD i t0=t at *;obtain⟨tf,tw,tl⟩:=t;simp only at a1 a2 a3;apply aj;refine zQ ?_;apply ba;clear ba;refine ae λK3 bH=>?_;apply ag;have cont:(tf,tw)≠(f,w)->∀e,bA (H.length+1) T.length e [(1,.int .i64 f),(2,.str w),(3,.ptr H.length 0),(7,.int .i64 (i:Nat))]->K3 ⟨e,H++[.cells (cH s)],T⟩:=by
    intro dM e he;refine bH _ (aF ⟨[(1,.int .i64 f),(2,.str w),(3,.ptr H.length 0),(7,.int .i64 (i:Nat))],H++[.cells (cH s)],T⟩ (wk eu (zU he)) ?_);refine aJ ?_;refine⟨i+1,⟨by show i+1<=_;omega,kJ dM⟩,by show s.aW.length-(i+1)<s.aW.length-i;omega,?_⟩;exact wk eu
   by_cases h1:tf=f
   ·have b1:(tf==f)=true:=by simpa using h1
    by_cases h2:tw=w
    ·have b2:(tw==w)=true:=by simpa using h2
     have hp:=gu (by show (tf,tw)=(f,w);rw[h1,h2]);apply ar;simp(disch:=omega)[a1,a2,a3,cT,hk,b1,h1,b2,h2];apply aC rfl;apply ar;simp(disch:=omega)[a1,a2,a3,cT,hk];refine aI ?_;rw[hf,hp];exact⟨rfl,rfl⟩
    ·have b2:(tw==w)=false:=by simpa using h2
     apply ar;simp(disch:=omega)[a1,a2,a3,cT,hk,b1,h1,b2,h2];apply aB rfl;apply aj;refine cont (λe=>h2 (Prod.mk.inj e).2) _ ?_;simp
   ·have b1:(tf==f)=false:=by simpa using h1
    apply ar;simp(disch:=omega)[a1,a2,a3,cT,hk,b1,h1];apply aB rfl;apply aj;refine cont (λe=>h1 (Prod.mk.inj e).1) _ ?_;simp
  ·simp  at hk;have hn:=yz (l:=s.aW) (k:=(f,w)) λj hj=>g2 j zO;apply aD;refine zQ ?_;apply aN;clear aN;refine af ?_;refine aI ?_;rw[hf,hn];exact⟨rfl,rfl⟩
def Fz (l:List Tm)(f:Int)(p:Bs)(i:Nat)(hi:i<l.length):ir (l.take (i+1)) f p=ir (l.take i) f p++(if gQ f p (l.getD i t0)=true then [(l.getD i t0).w] else []):=by
 unfold ir;rw[aX l i t0 hi,aij,ahJ]
 congr 1
 rw[List.filter_cons]
 by_cases h:gQ f p (l.getD i t0)=true
 ·rw[ahF h,ahF h];rfl
 ·rw[ahC h,ahC h];rfl
attribute [-simp] List.getD_eq_getElem?_getD in
theorem Hl (s:Sg)(hs:rz s)(f:Int)(p:Bs)(hp:p.length<=maxLen)(H:List aA)(T:au):aq Tryz.prog 43 [jh s,.int .i64 f,.str p] H T (Is (.sl (fk s f p).length (strs (fk s f p)) .none) H T):=by
 refine aq.bK ?_ zS;have cv:=λH=>sv s hs H T;have sM:=hs.t;have hw:=hs.w;refine ah 12 [] Tryz.ntmps43 Tryz.func43 rfl (λ_ _=>Tryz.call43 _ _) zS (λHO=>?_);refine af ?_;refine af ?_;refine ae λK1 aN=>?_;have eu:bM (H++[.cells (cH s)]) T:=HO.snoc zS
 cases hv:aT s with
 |false=>
  rw[hv] at cv;have hf:fk s f p=[]:=by unfold fk;rw[hv];rfl
  apply ar;refine zQ ?_;refine ai (cv _) ?_;refine zQ ?_;apply aC rfl;refine af ?_;refine aI ?_;simp[hf]
 |true=>
 rw[hv] at cv;have hf:fk s f p=ir s.aW f p:=by unfold fk;rw[ahF hv]
 apply ar;refine zQ ?_;refine ai (cv _) ?_;refine zQ ?_;apply aB rfl;apply aj;refine zQ ?_;apply aN;clear aN;refine ae λK1 aN=>?_;refine af ?_;apply ag;refine ki 7 0 1 [] zO zS ?_;refine aG (X:=Nat) (λi=>⟨[(1,.int .i64 f),(2,.str p),(3,.ptr H.length 0),(7,.sl (ir (s.aW.take i) f p).length (strs (ir (s.aW.take i) f p)) (.own T.length)),(8,.int .i64 (i:Nat))],H++[.cells (cH s)],T++[((ir (s.aW.take i) f p).length,1)]⟩)
  (λi=>i<=s.aW.length) (λi=>s.aW.length-i) 0 ?_ ?_ ?_
 ·exact ahE _
 ·refine ak [] [] ?_ ?_ ?_ ?_ (eu.fS zS) ?_
  all_goals simp[ir]
 ·intro i g1;refine ae λK2 ba=>?_;refine af ?_;refine aV rfl (λhk=>?_) (λhk=>?_)
  ·simp  at hk;obtain⟨a1,a2,_⟩:=wH s.aW i hk;have qC:=(hw _ (aQ s.aW i t0 hk)).1;have gV:=Fz s.aW f p i hk;have hm:gQ f p (s.aW.getD i t0)=(decide ((s.aW.getD i t0).f=f)&&ka p (s.aW.getD i t0).w):=rfl;have CT:(ir (s.aW.take i) f p).length<=1000:=by
    unfold ir;rw[ahL];exact ahA (ahX _ _) (by rw[ahW];omega)
   generalize ir (s.aW.take i) f p=out at *;generalize gQ f p (s.aW.getD i t0)=mm at *;generalize s.aW.getD i t0=t at *;obtain⟨tf,tw,tl⟩:=t;simp only at a1 a2 qC gV hm;have c:=MW tw p qC hp (H++[.cells (cH s)]) (T++[(out.length,1)]);apply aj;refine zQ ?_;apply ba;clear ba;refine ae λK3 bH=>?_;apply ag;have cont:mm=false->∀e,bA (H.length+1) (T.length+1) e [(1,.int .i64 f),(2,.str p),(3,.ptr H.length 0),(7,.sl out.length (strs out) (.own T.length)),(8,.int .i64 (i:Nat))]->K3 ⟨e,H++[.cells (cH s)],T++[(out.length,1)]⟩:=by
    intro dM e he;rw[dM] at gV;simp only[aiu,aje,ahS] at gV;refine bH _ (aF ⟨[(1,.int .i64 f),(2,.str p),(3,.ptr H.length 0),(7,.sl out.length (strs out) (.own T.length)),(8,.int .i64 (i:Nat))],H++[.cells (cH s)],T++[(out.length,1)]⟩ (wk (eu.fS zS) (zU he)) ?_);refine aJ ?_;refine⟨i+1,by show i+1<=_;omega,by show s.aW.length-(i+1)<s.aW.length-i;omega,?_⟩;refine ak [] [] ?_ ?_ ?_ ?_ (eu.fS zS) ?_
    all_goals simp[gV]
   by_cases h1:tf=f
   ·have b1:(tf==f)=true:=by simpa using h1
    rw[ahx h1,aio] at hm
    cases XD:ka p tw with
    |true=>
     rw[XD] at c hm;subst hm;simp only[ajc] at gV;apply ar;simp(disch:=omega)[a1,a2,cT,hk,b1,h1];refine ai (c) ?_;refine zQ ?_;apply aC rfl;refine br λK hK=>?_;simp(disch:=omega)[a1,a2,cT,hk,Aw];apply hK;apply bH;clear bH;refine aJ ?_;refine⟨i+1,by show i+1<=_;omega,by show s.aW.length-(i+1)<s.aW.length-i;omega,?_⟩;refine ak [] [] ?_ ?_ ?_ ?_ (eu.fS zS) ?_
     all_goals simp[gV]
    |false=>
     rw[XD] at c hm;apply ar;simp(disch:=omega)[a1,a2,cT,hk,b1,h1];refine ai (c) ?_;refine zQ ?_;apply aB rfl;apply aj;refine cont hm _ ?_;simp
   ·have b1:(tf==f)=false:=by simpa using h1
    rw[ahy h1,ajQ] at hm;apply ar;simp(disch:=omega)[a1,a2,cT,hk,b1,h1];apply aB rfl;apply aj;refine cont hm _ ?_;simp
  ·simp  at hk;have yV:i=s.aW.length:=zO;subst yV;apply aD;refine zQ ?_;apply aN;clear aN;refine af ?_;refine aI ?_;rw[hf];exact⟨rfl,rfl⟩
def Xk {d:List Int}(h:∀x∈d,1<=x/\x<=1000000000):jI (jL d) 1 1000000000=true:=lj (tW d) λx hx=>h x ((mN d x).1 hx)
def WX {d:List Int}{x:Int}(h:∀x∈d,1<=x/\x<=1000000000)(hx:1<=x/\x<=1000000000):comb (λ_ _=>true) (jL d) [x]=jL (d++[x]):=by
 have hv:V [x]:=lj (by unfold kI;simp) λy hy=>by rw[aic.1 hy];exact hx
 obtain⟨h1,h2⟩:=iM (λ_ _=>true) (a:=jL d) (b:=[x]) (Xk h) hv;refine jc _ _ h1 (tW _) λz=>?_;rw[h2,mN,mN,ahI];simp only[aic,ake]
 by_cases hz:z=x
 ·subst hz;by_cases h3:z∈d<;>simp[h3]
 ·by_cases h3:z∈d<;>simp[h3,hz]
theorem Jb:∀(l m:List Int),l.Nodup->(∀x∈l,x∈m)->l.length<=m.length
 |[],m,_,_=>ahE _
 |x::l,m,hn,h=>by
  rw[ajM] at hn;have hx:=h x zS;have:=Jb l (m.erase x) hn.2 λy hy=>by
   have dM:y≠x:=λe=>hn.1 (e▸hy);exact(List.mem_erase_of_ne dM).2 (h y (aiO _ hy))
  rw[List.length_erase_of_mem hx] at this;have h0:=List.length_pos_of_mem hx;rw[ahY];omega
def IC {d aw:List Int}(h:∀x∈d,x∈aw):(jL d).length<=aw.length:=
 Jb _ _ (vl (tW d)) λx hx=>h x ((mN d x).1 hx)
def Mq {s:Sg}(h:aT s=true){i k:Nat}(hi:i<s.aH.length)(hk:k<(s.aH.getD i c0).x.length):((s.aH.getD i c0).x.getD k n0).2∈s.aw:=by
 obtain⟨_,_,h3⟩:=fJ h;have:=(h3 i hi).2 k hk;unfold mj at this;simp only[ahG,ahH] at this;exact this.1.1
def Mp {s:Sg}(h:aT s=true)(f lo hi:Int):∀x∈lg f lo hi s.aH,x∈s.aw:=by
 intro x hx;obtain⟨c,hc,hx⟩:=ah7.1 hx;obtain⟨i,hi,rfl⟩:=bP c0 hc;obtain⟨y,hy,hx⟩:=ah7.1 hx;obtain⟨k,hk,rfl⟩:=bP n0 hy;unfold gB at hx
 split at hx
 ·rw[aic.1 hx];exact Mq h hi hk
 ·simp at hx
attribute [-simp] List.getD_eq_getElem?_getD in
theorem QO (s:Sg)(hs:rz s)(f lo hi:Int)(H:List aA)(T:au):aq Tryz.prog 46 [jh s,.int .i64 f,.int .i64 lo,.int .i64 hi] H T (Is (.sl (jG s f lo hi).length (ints (jG s f lo hi)) .none) H T):=by
 refine aq.bK ?_ zS;have cv:=λH=>sv s hs H T;have gg:=hs.c;have hx:=hs.x;have hd:=hs.d;refine ah 14 [] Tryz.ntmps46 Tryz.func46 rfl (λ_ _=>Tryz.call46 _ _) zS (λHO=>?_);refine af ?_;refine af ?_;refine ae λK1 aN=>?_;have eu:bM (H++[.cells (cH s)]) T:=HO.snoc zS
 cases hv:aT s with
 |false=>
  rw[hv] at cv;have hf:jG s f lo hi=[]:=by unfold jG;rw[hv];rfl
  apply ar;refine zQ ?_;refine ai (cv _) ?_;refine zQ ?_;apply aC rfl;refine af ?_;refine aI ?_;simp[hf]
 |true=>
 rw[hv] at cv;have hf:jG s f lo hi=jL (lg f lo hi s.aH):=by unfold jG;rw[ahF hv]
 have DL:=Mp hv f lo hi;have hb:=λx h=>yH (fJ hv).1.1 x h;apply ar;refine zQ ?_;refine ai (cv _) ?_;refine zQ ?_;apply aB rfl;apply aj;refine zQ ?_;apply aN;clear aN;refine ae λK1 aN=>?_;refine af ?_;have CS:jL []=[]:=aiQ.2 λx hx=>by simpa using(mN [] x).1 hx
 apply ag;refine aG (X:=Nat) (λi=>⟨[(1,.int .i64 f),(2,.int .i64 lo),(3,.int .i64 hi),(4,.ptr H.length 0),(9,.sl (jL (lg f lo hi (s.aH.take i))).length (ints (jL (lg f lo hi (s.aH.take i)))) .none),(10,.int .i64 (i:Nat))],H++[.cells (cH s)],T⟩)
  (λi=>i<=s.aH.length) (λi=>s.aH.length-i) 0 ?_ ?_ ?_
 ·exact ahE _
 ·refine ak [] [] ?_ ?_ ?_ ?_ eu ?_
  all_goals simp[lg,CS]
 ·intro i g1;refine ae λK2 ba=>?_;refine af ?_;refine aV rfl (λhk=>?_) (λhk=>?_)
  ·simp  at hk;obtain⟨a1,a2⟩:=Co s.aH i hk;have yT:=hx _ (aQ s.aH i c0 hk);have mY:=me s.aH (Ko f lo hi) c0 i hk;have Kj:∀x∈lg f lo hi (s.aH.take (i+1)),x∈s.aw:=λx hx=>DL x (by
    have:s.aH=s.aH.take (i+1)++s.aH.drop (i+1):=(ah1 _ _).symm;unfold lg at hx ⊢;rw[this,aid];exact ahR _ hx)
   generalize s.aH.getD i c0=c at *;obtain⟨cf,xs⟩:=c;simp only at a1 a2 yT;have zj:lg f lo hi (s.aH.take (i+1))=lg f lo hi (s.aH.take i)++xs.flatMap (gB f lo hi cf):=mY;clear mY;rw[zj] at Kj;generalize lg f lo hi (s.aH.take i)=d0 at *;apply aj;refine zQ ?_;apply ba;clear ba;refine ae λK3 bH=>?_;apply ag;refine af ?_;apply ag;refine aG (X:=Nat) (λk=>⟨[(1,.int .i64 f),(2,.int .i64 lo),(3,.int .i64 hi),(4,.ptr H.length 0),(9,.sl (jL (d0++(xs.take k).flatMap (gB f lo hi cf))).length (ints (jL (d0++(xs.take k).flatMap (gB f lo hi cf)))) .none),(10,.int .i64 (i:Nat)),(11,.int .i64 (k:Nat))],H++[.cells (cH s)],T⟩)
    (λk=>k<=xs.length) (λk=>xs.length-k) 0 ?_ ?_ ?_
   ·exact ahE _
   ·exact wk eu
   ·intro k k1;refine ae λK4 iQ=>?_;have fin:d0++(xs.take k).flatMap (gB f lo hi cf)=d0++xs.flatMap (gB f lo hi cf)->∀e,bA (H.length+1) T.length e [(1,.int .i64 f),(2,.int .i64 lo),(3,.int .i64 hi),(4,.ptr H.length 0),(9,.sl (jL (d0++(xs.take k).flatMap (gB f lo hi cf))).length (ints (jL (d0++(xs.take k).flatMap (gB f lo hi cf)))) .none),(10,.int .i64 (i:Nat))]->K3 ⟨e,H++[.cells (cH s)],T⟩:=by
     intro hh e he;rw[hh,<-zj] at he;refine bH _ (aF ⟨[(1,.int .i64 f),(2,.int .i64 lo),(3,.int .i64 hi),(4,.ptr H.length 0),(9,.sl (jL (lg f lo hi (s.aH.take (i+1)))).length (ints (jL (lg f lo hi (s.aH.take (i+1))))) .none),(10,.int .i64 (i:Nat))],H++[.cells (cH s)],T⟩ (wk eu (zU he)) ?_);refine aJ ?_;refine⟨i+1,by show i+1<=_;omega,by show s.aH.length-(i+1)<s.aH.length-i;omega,?_⟩;exact wk eu
    by_cases eL:k<xs.length
    rotate_left
    ·have Gw:k=xs.length:=zO;have bk:decide ((k:Int)<xs.length)=false:=ahy zO;have pD:¬k<xs.length:=eL;apply ar;simp(disch:=omega)[a1,a2,fl,hk,bk,pD];apply aB rfl;apply aD;refine zQ ?_;refine fin (by rw[Gw,ahO]) _ ?_;simp
    ·have bk:decide ((k:Int)<xs.length)=true:=ahx zO
     by_cases RO:cf=f
     rotate_left
     ·have bf:(cf==f)=false:=by simpa using RO
      have nQ:∀l:List Nm,l.flatMap (gB f lo hi cf)=[]:=λl=>by
       rw[akd];intro x _;unfold gB zh;rw[bf];rfl
      apply ar;simp(disch:=omega)[a1,a2,fl,hk,bk,eL,bf,RO];apply aB rfl;apply aD;refine zQ ?_;refine fin (by rw[nQ,nQ]) _ ?_;simp
     ·have bf:(cf==f)=true:=by simpa using RO
      subst RO;have uo:=fH xs k eL;have NV:=me xs (gB cf lo hi cf) n0 k eL;have GQ:d0++(xs.take (k+1)).flatMap (gB cf lo hi cf)=(d0++(xs.take k).flatMap (gB cf lo hi cf))++gB cf lo hi cf (xs.getD k n0):=by rw[NV,ahM]
      have DE:∀x∈d0++(xs.take (k+1)).flatMap (gB cf lo hi cf),x∈s.aw:=λx hx=>Kj x (by
       rcases ahI.1 hx with h|h
       ·exact ahR _ h
       ·refine ajo _ ?_;obtain⟨y,hy,h⟩:=ah7.1 h;exact ah7.2 ⟨y,ajt hy,h⟩)
      rw[GQ] at DE;apply ar;simp(disch:=omega)[a1,a2,fl,hk,bk,eL];apply aC rfl;clear fin;generalize d0++(xs.take k).flatMap (gB cf lo hi cf)=d2 at *;generalize xs.getD k n0=x at *;obtain⟨x1,x2⟩:=x;simp only at uo;apply aj;refine zQ ?_;apply iQ;clear iQ;refine ae λK5 iT=>?_;apply ag;apply ar;simp(disch:=omega)[a1,a2,fl,hk,uo,cE,eL];have eG:bM (H++[.cells (cH s),.cells (wA (x1,x2))]) T:=by
       have:=bM.snoc (vs:=wA (x1,x2)) eu zS;simpa using this
      have cont:∀d3,d2++gB cf lo hi cf (x1,x2)=d3->∀e,bA (H.length+2) T.length e [(1,.int .i64 cf),(2,.int .i64 lo),(3,.int .i64 hi),(4,.ptr H.length 0),(9,.sl (jL d3).length (ints (jL d3)) .none),(10,.int .i64 (i:Nat)),(11,.int .i64 (k:Nat))]->K5 ⟨e,H++[.cells (cH s),.cells (wA (x1,x2))],T⟩:=by
       intro d3 h3 e he;rw[h3] at GQ;refine iT _ (aF ⟨[(1,.int .i64 cf),(2,.int .i64 lo),(3,.int .i64 hi),(4,.ptr H.length 0),(9,.sl (jL d3).length (ints (jL d3)) .none),(10,.int .i64 (i:Nat)),(11,.int .i64 (k:Nat))],H++[.cells (cH s)],T⟩ (ak [.cells (wA (x1,x2))] [] zS zS zS zS eu (zU he)) ?_);refine aJ ?_;refine⟨k+1,by show k+1<=_;omega,by show xs.length-(k+1)<xs.length-k;omega,?_⟩;refine ak [] [] ?_ ?_ ?_ ?_ eu ?_
       all_goals simp[GQ]
      have Dn:gB cf lo hi cf (x1,x2)=if (decide (lo<=x1)&&decide (x1<=hi))=true then [x2] else []:=by unfold gB zh;rw[bf];rfl
      by_cases h2:lo<=x1
      rotate_left
      ·have b2:decide (lo<=x1)=false:=ahy h2;rw[b2] at Dn;apply ar;simp(disch:=omega)[b2,h2];apply aB rfl;apply aj;refine cont d2 (by rw[Dn];simp) _ ?_;simp
      have b2:decide (lo<=x1)=true:=ahx h2
      by_cases h3:x1<=hi
      rotate_left
      ·have b3:decide (x1<=hi)=false:=ahy h3;rw[b2,b3] at Dn;apply ar;simp(disch:=omega)[b2,h2,b3,h3];apply aB rfl;apply aj;refine cont d2 (by rw[Dn];simp) _ ?_;simp
      have b3:decide (x1<=hi)=true:=ahx h3;rw[b2,b3] at Dn;have hh:gB cf lo hi cf (x1,x2)=[x2]:=Dn;rw[hh] at DE;have ug:=IC (d:=d2) (aw:=s.aw) λx hx=>DE x (ahR _ hx);have co:=λH=>WY (jL d2) [x2] zO zS H T;rw[WX (λx hx=>hb x (DE x (ahR _ hx))) (hb x2 (DE x2 zS))] at co;apply ar;simp(disch:=omega)[b2,h2,b3,h3];apply aC rfl;have co':∀H,aq Tryz.prog 101 [.sl (jL d2).length (ints (jL d2)) .none,.sl 1 [.int .i64 x2] .full] H T (Is (.sl (jL (d2++[x2])).length (ints (jL (d2++[x2]))) .none) H T):=λH=>aq.mC (co H);refine br λK hK=>?_;refine zQ ?_;refine ai (co' _) ?_;refine zQ ?_;apply hK;refine cont (d2++[x2]) (by rw[hh]) _ ?_;simp
  ·simp  at hk;have yV:i=s.aH.length:=zO;subst yV;apply aD;refine zQ ?_;apply aN;clear aN;refine af ?_;refine aI ?_;rw[hf];exact⟨rfl,rfl⟩
end Go.Proofs.YtoejlmpbebjemaaGreat
