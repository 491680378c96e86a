/- Exchanging ranges, rotating (slices' stable sort) on a box of documents. Insertion sort (slices' stable sort) on a box of documents. Merging two neighbouring ranges in their place (slices' stable sort): plain laws. Merging two neighbouring ranges in their place (slices' stable sort) on a box of documents. slices.SortStableFunc on a box of at most 40 documents.
  Conditions: lengths below 400 or 1000, as each theorem says. -/
import Derived.Test.YtneohapkboaplaaGreatGA
set_option linter.all false
set_option maxRecDepth 100000
set_option maxHeartbeats 8000000
open Nat (le_refl lt_or_ge)
open List (getD_eq_getElem?_getD getElem?_set_self)
namespace Fo
open eB
abbrev GE:=Nat×Dc
def ky (x:GE):Int:=-x.2.id
def QY (a b:Nat):Bool:=decide (a<b)
abbrev ze:GE:=(0,d0)
def swp (d:List GE)(i j:Nat):List GE:=(d.set i (d.getD j ze)).set j (d.getD i ze)
theorem MK (d:List GE)(i j:Nat):(swp d i j).length=d.length:=by simp[swp]
theorem swp_get {d:List GE}{i j:Nat}(hi:i<d.length)(hj:j<d.length)(t:Nat):(swp d i j).getD t ze=if t=j then d.getD i ze else if t=i then d.getD j ze else d.getD t ze:=by
 unfold swp;rw[getD_eq_getElem?_getD,List.getElem?_set]
 by_cases h1:t=j
 ·subst h1;rw[if_pos rfl,if_pos (by simpa using hj),if_pos rfl];rfl
 ·rw[if_neg (Ne.symm h1),if_neg h1,List.getElem?_set]
  by_cases h2:t=i
  ·subst h2;rw[if_pos rfl,if_pos hi,if_pos rfl];rfl
  ·rw[if_neg (Ne.symm h2),if_neg h2,getD_eq_getElem?_getD]
theorem qt {d:List GE}{i j:Nat}(hi:i<d.length)(hj:j<d.length):(swp d i j).Perm d:=by
 have h:=(Array.swap_perm (xs:=d.toArray) (i:=i) (j:=j) (by simpa using hi) (by simpa using hj)).toList;have e:(d.toArray.swap i j (by simpa using hi) (by simpa using hj)).toList=swp d i j:=by
  simp[Array.swap,swp,hi,hj]
 rw[e] at h;exact h
def js (d:List GE)(a b:Nat):Nat→List GE
 |0=>d
 |k+1=>swp (js d a b k) (a+k) (b+k)
theorem jM (d:List GE)(a b:Nat):∀k,(js d a b k).length=d.length
 |0=>rfl
 |k+1=>by rw[js,MK,jM d a b k]
theorem mv (d:List GE)(a b:Nat):∀k,a+k≤b→b+k≤d.length→(js d a b k).Perm d
 |0,_,_=>.refl _
 |k+1,h1,h2=>by
  rw[js];exact(qt (by rw[jM];omega) (by rw[jM];omega)).trans (mv d a b k (by omega) (by omega))
theorem oh (d:List GE)(a b:Nat):∀k,a+k≤b→b+k≤d.length→∀t,(js d a b k).getD t ze=if a≤t∧t<a+k then d.getD (t-a+b) ze else if b≤t∧t<b+k then d.getD (t-b+a) ze else d.getD t ze
 |0,_,_,t=>by rw[if_neg (by omega),if_neg (by omega)];rfl
 |k+1,h1,h2,t=>by
  have ih:=oh d a b k (by omega) (by omega);rw[js,swp_get (by rw[jM];omega) (by rw[jM];omega)]
  by_cases q1:t=b+k
  ·subst q1;rw[if_pos rfl,ih,if_neg (by omega),if_neg (by omega),if_neg (by omega),if_pos (by omega)]
   congr 1;omega
  ·rw[if_neg q1]
   by_cases q2:t=a+k
   ·subst q2;rw[if_pos rfl,ih,if_neg (by omega),if_neg (by omega),if_pos (by omega)]
    congr 1;omega
   ·rw[if_neg q2,ih]
    by_cases q3:a≤t∧t<a+k
    ·rw[if_pos q3,if_pos (by omega)]
    ·by_cases q4:b≤t∧t<b+k
     ·rw[if_neg q3,if_pos q4,if_neg (by omega),if_pos (by omega)]
     ·rw[if_neg q3,if_neg q4,if_neg (by omega),if_neg (by omega)]
def iP (d:List GE)(a m b t:Nat):GE:=if t<a∨b≤t then d.getD t ze else if t-a<b-m then d.getD (m+(t-a)) ze else d.getD (t-(b-m)) ze
theorem rJ {d:List GE}{a m b t:Nat}(h:t<a∨b≤t):iP d a m b t=d.getD t ze:=by rw[iP,if_pos h]
theorem nM {d:List GE}{a m b t:Nat}(h1:a≤t)(h2:t<b)(h3:t-a<b-m):iP d a m b t=d.getD (m+(t-a)) ze:=by rw[iP,if_neg (by omega),if_pos h3]
theorem nN {d:List GE}{a m b t:Nat}(h1:a≤t)(h2:t<b)(h3:b-m≤t-a):iP d a m b t=d.getD (t-(b-m)) ze:=by rw[iP,if_neg (by omega),if_neg (by omega)]
end Fo
namespace Go.Proofs.YtneohapkboaplaaGreat
open Go Go.Am eB Fo
def du (l:List GE):List AV:=l.flatMap fun e=>nh e.2
theorem EA:fI (fun e:GE=>nh e.2) 3:=fun _=>rfl
theorem eX (l:List GE):(du l).length=l.length*3:=dm EA l
@[simp] theorem WD (n t:Nat) (l:List GE):aL n t (du l):=gF (f:=fun e:GE=>nh e.2) (fun x=>by simp) l
theorem Ad (l:List GE):du l=bC (l.map (·.2)):=by simp[du,bC,List.flatMap_map]
theorem gZ {d:List GE}{k:Nat}(rest:List AV)(h:k<d.length):((du d++rest).drop (k*3)).take 3=nh (d.getD k ze).2:=by
 have hl:=eX d;rw[List.drop_append_of_le_length (by omega),List.take_append_of_le_length (by simp;omega)];exact iR EA d k ze h
theorem Cv:∀(d:List GE)(k:Nat)(rest:List AV)(e:GE),k<d.length→(((du d++rest).set (k*3) (.int .i64 e.2.id)).set (k*3+1) (.sl e.2.zs.length (fN e.2.zs) .none)).set (k*3+2) (.sl e.2.ns.length (br e.2.ns) .none)=du (d.set k e)++rest
 |[],k,_,_,h=>by simp at h
 |x::d,0,rest,e,_=>by simp[du]
 |x::d,k+1,rest,e,h=>by
  have ih:=Cv d k rest e (by simpa using h);rw[show (k+1)*3=k*3+1+1+1 by omega];simp only[du,List.flatMap_cons,List.cons_append,List.nil_append,List.set_cons_succ,List.append_assoc] at ih ⊢;rw[ih]
theorem xK (d:List GE)(i j:Nat)(rest:List AV)(hi:i<d.length)(hj:j<d.length) :
  ((((((du d++rest).set (i*3) (.int .i64 (d.getD j ze).2.id)).set (i*3+1) (.sl (d.getD j ze).2.zs.length (fN (d.getD j ze).2.zs) .none)).set (i*3+2) (.sl (d.getD j ze).2.ns.length (br (d.getD j ze).2.ns) .none)).set (j*3) (.int .i64 (d.getD i ze).2.id)).set (j*3+1) (.sl (d.getD i ze).2.zs.length (fN (d.getD i ze).2.zs) .none)).set (j*3+2) (.sl (d.getD i ze).2.ns.length (br (d.getD i ze).2.ns) .none)=du (swp d i j)++rest:=by
 rw[Cv d i rest (d.getD j ze) hi,Cv _ j rest (d.getD i ze) (by simpa using hj)];rfl
def s9 (g:Nat):Prop:=∀(x y:Dc)(H:List aG)(T:ay),∃q:Int,al Tryz.prog g [.agg (nh x),.agg (nh y)] H T (Is (.int .i64 q) H T)∧(q<0↔x.id<y.id)
theorem s9.at {g:Nat}(h:s9 g)(x y:GE)(H:List aG)(T:ay):∃q:Int,al Tryz.prog g [.agg (nh x.2),.agg (nh y.2)] H T (Is (.int .i64 q) H T)∧(q<0↔ky y<ky x):=by
 obtain⟨q,h1,h2⟩:=h x.2 y.2 H T;exact⟨q,h1,h2.trans (by unfold ky;omega)⟩
theorem pn {H:List aG}{i:Nat}{x:aG}(hi:H[i]?=some x):H.set i x=H:=by
 apply List.ext_getElem?;intro j
 by_cases hj:i=j
 ·subst hj;rw[getElem?_set_self (List.getElem?_eq_some_iff.1 hi).1,hi]
 ·rw[List.getElem?_set_ne hj]
attribute [-simp] getD_eq_getElem?_getD in
theorem yi {g:Nat}(hg:s9 g)(d:List GE)(rest:List AV)(a b n i:Nat)(jA:a+n≤b)(o7:b+n≤d.length)(hl:d.length≤1000)(H:List aG)(T:ay)(hi:H[i]?=some (.cells (du d++rest)))(hr:aL H.length T.length rest) :
  al Tryz.prog 232 [.cO i 0 d.length,.int .i64 (a:Nat),.int .i64 (b:Nat),.int .i64 (n:Nat),.fn g [] []] H T (Is (.cJ []) (H.set i (.cells (du (js d a b n)++rest))) T):=by
 have cW:=(List.getElem?_eq_some_iff.1 hi).1;have kL:=pn hi;refine aj 11 [] Tryz.ntmps232 Tryz.func232 rfl (fun _ _=>Tryz.call232 _ _) (by simp) (fun HO=>?_);apply ae;intro K h;simp(disch:=omega);apply h;clear h K;apply ai;have pO:∀k,bM (H.set i (.cells (du (js d a b k)++rest))) T:=fun k=>HO.set (by simp[hr]);refine aK (X:=Nat) (fun k=>⟨[(0,.cO i 0 d.length),(1,.int .i64 (a:Nat)),(2,.int .i64 (b:Nat)),(3,.int .i64 (n:Nat)),(10,.int .i64 (k:Nat))],H.set i (.cells (du (js d a b k)++rest)),T⟩)
  (fun k=>k≤n) (fun k=>n-k) 0 ?_ ?_ ?_
 ·exact Nat.zero_le _
 ·refine ag [] [] ?_ ?_ ?_ ?_ (pO 0) ?_
  all_goals simp[js,kL,cW]
 ·rintro k hk;refine af fun K2 aY=>?_;apply ae;intro K h;simp(disch:=omega);apply h;clear h K;refine aP rfl (fun da=>?_) (fun da=>?_)
  ·simp  at da;have hln:=jM d a b k;have qY:=gZ (d:=js d a b k) (k:=b+k) rest (by omega);have lZ:=gZ (d:=js d a b k) (k:=a+k) rest (by omega);apply ak;simp(disch:=omega) ;apply aY;clear aY;refine af fun K3 bA=>?_;apply ai;refine cE [21,23] [0,0,0,0,0,0,0,0,0,0,0,0,0,0,0,0,0,0,0,0,0,0,1,1] [[4,5,6,7],[]] au (by kernel_rfl) (by kernel_rfl) fun K hK=>?_;simp(disch:=omega)[qY,lZ,eX,hln,cW];rw[xK _ (a+k) (b+k) rest (by omega) (by omega)];apply hK;clear hK K;apply bA;clear bA;refine ar fun K hK=>?_;simp(disch:=omega) ;apply hK;clear hK K;refine⟨k+1,by show k+1≤_;omega,by show n-(k+1)<n-k;omega,?_⟩;refine ag [] [] ?_ ?_ ?_ ?_ (pO (k+1)) ?_
   all_goals simp[js,cW]
  ·simp at da;have e:k=n:=by omega
   subst e;apply aD;simp(disch:=omega) ;exact⟨rfl,rfl,rfl⟩
def p9 (i:Nat)(rest:List AV)(H:List aG)(T:ay)(R:List GE→Prop):AV→List aG→ay→Prop:=fun r H' T'=>r=.cJ []∧T'=T∧∃d',H'=H.set i (.cells (du d'++rest))∧R d'
def aa4 (d:List GE)(a m b:Nat)(d':List GE):Prop:=d'.Perm d∧∀t,d'.getD t ze=iP d a m b t
attribute [-simp] getD_eq_getElem?_getD in
theorem Gr {g:Nat}(hg:s9 g)(d:List GE)(rest:List AV)(a m b i:Nat)(Lv:a<m)(Ln:m<b)(o7:b≤d.length)(hl:d.length≤1000)(H:List aG)(T:ay)(hi:H[i]?=some (.cells (du d++rest)))(hr:aL H.length T.length rest) :
  al Tryz.prog 217 [.cO i 0 d.length,.int .i64 (a:Nat),.int .i64 (m:Nat),.int .i64 (b:Nat),.fn g [] []] H T (p9 i rest H T (aa4 d a m b)):=by
 have cW:=(List.getElem?_eq_some_iff.1 hi).1;have kL:=pn hi;refine aj 12 [] Tryz.ntmps217 Tryz.func217 rfl (fun _ _=>Tryz.call217 _ _) (by simp) (fun HO=>?_);apply ae;intro K h;simp(disch:=omega);apply h;clear h K;apply ae;intro K h;simp(disch:=omega);apply h;clear h K;refine af fun K1 aO=>?_;apply ai;have pO:∀d2,bM (H.set i (.cells (du d2++rest))) T:=fun k=>HO.set (by simp[hr]);refine aK (X:=List GE×Nat×Nat) (fun x=>⟨[(0,.cO i 0 d.length),(2,.int .i64 (m:Nat)),(4,.fn g [] []),(10,.int .i64 (x.2.1:Nat)),(11,.int .i64 (x.2.2:Nat))],H.set i (.cells (du x.1++rest)),T⟩)
  (fun x=>x.1.Perm d∧0<x.2.1∧0<x.2.2∧x.2.1≤m-a∧x.2.2≤b-m∧(∀t,t<m-x.2.1∨m+x.2.2≤t→x.1.getD t ze=iP d a m b t)∧∀t,m-x.2.1≤t→t<m+x.2.2→iP x.1 (m-x.2.1) m (m+x.2.2) t=iP d a m b t) (fun x=>x.2.1+x.2.2) (d,m-a,b-m) ?_ ?_ ?_
 ·refine⟨.refl _,by show 0<m-a;omega,by show 0<b-m;omega,le_refl _,le_refl _,fun t ht=>?_,fun t h1 h2=>?_⟩
  ·simp only at ht ⊢;rw[iP,if_pos (by omega)]
  ·simp only at h1 h2 ⊢;rw[show m-(m-a)=a by omega,show m+(b-m)=b by omega]
 ·refine ag [] [] ?_ ?_ ?_ ?_ (pO d) ?_
  all_goals simp[kL,cW]
  all_goals omega
 ·rintro⟨d2,p,q⟩ ⟨h0,h1,h2,h3,h4,h5,h6⟩;simp only at h0 h1 h2 h3 h4 h5 h6;have jQ:=h0.length_eq;have c:=fun(x y n:Nat) (jA:x+n≤y) (o7:y+n≤d2.length)=>yi hg d2 rest x y n i jA o7 (by omega) (H.set i (.cells (du d2++rest))) T (getElem?_set_self cW) (by simpa using hr);simp only[jQ,List.set_set] at c;refine af fun K2 aY=>?_
  by_cases ZH:p=q
  ·subst ZH;have bq:((p:Int)!=p)=false:=by simp
   have c1:=c (m-p) m p (by omega) (by omega);have jV:=oh d2 (m-p) m p (by omega) (by omega);have y5:=mv d2 (m-p) m p (by omega) (by omega);rw[show ((m-p:Nat):Int)=(m:Int)-p by omega] at c1;refine ae fun K hK=>?_;simp(disch:=omega)[bq];apply hK;clear hK K;apply aC rfl;apply aD;simp(disch:=omega) ;apply aO;clear aO;refine ar fun K hK=>?_;simp(disch:=omega) ;refine ah (c1) ?_;simp(disch:=omega) ;apply hK;clear hK K;refine⟨rfl,rfl,_,rfl,y5.trans h0,fun t=>?_⟩
   by_cases q1:t<m-p∨m+p≤t
   ·rw[jV,if_neg (by omega),if_neg (by omega)];exact h5 t q1
   ·rw[←h6 t (by omega) (by omega),iP,if_neg q1,jV]
    by_cases q2:t-(m-p)<m+p-m
    ·rw[if_pos q2,if_pos (by omega)]
     congr 1;omega
    ·rw[if_neg q2,if_neg (by omega),if_pos (by omega)]
     congr 1;omega
  ·have bq:((p:Int)!=q)=true:=by rw[bne_iff_ne];omega
   have bq':¬(p:Int)=q:=by omega
   refine ae fun K hK=>?_;simp(disch:=omega)[bq,bq'];apply hK;clear hK K;refine aP rfl (fun h=>?_) (fun h=>absurd h (by simp[ZH]));apply ak;simp(disch:=omega) ;apply aY;clear aY;apply ai
   by_cases bh:q<p
   ·have bl:decide ((q:Int)<p)=true:=decide_eq_true (by omega);have c1:=c (m-p) m q (by omega) (by omega);have jV:=oh d2 (m-p) m q (by omega) (by omega);have y5:=mv d2 (m-p) m q (by omega) (by omega);rw[show ((m-p:Nat):Int)=(m:Int)-p by omega] at c1;refine ae fun K hK=>?_;simp(disch:=omega)[bl,bh];apply hK;clear hK K;apply aH rfl;refine ae fun K hK=>?_;simp(disch:=omega) ;refine ah (c1) ?_;simp(disch:=omega) ;apply hK;clear hK K;refine ar fun K hK=>?_;simp(disch:=omega) ;apply hK;clear hK K;refine⟨(js d2 (m-p) m q,p-q,q),⟨y5.trans h0,by show 0<p-q;omega,h2,by show p-q≤m-a;omega,h4,fun t ht=>?_,fun t g1 g2=>?_⟩,by show p-q+q<p+q;omega,?_⟩
    ·simp only at ht ⊢;rw[jV]
     by_cases q1:t<m-p∨m+q≤t
     ·rw[if_neg (by omega),if_neg (by omega)];exact h5 t q1
     ·rw[←h6 t (by omega) (by omega),iP,if_neg q1,if_pos (by omega),if_pos (by omega)]
      congr 1;omega
    ·simp only at g1 g2 ⊢;rw[←h6 t (by omega) (by omega),nN (d:=d2) (by omega) (by omega) (by omega)]
     by_cases q2:t-(m-(p-q))<m+q-m
     ·rw[nM (by omega) (by omega) q2,jV,if_neg (by omega),if_pos (by omega)]
      congr 1;omega
     ·rw[nN (by omega) (by omega) (by omega),jV,if_neg (by omega),if_neg (by omega)]
    ·refine ag [] [] ?_ ?_ ?_ ?_ (pO _) ?_
     all_goals simp
     all_goals omega
   ·have bl:decide ((q:Int)<p)=false:=decide_eq_false (by omega);have oP:p<q:=by omega
    have c1:=c (m-p) (m+q-p) p (by omega) (by omega);have jV:=oh d2 (m-p) (m+q-p) p (by omega) (by omega);have y5:=mv d2 (m-p) (m+q-p) p (by omega) (by omega);rw[show ((m-p:Nat):Int)=(m:Int)-p by omega,show ((m+q-p:Nat):Int)=(m:Int)+q-p by omega] at c1;refine ae fun K hK=>?_;simp(disch:=omega)[bl,bh];apply hK;clear hK K;refine aP rfl (fun h=>absurd h (by simp[bh])) (fun h=>?_);refine ae fun K hK=>?_;simp(disch:=omega) ;refine ah (c1) ?_;simp(disch:=omega) ;apply hK;clear hK K;refine ar fun K hK=>?_;simp(disch:=omega) ;apply hK;clear hK K;refine⟨(js d2 (m-p) (m+q-p) p,p,q-p),⟨y5.trans h0,h1,by show 0<q-p;omega,h3,by show q-p≤b-m;omega,fun t ht=>?_,fun t g1 g2=>?_⟩,by show p+(q-p)<p+q;omega,?_⟩
    ·simp only at ht ⊢;rw[jV]
     by_cases q1:t<m-p∨m+q≤t
     ·rw[if_neg (by omega),if_neg (by omega)];exact h5 t q1
     ·rw[←h6 t (by omega) (by omega),iP,if_neg q1,if_neg (by omega),if_pos (by omega),if_neg (by omega)]
      congr 1;omega
    ·simp only at g1 g2 ⊢;rw[←h6 t (by omega) (by omega),nM (d:=d2) (by omega) (by omega) (by omega)]
     by_cases q2:t-(m-p)<m+(q-p)-m
     ·rw[nM (by omega) (by omega) q2,jV,if_neg (by omega),if_neg (by omega)]
     ·rw[nN (by omega) (by omega) (by omega),jV,if_pos (by omega)]
      congr 1;omega
    ·refine ag [] [] ?_ ?_ ?_ ?_ (pO _) ?_
     all_goals simp
     all_goals omega
end Go.Proofs.YtneohapkboaplaaGreat
namespace Fo
open Go.Proofs.YtneohapkboaplaaGreat
def fb (x y:GE):Bool:=decide ((ky y)<(ky x))||(decide ((ky x)=(ky y))&&QY x.1 y.1)
theorem IP {x y:GE}(h:fb x y=true):(ky y)≤(ky x):=by
 simp only[fb,Bool.or_eq_true,Bool.and_eq_true,decide_eq_true_eq] at h;rcases h with h|h<;>omega
theorem DZ {x y:GE}(h:(ky y)<(ky x)):fb x y=true:=by simp[fb,h]
theorem IN {x y:GE}(h:(ky y)≤(ky x))(hw:QY x.1 y.1=true):fb x y=true:=by
 rcases Int.lt_or_le (ky y) (ky x) with h1|h1
 ·exact DZ h1
 ·have:(ky x)=(ky y):=by omega
  simp[fb,this,hw]
def Od (d:List GE)(a b:Nat):Prop:=∀i j,a≤i→i<j→j<b→fb (d.getD i ze) (d.getD j ze)=true
def Wg (d:List GE)(a b:Nat):Prop:=∀i j,a≤i→i<j→j<b→QY (d.getD i ze).1 (d.getD j ze).1=true
structure Sx (d d':List GE)(a b:Nat):Prop where
 perm:d'.Perm d
 out:∀t,t<a∨b≤t→d'.getD t ze=d.getD t ze
 N5:∀t,a≤t→t<b→∃u,a≤u∧u<b∧d'.getD t ze=d.getD u ze
theorem Sx.refl (d:List GE)(a b:Nat):Sx d d a b:=⟨.refl _,fun _ _=>rfl,fun t h1 h2=>⟨t,h1,h2,rfl⟩⟩
theorem Sx.trans {d e f:List GE}{a b:Nat}(h:Sx d e a b)(k:Sx e f a b):Sx d f a b:=by
 refine⟨k.perm.trans h.perm,fun t ht=>(k.out t ht).trans (h.out t ht),fun t h1 h2=>?_⟩;obtain⟨u,g1,g2,g3⟩:=k.N5 t h1 h2;obtain⟨v,g4,g5,g6⟩:=h.N5 u g1 g2;exact⟨v,g4,g5,g3.trans g6⟩
theorem Sx.wide {d e:List GE}{a b a' b':Nat}(h:Sx d e a b)(ha:a'≤a)(hb:b≤b'):Sx d e a' b':=by
 refine⟨h.perm,fun t ht=>h.out t (by omega),fun t h1 h2=>?_⟩
 by_cases Ls:a≤t∧t<b
 ·obtain⟨u,g1,g2,g3⟩:=h.N5 t Ls.1 Ls.2;exact⟨u,by omega,by omega,g3⟩
 ·exact⟨t,h1,h2,h.out t (by omega)⟩
theorem Sx.len {d e:List GE}{a b:Nat}(h:Sx d e a b):e.length=d.length:=h.perm.length_eq
def Fp (d d2:List GE)(j i:Nat):Prop:=∀t,d2.getD t ze=if t=j then d.getD i ze else if j<t∧t≤i then d.getD (t-1) ze else d.getD t ze
theorem Fp.zero (d:List GE)(i:Nat):Fp d d i i:=by
 intro t
 split
 ·rename_i h;rw[h]
 ·rw[if_neg (by omega)]
theorem Fp.step {d d2:List GE}{j i:Nat}(h:Fp d d2 j i)(hj:0<j)(sL:j≤i)(hl:i<d2.length):Fp d (swp d2 j (j-1)) (j-1) i:=by
 intro t;rw[swp_get (by omega) (by omega)]
 by_cases h1:t=j-1
 ·rw[if_pos h1,if_pos h1,h j,if_pos rfl]
 ·rw[if_neg h1,if_neg h1]
  by_cases h2:t=j
  ·subst h2;rw[if_pos rfl,if_pos (by omega),h (t-1),if_neg (by omega),if_neg (by omega)]
  ·rw[if_neg h2,h t,if_neg h2]
   by_cases h3:j<t∧t≤i
   ·rw[if_pos h3,if_pos (by omega)]
   ·rw[if_neg h3,if_neg (by omega)]
theorem Fp.HP {d d2:List GE}{j i:Nat}(h:Fp d d2 j i)(sL:j≤i)(hp:d2.Perm d):Sx d d2 j (i+1):=by
 refine⟨hp,fun t ht=>?_,fun t h1 h2=>?_⟩
 ·rw[h t,if_neg (by omega),if_neg (by omega)]
 ·rw[h t]
  split
  ·exact⟨i,by omega,by omega,rfl⟩
  ·split
   ·exact⟨t-1,by omega,by omega,rfl⟩
   ·exact⟨t,h1,h2,rfl⟩
theorem Fp.sorted {d d2:List GE}{a j i:Nat}(h:Fp d d2 j i)(haj:a≤j)(sL:j≤i)(hs:Od d a i)(hw:∀t,a≤t→t<i→QY (d.getD t ze).1 (d.getD i ze).1=true)
  (sK:∀t,a≤t→t<j→(ky (d.getD i ze))≤(ky (d.getD t ze))) (Pd:∀t,j≤t→t<i→(ky (d.getD t ze))<(ky (d.getD i ze))):Od d2 a (i+1):=by
 intro p q h1 h2 h3;rw[h p,h q]
 by_cases q1:q=j
 ·rw[if_pos q1,if_neg (by omega),if_neg (by omega)];exact IN (sK p h1 (by omega)) (hw p h1 (by omega))
 ·rw[if_neg q1]
  by_cases p1:p=j
  ·rw[if_pos p1,if_pos (by omega)];exact DZ (Pd (q-1) (by omega) (by omega))
  ·rw[if_neg p1]
   by_cases p2:j<p
   ·rw[if_pos (by omega),if_pos (by omega)];exact hs _ _ (by omega) (by omega) (by omega)
   ·rw[if_neg (by omega)]
    by_cases q2:j<q
    ·rw[if_pos (by omega)];exact hs _ _ (by omega) (by omega) (by omega)
    ·rw[if_neg (by omega)];exact hs _ _ (by omega) (by omega) (by omega)
end Fo
namespace Go.Proofs.YtneohapkboaplaaGreat
open Go Go.Am eB Fo
def cv (g:Nat):AV:=.fn g [] []
attribute [-simp] getD_eq_getElem?_getD in
theorem wQ {g:Nat}(hg:s9 g)(d:List GE)(rest:List AV)(a b i:Nat)(jA:a≤b)(o7:b≤d.length)(hl:d.length≤1000)(hw:Wg d a b)(H:List aG)(T:ay)(hi:H[i]?=some (.cells (du d++rest)))(hr:aL H.length T.length rest) :
  al Tryz.prog 176 [.cO i 0 d.length,.int .i64 (a:Nat),.int .i64 (b:Nat),.fn g [] []] H T (p9 i rest H T (fun d'=>Sx d d' a b∧Od d' a b)):=by
 have cW:=(List.getElem?_eq_some_iff.1 hi).1;have kL:=pn hi;refine aj 10 [] Tryz.ntmps176 Tryz.func176 rfl (fun _ _=>Tryz.call176 _ _) (by simp) (fun HO=>?_);apply ae;intro K h;simp(disch:=omega);apply h;clear h K;apply ai;have pO:∀d2,bM (H.set i (.cells (du d2++rest))) T:=fun k=>HO.set (by simp[hr]);refine aK (X:=List GE×Nat) (fun x=>⟨[(0,.cO i 0 d.length),(1,.int .i64 (a:Nat)),(2,.int .i64 (b:Nat)),(3,.fn g [] []),(8,.int .i64 ((x.2:Int)+1))],H.set i (.cells (du x.1++rest)),T⟩)
  (fun x=>a≤x.2∧(x.2+1≤b∨(x.1=d∧b=a))∧Sx d x.1 a (x.2+1)∧Od x.1 a (x.2+1)) (fun x=>b-x.2) (d,a) ?_ ?_ ?_
 ·exact⟨le_refl _,(Nat.eq_or_lt_of_le jA).elim (fun h=>.inr ⟨rfl,h.symm⟩) .inl,Sx.refl _ _ _,fun i j h1 h2 h3=>by simp only at h3;omega⟩
 ·refine ag [] [] ?_ ?_ ?_ ?_ (pO d) ?_
  all_goals simp[kL,cW]
 ·rintro⟨d1,k⟩ ⟨h1,h2,h3,h4⟩;simp only at h1 h2 h3 h4;have mY:=h3.len;refine af fun K2 aY=>?_
  by_cases hk:k+1<b
  ·have bk:decide (((k:Int)+1)<b)=true:=decide_eq_true (by omega);have Fl:((k:Int)+1)<b:=by omega
   refine ae fun K hK=>?_;simp(disch:=omega)[bk,Fl];apply hK;clear hK K;apply aH rfl;apply ak;simp(disch:=omega) ;apply aY;clear aY;refine af fun K3 bA=>?_;apply ai;apply ae;intro K h;simp(disch:=omega);apply h;clear h K;apply ai;have hwx:∀t,a≤t→t<k+1→QY (d1.getD t ze).1 (d1.getD (k+1) ze).1=true:=fun t g1 g2=>by
    obtain⟨u,u1,u2,u3⟩:=h3.N5 t g1 g2;rw[u3,h3.out (k+1) (by omega)];exact hw u (k+1) u1 (by omega) hk
   refine aK (X:=List GE×Nat) (fun x=>⟨[(0,.cO i 0 d.length),(1,.int .i64 (a:Nat)),(2,.int .i64 (b:Nat)),(3,.fn g [] []),(8,.int .i64 ((k:Int)+1)),(9,.int .i64 (x.2:Nat))],H.set i (.cells (du x.1++rest)),T⟩)
    (fun x=>a≤x.2∧x.2≤k+1∧Fp d1 x.1 x.2 (k+1)∧x.1.Perm d1∧∀t,x.2≤t→t<k+1→(ky (d1.getD t ze))<(ky (d1.getD (k+1) ze))) (fun x=>x.2) (d1,k+1) ?_ ?_ ?_
   ·exact⟨by simp only;omega,le_refl _,Fp.zero _ _,.refl _,fun t g1 g2=>by simp only at g1;omega⟩
   ·refine ag [] [] ?_ ?_ ?_ ?_ (pO d1) ?_
    all_goals simp[cW]
   ·rintro⟨d2,j⟩ ⟨g1,g2,g3,g4,g5⟩;simp only at g1 g2 g3 g4 g5;have jQ:=g4.length_eq;have go:(∀t,a≤t→t<j→(ky (d1.getD (k+1) ze))≤(ky (d1.getD t ze)))→∀e,b9 H.length T.length e [(0,.cO i 0 d.length),(1,.int .i64 (a:Nat)),(2,.int .i64 (b:Nat)),(3,.fn g [] []),(8,.int .i64 ((k:Int)+1))]→K3 ⟨e,H.set i (.cells (du d2++rest)),T⟩:=by
     intro sK e he;refine bA _ (aQ ⟨[(0,.cO i 0 d.length),(1,.int .i64 (a:Nat)),(2,.int .i64 (b:Nat)),(3,.fn g [] []),(8,.int .i64 ((k:Int)+1))],H.set i (.cells (du d2++rest)),T⟩ (ag [] [] (by simp) (by simp) (by simp) (by simp) (pO d2) (by simpa using he)) ?_);refine ar fun K hK=>?_;simp(disch:=omega) ;apply hK;clear hK K;refine⟨(d2,k+1),⟨by simp only;omega,.inl (by simp only;omega),(h3.wide (le_refl _) (by omega)).trans ((g3.HP g2 g4).wide g1 (le_refl _)),g3.sorted g1 g2 h4 hwx sK g5⟩,by show b-(k+1)<b-k;omega,?_⟩;refine ag [] [] ?_ ?_ ?_ ?_ (pO d2) ?_
     all_goals simp[cW]
    refine af fun K4 ec=>?_
    by_cases hj:a<j
    ·have bj:decide ((a:Int)<j)=true:=decide_eq_true (by omega);have qY:=gZ (d:=d2) (k:=j) rest (by omega);have lZ:=gZ (d:=d2) (k:=j-1) rest (by omega);have ej:((j:Int)-1)=((j-1:Nat):Int):=by omega
     have hx:d2.getD j ze=d1.getD (k+1) ze:=by rw[g3 j,if_pos rfl]
     have hy:d2.getD (j-1) ze=d1.getD (j-1) ze:=by rw[g3 (j-1),if_neg (by omega),if_neg (by omega)]
     obtain⟨q,c,mR⟩:=hg.at (d2.getD j ze) (d2.getD (j-1) ze) (H.set i (.cells (du d2++rest))) T;rw[hx,hy] at mR
     by_cases hq:q<0
     ·have bq:decide (q<0)=true:=decide_eq_true hq;have RV:=xK d2 j (j-1) rest (by omega) (by omega);refine aM [] [] [] au (by kernel_rfl) (by kernel_rfl) fun K hK=>?_;simp(disch:=omega)[bj,hj,ej,qY,lZ,eX,jQ,cW];refine aB (c) rfl ?_;simp(disch:=omega)[bq,hq];apply hK;clear hK K;apply aH rfl;apply ak;simp(disch:=omega) ;apply ec;clear ec;refine af fun K5 gO=>?_;apply ai;refine cE [15,17] [0,0,0,0,0,0,0,0,0,0,0,0,0,0,0,0,1,1] [[2,3,4],[]] au (by kernel_rfl) (by kernel_rfl) fun K hK=>?_;simp(disch:=omega)[ej,qY,lZ,eX,jQ,cW];rw[RV];apply hK;clear hK K;apply gO;clear gO;refine ar fun K hK=>?_;simp(disch:=omega)[ej];apply hK;clear hK K;refine⟨(swp d2 j (j-1),j-1),⟨by simp only;omega,by simp only;omega,g3.step (by omega) g2 (by omega),(qt (by omega) (by omega)).trans g4,fun t t1 t2=>?_⟩,by show j-1<j;omega,?_⟩
      ·simp only at t1;rcases lt_or_ge t j with e|e
       ·have:t=j-1:=by omega
        subst this;exact mR.1 hq
       ·exact g5 t e t2
      ·refine ag [] [] ?_ ?_ ?_ ?_ (pO _) ?_
       all_goals simp[cW]
     ·have bq:decide (q<0)=false:=decide_eq_false hq;refine aM [] [] [] au (by kernel_rfl) (by kernel_rfl) fun K hK=>?_;simp(disch:=omega)[bj,hj,ej,qY,lZ,eX,jQ,cW];refine aB (c) rfl ?_;simp(disch:=omega)[bq,hq];apply hK;clear hK K;apply aC rfl;apply aD;simp(disch:=omega) ;refine go (fun t t1 t2=>?_) _ ?_
      ·have e1:(ky (d1.getD (k+1) ze))≤(ky (d1.getD (j-1) ze)):=by
        rcases Int.lt_or_le (ky (d1.getD (j-1) ze)) (ky (d1.getD (k+1) ze)) with e|e
        ·exact absurd (mR.2 e) hq
        ·exact e
       rcases lt_or_ge t (j-1) with e2|e2
       ·have:=IP (h4 t (j-1) t1 e2 (by omega));omega
       ·have:t=j-1:=by omega
        subst this;exact e1
      ·simp[cW]
    ·have bj:decide ((a:Int)<j)=false:=decide_eq_false (by omega);refine aM [] [] [] au (by kernel_rfl) (by kernel_rfl) fun K hK=>?_;simp(disch:=omega)[bj,hj];apply hK;clear hK K;apply aC rfl;apply aD;simp(disch:=omega) ;refine go (fun t t1 t2=>by omega) _ ?_;simp[cW]
  ·have bk:decide (((k:Int)+1)<b)=false:=decide_eq_false (by omega);have Fl:¬((k:Int)+1)<b:=by omega
   refine ae fun K hK=>?_;simp(disch:=omega)[bk,Fl];apply hK;clear hK K;apply aC rfl;apply aD;simp(disch:=omega) ;refine⟨rfl,rfl,d1,rfl,?_⟩;rcases h2 with h2|⟨h2,h5⟩
   ·have:k+1=b:=by omega
    rw[←this];exact⟨h3,h4⟩
   ·subst h2;subst h5;exact⟨Sx.refl _ _ _,fun p q q1 q2 q3=>by omega⟩
end Go.Proofs.YtneohapkboaplaaGreat
namespace Fo
open Go.Proofs.YtneohapkboaplaaGreat
structure MP (d:List GE)(a m b:Nat):Prop where
 l:Od d a m
 r:Od d m b
 w:∀p q,a≤p→p<m→m≤q→q<b→QY (d.getD p ze).1 (d.getD q ze).1=true
theorem Od.ge {d:List GE}{a b i j:Nat}(h:Od d a b)(h1:a≤i)(h2:i≤j)(h3:j<b):(ky (d.getD j ze))≤(ky (d.getD i ze)):=by
 rcases Nat.eq_or_lt_of_le h2 with e|e
 ·rw[e];exact Int.le_refl _
 ·exact IP (h i j h1 e h3)
theorem Od.sub {d:List GE}{a b a' b':Nat}(h:Od d a b)(h1:a≤a')(h2:b'≤b):Od d a' b':=fun i j i1 i2 i3=>h i j (by omega) i2 (by omega)
theorem Od.one (d:List GE){a b:Nat}(h:b≤a+1):Od d a b:=fun i j i1 i2 i3=>by omega
def H8 (d d2:List GE)(a k:Nat):Prop:=∀t,d2.getD t ze=if t=k then d.getD a ze else if a≤t∧t<k then d.getD (t+1) ze else d.getD t ze
theorem H8.zero (d:List GE)(a:Nat):H8 d d a a:=by
 intro t
 split
 ·rename_i h;rw[h]
 ·rw[if_neg (by omega)]
theorem H8.step {d d2:List GE}{a k:Nat}(h:H8 d d2 a k)(hk:a≤k)(hl:k+1<d2.length):H8 d (swp d2 k (k+1)) a (k+1):=by
 intro t;rw[swp_get (by omega) (by omega)]
 by_cases h1:t=k+1
 ·rw[if_pos h1,if_pos h1,h k,if_pos rfl]
 ·rw[if_neg h1,if_neg h1]
  by_cases h2:t=k
  ·subst h2;rw[if_pos rfl,if_pos (by omega),h (t+1),if_neg (by omega),if_neg (by omega)]
  ·rw[if_neg h2,h t,if_neg h2]
   by_cases h3:a≤t∧t<k
   ·rw[if_pos h3,if_pos (by omega)]
   ·rw[if_neg h3,if_neg (by omega)]
theorem H8.HP {d d2:List GE}{a k:Nat}(h:H8 d d2 a k)(hk:a≤k)(hp:d2.Perm d):Sx d d2 a (k+1):=by
 refine⟨hp,fun t ht=>?_,fun t h1 h2=>?_⟩
 ·rw[h t,if_neg (by omega),if_neg (by omega)]
 ·rw[h t]
  split
  ·exact⟨a,by omega,by omega,rfl⟩
  ·split
   ·exact⟨t+1,by omega,by omega,rfl⟩
   ·exact⟨t,h1,h2,rfl⟩
theorem H8.sorted {d d2:List GE}{a k b:Nat}(h:H8 d d2 a k)(hk:a≤k)(hkb:k<b)(hm:MP d a (a+1) b)(sK:∀t,a+1≤t→t<k+1→(ky (d.getD a ze))<(ky (d.getD t ze)))(Pd:∀t,k+1≤t→t<b→(ky (d.getD t ze))≤(ky (d.getD a ze))):Od d2 a b:=by
 intro p q h1 h2 h3;rw[h p,h q]
 by_cases p1:p=k
 ·rw[if_pos p1,if_neg (by omega),if_neg (by omega)];exact IN (Pd q (by omega) h3) (hm.w a q (by omega) (by omega) (by omega) h3)
 ·rw[if_neg p1]
  by_cases q1:q=k
  ·rw[if_pos q1,if_pos (by omega)];exact DZ (sK (p+1) (by omega) (by omega))
  ·rw[if_neg q1]
   by_cases p2:p<k
   ·rw[if_pos (by omega)]
    by_cases q2:q<k
    ·rw[if_pos (by omega)];exact hm.r _ _ (by omega) (by omega) (by omega)
    ·rw[if_neg (by omega)];exact hm.r _ _ (by omega) (by omega) (by omega)
   ·rw[if_neg (by omega),if_neg (by omega)];exact hm.r _ _ (by omega) (by omega) (by omega)
theorem u7 {d:List GE}{a m b t:Nat}(h1:a≤m)(h2:m≤b)(h:a=m∨m=b):iP d a m b t=d.getD t ze:=by
 by_cases ho:t<a∨b≤t
 ·exact rJ ho
 ·rcases h with h|h
  ·subst h;rw[nM (by omega) (by omega) (by omega)]
   congr 1;omega
  ·subst h;rw[nN (by omega) (by omega) (by omega)]
   congr 1;omega
structure Cut (d r:List GE)(a m b st en mid:Nat):Prop where
 perm:r.Perm d
 at_:∀t,r.getD t ze=iP d st m en t
 h1:a≤st
 h2:st≤m
 h3:m≤en
 h4:en≤b
 hm:mid=st+(en-m)
 hu:∀u v,a≤u→u<st→en≤v→v<b→(ky (d.getD v ze))≤(ky (d.getD u ze))
 hv:∀u v,st≤u→u<m→m≤v→v<en→(ky (d.getD u ze))<(ky (d.getD v ze))
section
variable {d r : List GE} {a m b st en mid : Nat}
theorem Cut.lo (c:Cut d r a m b st en mid){t:Nat}(h:t<st):r.getD t ze=d.getD t ze:=by rw[c.at_,rJ (.inl h)]
theorem Cut.hi (c:Cut d r a m b st en mid){t:Nat}(h:en≤t):r.getD t ze=d.getD t ze:=by rw[c.at_,rJ (.inr h)]
theorem Cut.mb (c:Cut d r a m b st en mid){t:Nat}(h1:st≤t)(h2:t<mid):r.getD t ze=d.getD (m+(t-st)) ze:=by
 have:=c.hm;have:=c.h3;rw[c.at_,nM h1 (by have:=c.h2;omega) (by omega)]
theorem Cut.ma (c:Cut d r a m b st en mid){t:Nat}(h1:mid≤t)(h2:t<en):r.getD t ze=d.getD (t-(en-m)) ze:=by
 have:=c.hm;rw[c.at_,nN (by omega) h2 (by omega)]
theorem Cut.HP (c:Cut d r a m b st en mid):Sx d r a b:=by
 have g1:=c.h1;have g2:=c.h2;have g3:=c.h3;have g4:=c.h4;have g5:=c.hm;refine⟨c.perm,fun t ht=>?_,fun t t1 t2=>?_⟩
 ·rcases ht with ht|ht
  ·exact c.lo (by omega)
  ·exact c.hi (by omega)
 ·by_cases q1:t<st
  ·exact⟨t,t1,t2,c.lo q1⟩
  ·by_cases q2:t<mid
   ·exact⟨_,by omega,by omega,c.mb (by omega) q2⟩
   ·by_cases q3:t<en
    ·exact⟨_,by omega,by omega,c.ma (by omega) q3⟩
    ·exact⟨t,t1,t2,c.hi (by omega)⟩
theorem Cut.Zq (c:Cut d r a m b st en mid)(h:MP d a m b):MP r a st mid:=by
 have g1:=c.h1;have g2:=c.h2;have g3:=c.h3;have g4:=c.h4;have g5:=c.hm;refine⟨fun p q p1 p2 p3=>?_,fun p q p1 p2 p3=>?_,fun p q p1 p2 p3 p4=>?_⟩
 ·rw[c.lo (by omega),c.lo (by omega)];exact h.l p q p1 p2 (by omega)
 ·rw[c.mb p1 (by omega),c.mb (by omega) p3];exact h.r _ _ (by omega) (by omega) (by omega)
 ·rw[c.lo p2,c.mb p3 p4];exact h.w _ _ p1 (by omega) (by omega) (by omega)
theorem Cut.mp2 (c:Cut d r a m b st en mid)(h:MP d a m b):MP r mid en b:=by
 have g1:=c.h1;have g2:=c.h2;have g3:=c.h3;have g4:=c.h4;have g5:=c.hm;refine⟨fun p q p1 p2 p3=>?_,fun p q p1 p2 p3=>?_,fun p q p1 p2 p3 p4=>?_⟩
 ·rw[c.ma p1 (by omega),c.ma (by omega) p3];exact h.l _ _ (by omega) (by omega) (by omega)
 ·rw[c.hi p1,c.hi (by omega)];exact h.r _ _ (by omega) (by omega) (by omega)
 ·rw[c.ma p1 p2,c.hi p3];exact h.w _ _ (by omega) (by omega) (by omega) p4
theorem Cut.Ub (c:Cut d r a m b st en mid)(h:MP d a m b){u v:Nat}(u1:a≤u)(u2:u<mid)(v1:mid≤v)(v2:v<b):fb (r.getD u ze) (r.getD v ze)=true:=by
 have g1:=c.h1;have g2:=c.h2;have g3:=c.h3;have g4:=c.h4;have g5:=c.hm
 by_cases q1:u<st
 ·rw[c.lo q1]
  by_cases q2:v<en
  ·rw[c.ma v1 q2];exact h.l _ _ u1 (by omega) (by omega)
  ·rw[c.hi (by omega)];exact IN (c.hu u v u1 q1 (by omega) v2) (h.w _ _ u1 (by omega) (by omega) v2)
 ·rw[c.mb (by omega) u2]
  by_cases q2:v<en
  ·rw[c.ma v1 q2];exact DZ (c.hv _ _ (by omega) (by omega) (by omega) (by omega))
  ·rw[c.hi (by omega)];exact h.r _ _ (by omega) (by omega) v2
theorem Cut.done (c:Cut d r a m b st en mid)(h:MP d a m b){r1 r2:List GE}(k1:Sx r r1 a mid)(s1:Od r1 a mid)(k2:Sx r1 r2 mid b)(s2:Od r2 mid b):Sx d r2 a b∧Od r2 a b:=by
 have g1:=c.h1;have g2:=c.h2;have g3:=c.h3;have g4:=c.h4;have g5:=c.hm;refine⟨c.HP.trans ((k1.wide (le_refl _) (by omega)).trans (k2.wide (by omega) (le_refl _))),fun p q p1 p2 p3=>?_⟩
 by_cases q1:q<mid
 ·rw[k2.out p (.inl (by omega)),k2.out q (.inl q1)];exact s1 p q p1 p2 q1
 ·by_cases q2:mid≤p
  ·exact s2 p q q2 p2 p3
  ·rw[k2.out p (.inl (by omega))];obtain⟨u,u1,u2,u3⟩:=k1.N5 p p1 (by omega);obtain⟨v,v1,v2,v3⟩:=k2.N5 q (by omega) p3;rw[u3,v3,k1.out v (.inr v1)];exact c.Ub h u1 u2 v1 v2
theorem Cut.PD (c:Cut d r a m b st en mid)(h:MP d a m b){r1:List GE}(k1:Sx r r1 a mid):MP r1 mid en b:=by
 have h2:=c.mp2 h;have g4:=c.h4;have g5:=c.hm;have g3:=c.h3;have g2:=c.h2;have e:∀t,mid≤t→r1.getD t ze=r.getD t ze:=fun t ht=>k1.out t (.inr ht);refine⟨fun p q p1 p2 p3=>?_,fun p q p1 p2 p3=>?_,fun p q p1 p2 p3 p4=>?_⟩
 ·rw[e p p1,e q (by omega)];exact h2.l p q p1 p2 p3
 ·rw[e p (by omega),e q (by omega)];exact h2.r p q p1 p2 p3
 ·rw[e p p1,e q (by omega)];exact h2.w p q p1 p2 p3 p4
end
theorem MJ {d:List GE}{a m b st r0 s0 mid:Nat}(h:MP d a m b)(PT:mid=(a+b) / 2)(Lv:a<m)(Ln:m<b)(hs:(m≤mid∧s0=a∧r0=m)∨(mid<m∧s0=mid+m-b∧r0=mid))(h1:s0≤st)(h2:st≤r0)
  (sK:∀c,s0≤c→c<st→(ky (d.getD (mid+m-1-c) ze))≤(ky (d.getD c ze))) (Pd:∀c,st≤c→c<r0→(ky (d.getD c ze))<(ky (d.getD (mid+m-1-c) ze))) {r:List GE} (hp:r.Perm d) (hr:∀t,r.getD t ze=iP d st m (mid+m-st) t) :
  Cut d r a m b st (mid+m-st) mid:=by
 refine⟨hp,hr,by omega,by omega,by omega,by omega,by omega,fun u v u1 u2 v1 v2=>?_,fun u v u1 u2 v1 v2=>?_⟩
 ·have dA:s0<st:=by omega
  have e:=sK (st-1) (by omega) (by omega);rw[show mid+m-1-(st-1)=mid+m-st by omega] at e;have e1:=h.l.ge u1 (by omega:u≤st-1) (by omega);have e2:=h.r.ge (by omega:m≤mid+m-st) v1 v2;omega
 ·have dA:st<r0:=by omega
  have e:=Pd st (le_refl _) dA;have e1:=h.l.ge (by omega:a≤st) u1 u2;have e2:=h.r.ge v1 (by omega:v≤mid+m-1-st) (by omega);omega
end Fo
namespace Go.Proofs.YtneohapkboaplaaGreat
open Go Go.Am eB Fo
def ER (g n N:Nat):Prop:=∀(d:List GE)(rest:List AV)(a m b i:Nat),b-a≤n→a<m→m<b→b≤N→d.length=N→MP d a m b→∀(H:List aG)(T:ay),H[i]?=some (.cells (du d++rest))→aL H.length T.length rest→
 al Tryz.prog 177 [.cO i 0 N,.int .i64 (a:Nat),.int .i64 (m:Nat),.int .i64 (b:Nat),.fn g [] []] H T (p9 i rest H T (fun d'=>Sx d d' a b∧Od d' a b))
attribute [-simp] getD_eq_getElem?_getD in
theorem GU {g:Nat}(hg:s9 g)(N:Nat)(hN:N≤1000)(d:List GE)(rest:List AV)(a m b i:Nat)(Lv:m=a+1)(Ln:m<b)(o7:b≤N)(hd:d.length=N)(pH:MP d a m b)(H:List aG)(T:ay)(hi:H[i]?=some (.cells (du d++rest)))(hr:aL H.length T.length rest) :
  al Tryz.prog 177 [.cO i 0 N,.int .i64 (a:Nat),.int .i64 (m:Nat),.int .i64 (b:Nat),.fn g [] []] H T (p9 i rest H T (fun d'=>Sx d d' a b∧Od d' a b)):=by
 have cW:=(List.getElem?_eq_some_iff.1 hi).1;have kL:=pn hi;have E6:∀h:i<H.length,H[i]'h=.cells (du d++rest):=fun h=>by rw[List.getElem?_eq_getElem h] at hi;exact Option.some.inj hi
 have Pq:bM H T→∀d2,bM (H.set i (.cells (du d2++rest))) T:=fun HO k=>HO.set (by simp[hr]);have bm:(((m:Int)-a)==1)=true:=by rw[beq_iff_eq];omega
 have Oc:((m:Int)-a)=1:=by omega
 have fS:=fun(x y:GE)=>hg.at x y H T;refine aj 25 [] Tryz.ntmps177 Tryz.func177 rfl (fun _ _=>Tryz.call177 _ _) (by simp) (fun HO=>?_);have pO:=Pq HO;refine af fun K1 aO=>?_;refine ae fun K hK=>?_;simp(disch:=omega)[bm,Oc];apply hK;clear hK K;refine aP rfl (fun h=>?_) (fun h=>absurd h (by simp[Oc]));apply ae;intro K h;simp(disch:=omega);apply h;clear h K;apply ae;intro K h;simp(disch:=omega);apply h;clear h K;refine af fun K2 aY=>?_;apply ai;refine aK (X:=Nat×Nat) (fun x=>⟨[(0,.cO i 0 N),(1,.int .i64 (a:Nat)),(2,.int .i64 (m:Nat)),(3,.int .i64 (b:Nat)),(4,.fn g [] []),(10,.int .i64 (x.1:Nat)),(11,.int .i64 (x.2:Nat))],H,T⟩)
  (fun x=>m≤x.1∧x.1≤x.2∧x.2≤b∧(∀t,m≤t→t<x.1→(ky (d.getD a ze))<(ky (d.getD t ze)))∧∀t,x.2≤t→t<b→(ky (d.getD t ze))≤(ky (d.getD a ze))) (fun x=>x.2-x.1) (m,b) ?_ ?_ ?_
 ·exact⟨le_refl _,by simp only;omega,le_refl _,fun t t1 t2=>by simp only at t2;omega,fun t t1 t2=>by simp only at t1;omega⟩
 ·refine ag [] [] ?_ ?_ ?_ ?_ HO ?_
  all_goals simp[cW]
 ·rintro⟨lo,eE⟩ ⟨g1,g2,g3,g4,g5⟩;simp only at g1 g2 g3 g4 g5;refine af fun K3 bA=>?_;apply ae;intro K h;simp(disch:=omega);apply h;clear h K;refine aP rfl (fun hk=>?_) (fun hk=>?_)
  ·simp  at hk;apply ak;simp(disch:=omega) ;apply bA;clear bA;apply ai;apply ae;intro K h;simp(disch:=omega);apply h;clear h K;rw[show ((lo:Int)+eE) / 2=(((lo+eE) / 2:Nat):Int) by omega];have ku:lo≤(lo+eE) / 2:=by omega
   have bh:(lo+eE) / 2<eE:=by omega
   generalize (lo+eE) / 2=c at *;have qY:=gZ (d:=d) (k:=c) rest (by omega);have lZ:=gZ (d:=d) (k:=a) rest (by omega);obtain⟨q,cc,mR⟩:=fS (d.getD c ze) (d.getD a ze)
   by_cases hq:q<0
   ·have bq:decide (q<0)=true:=decide_eq_true hq;refine aM [] [] [] au (by kernel_rfl) (by kernel_rfl) fun K hK=>?_;simp(disch:=omega)[E6,qY,lZ,eX,hd];refine aB (cc) rfl ?_;simp(disch:=omega)[bq,hq];apply hK;clear hK K;apply aH rfl;refine ar fun K hK=>?_;simp(disch:=omega) ;apply hK;clear hK K;refine⟨(c+1,eE),⟨by simp only;omega,by simp only;omega,g3,fun t t1 t2=>?_,g5⟩,by show eE-(c+1)<eE-lo;omega,?_⟩
    ·have:=pH.r.ge t1 (by simp only at t2;omega:t≤c) (by omega);have:=mR.1 hq;omega
    ·refine ag [] [] ?_ ?_ ?_ ?_ HO ?_
     all_goals simp[cW]
   ·have bq:decide (q<0)=false:=decide_eq_false hq;refine aM [] [] [] au (by kernel_rfl) (by kernel_rfl) fun K hK=>?_;simp(disch:=omega)[E6,qY,lZ,eX,hd];refine aB (cc) rfl ?_;simp(disch:=omega)[bq,hq];apply hK;clear hK K;apply aC rfl;refine ar fun K hK=>?_;simp(disch:=omega) ;apply hK;clear hK K;refine⟨(lo,c),⟨g1,ku,by simp only;omega,g4,fun t t1 t2=>?_⟩,by show c-lo<eE-lo;omega,?_⟩
    ·have e1:=pH.r.ge (by omega:m≤c) t1 t2;have e2:¬(ky (d.getD a ze))<(ky (d.getD c ze)):=fun e=>hq (mR.2 e);omega
    ·refine ag [] [] ?_ ?_ ?_ ?_ HO ?_
     all_goals simp[cW]
  ·simp  at hk;have e:eE=lo:=by omega
   subst e;apply aD;simp(disch:=omega) ;apply aY;clear aY;refine af fun K2 aY=>?_;apply ae;intro K h;simp(disch:=omega);apply h;clear h K;apply ai;refine aK (X:=List GE×Nat) (fun x=>⟨[(0,.cO i 0 N),(10,.int .i64 (eE:Nat)),(13,.int .i64 (x.2:Nat))],H.set i (.cells (du x.1++rest)),T⟩)
    (fun x=>a≤x.2∧x.2+1≤eE∧x.1.Perm d∧H8 d x.1 a x.2) (fun x=>eE-x.2) (d,a) ?_ ?_ ?_
   ·exact⟨le_refl _,by simp only;omega,.refl _,H8.zero _ _⟩
   ·refine ag [] [] ?_ ?_ ?_ ?_ (pO d) ?_
    all_goals simp[cW,kL]
   ·rintro⟨d2,k⟩ ⟨k1,k2,k3,k4⟩;simp only at k1 k2 k3 k4;have jQ:=k3.length_eq;refine af fun K3 bA=>?_
    by_cases ko:k+1<eE
    ·have bk:decide ((k:Int)<(eE:Int)-1)=true:=decide_eq_true (by omega);have Fl:(k:Int)<(eE:Int)-1:=by omega
     have qY:=gZ (d:=d2) (k:=k) rest (by omega);have lZ:=gZ (d:=d2) (k:=k+1) rest (by omega);have RV:=xK d2 k (k+1) rest (by omega) (by omega);refine ae fun K hK=>?_;simp(disch:=omega)[bk,Fl];apply hK;clear hK K;apply aH rfl;apply ak;simp(disch:=omega) ;apply bA;clear bA;refine af fun K4 ec=>?_;apply ai;refine cE [15,17] [0,0,0,0,0,0,0,0,0,0,0,0,0,0,0,0,1,1] [[2,3,4],[]] au (by kernel_rfl) (by kernel_rfl) fun K hK=>?_;simp(disch:=omega)[qY,lZ,eX,jQ,hd,cW];rw[RV];apply hK;clear hK K;apply ec;clear ec;refine ar fun K hK=>?_;simp(disch:=omega) ;apply hK;clear hK K;refine⟨(swp d2 k (k+1),k+1),⟨by simp only;omega,by simp only;omega,(qt (by omega) (by omega)).trans k3,k4.step k1 (by omega)⟩,by show eE-(k+1)<eE-k;omega,?_⟩;refine ag [] [] ?_ ?_ ?_ ?_ (pO _) ?_
     all_goals simp[cW]
    ·have bk:decide ((k:Int)<(eE:Int)-1)=false:=decide_eq_false (by omega);have Fl:¬(k:Int)<(eE:Int)-1:=by omega
     have e:eE=k+1:=by omega
     subst e;refine ae fun K hK=>?_;simp(disch:=omega)[bk,Fl];apply hK;clear hK K;apply aC rfl;apply aD;simp(disch:=omega) ;apply aY;clear aY;apply an;simp(disch:=omega) ;refine⟨rfl,rfl,d2,rfl,(k4.HP k1 k3).wide (le_refl _) (by omega),?_⟩;subst Lv;exact k4.sorted k1 (by omega) pH g4 g5
attribute [-simp] getD_eq_getElem?_getD in
theorem GS {g:Nat}(hg:s9 g)(N:Nat)(hN:N≤1000)(d:List GE)(rest:List AV)(a m b i:Nat)(Lv:a<m)(hma:m≠a+1)(Ln:b=m+1)(o7:b≤N)(hd:d.length=N)(pH:MP d a m b)(H:List aG)(T:ay)(hi:H[i]?=some (.cells (du d++rest)))(hr:aL H.length T.length rest) :
  al Tryz.prog 177 [.cO i 0 N,.int .i64 (a:Nat),.int .i64 (m:Nat),.int .i64 (b:Nat),.fn g [] []] H T (p9 i rest H T (fun d'=>Sx d d' a b∧Od d' a b)):=by
 have cW:=(List.getElem?_eq_some_iff.1 hi).1;have kL:=pn hi;have E6:∀h:i<H.length,H[i]'h=.cells (du d++rest):=fun h=>by rw[List.getElem?_eq_getElem h] at hi;exact Option.some.inj hi
 have Pq:bM H T→∀d2,bM (H.set i (.cells (du d2++rest))) T:=fun HO k=>HO.set (by simp[hr]);have bm:(((m:Int)-a)==1)=false:=by rw[beq_eq_false_iff_ne];omega
 have Oc:¬((m:Int)-a)=1:=by omega
 have bb:(((b:Int)-m)==1)=true:=by rw[beq_iff_eq];omega
 have SO:((b:Int)-m)=1:=by omega
 have fS:=fun(x y:GE)=>hg.at x y H T;refine aj 25 [] Tryz.ntmps177 Tryz.func177 rfl (fun _ _=>Tryz.call177 _ _) (by simp) (fun HO=>?_);have pO:=Pq HO;refine af fun K1 aO=>?_;refine ae fun K hK=>?_;simp(disch:=omega)[bm,Oc];apply hK;clear hK K;refine aP rfl (fun h=>absurd h (by simp[Oc])) (fun h=>?_);apply ak;simp(disch:=omega) ;apply aO;clear aO;refine af fun K1 aO=>?_;refine ae fun K hK=>?_;simp(disch:=omega)[bb,SO];apply hK;clear hK K;refine aP rfl (fun h=>?_) (fun h=>absurd h (by simp[SO]));apply ae;intro K h;simp(disch:=omega);apply h;clear h K;apply ae;intro K h;simp(disch:=omega);apply h;clear h K;refine af fun K2 aY=>?_;apply ai;refine aK (X:=Nat×Nat) (fun x=>⟨[(0,.cO i 0 N),(1,.int .i64 (a:Nat)),(2,.int .i64 (m:Nat)),(3,.int .i64 (b:Nat)),(4,.fn g [] []),(14,.int .i64 (x.1:Nat)),(15,.int .i64 (x.2:Nat))],H,T⟩)
  (fun x=>a≤x.1∧x.1≤x.2∧x.2≤m∧(∀t,a≤t→t<x.1→(ky (d.getD m ze))≤(ky (d.getD t ze)))∧∀t,x.2≤t→t<m→(ky (d.getD t ze))<(ky (d.getD m ze))) (fun x=>x.2-x.1) (a,m) ?_ ?_ ?_
 ·exact⟨le_refl _,by simp only;omega,le_refl _,fun t t1 t2=>by simp only at t2;omega,fun t t1 t2=>by simp only at t1;omega⟩
 ·refine ag [] [] ?_ ?_ ?_ ?_ HO ?_
  all_goals simp[cW]
 ·rintro⟨lo,eE⟩ ⟨g1,g2,g3,g4,g5⟩;simp only at g1 g2 g3 g4 g5;refine af fun K3 bA=>?_;apply ae;intro K h;simp(disch:=omega);apply h;clear h K;refine aP rfl (fun hk=>?_) (fun hk=>?_)
  ·simp  at hk;apply ak;simp(disch:=omega) ;apply bA;clear bA;apply ai;apply ae;intro K h;simp(disch:=omega);apply h;clear h K;rw[show ((lo:Int)+eE) / 2=(((lo+eE) / 2:Nat):Int) by omega];have ku:lo≤(lo+eE) / 2:=by omega
   have bh:(lo+eE) / 2<eE:=by omega
   generalize (lo+eE) / 2=c at *;have qY:=gZ (d:=d) (k:=m) rest (by omega);have lZ:=gZ (d:=d) (k:=c) rest (by omega);obtain⟨q,cc,mR⟩:=fS (d.getD m ze) (d.getD c ze)
   by_cases hq:q<0
   ·have bq:decide (q<0)=true:=decide_eq_true hq;refine aM [] [] [] au (by kernel_rfl) (by kernel_rfl) fun K hK=>?_;simp(disch:=omega)[E6,qY,lZ,eX,hd];refine aB (cc) rfl ?_;simp(disch:=omega)[bq,hq];apply hK;clear hK K;apply aC rfl;refine ar fun K hK=>?_;simp(disch:=omega) ;apply hK;clear hK K;refine⟨(lo,c),⟨g1,ku,by simp only;omega,g4,fun t t1 t2=>?_⟩,by show c-lo<eE-lo;omega,?_⟩
    ·have e1:=pH.l.ge (by omega:a≤c) t1 t2;have e2:=mR.1 hq;omega
    ·refine ag [] [] ?_ ?_ ?_ ?_ HO ?_
     all_goals simp[cW]
   ·have bq:decide (q<0)=false:=decide_eq_false hq;refine aM [] [] [] au (by kernel_rfl) (by kernel_rfl) fun K hK=>?_;simp(disch:=omega)[E6,qY,lZ,eX,hd];refine aB (cc) rfl ?_;simp(disch:=omega)[bq,hq];apply hK;clear hK K;apply aH rfl;refine ar fun K hK=>?_;simp(disch:=omega) ;apply hK;clear hK K;refine⟨(c+1,eE),⟨by simp only;omega,by simp only;omega,g3,fun t t1 t2=>?_,g5⟩,by show eE-(c+1)<eE-lo;omega,?_⟩
    ·have e1:=pH.l.ge t1 (by simp only at t2;omega:t≤c) (by omega);have e2:¬(ky (d.getD c ze))<(ky (d.getD m ze)):=fun e=>hq (mR.2 e);omega
    ·refine ag [] [] ?_ ?_ ?_ ?_ HO ?_
     all_goals simp[cW]
  ·simp  at hk;have e:eE=lo:=by omega
   subst e;apply aD;simp(disch:=omega) ;apply aY;clear aY;refine af fun K2 aY=>?_;apply ae;intro K h;simp(disch:=omega);apply h;clear h K;apply ai;refine aK (X:=List GE×Nat) (fun x=>⟨[(0,.cO i 0 N),(14,.int .i64 (eE:Nat)),(17,.int .i64 (x.2:Nat))],H.set i (.cells (du x.1++rest)),T⟩)
    (fun x=>eE≤x.2∧x.2≤m∧x.1.Perm d∧Fp d x.1 x.2 m) (fun x=>x.2) (d,m) ?_ ?_ ?_
   ·exact⟨by simp only;omega,le_refl _,.refl _,Fp.zero _ _⟩
   ·refine ag [] [] ?_ ?_ ?_ ?_ (pO d) ?_
    all_goals simp[cW,kL]
   ·rintro⟨d2,k⟩ ⟨k1,k2,k3,k4⟩;simp only at k1 k2 k3 k4;have jQ:=k3.length_eq;refine af fun K3 bA=>?_
    by_cases ko:eE<k
    ·have bk:decide ((eE:Int)<k)=true:=decide_eq_true (by omega);have qY:=gZ (d:=d2) (k:=k-1) rest (by omega);have lZ:=gZ (d:=d2) (k:=k) rest (by omega);have RV:=xK d2 k (k-1) rest (by omega) (by omega);have ej:((k:Int)-1)=((k-1:Nat):Int):=by omega
     refine ae fun K hK=>?_;simp(disch:=omega)[bk,ko];apply hK;clear hK K;apply aH rfl;apply ak;simp(disch:=omega) ;apply bA;clear bA;refine af fun K4 ec=>?_;apply ai;refine cE [15,17] [0,0,0,0,0,0,0,0,0,0,0,0,0,0,0,0,1,1] [[2,3,4],[]] au (by kernel_rfl) (by kernel_rfl) fun K hK=>?_;simp(disch:=omega)[ej,qY,lZ,eX,jQ,hd,cW];rw[RV];apply hK;clear hK K;apply ec;clear ec;refine ar fun K hK=>?_;simp(disch:=omega)[ej];apply hK;clear hK K;refine⟨(swp d2 k (k-1),k-1),⟨by simp only;omega,by simp only;omega,(qt (by omega) (by omega)).trans k3,k4.step (by omega) k2 (by omega)⟩,by show k-1<k;omega,?_⟩;refine ag [] [] ?_ ?_ ?_ ?_ (pO _) ?_
     all_goals simp[cW]
    ·have bk:decide ((eE:Int)<k)=false:=decide_eq_false (by omega);have e:eE=k:=by omega
     subst e;refine ae fun K hK=>?_;simp(disch:=omega)[bk,ko];apply hK;clear hK K;apply aC rfl;apply aD;simp(disch:=omega) ;apply aY;clear aY;apply an;simp(disch:=omega) ;subst Ln;exact⟨rfl,rfl,d2,rfl,(k4.HP k2 k3).wide g1 (le_refl _),k4.sorted g1 k2 pH.l (fun t t1 t2=>pH.w t m t1 t2 (le_refl _) (by omega)) g4 g5⟩
attribute [-simp] getD_eq_getElem?_getD in
theorem GR {g:Nat}(hg:s9 g)(n N:Nat)(hN:N≤1000)(ih:ER g n N)(d:List GE)(rest:List AV)(a m b i:Nat)(hn:b-a≤n+1)(Lv:a<m)(hma:m≠a+1)(Ln:m<b)(acp:b≠m+1)(o7:b≤N)(hd:d.length=N)(pH:MP d a m b)(H:List aG)(T:ay)(hi:H[i]?=some (.cells (du d++rest)))(hr:aL H.length T.length rest) :
  al Tryz.prog 177 [.cO i 0 N,.int .i64 (a:Nat),.int .i64 (m:Nat),.int .i64 (b:Nat),.fn g [] []] H T (p9 i rest H T (fun d'=>Sx d d' a b∧Od d' a b)):=by
 have cW:=(List.getElem?_eq_some_iff.1 hi).1;have kL:=pn hi;have E6:∀h:i<H.length,H[i]'h=.cells (du d++rest):=fun h=>by rw[List.getElem?_eq_getElem h] at hi;exact Option.some.inj hi
 have Pq:bM H T→∀d2,bM (H.set i (.cells (du d2++rest))) T:=fun HO k=>HO.set (by simp[hr]);have bm:(((m:Int)-a)==1)=false:=by rw[beq_eq_false_iff_ne];omega
 have Oc:¬((m:Int)-a)=1:=by omega
 have bb:(((b:Int)-m)==1)=false:=by rw[beq_eq_false_iff_ne];omega
 have SO:¬((b:Int)-m)=1:=by omega
 have fS:=fun(x y:GE)=>hg.at x y H T;refine aj 25 [] Tryz.ntmps177 Tryz.func177 rfl (fun _ _=>Tryz.call177 _ _) (by simp) (fun HO=>?_);have pO:=Pq HO;refine af fun K1 aO=>?_;refine ae fun K hK=>?_;simp(disch:=omega)[bm,Oc];apply hK;clear hK K;refine aP rfl (fun h=>absurd h (by simp[Oc])) (fun h=>?_);apply ak;simp(disch:=omega) ;apply aO;clear aO;refine af fun K1 aO=>?_;refine ae fun K hK=>?_;simp(disch:=omega)[bb,SO];apply hK;clear hK K;refine aP rfl (fun h=>absurd h (by simp[SO])) (fun h=>?_);apply ak;simp(disch:=omega) ;apply aO;clear aO;apply ae;intro K h;simp(disch:=omega);apply h;clear h K;rw[show ((a:Int)+b) / 2=(((a+b) / 2:Nat):Int) by omega];obtain⟨mid,PT⟩:∃mid,mid=(a+b) / 2:=⟨_,rfl⟩
 rw[←PT];apply ae;intro K h;simp(disch:=omega);apply h;clear h K;apply ae;intro K h;simp(disch:=omega);apply h;clear h K;refine af fun K1 aO=>?_;have key:∀(s0 r0:Nat) e,((m≤mid∧s0=a∧r0=m)∨(mid<m∧s0=mid+m-b∧r0=mid))→b9 H.length T.length e [(0,.cO i 0 N),(1,.int .i64 (a:Nat)),(2,.int .i64 (m:Nat)),(3,.int .i64 (b:Nat)),(4,.fn g [] []),(18,.int .i64 (mid:Nat)),(19,.int .i64 ((mid:Int)+m)),(20,.int .i64 (s0:Nat)),(21,.int .i64 (r0:Nat))]→K1 ⟨e,H,T⟩:=by
  intro s0 r0 e hs he;refine aO _ (aQ ⟨[(0,.cO i 0 N),(1,.int .i64 (a:Nat)),(2,.int .i64 (m:Nat)),(3,.int .i64 (b:Nat)),(4,.fn g [] []),(18,.int .i64 (mid:Nat)),(19,.int .i64 ((mid:Int)+m)),(20,.int .i64 (s0:Nat)),(21,.int .i64 (r0:Nat))],H,T⟩ (ag [] [] (by simp) (by simp) (by simp) (by simp) HO he) ?_);apply ae;intro K h;simp(disch:=omega);apply h;clear h K;refine af fun K2 aY=>?_;apply ai;refine aK (X:=Nat×Nat) (fun x=>⟨[(0,.cO i 0 N),(1,.int .i64 (a:Nat)),(2,.int .i64 (m:Nat)),(3,.int .i64 (b:Nat)),(4,.fn g [] []),(18,.int .i64 (mid:Nat)),(19,.int .i64 ((mid:Int)+m)),(20,.int .i64 (x.1:Nat)),(21,.int .i64 (x.2:Nat)),(22,.int .i64 ((mid:Int)+m-1))],H,T⟩)
   (fun x=>s0≤x.1∧x.1≤x.2∧x.2≤r0∧(∀c,s0≤c→c<x.1→(ky (d.getD (mid+m-1-c) ze))≤(ky (d.getD c ze)))∧∀c,x.2≤c→c<r0→(ky (d.getD c ze))<(ky (d.getD (mid+m-1-c) ze))) (fun x=>x.2-x.1) (s0,r0) ?_ ?_ ?_
  ·exact⟨le_refl _,by simp only;omega,le_refl _,fun t t1 t2=>by simp only at t2;omega,fun t t1 t2=>by simp only at t1;omega⟩
  ·refine ag [] [] ?_ ?_ ?_ ?_ HO ?_
   all_goals simp[cW]
  ·rintro⟨lo,eE⟩ ⟨g1,g2,g3,g4,g5⟩;simp only at g1 g2 g3 g4 g5;refine af fun K3 bA=>?_;apply ae;intro K h;simp(disch:=omega);apply h;clear h K;refine aP rfl (fun hk=>?_) (fun hk=>?_)
   ·simp  at hk;apply ak;simp(disch:=omega) ;apply bA;clear bA;apply ai;apply ae;intro K h;simp(disch:=omega);apply h;clear h K;rw[show ((lo:Int)+eE) / 2=(((lo+eE) / 2:Nat):Int) by omega];have ku:lo≤(lo+eE) / 2:=by omega
    have bh:(lo+eE) / 2<eE:=by omega
    generalize (lo+eE) / 2=c at *;have ep:((mid:Int)+m-1-c)=((mid+m-1-c:Nat):Int):=by omega
    have pl:m≤mid+m-1-c:=by omega
    have pb:mid+m-1-c<b:=by omega
    have ca:a≤c:=by omega
    have cm:c<m:=by omega
    have qY:=gZ (d:=d) (k:=mid+m-1-c) rest (by omega);have lZ:=gZ (d:=d) (k:=c) rest (by omega);obtain⟨q,cc,mR⟩:=fS (d.getD (mid+m-1-c) ze) (d.getD c ze)
    by_cases hq:q<0
    ·have bq:decide (q<0)=true:=decide_eq_true hq;refine aM [] [] [] au (by kernel_rfl) (by kernel_rfl) fun K hK=>?_;simp(disch:=omega)[E6,ep,qY,lZ,eX,hd];refine aB (cc) rfl ?_;simp(disch:=omega)[bq,hq];apply hK;clear hK K;apply aC rfl;refine ar fun K hK=>?_;simp(disch:=omega) ;apply hK;clear hK K;refine⟨(lo,c),⟨g1,ku,by simp only;omega,g4,fun t t1 t2=>?_⟩,by show c-lo<eE-lo;omega,?_⟩
     ·have e1:=pH.l.ge ca t1 (by omega);have e3:=pH.r.ge (by omega:m≤mid+m-1-t) (by simp only at t1;omega:mid+m-1-t≤mid+m-1-c) pb;have e2:=mR.1 hq;omega
     ·refine ag [] [] ?_ ?_ ?_ ?_ HO ?_
      all_goals simp[cW]
    ·have bq:decide (q<0)=false:=decide_eq_false hq;refine aM [] [] [] au (by kernel_rfl) (by kernel_rfl) fun K hK=>?_;simp(disch:=omega)[E6,ep,qY,lZ,eX,hd];refine aB (cc) rfl ?_;simp(disch:=omega)[bq,hq];apply hK;clear hK K;apply aH rfl;refine ar fun K hK=>?_;simp(disch:=omega) ;apply hK;clear hK K;refine⟨(c+1,eE),⟨by simp only;omega,by simp only;omega,g3,fun t t1 t2=>?_,g5⟩,by show eE-(c+1)<eE-lo;omega,?_⟩
     ·have e1:=pH.l.ge (by omega:a≤t) (by simp only at t2;omega:t≤c) cm;have e3:=pH.r.ge pl (by simp only at t2;omega:mid+m-1-c≤mid+m-1-t) (by omega);have e2:¬(ky (d.getD c ze))<(ky (d.getD (mid+m-1-c) ze)):=fun e=>hq (mR.2 e);omega
     ·refine ag [] [] ?_ ?_ ?_ ?_ HO ?_
      all_goals simp[cW]
   ·simp  at hk;have e:eE=lo:=by omega
    subst e;apply aD;simp(disch:=omega) ;apply aY;clear aY;apply ae;intro K h;simp(disch:=omega);apply h;clear h K;have dA:eE≤m:=by omega
    have Rb:m≤mid+m-eE:=by omega
    have bY:=fun r hp hr=>MJ (r:=r) (st:=eE) pH PT Lv Ln hs g1 g3 g4 g5 hp hr;rw[show ((mid:Int)+m-eE)=((mid+m-eE:Nat):Int) by omega];obtain⟨en,aaL⟩:∃en,en=mid+m-eE:=⟨_,rfl⟩
    rw[←aaL] at bY Rb ⊢;have aco:mid<b:=by omega
    have acz:a<mid:=by omega
    refine af fun K3 bA=>?_;have lu:∀r e,Cut d r a m b eE en mid→b9 H.length T.length e [(0,.cO i 0 N),(1,.int .i64 (a:Nat)),(3,.int .i64 (b:Nat)),(4,.fn g [] []),(18,.int .i64 (mid:Nat)),(20,.int .i64 (eE:Nat)),(24,.int .i64 (en:Nat))]→K3 ⟨e,H.set i (.cells (du r++rest)),T⟩:=by
     intro r e hc he;have hlr:r.length=N:=by rw[hc.perm.length_eq,hd]
     have q1:=hc.h1;have q2:=hc.h2;have q3:=hc.h3;have q4:=hc.h4;have q5:=hc.hm;refine bA _ (aQ ⟨[(0,.cO i 0 N),(1,.int .i64 (a:Nat)),(3,.int .i64 (b:Nat)),(4,.fn g [] []),(18,.int .i64 (mid:Nat)),(20,.int .i64 (eE:Nat)),(24,.int .i64 (en:Nat))],H.set i (.cells (du r++rest)),T⟩ (ag [] [] (by simp) (by simp) (by simp) (by simp) (pO r) (by simpa using he)) ?_);refine af fun K4 ec=>?_;have PF:∀r1 e,Sx r r1 a mid→Od r1 a mid→b9 H.length T.length e [(0,.cO i 0 N),(3,.int .i64 (b:Nat)),(4,.fn g [] []),(18,.int .i64 (mid:Nat)),(24,.int .i64 (en:Nat))]→K4 ⟨e,H.set i (.cells (du r1++rest)),T⟩:=by
      intro r1 e k1 k2 he;refine ec _ (aQ ⟨[(0,.cO i 0 N),(3,.int .i64 (b:Nat)),(4,.fn g [] []),(18,.int .i64 (mid:Nat)),(24,.int .i64 (en:Nat))],H.set i (.cells (du r1++rest)),T⟩ (ag [] [] (by simp) (by simp) (by simp) (by simp) (pO r1) (by simpa using he)) ?_)
      by_cases w1:mid<en
      ·have v1:decide ((mid:Int)<en)=true:=decide_eq_true (by omega)
       by_cases w2:en<b
       ·have v2:decide ((en:Int)<b)=true:=decide_eq_true (by omega);have c2:=ih r1 rest mid en b i (by omega) w1 w2 o7 (by rw[k1.len,hlr]) (hc.PD pH k1) (H.set i (.cells (du r1++rest))) T (getElem?_set_self cW) (by simpa using hr);refine ae fun K hK=>?_;simp(disch:=omega)[v1,v2,w1,w2];apply hK;clear hK K;refine aP rfl (fun h=>?_) (fun h=>absurd h (by simp[w1,w2]));refine ar fun K hK=>?_;simp(disch:=omega) ;refine⟨_,c2,?_⟩;rintro v H' T' ⟨rfl,rfl,r2,rfl,k3,k4⟩;simp(disch:=omega) ;apply hK;clear hK K;exact⟨rfl,rfl,r2,rfl,hc.done pH k1 k2 k3 k4⟩
       ·have v2:decide ((en:Int)<b)=false:=decide_eq_false (by omega);refine ae fun K hK=>?_;simp(disch:=omega)[v1,v2,w1,w2];apply hK;clear hK K;refine aP rfl (fun h=>absurd h (by simp[w2])) (fun h=>?_);apply ak;simp(disch:=omega) ;have e1:en=b:=by omega
        exact⟨rfl,rfl,r1,rfl,hc.done pH k1 k2 (Sx.refl _ _ _) (by have:=(hc.PD pH k1).l;rw[e1] at this;exact this)⟩
      ·have v1:decide ((mid:Int)<en)=false:=decide_eq_false (by omega);refine ae fun K hK=>?_;simp(disch:=omega)[v1,w1];apply hK;clear hK K;refine aP rfl (fun h=>absurd h (by simp[w1])) (fun h=>?_);apply ak;simp(disch:=omega) ;have e1:mid=en:=by omega
       exact⟨rfl,rfl,r1,rfl,hc.done pH k1 k2 (Sx.refl _ _ _) (by have:=(hc.PD pH k1).r;rw[←e1] at this;exact this)⟩
     clear ec
     by_cases w1:a<eE
     ·have v1:decide ((a:Int)<eE)=true:=decide_eq_true (by omega)
      by_cases w2:eE<mid
      ·have v2:decide ((eE:Int)<mid)=true:=decide_eq_true (by omega);have c2:=ih r rest a eE mid i (by omega) w1 w2 (by omega) hlr (hc.Zq pH) (H.set i (.cells (du r++rest))) T (getElem?_set_self cW) (by simpa using hr);refine ae fun K hK=>?_;simp(disch:=omega)[v1,v2,w1,w2];apply hK;clear hK K;refine aP rfl (fun h=>?_) (fun h=>absurd h (by simp[w1,w2]));refine ar fun K hK=>?_;simp(disch:=omega) ;refine⟨_,c2,?_⟩;rintro v H' T' ⟨rfl,rfl,r1,rfl,k3,k4⟩;simp(disch:=omega) ;apply hK;clear hK K;refine PF r1 _ k3 k4 ?_;simp[cW]
      ·have v2:decide ((eE:Int)<mid)=false:=decide_eq_false (by omega);refine ae fun K hK=>?_;simp(disch:=omega)[v1,v2,w1,w2];apply hK;clear hK K;refine aP rfl (fun h=>absurd h (by simp[w2])) (fun h=>?_);apply ak;simp(disch:=omega) ;have e1:eE=mid:=by omega
       refine PF r _ (Sx.refl _ _ _) (by have:=(hc.Zq pH).l;rw[e1] at this;exact this) ?_;simp[cW]
     ·have v1:decide ((a:Int)<eE)=false:=decide_eq_false (by omega);refine ae fun K hK=>?_;simp(disch:=omega)[v1,w1];apply hK;clear hK K;refine aP rfl (fun h=>absurd h (by simp[w1])) (fun h=>?_);apply ak;simp(disch:=omega) ;have e1:a=eE:=by omega
      refine PF r _ (Sx.refl _ _ _) (by have:=(hc.Zq pH).r;rw[←e1] at this;exact this) ?_;simp[cW]
    clear bA
    by_cases w1:eE<m
    ·have v1:decide ((eE:Int)<m)=true:=decide_eq_true (by omega)
     by_cases w2:m<en
     ·have v2:decide ((m:Int)<en)=true:=decide_eq_true (by omega);have c2:=Gr hg d rest eE m en i w1 w2 (by omega) (by omega) H T hi hr;rw[hd] at c2;refine ae fun K hK=>?_;simp(disch:=omega)[v1,v2,w1,w2];apply hK;clear hK K;refine aP rfl (fun h=>?_) (fun h=>absurd h (by simp[w1,w2]));refine ar fun K hK=>?_;simp(disch:=omega) ;refine⟨_,c2,?_⟩;rintro v H' T' ⟨rfl,rfl,r1,rfl,k3,k4⟩;simp(disch:=omega) ;apply hK;clear hK K;refine lu r1 _ (bY r1 k3 k4) ?_;simp[cW]
     ·have v2:decide ((m:Int)<en)=false:=decide_eq_false (by omega);refine ae fun K hK=>?_;simp(disch:=omega)[v1,v2,w1,w2];apply hK;clear hK K;refine aP rfl (fun h=>absurd h (by simp[w2])) (fun h=>?_);apply ak;simp(disch:=omega) ;have:=lu d;rw[kL] at this;refine this _ (bY d (.refl _) (fun t=>(u7 dA Rb (.inr (by omega))).symm)) ?_;simp[cW]
    ·have v1:decide ((eE:Int)<m)=false:=decide_eq_false (by omega);refine ae fun K hK=>?_;simp(disch:=omega)[v1,w1];apply hK;clear hK K;refine aP rfl (fun h=>absurd h (by simp[w1])) (fun h=>?_);apply ak;simp(disch:=omega) ;have:=lu d;rw[kL] at this;refine this _ (bY d (.refl _) (fun t=>(u7 dA Rb (.inl (by omega))).symm)) ?_;simp[cW]
 clear aO
 by_cases R3:mid<m
 ·have bl:decide ((mid:Int)<m)=true:=decide_eq_true (by omega);have en:((mid:Int)+m-b)=((mid+m-b:Nat):Int):=by omega
  refine ae fun K hK=>?_;simp(disch:=omega)[bl,R3];apply hK;clear hK K;refine aP rfl (fun h=>?_) (fun h=>absurd h (by simp[R3]));apply ae;intro K h;simp(disch:=omega);apply h;clear h K;refine ar fun K hK=>?_;simp(disch:=omega) ;apply hK;clear hK K;refine key (mid+m-b) mid _ (.inr ⟨R3,rfl,rfl⟩) ?_;simp[cW,en]
 ·have bl:decide ((mid:Int)<m)=false:=decide_eq_false (by omega);refine ae fun K hK=>?_;simp(disch:=omega)[bl,R3];apply hK;clear hK K;refine aP rfl (fun h=>absurd h (by simp[R3])) (fun h=>?_);apply ae;intro K h;simp(disch:=omega);apply h;clear h K;refine ar fun K hK=>?_;simp(disch:=omega) ;apply hK;clear hK K;refine key a m _ (.inl ⟨by omega,rfl,rfl⟩) ?_;simp[cW]
theorem uO {g:Nat}(hg:s9 g)(N:Nat)(hN:N≤1000):∀n,ER g n N
 |0=>fun d rest a m b i hn Lv Ln=>by omega
 |n+1=>fun d rest a m b i hn Lv Ln o7 hd pH H T hi hr=>by
  by_cases h1:m=a+1
  ·exact GU hg N hN d rest a m b i h1 Ln o7 hd pH H T hi hr
  ·by_cases h2:b=m+1
   ·exact GS hg N hN d rest a m b i Lv h1 h2 o7 hd pH H T hi hr
   ·exact GR hg n N hN (uO hg N hN n) d rest a m b i hn Lv h1 Ln h2 o7 hd pH H T hi hr
end Go.Proofs.YtneohapkboaplaaGreat
namespace Fo
open Go.Proofs.YtneohapkboaplaaGreat
structure Bs (d d1:List GE)(N:Nat):Prop where
 HP:Sx d d1 0 N
 one:N≤20→Od d1 0 N
 two:20<N→MP d1 0 20 N
end Fo
namespace Go.Proofs.YtneohapkboaplaaGreat
open Go Go.Am eB Fo
attribute [-simp] getD_eq_getElem?_getD in
theorem F6 {g:Nat}(hg:s9 g)(N:Nat)(hN:N≤40)(d:List GE)(rest:List AV)(i:Nat)(hd:d.length=N)(hw:Wg d 0 N)(H:List aG)(T:ay)(hi:H[i]?=some (.cells (du d++rest)))(hr:aL H.length T.length rest) :
  al Tryz.prog 137 [.cO i 0 N,.int .i64 (N:Nat),.fn g [] []] H T (p9 i rest H T (fun d'=>Sx d d' 0 N∧Od d' 0 N)):=by
 have cW:=(List.getElem?_eq_some_iff.1 hi).1;have kL:=pn hi;have Pq:bM H T→∀d2,bM (H.set i (.cells (du d2++rest))) T:=fun HO k=>HO.set (by simp[hr]);refine aj 10 [] Tryz.ntmps137 Tryz.func137 rfl (fun _ _=>Tryz.call137 _ _) (by simp) (fun HO=>?_);have pO:=Pq HO;apply ae;intro K h;simp(disch:=omega);apply h;clear h K;apply ae;intro K h;simp(disch:=omega);apply h;clear h K;refine af fun K1 aO=>?_;apply ai;refine aK (X:=List GE×Nat) (fun x=>⟨[(0,.cO i 0 N),(1,.int .i64 (N:Nat)),(2,.fn g [] []),(6,.int .i64 20),(7,.int .i64 ((x.2*20:Nat):Int)),(8,.int .i64 ((x.2*20:Nat)+20:Int))],H.set i (.cells (du x.1++rest)),T⟩)
  (fun x=>x.2*20≤N∧x.1.Perm d∧(∀t,x.2*20≤t→x.1.getD t ze=d.getD t ze)∧(∀c,c<x.2→Od x.1 (c*20) (c*20+20))∧∀t,t<x.2*20→∃u,u / 20=t / 20∧x.1.getD t ze=d.getD u ze) (fun x=>N-x.2*20) (d,0) ?_ ?_ ?_
 ·exact⟨by simp only;omega,.refl _,fun _ _=>rfl,fun c hc=>by simp only at hc;omega,fun t ht=>by simp only at ht;omega⟩
 ·refine ag [] [] ?_ ?_ ?_ ?_ (pO d) ?_
  all_goals simp[cW,kL]
 ·rintro⟨d1,k⟩ ⟨g1,g2,g3,g4,g5⟩;simp only at g1 g2 g3 g4 g5;have mY:d1.length=N:=by rw[g2.length_eq,hd]
  obtain⟨a,ha⟩:∃a,a=k*20:=⟨_,rfl⟩
  rw[←ha] at g1 g3 g5;have ZC:Wg d1 a N:=fun p q p1 p2 p3=>by
   rw[g3 p p1,g3 q (by omega)];exact hw p q (by omega) p2 p3
  simp only[←ha];refine af fun K2 aY=>?_
  by_cases hk:a+20≤N
  ·have bk:decide ((a:Int)+20≤N)=true:=decide_eq_true (by omega);have Fl:((a:Int)+20≤N):=by omega
   have c:=wQ hg d1 rest a (a+20) i (by omega) (by omega) (by omega) (fun p q p1 p2 p3=>ZC p q p1 p2 (by omega)) (H.set i (.cells (du d1++rest))) T (getElem?_set_self cW) (by simpa using hr);rw[mY,show ((a+20:Nat):Int)=(a:Int)+20 by omega] at c;refine ae fun K hK=>?_;simp(disch:=omega)[bk,Fl];apply hK;clear hK K;refine aP rfl (fun h=>?_) (fun h=>absurd h (by simp[Fl]));apply ak;simp(disch:=omega) ;apply aY;clear aY;apply ai;refine ae fun K hK=>?_;simp(disch:=omega) ;refine⟨_,c,?_⟩;rintro v H' T' ⟨rfl,rfl,d2,rfl,k1,k2⟩;simp(disch:=omega) ;apply hK;clear hK K;apply ae;intro K h;simp(disch:=omega);apply h;clear h K;refine ar fun K hK=>?_;simp(disch:=omega) ;apply hK;clear hK K;refine⟨(d2,k+1),⟨by simp only;omega,k1.perm.trans g2,fun t ht=>?_,fun c hc=>?_,fun t ht=>?_⟩,by show N-(k+1)*20<N-a;omega,?_⟩
   ·simp only at ht;rw[k1.out t (by omega)];exact g3 t (by omega)
   ·simp only at hc;rcases lt_or_ge c k with e|e
    ·intro p q p1 p2 p3;rw[k1.out p (by omega),k1.out q (by omega)];exact g4 c e p q p1 p2 p3
    ·have:c=k:=by omega
     subst this;rw[←ha];exact k2
   ·simp only at ht;rcases lt_or_ge t a with e|e
    ·rw[k1.out t (by omega)];exact g5 t e
    ·obtain⟨u,u1,u2,u3⟩:=k1.N5 t e (by omega);exact⟨u,by omega,by rw[u3];exact g3 u u1⟩
   ·refine ag [] [] ?_ ?_ ?_ ?_ (pO d2) ?_
    all_goals simp[cW]
    all_goals omega
  ·have bk:decide ((a:Int)+20≤N)=false:=decide_eq_false (by omega);have Fl:¬((a:Int)+20≤N):=by omega
   have c:=wQ hg d1 rest a N i (by omega) (by omega) (by omega) ZC (H.set i (.cells (du d1++rest))) T (getElem?_set_self cW) (by simpa using hr);rw[mY] at c;refine ae fun K hK=>?_;simp(disch:=omega)[bk,Fl];apply hK;clear hK K;refine aP rfl (fun h=>absurd h (by simp[Fl])) (fun h=>?_);apply aD;simp(disch:=omega) ;apply aO;clear aO;refine ae fun K hK=>?_;simp(disch:=omega) ;refine⟨_,c,?_⟩;rintro v H' T' ⟨rfl,rfl,d2,rfl,k1,k2⟩;simp(disch:=omega) ;apply hK;clear hK K;have BX:Bs d d2 N:=by
    have E7:∀t,t<N→∃u,u / 20=t / 20∧u<N∧d2.getD t ze=d.getD u ze:=fun t ht=>by
     rcases lt_or_ge t a with e|e
     ·obtain⟨u,u1,u2⟩:=g5 t e;exact⟨u,u1,by omega,by rw[k1.out t (by omega)];exact u2⟩
     ·obtain⟨u,u1,u2,u3⟩:=k1.N5 t e ht;exact⟨u,by omega,u2,by rw[u3];exact g3 u u1⟩
    have hs:∀c,c<k→Od d2 (c*20) (c*20+20):=fun c e p q p1 p2 p3=>by
     rw[k1.out p (by omega),k1.out q (by omega)];exact g4 c e p q p1 p2 p3
    refine⟨⟨k1.perm.trans g2,fun t ht=>?_,fun t t1 t2=>?_⟩,fun Pn=>?_,fun Pn=>⟨?_,?_,fun p q p1 p2 p3 p4=>?_⟩⟩
    ·rw[k1.out t (by omega)];exact g3 t (by omega)
    ·obtain⟨u,u1,u2,u3⟩:=E7 t t2;exact⟨u,by omega,u2,u3⟩
    ·rcases Nat.eq_zero_or_pos k with e|e
     ·subst e;have:a=0:=by omega
      rw[this] at k2;exact k2
     ·have E5:k=1:=by omega
      subst E5;have:N=20:=by omega
      subst this;exact hs 0 (by omega)
    ·exact hs 0 (by omega)
    ·rcases Nat.eq_or_lt_of_le (show 1≤k by omega) with e|e
     ·have:a=20:=by omega
      rw[this] at k2;exact k2
     ·have da:k=2:=by omega
      have:N=40:=by omega
      rw[this];exact hs 1 (by omega)
    ·obtain⟨u,u1,u2,u3⟩:=E7 p (by omega);obtain⟨v,v1,v2,v3⟩:=E7 q p4;rw[u3,v3];exact hw u v (by omega) (by omega) v2
   clear k1 k2 g2 g3 g4 g5 c ZC;apply ai;refine aK (X:=List GE×Nat) (fun x=>⟨[(0,.cO i 0 N),(1,.int .i64 (N:Nat)),(2,.fn g [] []),(6,.int .i64 (x.2:Nat))],H.set i (.cells (du x.1++rest)),T'⟩)
    (fun x=>(x.2=20∧x.1=d2)∨(x.2=40∧Sx d x.1 0 N∧Od x.1 0 N)) (fun x=>40-x.2) (d2,20) ?_ ?_ ?_
   ·exact .inl ⟨rfl,rfl⟩
   ·refine ag [] [] ?_ ?_ ?_ ?_ (pO d2) ?_
    all_goals simp[cW]
   ·rintro⟨d3,z⟩ hz;simp only at hz;refine af fun K2 aY=>?_;rcases hz with⟨rfl,rfl⟩|⟨rfl,z1,z2⟩
    ·by_cases Pn:20<N
     ·have Rq:decide ((20:Int)<N)=true:=decide_eq_true (by omega);have FG:(20:Int)<N:=by omega
      have pH:=BX.two Pn;have W4:d3.length=N:=by rw[BX.HP.len,hd]
      refine ae fun K hK=>?_;simp(disch:=omega)[Rq,FG];apply hK;clear hK K;refine aP rfl (fun h=>?_) (fun h=>absurd h (by simp[Pn]));apply ak;simp(disch:=omega) ;apply aY;clear aY;apply ai;apply ae;intro K h;simp(disch:=omega);apply h;clear h K;refine af fun K3 bA=>?_;apply ai;refine aK (X:=List GE×Nat) (fun x=>⟨[(0,.cO i 0 N),(1,.int .i64 (N:Nat)),(2,.fn g [] []),(6,.int .i64 20),(7,.int .i64 ((x.2*40:Nat):Int)),(8,.int .i64 (((x.2*40:Nat):Int)+40))],H.set i (.cells (du x.1++rest)),T'⟩)
       (fun x=>(x.2=0∧x.1=d3)∨(x.2=1∧N=40∧Sx d x.1 0 N∧Od x.1 0 N)) (fun x=>1-x.2) (d3,0) ?_ ?_ ?_
      ·exact .inl ⟨rfl,rfl⟩
      ·refine ag [] [] ?_ ?_ ?_ ?_ (pO d3) ?_
       all_goals simp[cW]
      ·rintro⟨d4,j⟩ hz;simp only at hz;refine af fun K4 ec=>?_;rcases hz with⟨rfl,rfl⟩|⟨rfl,z0,z1,z2⟩
       ·by_cases h40:N=40
        ·subst h40;have c:al Tryz.prog 177 [.cO i 0 40,.int .i64 0,.int .i64 20,.int .i64 40,.fn g [] []] (H.set i (.cells (du d4++rest))) T' (p9 i rest (H.set i (.cells (du d4++rest))) T' (fun d'=>Sx d4 d' 0 40∧Od d' 0 40)):=
          uO hg 40 (by decide) 40 d4 rest 0 20 40 i (by omega) (by omega) (by omega) (by omega) W4 pH (H.set i (.cells (du d4++rest))) T' (getElem?_set_self cW) (by simpa using hr)
         apply ae;intro K h;simp(disch:=omega);apply h;clear h K;apply aH rfl;apply ak;simp(disch:=omega) ;apply ec;clear ec;apply ai;refine ae fun K hK=>?_;simp(disch:=omega) ;refine⟨_,c,?_⟩;rintro v H' Xs ⟨rfl,rfl,d5,rfl,k1,k2⟩;simp(disch:=omega) ;apply hK;clear hK K;apply ae;intro K h;simp(disch:=omega);apply h;clear h K;refine ar fun K hK=>?_;simp(disch:=omega) ;apply hK;clear hK K;refine⟨(d5,1),.inr ⟨rfl,rfl,BX.HP.trans k1,k2⟩,by show 1-1<1-0;omega,?_⟩;refine ag [] [] ?_ ?_ ?_ ?_ (pO d5) ?_
         all_goals simp[cW]
        ·have b40:decide ((40:Int)≤N)=false:=decide_eq_false (by omega);have aa2:¬(40:Int)≤N:=by omega
         have c:al Tryz.prog 177 [.cO i 0 N,.int .i64 0,.int .i64 20,.int .i64 (N:Nat),.fn g [] []] (H.set i (.cells (du d4++rest))) T' (p9 i rest (H.set i (.cells (du d4++rest))) T' (fun d'=>Sx d4 d' 0 N∧Od d' 0 N)):=
          uO hg N (by omega) 40 d4 rest 0 20 N i (by omega) (by omega) Pn (by omega) W4 pH (H.set i (.cells (du d4++rest))) T' (getElem?_set_self cW) (by simpa using hr)
         refine ae fun K hK=>?_;simp(disch:=omega)[b40,aa2];apply hK;clear hK K;apply aC rfl;apply aD;simp(disch:=omega) ;apply bA;clear bA;refine af fun K4 ec=>?_;apply ae;intro K h;simp(disch:=omega);apply h;clear h K;refine ae fun K hK=>?_;simp(disch:=omega)[Rq,FG];apply hK;clear hK K;refine aP rfl (fun h=>?_) (fun h=>absurd h (by simp[Pn]));refine ar fun K hK=>?_;simp(disch:=omega) ;refine⟨_,c,?_⟩;rintro v H' Xs ⟨rfl,rfl,d5,rfl,k1,k2⟩;simp(disch:=omega) ;apply hK;clear hK K;apply ec;clear ec;refine ar fun K hK=>?_;simp(disch:=omega) ;apply hK;clear hK K;refine⟨(d5,40),.inr ⟨rfl,BX.HP.trans k1,k2⟩,by show 40-40<40-20;omega,?_⟩;refine ag [] [] ?_ ?_ ?_ ?_ (pO d5) ?_
         all_goals simp[cW]
       ·subst z0;apply ae;intro K h;simp(disch:=omega);apply h;clear h K;apply aC rfl;apply aD;simp(disch:=omega) ;apply bA;clear bA;refine af fun K4 ec=>?_;apply ae;intro K h;simp(disch:=omega);apply h;clear h K;apply ae;intro K h;simp(disch:=omega);apply h;clear h K;apply aC rfl;apply ak;simp(disch:=omega) ;apply ec;clear ec;refine ar fun K hK=>?_;simp(disch:=omega) ;apply hK;clear hK K;refine⟨(d4,40),.inr ⟨rfl,z1,z2⟩,by show 40-40<40-20;omega,?_⟩;refine ag [] [] ?_ ?_ ?_ ?_ (pO d4) ?_
        all_goals simp[cW]
     ·have Rq:decide ((20:Int)<N)=false:=decide_eq_false (by omega);have FG:¬(20:Int)<N:=by omega
      refine ae fun K hK=>?_;simp(disch:=omega)[Rq,FG];apply hK;clear hK K;refine aP rfl (fun h=>absurd h (by simp[Pn])) (fun h=>?_);apply aD;simp(disch:=omega) ;exact⟨rfl,rfl,d3,rfl,BX.HP,BX.one (by omega)⟩
    ·have Rq:decide ((40:Int)<N)=false:=decide_eq_false (by omega);have FG:¬(40:Int)<N:=by omega
     refine ae fun K hK=>?_;simp(disch:=omega)[Rq,FG];apply hK;clear hK K;apply aC rfl;apply aD;simp(disch:=omega) ;exact⟨rfl,rfl,d3,rfl,z1,z2⟩
end Go.Proofs.YtneohapkboaplaaGreat
