/- Exchanging ranges, rotating (slices' stable sort) on a box of documents. Insertion sort (slices' stable sort) on a box of documents. Merging two neighbouring ranges in their place (slices' stable sort): plain laws. Merging two neighbouring ranges in their place (slices' stable sort) on a box of documents. slices.SortStableFunc on a box of at most 40 documents.
  Conditions: lengths below 400 or 1000, as each theorem says. -/
import Derived.Test.YtoejlmpbebjemaaGreatGA
set_option linter.all false
set_option maxRecDepth 100000
set_option maxHeartbeats 8000000
namespace Sst
open Seg
abbrev GE:=Nat×Dc
def ky (x:GE):Int:=-x.2.id
def nlt (a b:Nat):Bool:=decide (a<b)
abbrev ze:GE:=(0,d0)
def swp (d:List GE)(i j:Nat):List GE:=(d.set i (d.getD j ze)).set j (d.getD i ze)
theorem swp_len (d:List GE)(i j:Nat):(swp d i j).length=d.length:=by simp[swp]
theorem swp_get {d:List GE}{i j:Nat}(hi:i<d.length)(hj:j<d.length)(t:Nat):(swp d i j).getD t ze=if t=j then d.getD i ze else if t=i then d.getD j ze else d.getD t ze:=by
 unfold swp;rw[List.getD_eq_getElem?_getD,List.getElem?_set]
 by_cases h1:t=j
 ·subst h1;rw[if_pos rfl,if_pos (by simpa using hj),if_pos rfl];rfl
 ·rw[if_neg (Ne.symm h1),if_neg h1,List.getElem?_set]
  by_cases h2:t=i
  ·subst h2;rw[if_pos rfl,if_pos hi,if_pos rfl];rfl
  ·rw[if_neg (Ne.symm h2),if_neg h2,List.getD_eq_getElem?_getD]
theorem swp_perm {d:List GE}{i j:Nat}(hi:i<d.length)(hj:j<d.length):(swp d i j).Perm d:=by
 have h:=(Array.swap_perm (xs:=d.toArray) (i:=i) (j:=j) (by simpa using hi) (by simpa using hj)).toList;have e:(d.toArray.swap i j (by simpa using hi) (by simpa using hj)).toList=swp d i j:=by
  simp[Array.swap,swp,hi,hj]
 rw[e] at h;exact h
def swapR (d:List GE)(a b:Nat):Nat→List GE
 |0=>d
 |k+1=>swp (swapR d a b k) (a+k) (b+k)
theorem swapR_len (d:List GE)(a b:Nat):∀k,(swapR d a b k).length=d.length
 |0=>rfl
 |k+1=>by rw[swapR,swp_len,swapR_len d a b k]
theorem swapR_perm (d:List GE)(a b:Nat):∀k,a+k≤b→b+k≤d.length→(swapR d a b k).Perm d
 |0,_,_=>.refl _
 |k+1,h1,h2=>by
  rw[swapR];exact(swp_perm (by rw[swapR_len];omega) (by rw[swapR_len];omega)).trans (swapR_perm d a b k (by omega) (by omega))
theorem swapR_get (d:List GE)(a b:Nat):∀k,a+k≤b→b+k≤d.length→∀t,(swapR d a b k).getD t ze=if a≤t∧t<a+k then d.getD (t-a+b) ze else if b≤t∧t<b+k then d.getD (t-b+a) ze else d.getD t ze
 |0,_,_,t=>by rw[if_neg (by omega),if_neg (by omega)];rfl
 |k+1,h1,h2,t=>by
  have ih:=swapR_get d a b k (by omega) (by omega);rw[swapR,swp_get (by rw[swapR_len];omega) (by rw[swapR_len];omega)]
  by_cases q1:t=b+k
  ·subst q1;rw[if_pos rfl,ih,if_neg (by omega),if_neg (by omega),if_neg (by omega),if_pos (by omega)]
   congr 1;omega
  ·rw[if_neg q1]
   by_cases q2:t=a+k
   ·subst q2;rw[if_pos rfl,ih,if_neg (by omega),if_neg (by omega),if_pos (by omega)]
    congr 1;omega
   ·rw[if_neg q2,ih]
    by_cases q3:a≤t∧t<a+k
    ·rw[if_pos q3,if_pos (by omega)]
    ·by_cases q4:b≤t∧t<b+k
     ·rw[if_neg q3,if_pos q4,if_neg (by omega),if_pos (by omega)]
     ·rw[if_neg q3,if_neg q4,if_neg (by omega),if_neg (by omega)]
def rotAt (d:List GE)(a m b t:Nat):GE:=if t<a∨b≤t then d.getD t ze else if t-a<b-m then d.getD (m+(t-a)) ze else d.getD (t-(b-m)) ze
theorem rotAt_out {d:List GE}{a m b t:Nat}(h:t<a∨b≤t):rotAt d a m b t=d.getD t ze:=by rw[rotAt,if_pos h]
theorem rotAt_lo {d:List GE}{a m b t:Nat}(h1:a≤t)(h2:t<b)(h3:t-a<b-m):rotAt d a m b t=d.getD (m+(t-a)) ze:=by rw[rotAt,if_neg (by omega),if_pos h3]
theorem rotAt_hi {d:List GE}{a m b t:Nat}(h1:a≤t)(h2:t<b)(h3:b-m≤t-a):rotAt d a m b t=d.getD (t-(b-m)) ze:=by rw[rotAt,if_neg (by omega),if_neg (by omega)]
end Sst
namespace Go.Proofs.YtoejlmpbebjemaaGreat
open Go Go.Am Seg Sst
def geAV (l:List GE):List AV:=l.flatMap fun e=>dcC e.2
theorem ge_rows:CellsK (fun e:GE=>dcC e.2) 3:=fun _=>rfl
theorem geAV_len (l:List GE):(geAV l).length=l.length*3:=rows_len ge_rows l
@[simp] theorem below_ge (n t:Nat) (l:List GE):BelowAll n t (geAV l):=rows_below (f:=fun e:GE=>dcC e.2) (fun x=>by simp) l
theorem geAV_map (l:List GE):geAV l=dcAV (l.map (·.2)):=by simp[geAV,dcAV,List.flatMap_map]
theorem ge_cut {d:List GE}{k:Nat}(rest:List AV)(h:k<d.length):((geAV d++rest).drop (k*3)).take 3=dcC (d.getD k ze).2:=by
 have hl:=geAV_len d;rw[List.drop_append_of_le_length (by omega),List.take_append_of_le_length (by simp;omega)];exact rows_cut ge_rows d k ze h
theorem ge_put:∀(d:List GE)(k:Nat)(rest:List AV)(e:GE),k<d.length→(((geAV d++rest).set (k*3) (.int .i64 e.2.id)).set (k*3+1) (.sl e.2.zs.length (znAV e.2.zs) .none)).set (k*3+2) (.sl e.2.ns.length (nmAV e.2.ns) .none)=geAV (d.set k e)++rest
 |[],k,_,_,h=>by simp at h
 |x::d,0,rest,e,_=>by simp[geAV]
 |x::d,k+1,rest,e,h=>by
  have ih:=ge_put d k rest e (by simpa using h);rw[show (k+1)*3=k*3+1+1+1 by omega];simp only[geAV,List.flatMap_cons,List.cons_append,List.nil_append,List.set_cons_succ,List.append_assoc] at ih ⊢;rw[ih]
theorem ge_swp (d:List GE)(i j:Nat)(rest:List AV)(hi:i<d.length)(hj:j<d.length) :
  ((((((geAV d++rest).set (i*3) (.int .i64 (d.getD j ze).2.id)).set (i*3+1) (.sl (d.getD j ze).2.zs.length (znAV (d.getD j ze).2.zs) .none)).set (i*3+2) (.sl (d.getD j ze).2.ns.length (nmAV (d.getD j ze).2.ns) .none)).set (j*3) (.int .i64 (d.getD i ze).2.id)).set (j*3+1) (.sl (d.getD i ze).2.zs.length (znAV (d.getD i ze).2.zs) .none)).set (j*3+2) (.sl (d.getD i ze).2.ns.length (nmAV (d.getD i ze).2.ns) .none)=geAV (swp d i j)++rest:=by
 rw[ge_put d i rest (d.getD j ze) hi,ge_put _ j rest (d.getD i ze) (by simpa using hj)];rfl
def CmpD (g:Nat):Prop:=∀(x y:Dc)(H:List Blk)(T:Toks),∃q:Int,ACall Tryz.prog g [.agg (dcC x),.agg (dcC y)] H T (Is (.int .i64 q) H T)∧(q<0↔x.id<y.id)
theorem CmpD.at {g:Nat}(h:CmpD g)(x y:GE)(H:List Blk)(T:Toks):∃q:Int,ACall Tryz.prog g [.agg (dcC x.2),.agg (dcC y.2)] H T (Is (.int .i64 q) H T)∧(q<0↔ky y<ky x):=by
 obtain⟨q,h1,h2⟩:=h x.2 y.2 H T;exact⟨q,h1,h2.trans (by unfold ky;omega)⟩
theorem set_id {H:List Blk}{i:Nat}{x:Blk}(hi:H[i]?=some x):H.set i x=H:=by
 apply List.ext_getElem?;intro j
 by_cases hj:i=j
 ·subst hj;rw[List.getElem?_set_self (List.getElem?_eq_some_iff.1 hi).1,hi]
 ·rw[List.getElem?_set_ne hj]
attribute [-simp] List.getD_eq_getElem?_getD in
theorem swapRange_ok {g:Nat}(hg:CmpD g)(d:List GE)(rest:List AV)(a b n i:Nat)(hab:a+n≤b)(hbl:b+n≤d.length)(hl:d.length≤1000)(H:List Blk)(T:Toks)(hi:H[i]?=some (.cells (geAV d++rest)))(hr:BelowAll H.length T.length rest) :
  ACall Tryz.prog 248 [.msl i 0 d.length,.int .i64 (a:Nat),.int .i64 (b:Nat),.int .i64 (n:Nat),.fn g [] []] H T (Is (.tup []) (H.set i (.cells (geAV (swapR d a b n)++rest))) T):=by
 have hil:=(List.getElem?_eq_some_iff.1 hi).1;have hset0:=set_id hi;refine acall_enter 11 [] Tryz.ntmps248 Tryz.func248 rfl (fun _ _=>Tryz.call248 _ _) (by simp) (fun HO=>?_);apply aw_reg;intro K h;simp(disch:=omega);apply h;clear h K;apply aw_block;have HO':∀k,HOk (H.set i (.cells (geAV (swapR d a b k)++rest))) T:=fun k=>HO.set (by simp[hr]);refine aw_loop (X:=Nat) (fun k=>⟨[(0,.msl i 0 d.length),(1,.int .i64 (a:Nat)),(2,.int .i64 (b:Nat)),(3,.int .i64 (n:Nat)),(10,.int .i64 (k:Nat))],H.set i (.cells (geAV (swapR d a b k)++rest)),T⟩)
  (fun k=>k≤n) (fun k=>n-k) 0 ?_ ?_ ?_
 ·exact Nat.zero_le _
 ·refine weak_to [] [] ?_ ?_ ?_ ?_ (HO' 0) ?_
  all_goals simp[swapR,hset0,hil]
 ·rintro k hk;refine aw_then fun K2 hK2=>?_;apply aw_reg;intro K h;simp(disch:=omega);apply h;clear h K;refine aw_if rfl (fun hk2=>?_) (fun hk2=>?_)
  ·simp  at hk2;have hln:=swapR_len d a b k;have hc1:=ge_cut (d:=swapR d a b k) (k:=b+k) rest (by omega);have hc2:=ge_cut (d:=swapR d a b k) (k:=a+k) rest (by omega);apply aw_skip;simp(disch:=omega) ;apply hK2;clear hK2;refine aw_then fun K3 hK3=>?_;apply aw_block;refine aw_draw0 [21,23] [0,0,0,0,0,0,0,0,0,0,0,0,0,0,0,0,0,0,0,0,0,0,1,1] [[4,5,6,7],[]] drawMixed (by kernel_rfl) (by kernel_rfl) fun K hK=>?_;simp(disch:=omega)[hc1,hc2,geAV_len,hln,hil];rw[ge_swp _ (a+k) (b+k) rest (by omega) (by omega)];apply hK;clear hK K;apply hK3;clear hK3;refine aw_reg0 fun K hK=>?_;simp(disch:=omega) ;apply hK;clear hK K;refine⟨k+1,by show k+1≤_;omega,by show n-(k+1)<n-k;omega,?_⟩;refine weak_to [] [] ?_ ?_ ?_ ?_ (HO' (k+1)) ?_
   all_goals simp[swapR,hil]
  ·simp at hk2;have e:k=n:=by omega
   subst e;apply aw_exit;simp(disch:=omega) ;exact⟨rfl,rfl,rfl⟩
def TurnQ (i:Nat)(rest:List AV)(H:List Blk)(T:Toks)(R:List GE→Prop):AV→List Blk→Toks→Prop:=fun r H' T'=>r=.tup []∧T'=T∧∃d',H'=H.set i (.cells (geAV d'++rest))∧R d'
def RotR (d:List GE)(a m b:Nat)(d':List GE):Prop:=d'.Perm d∧∀t,d'.getD t ze=rotAt d a m b t
attribute [-simp] List.getD_eq_getElem?_getD in
theorem rotate_ok {g:Nat}(hg:CmpD g)(d:List GE)(rest:List AV)(a m b i:Nat)(ham:a<m)(hmb:m<b)(hbl:b≤d.length)(hl:d.length≤1000)(H:List Blk)(T:Toks)(hi:H[i]?=some (.cells (geAV d++rest)))(hr:BelowAll H.length T.length rest) :
  ACall Tryz.prog 225 [.msl i 0 d.length,.int .i64 (a:Nat),.int .i64 (m:Nat),.int .i64 (b:Nat),.fn g [] []] H T (TurnQ i rest H T (RotR d a m b)):=by
 have hil:=(List.getElem?_eq_some_iff.1 hi).1;have hset0:=set_id hi;refine acall_enter 12 [] Tryz.ntmps225 Tryz.func225 rfl (fun _ _=>Tryz.call225 _ _) (by simp) (fun HO=>?_);apply aw_reg;intro K h;simp(disch:=omega);apply h;clear h K;apply aw_reg;intro K h;simp(disch:=omega);apply h;clear h K;refine aw_then fun K1 hK1=>?_;apply aw_block;have HO':∀d2,HOk (H.set i (.cells (geAV d2++rest))) T:=fun k=>HO.set (by simp[hr]);refine aw_loop (X:=List GE×Nat×Nat) (fun x=>⟨[(0,.msl i 0 d.length),(2,.int .i64 (m:Nat)),(4,.fn g [] []),(10,.int .i64 (x.2.1:Nat)),(11,.int .i64 (x.2.2:Nat))],H.set i (.cells (geAV x.1++rest)),T⟩)
  (fun x=>x.1.Perm d∧0<x.2.1∧0<x.2.2∧x.2.1≤m-a∧x.2.2≤b-m∧(∀t,t<m-x.2.1∨m+x.2.2≤t→x.1.getD t ze=rotAt d a m b t)∧∀t,m-x.2.1≤t→t<m+x.2.2→rotAt x.1 (m-x.2.1) m (m+x.2.2) t=rotAt d a m b t) (fun x=>x.2.1+x.2.2) (d,m-a,b-m) ?_ ?_ ?_
 ·refine⟨.refl _,by show 0<m-a;omega,by show 0<b-m;omega,Nat.le_refl _,Nat.le_refl _,fun t ht=>?_,fun t h1 h2=>?_⟩
  ·simp only at ht ⊢;rw[rotAt,if_pos (by omega)]
  ·simp only at h1 h2 ⊢;rw[show m-(m-a)=a by omega,show m+(b-m)=b by omega]
 ·refine weak_to [] [] ?_ ?_ ?_ ?_ (HO' d) ?_
  all_goals simp[hset0,hil]
  all_goals omega
 ·rintro⟨d2,p,q⟩ ⟨h0,h1,h2,h3,h4,h5,h6⟩;simp only at h0 h1 h2 h3 h4 h5 h6;have hl2:=h0.length_eq;have c:=fun(x y n:Nat) (hab:x+n≤y) (hbl:y+n≤d2.length)=>swapRange_ok hg d2 rest x y n i hab hbl (by omega) (H.set i (.cells (geAV d2++rest))) T (List.getElem?_set_self hil) (by simpa using hr);simp only[hl2,List.set_set] at c;refine aw_then fun K2 hK2=>?_
  by_cases hpq:p=q
  ·subst hpq;have bq:((p:Int)!=p)=false:=by simp
   have c1:=c (m-p) m p (by omega) (by omega);have hget:=swapR_get d2 (m-p) m p (by omega) (by omega);have hperm:=swapR_perm d2 (m-p) m p (by omega) (by omega);rw[show ((m-p:Nat):Int)=(m:Int)-p by omega] at c1;refine aw_reg fun K hK=>?_;simp(disch:=omega)[bq];apply hK;clear hK K;apply aw_iff rfl;apply aw_exit;simp(disch:=omega) ;apply hK1;clear hK1;refine aw_reg0 fun K hK=>?_;simp(disch:=omega) ;refine acall_is (c1) ?_;simp(disch:=omega) ;apply hK;clear hK K;refine⟨rfl,rfl,_,rfl,hperm.trans h0,fun t=>?_⟩
   by_cases q1:t<m-p∨m+p≤t
   ·rw[hget,if_neg (by omega),if_neg (by omega)];exact h5 t q1
   ·rw[←h6 t (by omega) (by omega),rotAt,if_neg q1,hget]
    by_cases q2:t-(m-p)<m+p-m
    ·rw[if_pos q2,if_pos (by omega)]
     congr 1;omega
    ·rw[if_neg q2,if_neg (by omega),if_pos (by omega)]
     congr 1;omega
  ·have bq:((p:Int)!=q)=true:=by rw[bne_iff_ne];omega
   have bq':¬(p:Int)=q:=by omega
   refine aw_reg fun K hK=>?_;simp(disch:=omega)[bq,bq'];apply hK;clear hK K;refine aw_if rfl (fun h=>?_) (fun h=>absurd h (by simp[hpq]));apply aw_skip;simp(disch:=omega) ;apply hK2;clear hK2;apply aw_block
   by_cases hlt:q<p
   ·have bl:decide ((q:Int)<p)=true:=decide_eq_true (by omega);have c1:=c (m-p) m q (by omega) (by omega);have hget:=swapR_get d2 (m-p) m q (by omega) (by omega);have hperm:=swapR_perm d2 (m-p) m q (by omega) (by omega);rw[show ((m-p:Nat):Int)=(m:Int)-p by omega] at c1;refine aw_reg fun K hK=>?_;simp(disch:=omega)[bl,hlt];apply hK;clear hK K;apply aw_ift rfl;refine aw_reg fun K hK=>?_;simp(disch:=omega) ;refine acall_is (c1) ?_;simp(disch:=omega) ;apply hK;clear hK K;refine aw_reg0 fun K hK=>?_;simp(disch:=omega) ;apply hK;clear hK K;refine⟨(swapR d2 (m-p) m q,p-q,q),⟨hperm.trans h0,by show 0<p-q;omega,h2,by show p-q≤m-a;omega,h4,fun t ht=>?_,fun t g1 g2=>?_⟩,by show p-q+q<p+q;omega,?_⟩
    ·simp only at ht ⊢;rw[hget]
     by_cases q1:t<m-p∨m+q≤t
     ·rw[if_neg (by omega),if_neg (by omega)];exact h5 t q1
     ·rw[←h6 t (by omega) (by omega),rotAt,if_neg q1,if_pos (by omega),if_pos (by omega)]
      congr 1;omega
    ·simp only at g1 g2 ⊢;rw[←h6 t (by omega) (by omega),rotAt_hi (d:=d2) (by omega) (by omega) (by omega)]
     by_cases q2:t-(m-(p-q))<m+q-m
     ·rw[rotAt_lo (by omega) (by omega) q2,hget,if_neg (by omega),if_pos (by omega)]
      congr 1;omega
     ·rw[rotAt_hi (by omega) (by omega) (by omega),hget,if_neg (by omega),if_neg (by omega)]
    ·refine weak_to [] [] ?_ ?_ ?_ ?_ (HO' _) ?_
     all_goals simp
     all_goals omega
   ·have bl:decide ((q:Int)<p)=false:=decide_eq_false (by omega);have hlt':p<q:=by omega
    have c1:=c (m-p) (m+q-p) p (by omega) (by omega);have hget:=swapR_get d2 (m-p) (m+q-p) p (by omega) (by omega);have hperm:=swapR_perm d2 (m-p) (m+q-p) p (by omega) (by omega);rw[show ((m-p:Nat):Int)=(m:Int)-p by omega,show ((m+q-p:Nat):Int)=(m:Int)+q-p by omega] at c1;refine aw_reg fun K hK=>?_;simp(disch:=omega)[bl,hlt];apply hK;clear hK K;refine aw_if rfl (fun h=>absurd h (by simp[hlt])) (fun h=>?_);refine aw_reg fun K hK=>?_;simp(disch:=omega) ;refine acall_is (c1) ?_;simp(disch:=omega) ;apply hK;clear hK K;refine aw_reg0 fun K hK=>?_;simp(disch:=omega) ;apply hK;clear hK K;refine⟨(swapR d2 (m-p) (m+q-p) p,p,q-p),⟨hperm.trans h0,h1,by show 0<q-p;omega,h3,by show q-p≤b-m;omega,fun t ht=>?_,fun t g1 g2=>?_⟩,by show p+(q-p)<p+q;omega,?_⟩
    ·simp only at ht ⊢;rw[hget]
     by_cases q1:t<m-p∨m+q≤t
     ·rw[if_neg (by omega),if_neg (by omega)];exact h5 t q1
     ·rw[←h6 t (by omega) (by omega),rotAt,if_neg q1,if_neg (by omega),if_pos (by omega),if_neg (by omega)]
      congr 1;omega
    ·simp only at g1 g2 ⊢;rw[←h6 t (by omega) (by omega),rotAt_lo (d:=d2) (by omega) (by omega) (by omega)]
     by_cases q2:t-(m-p)<m+(q-p)-m
     ·rw[rotAt_lo (by omega) (by omega) q2,hget,if_neg (by omega),if_neg (by omega)]
     ·rw[rotAt_hi (by omega) (by omega) (by omega),hget,if_pos (by omega)]
      congr 1;omega
    ·refine weak_to [] [] ?_ ?_ ?_ ?_ (HO' _) ?_
     all_goals simp
     all_goals omega
end Go.Proofs.YtoejlmpbebjemaaGreat
namespace Sst
open Go.Proofs.YtoejlmpbebjemaaGreat
def fb (x y:GE):Bool:=decide ((ky y)<(ky x))||(decide ((ky x)=(ky y))&&nlt x.1 y.1)
theorem fb_ge {x y:GE}(h:fb x y=true):(ky y)≤(ky x):=by
 simp only[fb,Bool.or_eq_true,Bool.and_eq_true,decide_eq_true_eq] at h;rcases h with h|h<;>omega
theorem fb_gt {x y:GE}(h:(ky y)<(ky x)):fb x y=true:=by simp[fb,h]
theorem fb_mk {x y:GE}(h:(ky y)≤(ky x))(hw:nlt x.1 y.1=true):fb x y=true:=by
 rcases Int.lt_or_le (ky y) (ky x) with h1|h1
 ·exact fb_gt h1
 ·have:(ky x)=(ky y):=by omega
  simp[fb,this,hw]
def Od (d:List GE)(a b:Nat):Prop:=∀i j,a≤i→i<j→j<b→fb (d.getD i ze) (d.getD j ze)=true
def Wg (d:List GE)(a b:Nat):Prop:=∀i j,a≤i→i<j→j<b→nlt (d.getD i ze).1 (d.getD j ze).1=true
structure Sx (d d':List GE)(a b:Nat):Prop where
 perm:d'.Perm d
 out:∀t,t<a∨b≤t→d'.getD t ze=d.getD t ze
 frm:∀t,a≤t→t<b→∃u,a≤u∧u<b∧d'.getD t ze=d.getD u ze
theorem Sx.refl (d:List GE)(a b:Nat):Sx d d a b:=⟨.refl _,fun _ _=>rfl,fun t h1 h2=>⟨t,h1,h2,rfl⟩⟩
theorem Sx.trans {d e f:List GE}{a b:Nat}(h:Sx d e a b)(k:Sx e f a b):Sx d f a b:=by
 refine⟨k.perm.trans h.perm,fun t ht=>(k.out t ht).trans (h.out t ht),fun t h1 h2=>?_⟩;obtain⟨u,g1,g2,g3⟩:=k.frm t h1 h2;obtain⟨v,g4,g5,g6⟩:=h.frm u g1 g2;exact⟨v,g4,g5,g3.trans g6⟩
theorem Sx.wide {d e:List GE}{a b a' b':Nat}(h:Sx d e a b)(ha:a'≤a)(hb:b≤b'):Sx d e a' b':=by
 refine⟨h.perm,fun t ht=>h.out t (by omega),fun t h1 h2=>?_⟩
 by_cases hin:a≤t∧t<b
 ·obtain⟨u,g1,g2,g3⟩:=h.frm t hin.1 hin.2;exact⟨u,by omega,by omega,g3⟩
 ·exact⟨t,h1,h2,h.out t (by omega)⟩
theorem Sx.len {d e:List GE}{a b:Nat}(h:Sx d e a b):e.length=d.length:=h.perm.length_eq
def Mov (d d2:List GE)(j i:Nat):Prop:=∀t,d2.getD t ze=if t=j then d.getD i ze else if j<t∧t≤i then d.getD (t-1) ze else d.getD t ze
theorem Mov.zero (d:List GE)(i:Nat):Mov d d i i:=by
 intro t
 split
 ·rename_i h;rw[h]
 ·rw[if_neg (by omega)]
theorem Mov.step {d d2:List GE}{j i:Nat}(h:Mov d d2 j i)(hj:0<j)(hji:j≤i)(hl:i<d2.length):Mov d (swp d2 j (j-1)) (j-1) i:=by
 intro t;rw[swp_get (by omega) (by omega)]
 by_cases h1:t=j-1
 ·rw[if_pos h1,if_pos h1,h j,if_pos rfl]
 ·rw[if_neg h1,if_neg h1]
  by_cases h2:t=j
  ·subst h2;rw[if_pos rfl,if_pos (by omega),h (t-1),if_neg (by omega),if_neg (by omega)]
  ·rw[if_neg h2,h t,if_neg h2]
   by_cases h3:j<t∧t≤i
   ·rw[if_pos h3,if_pos (by omega)]
   ·rw[if_neg h3,if_neg (by omega)]
theorem Mov.seg {d d2:List GE}{j i:Nat}(h:Mov d d2 j i)(hji:j≤i)(hp:d2.Perm d):Sx d d2 j (i+1):=by
 refine⟨hp,fun t ht=>?_,fun t h1 h2=>?_⟩
 ·rw[h t,if_neg (by omega),if_neg (by omega)]
 ·rw[h t]
  split
  ·exact⟨i,by omega,by omega,rfl⟩
  ·split
   ·exact⟨t-1,by omega,by omega,rfl⟩
   ·exact⟨t,h1,h2,rfl⟩
theorem Mov.sorted {d d2:List GE}{a j i:Nat}(h:Mov d d2 j i)(haj:a≤j)(hji:j≤i)(hs:Od d a i)(hw:∀t,a≤t→t<i→nlt (d.getD t ze).1 (d.getD i ze).1=true)
  (hlo:∀t,a≤t→t<j→(ky (d.getD i ze))≤(ky (d.getD t ze))) (hhi:∀t,j≤t→t<i→(ky (d.getD t ze))<(ky (d.getD i ze))):Od d2 a (i+1):=by
 intro p q h1 h2 h3;rw[h p,h q]
 by_cases q1:q=j
 ·rw[if_pos q1,if_neg (by omega),if_neg (by omega)];exact fb_mk (hlo p h1 (by omega)) (hw p h1 (by omega))
 ·rw[if_neg q1]
  by_cases p1:p=j
  ·rw[if_pos p1,if_pos (by omega)];exact fb_gt (hhi (q-1) (by omega) (by omega))
  ·rw[if_neg p1]
   by_cases p2:j<p
   ·rw[if_pos (by omega),if_pos (by omega)];exact hs _ _ (by omega) (by omega) (by omega)
   ·rw[if_neg (by omega)]
    by_cases q2:j<q
    ·rw[if_pos (by omega)];exact hs _ _ (by omega) (by omega) (by omega)
    ·rw[if_neg (by omega)];exact hs _ _ (by omega) (by omega) (by omega)
end Sst
namespace Go.Proofs.YtoejlmpbebjemaaGreat
open Go Go.Am Seg Sst
def cv (g:Nat):AV:=.fn g [] []
attribute [-simp] List.getD_eq_getElem?_getD in
theorem insert_ok {g:Nat}(hg:CmpD g)(d:List GE)(rest:List AV)(a b i:Nat)(hab:a≤b)(hbl:b≤d.length)(hl:d.length≤1000)(hw:Wg d a b)(H:List Blk)(T:Toks)(hi:H[i]?=some (.cells (geAV d++rest)))(hr:BelowAll H.length T.length rest) :
  ACall Tryz.prog 185 [.msl i 0 d.length,.int .i64 (a:Nat),.int .i64 (b:Nat),.fn g [] []] H T (TurnQ i rest H T (fun d'=>Sx d d' a b∧Od d' a b)):=by
 have hil:=(List.getElem?_eq_some_iff.1 hi).1;have hset0:=set_id hi;refine acall_enter 10 [] Tryz.ntmps185 Tryz.func185 rfl (fun _ _=>Tryz.call185 _ _) (by simp) (fun HO=>?_);apply aw_reg;intro K h;simp(disch:=omega);apply h;clear h K;apply aw_block;have HO':∀d2,HOk (H.set i (.cells (geAV d2++rest))) T:=fun k=>HO.set (by simp[hr]);refine aw_loop (X:=List GE×Nat) (fun x=>⟨[(0,.msl i 0 d.length),(1,.int .i64 (a:Nat)),(2,.int .i64 (b:Nat)),(3,.fn g [] []),(8,.int .i64 ((x.2:Int)+1))],H.set i (.cells (geAV x.1++rest)),T⟩)
  (fun x=>a≤x.2∧(x.2+1≤b∨(x.1=d∧b=a))∧Sx d x.1 a (x.2+1)∧Od x.1 a (x.2+1)) (fun x=>b-x.2) (d,a) ?_ ?_ ?_
 ·exact⟨Nat.le_refl _,(Nat.eq_or_lt_of_le hab).elim (fun h=>.inr ⟨rfl,h.symm⟩) .inl,Sx.refl _ _ _,fun i j h1 h2 h3=>by simp only at h3;omega⟩
 ·refine weak_to [] [] ?_ ?_ ?_ ?_ (HO' d) ?_
  all_goals simp[hset0,hil]
 ·rintro⟨d1,k⟩ ⟨h1,h2,h3,h4⟩;simp only at h1 h2 h3 h4;have hl1:=h3.len;refine aw_then fun K2 hK2=>?_
  by_cases hk:k+1<b
  ·have bk:decide (((k:Int)+1)<b)=true:=decide_eq_true (by omega);have bk':((k:Int)+1)<b:=by omega
   refine aw_reg fun K hK=>?_;simp(disch:=omega)[bk,bk'];apply hK;clear hK K;apply aw_ift rfl;apply aw_skip;simp(disch:=omega) ;apply hK2;clear hK2;refine aw_then fun K3 hK3=>?_;apply aw_block;apply aw_reg;intro K h;simp(disch:=omega);apply h;clear h K;apply aw_block;have hwx:∀t,a≤t→t<k+1→nlt (d1.getD t ze).1 (d1.getD (k+1) ze).1=true:=fun t g1 g2=>by
    obtain⟨u,u1,u2,u3⟩:=h3.frm t g1 g2;rw[u3,h3.out (k+1) (by omega)];exact hw u (k+1) u1 (by omega) hk
   refine aw_loop (X:=List GE×Nat) (fun x=>⟨[(0,.msl i 0 d.length),(1,.int .i64 (a:Nat)),(2,.int .i64 (b:Nat)),(3,.fn g [] []),(8,.int .i64 ((k:Int)+1)),(9,.int .i64 (x.2:Nat))],H.set i (.cells (geAV x.1++rest)),T⟩)
    (fun x=>a≤x.2∧x.2≤k+1∧Mov d1 x.1 x.2 (k+1)∧x.1.Perm d1∧∀t,x.2≤t→t<k+1→(ky (d1.getD t ze))<(ky (d1.getD (k+1) ze))) (fun x=>x.2) (d1,k+1) ?_ ?_ ?_
   ·exact⟨by simp only;omega,Nat.le_refl _,Mov.zero _ _,.refl _,fun t g1 g2=>by simp only at g1;omega⟩
   ·refine weak_to [] [] ?_ ?_ ?_ ?_ (HO' d1) ?_
    all_goals simp[hil]
   ·rintro⟨d2,j⟩ ⟨g1,g2,g3,g4,g5⟩;simp only at g1 g2 g3 g4 g5;have hl2:=g4.length_eq;have go:(∀t,a≤t→t<j→(ky (d1.getD (k+1) ze))≤(ky (d1.getD t ze)))→∀e,envLe H.length T.length e [(0,.msl i 0 d.length),(1,.int .i64 (a:Nat)),(2,.int .i64 (b:Nat)),(3,.fn g [] []),(8,.int .i64 ((k:Int)+1))]→K3 ⟨e,H.set i (.cells (geAV d2++rest)),T⟩:=by
     intro hlo e he;refine hK3 _ (aw_weak ⟨[(0,.msl i 0 d.length),(1,.int .i64 (a:Nat)),(2,.int .i64 (b:Nat)),(3,.fn g [] []),(8,.int .i64 ((k:Int)+1))],H.set i (.cells (geAV d2++rest)),T⟩ (weak_to [] [] (by simp) (by simp) (by simp) (by simp) (HO' d2) (by simpa using he)) ?_);refine aw_reg0 fun K hK=>?_;simp(disch:=omega) ;apply hK;clear hK K;refine⟨(d2,k+1),⟨by simp only;omega,.inl (by simp only;omega),(h3.wide (Nat.le_refl _) (by omega)).trans ((g3.seg g2 g4).wide g1 (Nat.le_refl _)),g3.sorted g1 g2 h4 hwx hlo g5⟩,by show b-(k+1)<b-k;omega,?_⟩;refine weak_to [] [] ?_ ?_ ?_ ?_ (HO' d2) ?_
     all_goals simp[hil]
    refine aw_then fun K4 hK4=>?_
    by_cases hj:a<j
    ·have bj:decide ((a:Int)<j)=true:=decide_eq_true (by omega);have hc1:=ge_cut (d:=d2) (k:=j) rest (by omega);have hc2:=ge_cut (d:=d2) (k:=j-1) rest (by omega);have ej:((j:Int)-1)=((j-1:Nat):Int):=by omega
     have hx:d2.getD j ze=d1.getD (k+1) ze:=by rw[g3 j,if_pos rfl]
     have hy:d2.getD (j-1) ze=d1.getD (j-1) ze:=by rw[g3 (j-1),if_neg (by omega),if_neg (by omega)]
     obtain⟨q,c,hneg⟩:=hg.at (d2.getD j ze) (d2.getD (j-1) ze) (H.set i (.cells (geAV d2++rest))) T;rw[hx,hy] at hneg
     by_cases hq:q<0
     ·have bq:decide (q<0)=true:=decide_eq_true hq;have hsw:=ge_swp d2 j (j-1) rest (by omega) (by omega);refine aw_draw [] [] [] drawMixed (by kernel_rfl) (by kernel_rfl) fun K hK=>?_;simp(disch:=omega)[bj,hj,ej,hc1,hc2,geAV_len,hl2,hil];refine dcall_is (c) rfl ?_;simp(disch:=omega)[bq,hq];apply hK;clear hK K;apply aw_ift rfl;apply aw_skip;simp(disch:=omega) ;apply hK4;clear hK4;refine aw_then fun K5 hK5=>?_;apply aw_block;refine aw_draw0 [15,17] [0,0,0,0,0,0,0,0,0,0,0,0,0,0,0,0,1,1] [[2,3,4],[]] drawMixed (by kernel_rfl) (by kernel_rfl) fun K hK=>?_;simp(disch:=omega)[ej,hc1,hc2,geAV_len,hl2,hil];rw[hsw];apply hK;clear hK K;apply hK5;clear hK5;refine aw_reg0 fun K hK=>?_;simp(disch:=omega)[ej];apply hK;clear hK K;refine⟨(swp d2 j (j-1),j-1),⟨by simp only;omega,by simp only;omega,g3.step (by omega) g2 (by omega),(swp_perm (by omega) (by omega)).trans g4,fun t t1 t2=>?_⟩,by show j-1<j;omega,?_⟩
      ·simp only at t1;rcases Nat.lt_or_ge t j with e|e
       ·have:t=j-1:=by omega
        subst this;exact hneg.1 hq
       ·exact g5 t e t2
      ·refine weak_to [] [] ?_ ?_ ?_ ?_ (HO' _) ?_
       all_goals simp[hil]
     ·have bq:decide (q<0)=false:=decide_eq_false hq;refine aw_draw [] [] [] drawMixed (by kernel_rfl) (by kernel_rfl) fun K hK=>?_;simp(disch:=omega)[bj,hj,ej,hc1,hc2,geAV_len,hl2,hil];refine dcall_is (c) rfl ?_;simp(disch:=omega)[bq,hq];apply hK;clear hK K;apply aw_iff rfl;apply aw_exit;simp(disch:=omega) ;refine go (fun t t1 t2=>?_) _ ?_
      ·have e1:(ky (d1.getD (k+1) ze))≤(ky (d1.getD (j-1) ze)):=by
        rcases Int.lt_or_le (ky (d1.getD (j-1) ze)) (ky (d1.getD (k+1) ze)) with e|e
        ·exact absurd (hneg.2 e) hq
        ·exact e
       rcases Nat.lt_or_ge t (j-1) with e2|e2
       ·have:=fb_ge (h4 t (j-1) t1 e2 (by omega));omega
       ·have:t=j-1:=by omega
        subst this;exact e1
      ·simp[hil]
    ·have bj:decide ((a:Int)<j)=false:=decide_eq_false (by omega);refine aw_draw [] [] [] drawMixed (by kernel_rfl) (by kernel_rfl) fun K hK=>?_;simp(disch:=omega)[bj,hj];apply hK;clear hK K;apply aw_iff rfl;apply aw_exit;simp(disch:=omega) ;refine go (fun t t1 t2=>by omega) _ ?_;simp[hil]
  ·have bk:decide (((k:Int)+1)<b)=false:=decide_eq_false (by omega);have bk':¬((k:Int)+1)<b:=by omega
   refine aw_reg fun K hK=>?_;simp(disch:=omega)[bk,bk'];apply hK;clear hK K;apply aw_iff rfl;apply aw_exit;simp(disch:=omega) ;refine⟨rfl,rfl,d1,rfl,?_⟩;rcases h2 with h2|⟨h2,h5⟩
   ·have:k+1=b:=by omega
    rw[←this];exact⟨h3,h4⟩
   ·subst h2;subst h5;exact⟨Sx.refl _ _ _,fun p q q1 q2 q3=>by omega⟩
end Go.Proofs.YtoejlmpbebjemaaGreat
namespace Sst
open Go.Proofs.YtoejlmpbebjemaaGreat
structure MP (d:List GE)(a m b:Nat):Prop where
 l:Od d a m
 r:Od d m b
 w:∀p q,a≤p→p<m→m≤q→q<b→nlt (d.getD p ze).1 (d.getD q ze).1=true
theorem Od.ge {d:List GE}{a b i j:Nat}(h:Od d a b)(h1:a≤i)(h2:i≤j)(h3:j<b):(ky (d.getD j ze))≤(ky (d.getD i ze)):=by
 rcases Nat.eq_or_lt_of_le h2 with e|e
 ·rw[e];exact Int.le_refl _
 ·exact fb_ge (h i j h1 e h3)
theorem Od.sub {d:List GE}{a b a' b':Nat}(h:Od d a b)(h1:a≤a')(h2:b'≤b):Od d a' b':=fun i j i1 i2 i3=>h i j (by omega) i2 (by omega)
theorem Od.one (d:List GE){a b:Nat}(h:b≤a+1):Od d a b:=fun i j i1 i2 i3=>by omega
def Mvl (d d2:List GE)(a k:Nat):Prop:=∀t,d2.getD t ze=if t=k then d.getD a ze else if a≤t∧t<k then d.getD (t+1) ze else d.getD t ze
theorem Mvl.zero (d:List GE)(a:Nat):Mvl d d a a:=by
 intro t
 split
 ·rename_i h;rw[h]
 ·rw[if_neg (by omega)]
theorem Mvl.step {d d2:List GE}{a k:Nat}(h:Mvl d d2 a k)(hk:a≤k)(hl:k+1<d2.length):Mvl d (swp d2 k (k+1)) a (k+1):=by
 intro t;rw[swp_get (by omega) (by omega)]
 by_cases h1:t=k+1
 ·rw[if_pos h1,if_pos h1,h k,if_pos rfl]
 ·rw[if_neg h1,if_neg h1]
  by_cases h2:t=k
  ·subst h2;rw[if_pos rfl,if_pos (by omega),h (t+1),if_neg (by omega),if_neg (by omega)]
  ·rw[if_neg h2,h t,if_neg h2]
   by_cases h3:a≤t∧t<k
   ·rw[if_pos h3,if_pos (by omega)]
   ·rw[if_neg h3,if_neg (by omega)]
theorem Mvl.seg {d d2:List GE}{a k:Nat}(h:Mvl d d2 a k)(hk:a≤k)(hp:d2.Perm d):Sx d d2 a (k+1):=by
 refine⟨hp,fun t ht=>?_,fun t h1 h2=>?_⟩
 ·rw[h t,if_neg (by omega),if_neg (by omega)]
 ·rw[h t]
  split
  ·exact⟨a,by omega,by omega,rfl⟩
  ·split
   ·exact⟨t+1,by omega,by omega,rfl⟩
   ·exact⟨t,h1,h2,rfl⟩
theorem Mvl.sorted {d d2:List GE}{a k b:Nat}(h:Mvl d d2 a k)(hk:a≤k)(hkb:k<b)(hm:MP d a (a+1) b)(hlo:∀t,a+1≤t→t<k+1→(ky (d.getD a ze))<(ky (d.getD t ze)))(hhi:∀t,k+1≤t→t<b→(ky (d.getD t ze))≤(ky (d.getD a ze))):Od d2 a b:=by
 intro p q h1 h2 h3;rw[h p,h q]
 by_cases p1:p=k
 ·rw[if_pos p1,if_neg (by omega),if_neg (by omega)];exact fb_mk (hhi q (by omega) h3) (hm.w a q (by omega) (by omega) (by omega) h3)
 ·rw[if_neg p1]
  by_cases q1:q=k
  ·rw[if_pos q1,if_pos (by omega)];exact fb_gt (hlo (p+1) (by omega) (by omega))
  ·rw[if_neg q1]
   by_cases p2:p<k
   ·rw[if_pos (by omega)]
    by_cases q2:q<k
    ·rw[if_pos (by omega)];exact hm.r _ _ (by omega) (by omega) (by omega)
    ·rw[if_neg (by omega)];exact hm.r _ _ (by omega) (by omega) (by omega)
   ·rw[if_neg (by omega),if_neg (by omega)];exact hm.r _ _ (by omega) (by omega) (by omega)
theorem rotAt_triv {d:List GE}{a m b t:Nat}(h1:a≤m)(h2:m≤b)(h:a=m∨m=b):rotAt d a m b t=d.getD t ze:=by
 by_cases ho:t<a∨b≤t
 ·exact rotAt_out ho
 ·rcases h with h|h
  ·subst h;rw[rotAt_lo (by omega) (by omega) (by omega)]
   congr 1;omega
  ·subst h;rw[rotAt_hi (by omega) (by omega) (by omega)]
   congr 1;omega
structure Cut (d r:List GE)(a m b st en mid:Nat):Prop where
 perm:r.Perm d
 at_:∀t,r.getD t ze=rotAt d st m en t
 h1:a≤st
 h2:st≤m
 h3:m≤en
 h4:en≤b
 hm:mid=st+(en-m)
 hu:∀u v,a≤u→u<st→en≤v→v<b→(ky (d.getD v ze))≤(ky (d.getD u ze))
 hv:∀u v,st≤u→u<m→m≤v→v<en→(ky (d.getD u ze))<(ky (d.getD v ze))
section
variable {d r : List GE} {a m b st en mid : Nat}
theorem Cut.lo (c:Cut d r a m b st en mid){t:Nat}(h:t<st):r.getD t ze=d.getD t ze:=by rw[c.at_,rotAt_out (.inl h)]
theorem Cut.hi (c:Cut d r a m b st en mid){t:Nat}(h:en≤t):r.getD t ze=d.getD t ze:=by rw[c.at_,rotAt_out (.inr h)]
theorem Cut.mb (c:Cut d r a m b st en mid){t:Nat}(h1:st≤t)(h2:t<mid):r.getD t ze=d.getD (m+(t-st)) ze:=by
 have:=c.hm;have:=c.h3;rw[c.at_,rotAt_lo h1 (by have:=c.h2;omega) (by omega)]
theorem Cut.ma (c:Cut d r a m b st en mid){t:Nat}(h1:mid≤t)(h2:t<en):r.getD t ze=d.getD (t-(en-m)) ze:=by
 have:=c.hm;rw[c.at_,rotAt_hi (by omega) h2 (by omega)]
theorem Cut.seg (c:Cut d r a m b st en mid):Sx d r a b:=by
 have g1:=c.h1;have g2:=c.h2;have g3:=c.h3;have g4:=c.h4;have g5:=c.hm;refine⟨c.perm,fun t ht=>?_,fun t t1 t2=>?_⟩
 ·rcases ht with ht|ht
  ·exact c.lo (by omega)
  ·exact c.hi (by omega)
 ·by_cases q1:t<st
  ·exact⟨t,t1,t2,c.lo q1⟩
  ·by_cases q2:t<mid
   ·exact⟨_,by omega,by omega,c.mb (by omega) q2⟩
   ·by_cases q3:t<en
    ·exact⟨_,by omega,by omega,c.ma (by omega) q3⟩
    ·exact⟨t,t1,t2,c.hi (by omega)⟩
theorem Cut.mp1 (c:Cut d r a m b st en mid)(h:MP d a m b):MP r a st mid:=by
 have g1:=c.h1;have g2:=c.h2;have g3:=c.h3;have g4:=c.h4;have g5:=c.hm;refine⟨fun p q p1 p2 p3=>?_,fun p q p1 p2 p3=>?_,fun p q p1 p2 p3 p4=>?_⟩
 ·rw[c.lo (by omega),c.lo (by omega)];exact h.l p q p1 p2 (by omega)
 ·rw[c.mb p1 (by omega),c.mb (by omega) p3];exact h.r _ _ (by omega) (by omega) (by omega)
 ·rw[c.lo p2,c.mb p3 p4];exact h.w _ _ p1 (by omega) (by omega) (by omega)
theorem Cut.mp2 (c:Cut d r a m b st en mid)(h:MP d a m b):MP r mid en b:=by
 have g1:=c.h1;have g2:=c.h2;have g3:=c.h3;have g4:=c.h4;have g5:=c.hm;refine⟨fun p q p1 p2 p3=>?_,fun p q p1 p2 p3=>?_,fun p q p1 p2 p3 p4=>?_⟩
 ·rw[c.ma p1 (by omega),c.ma (by omega) p3];exact h.l _ _ (by omega) (by omega) (by omega)
 ·rw[c.hi p1,c.hi (by omega)];exact h.r _ _ (by omega) (by omega) (by omega)
 ·rw[c.ma p1 p2,c.hi p3];exact h.w _ _ (by omega) (by omega) (by omega) p4
theorem Cut.cross (c:Cut d r a m b st en mid)(h:MP d a m b){u v:Nat}(u1:a≤u)(u2:u<mid)(v1:mid≤v)(v2:v<b):fb (r.getD u ze) (r.getD v ze)=true:=by
 have g1:=c.h1;have g2:=c.h2;have g3:=c.h3;have g4:=c.h4;have g5:=c.hm
 by_cases q1:u<st
 ·rw[c.lo q1]
  by_cases q2:v<en
  ·rw[c.ma v1 q2];exact h.l _ _ u1 (by omega) (by omega)
  ·rw[c.hi (by omega)];exact fb_mk (c.hu u v u1 q1 (by omega) v2) (h.w _ _ u1 (by omega) (by omega) v2)
 ·rw[c.mb (by omega) u2]
  by_cases q2:v<en
  ·rw[c.ma v1 q2];exact fb_gt (c.hv _ _ (by omega) (by omega) (by omega) (by omega))
  ·rw[c.hi (by omega)];exact h.r _ _ (by omega) (by omega) v2
theorem Cut.done (c:Cut d r a m b st en mid)(h:MP d a m b){r1 r2:List GE}(k1:Sx r r1 a mid)(s1:Od r1 a mid)(k2:Sx r1 r2 mid b)(s2:Od r2 mid b):Sx d r2 a b∧Od r2 a b:=by
 have g1:=c.h1;have g2:=c.h2;have g3:=c.h3;have g4:=c.h4;have g5:=c.hm;refine⟨c.seg.trans ((k1.wide (Nat.le_refl _) (by omega)).trans (k2.wide (by omega) (Nat.le_refl _))),fun p q p1 p2 p3=>?_⟩
 by_cases q1:q<mid
 ·rw[k2.out p (.inl (by omega)),k2.out q (.inl q1)];exact s1 p q p1 p2 q1
 ·by_cases q2:mid≤p
  ·exact s2 p q q2 p2 p3
  ·rw[k2.out p (.inl (by omega))];obtain⟨u,u1,u2,u3⟩:=k1.frm p p1 (by omega);obtain⟨v,v1,v2,v3⟩:=k2.frm q (by omega) p3;rw[u3,v3,k1.out v (.inr v1)];exact c.cross h u1 u2 v1 v2
theorem Cut.mp2' (c:Cut d r a m b st en mid)(h:MP d a m b){r1:List GE}(k1:Sx r r1 a mid):MP r1 mid en b:=by
 have h2:=c.mp2 h;have g4:=c.h4;have g5:=c.hm;have g3:=c.h3;have g2:=c.h2;have e:∀t,mid≤t→r1.getD t ze=r.getD t ze:=fun t ht=>k1.out t (.inr ht);refine⟨fun p q p1 p2 p3=>?_,fun p q p1 p2 p3=>?_,fun p q p1 p2 p3 p4=>?_⟩
 ·rw[e p p1,e q (by omega)];exact h2.l p q p1 p2 p3
 ·rw[e p (by omega),e q (by omega)];exact h2.r p q p1 p2 p3
 ·rw[e p p1,e q (by omega)];exact h2.w p q p1 p2 p3 p4
end
theorem sym_cut {d:List GE}{a m b st r0 s0 mid:Nat}(h:MP d a m b)(hmid:mid=(a+b) / 2)(ham:a<m)(hmb:m<b)(hs:(m≤mid∧s0=a∧r0=m)∨(mid<m∧s0=mid+m-b∧r0=mid))(h1:s0≤st)(h2:st≤r0)
  (hlo:∀c,s0≤c→c<st→(ky (d.getD (mid+m-1-c) ze))≤(ky (d.getD c ze))) (hhi:∀c,st≤c→c<r0→(ky (d.getD c ze))<(ky (d.getD (mid+m-1-c) ze))) {r:List GE} (hp:r.Perm d) (hr:∀t,r.getD t ze=rotAt d st m (mid+m-st) t) :
  Cut d r a m b st (mid+m-st) mid:=by
 refine⟨hp,hr,by omega,by omega,by omega,by omega,by omega,fun u v u1 u2 v1 v2=>?_,fun u v u1 u2 v1 v2=>?_⟩
 ·have hst:s0<st:=by omega
  have e:=hlo (st-1) (by omega) (by omega);rw[show mid+m-1-(st-1)=mid+m-st by omega] at e;have e1:=h.l.ge u1 (by omega:u≤st-1) (by omega);have e2:=h.r.ge (by omega:m≤mid+m-st) v1 v2;omega
 ·have hst:st<r0:=by omega
  have e:=hhi st (Nat.le_refl _) hst;have e1:=h.l.ge (by omega:a≤st) u1 u2;have e2:=h.r.ge v1 (by omega:v≤mid+m-1-st) (by omega);omega
end Sst
namespace Go.Proofs.YtoejlmpbebjemaaGreat
open Go Go.Am Seg Sst
def MergeOk (g n N:Nat):Prop:=∀(d:List GE)(rest:List AV)(a m b i:Nat),b-a≤n→a<m→m<b→b≤N→d.length=N→MP d a m b→∀(H:List Blk)(T:Toks),H[i]?=some (.cells (geAV d++rest))→BelowAll H.length T.length rest→
 ACall Tryz.prog 186 [.msl i 0 N,.int .i64 (a:Nat),.int .i64 (m:Nat),.int .i64 (b:Nat),.fn g [] []] H T (TurnQ i rest H T (fun d'=>Sx d d' a b∧Od d' a b))
attribute [-simp] List.getD_eq_getElem?_getD in
theorem merge1_ok {g:Nat}(hg:CmpD g)(N:Nat)(hN:N≤1000)(d:List GE)(rest:List AV)(a m b i:Nat)(ham:m=a+1)(hmb:m<b)(hbl:b≤N)(hd:d.length=N)(hmp:MP d a m b)(H:List Blk)(T:Toks)(hi:H[i]?=some (.cells (geAV d++rest)))(hr:BelowAll H.length T.length rest) :
  ACall Tryz.prog 186 [.msl i 0 N,.int .i64 (a:Nat),.int .i64 (m:Nat),.int .i64 (b:Nat),.fn g [] []] H T (TurnQ i rest H T (fun d'=>Sx d d' a b∧Od d' a b)):=by
 have hil:=(List.getElem?_eq_some_iff.1 hi).1;have hset0:=set_id hi;have hgi:∀h:i<H.length,H[i]'h=.cells (geAV d++rest):=fun h=>by rw[List.getElem?_eq_getElem h] at hi;exact Option.some.inj hi
 have HOs:HOk H T→∀d2,HOk (H.set i (.cells (geAV d2++rest))) T:=fun HO k=>HO.set (by simp[hr]);have bm:(((m:Int)-a)==1)=true:=by rw[beq_iff_eq];omega
 have bm':((m:Int)-a)=1:=by omega
 have hcl:=fun(x y:GE)=>hg.at x y H T;refine acall_enter 25 [] Tryz.ntmps186 Tryz.func186 rfl (fun _ _=>Tryz.call186 _ _) (by simp) (fun HO=>?_);have HO':=HOs HO;refine aw_then fun K1 hK1=>?_;refine aw_reg fun K hK=>?_;simp(disch:=omega)[bm,bm'];apply hK;clear hK K;refine aw_if rfl (fun h=>?_) (fun h=>absurd h (by simp[bm']));apply aw_reg;intro K h;simp(disch:=omega);apply h;clear h K;apply aw_reg;intro K h;simp(disch:=omega);apply h;clear h K;refine aw_then fun K2 hK2=>?_;apply aw_block;refine aw_loop (X:=Nat×Nat) (fun x=>⟨[(0,.msl i 0 N),(1,.int .i64 (a:Nat)),(2,.int .i64 (m:Nat)),(3,.int .i64 (b:Nat)),(4,.fn g [] []),(10,.int .i64 (x.1:Nat)),(11,.int .i64 (x.2:Nat))],H,T⟩)
  (fun x=>m≤x.1∧x.1≤x.2∧x.2≤b∧(∀t,m≤t→t<x.1→(ky (d.getD a ze))<(ky (d.getD t ze)))∧∀t,x.2≤t→t<b→(ky (d.getD t ze))≤(ky (d.getD a ze))) (fun x=>x.2-x.1) (m,b) ?_ ?_ ?_
 ·exact⟨Nat.le_refl _,by simp only;omega,Nat.le_refl _,fun t t1 t2=>by simp only at t2;omega,fun t t1 t2=>by simp only at t1;omega⟩
 ·refine weak_to [] [] ?_ ?_ ?_ ?_ HO ?_
  all_goals simp[hil]
 ·rintro⟨lo,hi2⟩ ⟨g1,g2,g3,g4,g5⟩;simp only at g1 g2 g3 g4 g5;refine aw_then fun K3 hK3=>?_;apply aw_reg;intro K h;simp(disch:=omega);apply h;clear h K;refine aw_if rfl (fun hk=>?_) (fun hk=>?_)
  ·simp  at hk;apply aw_skip;simp(disch:=omega) ;apply hK3;clear hK3;apply aw_block;apply aw_reg;intro K h;simp(disch:=omega);apply h;clear h K;rw[show ((lo:Int)+hi2) / 2=(((lo+hi2) / 2:Nat):Int) by omega];have hge:lo≤(lo+hi2) / 2:=by omega
   have hlt:(lo+hi2) / 2<hi2:=by omega
   generalize (lo+hi2) / 2=c at *;have hc1:=ge_cut (d:=d) (k:=c) rest (by omega);have hc2:=ge_cut (d:=d) (k:=a) rest (by omega);obtain⟨q,cc,hneg⟩:=hcl (d.getD c ze) (d.getD a ze)
   by_cases hq:q<0
   ·have bq:decide (q<0)=true:=decide_eq_true hq;refine aw_draw [] [] [] drawMixed (by kernel_rfl) (by kernel_rfl) fun K hK=>?_;simp(disch:=omega)[hgi,hc1,hc2,geAV_len,hd];refine dcall_is (cc) rfl ?_;simp(disch:=omega)[bq,hq];apply hK;clear hK K;apply aw_ift rfl;refine aw_reg0 fun K hK=>?_;simp(disch:=omega) ;apply hK;clear hK K;refine⟨(c+1,hi2),⟨by simp only;omega,by simp only;omega,g3,fun t t1 t2=>?_,g5⟩,by show hi2-(c+1)<hi2-lo;omega,?_⟩
    ·have:=hmp.r.ge t1 (by simp only at t2;omega:t≤c) (by omega);have:=hneg.1 hq;omega
    ·refine weak_to [] [] ?_ ?_ ?_ ?_ HO ?_
     all_goals simp[hil]
   ·have bq:decide (q<0)=false:=decide_eq_false hq;refine aw_draw [] [] [] drawMixed (by kernel_rfl) (by kernel_rfl) fun K hK=>?_;simp(disch:=omega)[hgi,hc1,hc2,geAV_len,hd];refine dcall_is (cc) rfl ?_;simp(disch:=omega)[bq,hq];apply hK;clear hK K;apply aw_iff rfl;refine aw_reg0 fun K hK=>?_;simp(disch:=omega) ;apply hK;clear hK K;refine⟨(lo,c),⟨g1,hge,by simp only;omega,g4,fun t t1 t2=>?_⟩,by show c-lo<hi2-lo;omega,?_⟩
    ·have e1:=hmp.r.ge (by omega:m≤c) t1 t2;have e2:¬(ky (d.getD a ze))<(ky (d.getD c ze)):=fun e=>hq (hneg.2 e);omega
    ·refine weak_to [] [] ?_ ?_ ?_ ?_ HO ?_
     all_goals simp[hil]
  ·simp  at hk;have e:hi2=lo:=by omega
   subst e;apply aw_exit;simp(disch:=omega) ;apply hK2;clear hK2;refine aw_then fun K2 hK2=>?_;apply aw_reg;intro K h;simp(disch:=omega);apply h;clear h K;apply aw_block;refine aw_loop (X:=List GE×Nat) (fun x=>⟨[(0,.msl i 0 N),(10,.int .i64 (hi2:Nat)),(13,.int .i64 (x.2:Nat))],H.set i (.cells (geAV x.1++rest)),T⟩)
    (fun x=>a≤x.2∧x.2+1≤hi2∧x.1.Perm d∧Mvl d x.1 a x.2) (fun x=>hi2-x.2) (d,a) ?_ ?_ ?_
   ·exact⟨Nat.le_refl _,by simp only;omega,.refl _,Mvl.zero _ _⟩
   ·refine weak_to [] [] ?_ ?_ ?_ ?_ (HO' d) ?_
    all_goals simp[hil,hset0]
   ·rintro⟨d2,k⟩ ⟨k1,k2,k3,k4⟩;simp only at k1 k2 k3 k4;have hl2:=k3.length_eq;refine aw_then fun K3 hK3=>?_
    by_cases hk3:k+1<hi2
    ·have bk:decide ((k:Int)<(hi2:Int)-1)=true:=decide_eq_true (by omega);have bk':(k:Int)<(hi2:Int)-1:=by omega
     have hc1:=ge_cut (d:=d2) (k:=k) rest (by omega);have hc2:=ge_cut (d:=d2) (k:=k+1) rest (by omega);have hsw:=ge_swp d2 k (k+1) rest (by omega) (by omega);refine aw_reg fun K hK=>?_;simp(disch:=omega)[bk,bk'];apply hK;clear hK K;apply aw_ift rfl;apply aw_skip;simp(disch:=omega) ;apply hK3;clear hK3;refine aw_then fun K4 hK4=>?_;apply aw_block;refine aw_draw0 [15,17] [0,0,0,0,0,0,0,0,0,0,0,0,0,0,0,0,1,1] [[2,3,4],[]] drawMixed (by kernel_rfl) (by kernel_rfl) fun K hK=>?_;simp(disch:=omega)[hc1,hc2,geAV_len,hl2,hd,hil];rw[hsw];apply hK;clear hK K;apply hK4;clear hK4;refine aw_reg0 fun K hK=>?_;simp(disch:=omega) ;apply hK;clear hK K;refine⟨(swp d2 k (k+1),k+1),⟨by simp only;omega,by simp only;omega,(swp_perm (by omega) (by omega)).trans k3,k4.step k1 (by omega)⟩,by show hi2-(k+1)<hi2-k;omega,?_⟩;refine weak_to [] [] ?_ ?_ ?_ ?_ (HO' _) ?_
     all_goals simp[hil]
    ·have bk:decide ((k:Int)<(hi2:Int)-1)=false:=decide_eq_false (by omega);have bk':¬(k:Int)<(hi2:Int)-1:=by omega
     have e:hi2=k+1:=by omega
     subst e;refine aw_reg fun K hK=>?_;simp(disch:=omega)[bk,bk'];apply hK;clear hK K;apply aw_iff rfl;apply aw_exit;simp(disch:=omega) ;apply hK2;clear hK2;apply aw_ret;simp(disch:=omega) ;refine⟨rfl,rfl,d2,rfl,(k4.seg k1 k3).wide (Nat.le_refl _) (by omega),?_⟩;subst ham;exact k4.sorted k1 (by omega) hmp g4 g5
attribute [-simp] List.getD_eq_getElem?_getD in
theorem merge2_ok {g:Nat}(hg:CmpD g)(N:Nat)(hN:N≤1000)(d:List GE)(rest:List AV)(a m b i:Nat)(ham:a<m)(hma:m≠a+1)(hmb:b=m+1)(hbl:b≤N)(hd:d.length=N)(hmp:MP d a m b)(H:List Blk)(T:Toks)(hi:H[i]?=some (.cells (geAV d++rest)))(hr:BelowAll H.length T.length rest) :
  ACall Tryz.prog 186 [.msl i 0 N,.int .i64 (a:Nat),.int .i64 (m:Nat),.int .i64 (b:Nat),.fn g [] []] H T (TurnQ i rest H T (fun d'=>Sx d d' a b∧Od d' a b)):=by
 have hil:=(List.getElem?_eq_some_iff.1 hi).1;have hset0:=set_id hi;have hgi:∀h:i<H.length,H[i]'h=.cells (geAV d++rest):=fun h=>by rw[List.getElem?_eq_getElem h] at hi;exact Option.some.inj hi
 have HOs:HOk H T→∀d2,HOk (H.set i (.cells (geAV d2++rest))) T:=fun HO k=>HO.set (by simp[hr]);have bm:(((m:Int)-a)==1)=false:=by rw[beq_eq_false_iff_ne];omega
 have bm':¬((m:Int)-a)=1:=by omega
 have bb:(((b:Int)-m)==1)=true:=by rw[beq_iff_eq];omega
 have bb':((b:Int)-m)=1:=by omega
 have hcl:=fun(x y:GE)=>hg.at x y H T;refine acall_enter 25 [] Tryz.ntmps186 Tryz.func186 rfl (fun _ _=>Tryz.call186 _ _) (by simp) (fun HO=>?_);have HO':=HOs HO;refine aw_then fun K1 hK1=>?_;refine aw_reg fun K hK=>?_;simp(disch:=omega)[bm,bm'];apply hK;clear hK K;refine aw_if rfl (fun h=>absurd h (by simp[bm'])) (fun h=>?_);apply aw_skip;simp(disch:=omega) ;apply hK1;clear hK1;refine aw_then fun K1 hK1=>?_;refine aw_reg fun K hK=>?_;simp(disch:=omega)[bb,bb'];apply hK;clear hK K;refine aw_if rfl (fun h=>?_) (fun h=>absurd h (by simp[bb']));apply aw_reg;intro K h;simp(disch:=omega);apply h;clear h K;apply aw_reg;intro K h;simp(disch:=omega);apply h;clear h K;refine aw_then fun K2 hK2=>?_;apply aw_block;refine aw_loop (X:=Nat×Nat) (fun x=>⟨[(0,.msl i 0 N),(1,.int .i64 (a:Nat)),(2,.int .i64 (m:Nat)),(3,.int .i64 (b:Nat)),(4,.fn g [] []),(14,.int .i64 (x.1:Nat)),(15,.int .i64 (x.2:Nat))],H,T⟩)
  (fun x=>a≤x.1∧x.1≤x.2∧x.2≤m∧(∀t,a≤t→t<x.1→(ky (d.getD m ze))≤(ky (d.getD t ze)))∧∀t,x.2≤t→t<m→(ky (d.getD t ze))<(ky (d.getD m ze))) (fun x=>x.2-x.1) (a,m) ?_ ?_ ?_
 ·exact⟨Nat.le_refl _,by simp only;omega,Nat.le_refl _,fun t t1 t2=>by simp only at t2;omega,fun t t1 t2=>by simp only at t1;omega⟩
 ·refine weak_to [] [] ?_ ?_ ?_ ?_ HO ?_
  all_goals simp[hil]
 ·rintro⟨lo,hi2⟩ ⟨g1,g2,g3,g4,g5⟩;simp only at g1 g2 g3 g4 g5;refine aw_then fun K3 hK3=>?_;apply aw_reg;intro K h;simp(disch:=omega);apply h;clear h K;refine aw_if rfl (fun hk=>?_) (fun hk=>?_)
  ·simp  at hk;apply aw_skip;simp(disch:=omega) ;apply hK3;clear hK3;apply aw_block;apply aw_reg;intro K h;simp(disch:=omega);apply h;clear h K;rw[show ((lo:Int)+hi2) / 2=(((lo+hi2) / 2:Nat):Int) by omega];have hge:lo≤(lo+hi2) / 2:=by omega
   have hlt:(lo+hi2) / 2<hi2:=by omega
   generalize (lo+hi2) / 2=c at *;have hc1:=ge_cut (d:=d) (k:=m) rest (by omega);have hc2:=ge_cut (d:=d) (k:=c) rest (by omega);obtain⟨q,cc,hneg⟩:=hcl (d.getD m ze) (d.getD c ze)
   by_cases hq:q<0
   ·have bq:decide (q<0)=true:=decide_eq_true hq;refine aw_draw [] [] [] drawMixed (by kernel_rfl) (by kernel_rfl) fun K hK=>?_;simp(disch:=omega)[hgi,hc1,hc2,geAV_len,hd];refine dcall_is (cc) rfl ?_;simp(disch:=omega)[bq,hq];apply hK;clear hK K;apply aw_iff rfl;refine aw_reg0 fun K hK=>?_;simp(disch:=omega) ;apply hK;clear hK K;refine⟨(lo,c),⟨g1,hge,by simp only;omega,g4,fun t t1 t2=>?_⟩,by show c-lo<hi2-lo;omega,?_⟩
    ·have e1:=hmp.l.ge (by omega:a≤c) t1 t2;have e2:=hneg.1 hq;omega
    ·refine weak_to [] [] ?_ ?_ ?_ ?_ HO ?_
     all_goals simp[hil]
   ·have bq:decide (q<0)=false:=decide_eq_false hq;refine aw_draw [] [] [] drawMixed (by kernel_rfl) (by kernel_rfl) fun K hK=>?_;simp(disch:=omega)[hgi,hc1,hc2,geAV_len,hd];refine dcall_is (cc) rfl ?_;simp(disch:=omega)[bq,hq];apply hK;clear hK K;apply aw_ift rfl;refine aw_reg0 fun K hK=>?_;simp(disch:=omega) ;apply hK;clear hK K;refine⟨(c+1,hi2),⟨by simp only;omega,by simp only;omega,g3,fun t t1 t2=>?_,g5⟩,by show hi2-(c+1)<hi2-lo;omega,?_⟩
    ·have e1:=hmp.l.ge t1 (by simp only at t2;omega:t≤c) (by omega);have e2:¬(ky (d.getD c ze))<(ky (d.getD m ze)):=fun e=>hq (hneg.2 e);omega
    ·refine weak_to [] [] ?_ ?_ ?_ ?_ HO ?_
     all_goals simp[hil]
  ·simp  at hk;have e:hi2=lo:=by omega
   subst e;apply aw_exit;simp(disch:=omega) ;apply hK2;clear hK2;refine aw_then fun K2 hK2=>?_;apply aw_reg;intro K h;simp(disch:=omega);apply h;clear h K;apply aw_block;refine aw_loop (X:=List GE×Nat) (fun x=>⟨[(0,.msl i 0 N),(14,.int .i64 (hi2:Nat)),(17,.int .i64 (x.2:Nat))],H.set i (.cells (geAV x.1++rest)),T⟩)
    (fun x=>hi2≤x.2∧x.2≤m∧x.1.Perm d∧Mov d x.1 x.2 m) (fun x=>x.2) (d,m) ?_ ?_ ?_
   ·exact⟨by simp only;omega,Nat.le_refl _,.refl _,Mov.zero _ _⟩
   ·refine weak_to [] [] ?_ ?_ ?_ ?_ (HO' d) ?_
    all_goals simp[hil,hset0]
   ·rintro⟨d2,k⟩ ⟨k1,k2,k3,k4⟩;simp only at k1 k2 k3 k4;have hl2:=k3.length_eq;refine aw_then fun K3 hK3=>?_
    by_cases hk3:hi2<k
    ·have bk:decide ((hi2:Int)<k)=true:=decide_eq_true (by omega);have hc1:=ge_cut (d:=d2) (k:=k-1) rest (by omega);have hc2:=ge_cut (d:=d2) (k:=k) rest (by omega);have hsw:=ge_swp d2 k (k-1) rest (by omega) (by omega);have ej:((k:Int)-1)=((k-1:Nat):Int):=by omega
     refine aw_reg fun K hK=>?_;simp(disch:=omega)[bk,hk3];apply hK;clear hK K;apply aw_ift rfl;apply aw_skip;simp(disch:=omega) ;apply hK3;clear hK3;refine aw_then fun K4 hK4=>?_;apply aw_block;refine aw_draw0 [15,17] [0,0,0,0,0,0,0,0,0,0,0,0,0,0,0,0,1,1] [[2,3,4],[]] drawMixed (by kernel_rfl) (by kernel_rfl) fun K hK=>?_;simp(disch:=omega)[ej,hc1,hc2,geAV_len,hl2,hd,hil];rw[hsw];apply hK;clear hK K;apply hK4;clear hK4;refine aw_reg0 fun K hK=>?_;simp(disch:=omega)[ej];apply hK;clear hK K;refine⟨(swp d2 k (k-1),k-1),⟨by simp only;omega,by simp only;omega,(swp_perm (by omega) (by omega)).trans k3,k4.step (by omega) k2 (by omega)⟩,by show k-1<k;omega,?_⟩;refine weak_to [] [] ?_ ?_ ?_ ?_ (HO' _) ?_
     all_goals simp[hil]
    ·have bk:decide ((hi2:Int)<k)=false:=decide_eq_false (by omega);have e:hi2=k:=by omega
     subst e;refine aw_reg fun K hK=>?_;simp(disch:=omega)[bk,hk3];apply hK;clear hK K;apply aw_iff rfl;apply aw_exit;simp(disch:=omega) ;apply hK2;clear hK2;apply aw_ret;simp(disch:=omega) ;subst hmb;exact⟨rfl,rfl,d2,rfl,(k4.seg k2 k3).wide g1 (Nat.le_refl _),k4.sorted g1 k2 hmp.l (fun t t1 t2=>hmp.w t m t1 t2 (Nat.le_refl _) (by omega)) g4 g5⟩
attribute [-simp] List.getD_eq_getElem?_getD in
theorem merge3_ok {g:Nat}(hg:CmpD g)(n N:Nat)(hN:N≤1000)(ih:MergeOk g n N)(d:List GE)(rest:List AV)(a m b i:Nat)(hn:b-a≤n+1)(ham:a<m)(hma:m≠a+1)(hmb:m<b)(hmb2:b≠m+1)(hbl:b≤N)(hd:d.length=N)(hmp:MP d a m b)(H:List Blk)(T:Toks)(hi:H[i]?=some (.cells (geAV d++rest)))(hr:BelowAll H.length T.length rest) :
  ACall Tryz.prog 186 [.msl i 0 N,.int .i64 (a:Nat),.int .i64 (m:Nat),.int .i64 (b:Nat),.fn g [] []] H T (TurnQ i rest H T (fun d'=>Sx d d' a b∧Od d' a b)):=by
 have hil:=(List.getElem?_eq_some_iff.1 hi).1;have hset0:=set_id hi;have hgi:∀h:i<H.length,H[i]'h=.cells (geAV d++rest):=fun h=>by rw[List.getElem?_eq_getElem h] at hi;exact Option.some.inj hi
 have HOs:HOk H T→∀d2,HOk (H.set i (.cells (geAV d2++rest))) T:=fun HO k=>HO.set (by simp[hr]);have bm:(((m:Int)-a)==1)=false:=by rw[beq_eq_false_iff_ne];omega
 have bm':¬((m:Int)-a)=1:=by omega
 have bb:(((b:Int)-m)==1)=false:=by rw[beq_eq_false_iff_ne];omega
 have bb':¬((b:Int)-m)=1:=by omega
 have hcl:=fun(x y:GE)=>hg.at x y H T;refine acall_enter 25 [] Tryz.ntmps186 Tryz.func186 rfl (fun _ _=>Tryz.call186 _ _) (by simp) (fun HO=>?_);have HO':=HOs HO;refine aw_then fun K1 hK1=>?_;refine aw_reg fun K hK=>?_;simp(disch:=omega)[bm,bm'];apply hK;clear hK K;refine aw_if rfl (fun h=>absurd h (by simp[bm'])) (fun h=>?_);apply aw_skip;simp(disch:=omega) ;apply hK1;clear hK1;refine aw_then fun K1 hK1=>?_;refine aw_reg fun K hK=>?_;simp(disch:=omega)[bb,bb'];apply hK;clear hK K;refine aw_if rfl (fun h=>absurd h (by simp[bb'])) (fun h=>?_);apply aw_skip;simp(disch:=omega) ;apply hK1;clear hK1;apply aw_reg;intro K h;simp(disch:=omega);apply h;clear h K;rw[show ((a:Int)+b) / 2=(((a+b) / 2:Nat):Int) by omega];obtain⟨mid,hmid⟩:∃mid,mid=(a+b) / 2:=⟨_,rfl⟩
 rw[←hmid];apply aw_reg;intro K h;simp(disch:=omega);apply h;clear h K;apply aw_reg;intro K h;simp(disch:=omega);apply h;clear h K;refine aw_then fun K1 hK1=>?_;have key:∀(s0 r0:Nat) e,((m≤mid∧s0=a∧r0=m)∨(mid<m∧s0=mid+m-b∧r0=mid))→envLe H.length T.length e [(0,.msl i 0 N),(1,.int .i64 (a:Nat)),(2,.int .i64 (m:Nat)),(3,.int .i64 (b:Nat)),(4,.fn g [] []),(18,.int .i64 (mid:Nat)),(19,.int .i64 ((mid:Int)+m)),(20,.int .i64 (s0:Nat)),(21,.int .i64 (r0:Nat))]→K1 ⟨e,H,T⟩:=by
  intro s0 r0 e hs he;refine hK1 _ (aw_weak ⟨[(0,.msl i 0 N),(1,.int .i64 (a:Nat)),(2,.int .i64 (m:Nat)),(3,.int .i64 (b:Nat)),(4,.fn g [] []),(18,.int .i64 (mid:Nat)),(19,.int .i64 ((mid:Int)+m)),(20,.int .i64 (s0:Nat)),(21,.int .i64 (r0:Nat))],H,T⟩ (weak_to [] [] (by simp) (by simp) (by simp) (by simp) HO he) ?_);apply aw_reg;intro K h;simp(disch:=omega);apply h;clear h K;refine aw_then fun K2 hK2=>?_;apply aw_block;refine aw_loop (X:=Nat×Nat) (fun x=>⟨[(0,.msl i 0 N),(1,.int .i64 (a:Nat)),(2,.int .i64 (m:Nat)),(3,.int .i64 (b:Nat)),(4,.fn g [] []),(18,.int .i64 (mid:Nat)),(19,.int .i64 ((mid:Int)+m)),(20,.int .i64 (x.1:Nat)),(21,.int .i64 (x.2:Nat)),(22,.int .i64 ((mid:Int)+m-1))],H,T⟩)
   (fun x=>s0≤x.1∧x.1≤x.2∧x.2≤r0∧(∀c,s0≤c→c<x.1→(ky (d.getD (mid+m-1-c) ze))≤(ky (d.getD c ze)))∧∀c,x.2≤c→c<r0→(ky (d.getD c ze))<(ky (d.getD (mid+m-1-c) ze))) (fun x=>x.2-x.1) (s0,r0) ?_ ?_ ?_
  ·exact⟨Nat.le_refl _,by simp only;omega,Nat.le_refl _,fun t t1 t2=>by simp only at t2;omega,fun t t1 t2=>by simp only at t1;omega⟩
  ·refine weak_to [] [] ?_ ?_ ?_ ?_ HO ?_
   all_goals simp[hil]
  ·rintro⟨lo,hi2⟩ ⟨g1,g2,g3,g4,g5⟩;simp only at g1 g2 g3 g4 g5;refine aw_then fun K3 hK3=>?_;apply aw_reg;intro K h;simp(disch:=omega);apply h;clear h K;refine aw_if rfl (fun hk=>?_) (fun hk=>?_)
   ·simp  at hk;apply aw_skip;simp(disch:=omega) ;apply hK3;clear hK3;apply aw_block;apply aw_reg;intro K h;simp(disch:=omega);apply h;clear h K;rw[show ((lo:Int)+hi2) / 2=(((lo+hi2) / 2:Nat):Int) by omega];have hge:lo≤(lo+hi2) / 2:=by omega
    have hlt:(lo+hi2) / 2<hi2:=by omega
    generalize (lo+hi2) / 2=c at *;have ep:((mid:Int)+m-1-c)=((mid+m-1-c:Nat):Int):=by omega
    have pl:m≤mid+m-1-c:=by omega
    have pb:mid+m-1-c<b:=by omega
    have ca:a≤c:=by omega
    have cm:c<m:=by omega
    have hc1:=ge_cut (d:=d) (k:=mid+m-1-c) rest (by omega);have hc2:=ge_cut (d:=d) (k:=c) rest (by omega);obtain⟨q,cc,hneg⟩:=hcl (d.getD (mid+m-1-c) ze) (d.getD c ze)
    by_cases hq:q<0
    ·have bq:decide (q<0)=true:=decide_eq_true hq;refine aw_draw [] [] [] drawMixed (by kernel_rfl) (by kernel_rfl) fun K hK=>?_;simp(disch:=omega)[hgi,ep,hc1,hc2,geAV_len,hd];refine dcall_is (cc) rfl ?_;simp(disch:=omega)[bq,hq];apply hK;clear hK K;apply aw_iff rfl;refine aw_reg0 fun K hK=>?_;simp(disch:=omega) ;apply hK;clear hK K;refine⟨(lo,c),⟨g1,hge,by simp only;omega,g4,fun t t1 t2=>?_⟩,by show c-lo<hi2-lo;omega,?_⟩
     ·have e1:=hmp.l.ge ca t1 (by omega);have e3:=hmp.r.ge (by omega:m≤mid+m-1-t) (by simp only at t1;omega:mid+m-1-t≤mid+m-1-c) pb;have e2:=hneg.1 hq;omega
     ·refine weak_to [] [] ?_ ?_ ?_ ?_ HO ?_
      all_goals simp[hil]
    ·have bq:decide (q<0)=false:=decide_eq_false hq;refine aw_draw [] [] [] drawMixed (by kernel_rfl) (by kernel_rfl) fun K hK=>?_;simp(disch:=omega)[hgi,ep,hc1,hc2,geAV_len,hd];refine dcall_is (cc) rfl ?_;simp(disch:=omega)[bq,hq];apply hK;clear hK K;apply aw_ift rfl;refine aw_reg0 fun K hK=>?_;simp(disch:=omega) ;apply hK;clear hK K;refine⟨(c+1,hi2),⟨by simp only;omega,by simp only;omega,g3,fun t t1 t2=>?_,g5⟩,by show hi2-(c+1)<hi2-lo;omega,?_⟩
     ·have e1:=hmp.l.ge (by omega:a≤t) (by simp only at t2;omega:t≤c) cm;have e3:=hmp.r.ge pl (by simp only at t2;omega:mid+m-1-c≤mid+m-1-t) (by omega);have e2:¬(ky (d.getD c ze))<(ky (d.getD (mid+m-1-c) ze)):=fun e=>hq (hneg.2 e);omega
     ·refine weak_to [] [] ?_ ?_ ?_ ?_ HO ?_
      all_goals simp[hil]
   ·simp  at hk;have e:hi2=lo:=by omega
    subst e;apply aw_exit;simp(disch:=omega) ;apply hK2;clear hK2;apply aw_reg;intro K h;simp(disch:=omega);apply h;clear h K;have hst:hi2≤m:=by omega
    have hen:m≤mid+m-hi2:=by omega
    have hcut:=fun r hp hr=>sym_cut (r:=r) (st:=hi2) hmp hmid ham hmb hs g1 g3 g4 g5 hp hr;rw[show ((mid:Int)+m-hi2)=((mid+m-hi2:Nat):Int) by omega];obtain⟨en,hen2⟩:∃en,en=mid+m-hi2:=⟨_,rfl⟩
    rw[←hen2] at hcut hen ⊢;have hmb3:mid<b:=by omega
    have ham3:a<mid:=by omega
    refine aw_then fun K3 hK3=>?_;have key2:∀r e,Cut d r a m b hi2 en mid→envLe H.length T.length e [(0,.msl i 0 N),(1,.int .i64 (a:Nat)),(3,.int .i64 (b:Nat)),(4,.fn g [] []),(18,.int .i64 (mid:Nat)),(20,.int .i64 (hi2:Nat)),(24,.int .i64 (en:Nat))]→K3 ⟨e,H.set i (.cells (geAV r++rest)),T⟩:=by
     intro r e hc he;have hlr:r.length=N:=by rw[hc.perm.length_eq,hd]
     have q1:=hc.h1;have q2:=hc.h2;have q3:=hc.h3;have q4:=hc.h4;have q5:=hc.hm;refine hK3 _ (aw_weak ⟨[(0,.msl i 0 N),(1,.int .i64 (a:Nat)),(3,.int .i64 (b:Nat)),(4,.fn g [] []),(18,.int .i64 (mid:Nat)),(20,.int .i64 (hi2:Nat)),(24,.int .i64 (en:Nat))],H.set i (.cells (geAV r++rest)),T⟩ (weak_to [] [] (by simp) (by simp) (by simp) (by simp) (HO' r) (by simpa using he)) ?_);refine aw_then fun K4 hK4=>?_;have key3:∀r1 e,Sx r r1 a mid→Od r1 a mid→envLe H.length T.length e [(0,.msl i 0 N),(3,.int .i64 (b:Nat)),(4,.fn g [] []),(18,.int .i64 (mid:Nat)),(24,.int .i64 (en:Nat))]→K4 ⟨e,H.set i (.cells (geAV r1++rest)),T⟩:=by
      intro r1 e k1 k2 he;refine hK4 _ (aw_weak ⟨[(0,.msl i 0 N),(3,.int .i64 (b:Nat)),(4,.fn g [] []),(18,.int .i64 (mid:Nat)),(24,.int .i64 (en:Nat))],H.set i (.cells (geAV r1++rest)),T⟩ (weak_to [] [] (by simp) (by simp) (by simp) (by simp) (HO' r1) (by simpa using he)) ?_)
      by_cases w1:mid<en
      ·have v1:decide ((mid:Int)<en)=true:=decide_eq_true (by omega)
       by_cases w2:en<b
       ·have v2:decide ((en:Int)<b)=true:=decide_eq_true (by omega);have c2:=ih r1 rest mid en b i (by omega) w1 w2 hbl (by rw[k1.len,hlr]) (hc.mp2' hmp k1) (H.set i (.cells (geAV r1++rest))) T (List.getElem?_set_self hil) (by simpa using hr);refine aw_reg fun K hK=>?_;simp(disch:=omega)[v1,v2,w1,w2];apply hK;clear hK K;refine aw_if rfl (fun h=>?_) (fun h=>absurd h (by simp[w1,w2]));refine aw_reg0 fun K hK=>?_;simp(disch:=omega) ;refine⟨_,c2,?_⟩;rintro v H' T' ⟨rfl,rfl,r2,rfl,k3,k4⟩;simp(disch:=omega) ;apply hK;clear hK K;exact⟨rfl,rfl,r2,rfl,hc.done hmp k1 k2 k3 k4⟩
       ·have v2:decide ((en:Int)<b)=false:=decide_eq_false (by omega);refine aw_reg fun K hK=>?_;simp(disch:=omega)[v1,v2,w1,w2];apply hK;clear hK K;refine aw_if rfl (fun h=>absurd h (by simp[w2])) (fun h=>?_);apply aw_skip;simp(disch:=omega) ;have e1:en=b:=by omega
        exact⟨rfl,rfl,r1,rfl,hc.done hmp k1 k2 (Sx.refl _ _ _) (by have:=(hc.mp2' hmp k1).l;rw[e1] at this;exact this)⟩
      ·have v1:decide ((mid:Int)<en)=false:=decide_eq_false (by omega);refine aw_reg fun K hK=>?_;simp(disch:=omega)[v1,w1];apply hK;clear hK K;refine aw_if rfl (fun h=>absurd h (by simp[w1])) (fun h=>?_);apply aw_skip;simp(disch:=omega) ;have e1:mid=en:=by omega
       exact⟨rfl,rfl,r1,rfl,hc.done hmp k1 k2 (Sx.refl _ _ _) (by have:=(hc.mp2' hmp k1).r;rw[←e1] at this;exact this)⟩
     clear hK4
     by_cases w1:a<hi2
     ·have v1:decide ((a:Int)<hi2)=true:=decide_eq_true (by omega)
      by_cases w2:hi2<mid
      ·have v2:decide ((hi2:Int)<mid)=true:=decide_eq_true (by omega);have c2:=ih r rest a hi2 mid i (by omega) w1 w2 (by omega) hlr (hc.mp1 hmp) (H.set i (.cells (geAV r++rest))) T (List.getElem?_set_self hil) (by simpa using hr);refine aw_reg fun K hK=>?_;simp(disch:=omega)[v1,v2,w1,w2];apply hK;clear hK K;refine aw_if rfl (fun h=>?_) (fun h=>absurd h (by simp[w1,w2]));refine aw_reg0 fun K hK=>?_;simp(disch:=omega) ;refine⟨_,c2,?_⟩;rintro v H' T' ⟨rfl,rfl,r1,rfl,k3,k4⟩;simp(disch:=omega) ;apply hK;clear hK K;refine key3 r1 _ k3 k4 ?_;simp[hil]
      ·have v2:decide ((hi2:Int)<mid)=false:=decide_eq_false (by omega);refine aw_reg fun K hK=>?_;simp(disch:=omega)[v1,v2,w1,w2];apply hK;clear hK K;refine aw_if rfl (fun h=>absurd h (by simp[w2])) (fun h=>?_);apply aw_skip;simp(disch:=omega) ;have e1:hi2=mid:=by omega
       refine key3 r _ (Sx.refl _ _ _) (by have:=(hc.mp1 hmp).l;rw[e1] at this;exact this) ?_;simp[hil]
     ·have v1:decide ((a:Int)<hi2)=false:=decide_eq_false (by omega);refine aw_reg fun K hK=>?_;simp(disch:=omega)[v1,w1];apply hK;clear hK K;refine aw_if rfl (fun h=>absurd h (by simp[w1])) (fun h=>?_);apply aw_skip;simp(disch:=omega) ;have e1:a=hi2:=by omega
      refine key3 r _ (Sx.refl _ _ _) (by have:=(hc.mp1 hmp).r;rw[←e1] at this;exact this) ?_;simp[hil]
    clear hK3
    by_cases w1:hi2<m
    ·have v1:decide ((hi2:Int)<m)=true:=decide_eq_true (by omega)
     by_cases w2:m<en
     ·have v2:decide ((m:Int)<en)=true:=decide_eq_true (by omega);have c2:=rotate_ok hg d rest hi2 m en i w1 w2 (by omega) (by omega) H T hi hr;rw[hd] at c2;refine aw_reg fun K hK=>?_;simp(disch:=omega)[v1,v2,w1,w2];apply hK;clear hK K;refine aw_if rfl (fun h=>?_) (fun h=>absurd h (by simp[w1,w2]));refine aw_reg0 fun K hK=>?_;simp(disch:=omega) ;refine⟨_,c2,?_⟩;rintro v H' T' ⟨rfl,rfl,r1,rfl,k3,k4⟩;simp(disch:=omega) ;apply hK;clear hK K;refine key2 r1 _ (hcut r1 k3 k4) ?_;simp[hil]
     ·have v2:decide ((m:Int)<en)=false:=decide_eq_false (by omega);refine aw_reg fun K hK=>?_;simp(disch:=omega)[v1,v2,w1,w2];apply hK;clear hK K;refine aw_if rfl (fun h=>absurd h (by simp[w2])) (fun h=>?_);apply aw_skip;simp(disch:=omega) ;have:=key2 d;rw[hset0] at this;refine this _ (hcut d (.refl _) (fun t=>(rotAt_triv hst hen (.inr (by omega))).symm)) ?_;simp[hil]
    ·have v1:decide ((hi2:Int)<m)=false:=decide_eq_false (by omega);refine aw_reg fun K hK=>?_;simp(disch:=omega)[v1,w1];apply hK;clear hK K;refine aw_if rfl (fun h=>absurd h (by simp[w1])) (fun h=>?_);apply aw_skip;simp(disch:=omega) ;have:=key2 d;rw[hset0] at this;refine this _ (hcut d (.refl _) (fun t=>(rotAt_triv hst hen (.inl (by omega))).symm)) ?_;simp[hil]
 clear hK1
 by_cases hmm:mid<m
 ·have bl:decide ((mid:Int)<m)=true:=decide_eq_true (by omega);have en:((mid:Int)+m-b)=((mid+m-b:Nat):Int):=by omega
  refine aw_reg fun K hK=>?_;simp(disch:=omega)[bl,hmm];apply hK;clear hK K;refine aw_if rfl (fun h=>?_) (fun h=>absurd h (by simp[hmm]));apply aw_reg;intro K h;simp(disch:=omega);apply h;clear h K;refine aw_reg0 fun K hK=>?_;simp(disch:=omega) ;apply hK;clear hK K;refine key (mid+m-b) mid _ (.inr ⟨hmm,rfl,rfl⟩) ?_;simp[hil,en]
 ·have bl:decide ((mid:Int)<m)=false:=decide_eq_false (by omega);refine aw_reg fun K hK=>?_;simp(disch:=omega)[bl,hmm];apply hK;clear hK K;refine aw_if rfl (fun h=>absurd h (by simp[hmm])) (fun h=>?_);apply aw_reg;intro K h;simp(disch:=omega);apply h;clear h K;refine aw_reg0 fun K hK=>?_;simp(disch:=omega) ;apply hK;clear hK K;refine key a m _ (.inl ⟨by omega,rfl,rfl⟩) ?_;simp[hil]
theorem merge_ok {g:Nat}(hg:CmpD g)(N:Nat)(hN:N≤1000):∀n,MergeOk g n N
 |0=>fun d rest a m b i hn ham hmb=>by omega
 |n+1=>fun d rest a m b i hn ham hmb hbl hd hmp H T hi hr=>by
  by_cases h1:m=a+1
  ·exact merge1_ok hg N hN d rest a m b i h1 hmb hbl hd hmp H T hi hr
  ·by_cases h2:b=m+1
   ·exact merge2_ok hg N hN d rest a m b i ham h1 h2 hbl hd hmp H T hi hr
   ·exact merge3_ok hg n N hN (merge_ok hg N hN n) d rest a m b i hn ham h1 hmb h2 hbl hd hmp H T hi hr
end Go.Proofs.YtoejlmpbebjemaaGreat
namespace Sst
open Go.Proofs.YtoejlmpbebjemaaGreat
structure Bs (d d1:List GE)(N:Nat):Prop where
 seg:Sx d d1 0 N
 one:N≤20→Od d1 0 N
 two:20<N→MP d1 0 20 N
end Sst
namespace Go.Proofs.YtoejlmpbebjemaaGreat
open Go Go.Am Seg Sst
attribute [-simp] List.getD_eq_getElem?_getD in
theorem stable_ok {g:Nat}(hg:CmpD g)(N:Nat)(hN:N≤40)(d:List GE)(rest:List AV)(i:Nat)(hd:d.length=N)(hw:Wg d 0 N)(H:List Blk)(T:Toks)(hi:H[i]?=some (.cells (geAV d++rest)))(hr:BelowAll H.length T.length rest) :
  ACall Tryz.prog 156 [.msl i 0 N,.int .i64 (N:Nat),.fn g [] []] H T (TurnQ i rest H T (fun d'=>Sx d d' 0 N∧Od d' 0 N)):=by
 have hil:=(List.getElem?_eq_some_iff.1 hi).1;have hset0:=set_id hi;have HOs:HOk H T→∀d2,HOk (H.set i (.cells (geAV d2++rest))) T:=fun HO k=>HO.set (by simp[hr]);refine acall_enter 10 [] Tryz.ntmps156 Tryz.func156 rfl (fun _ _=>Tryz.call156 _ _) (by simp) (fun HO=>?_);have HO':=HOs HO;apply aw_reg;intro K h;simp(disch:=omega);apply h;clear h K;apply aw_reg;intro K h;simp(disch:=omega);apply h;clear h K;refine aw_then fun K1 hK1=>?_;apply aw_block;refine aw_loop (X:=List GE×Nat) (fun x=>⟨[(0,.msl i 0 N),(1,.int .i64 (N:Nat)),(2,.fn g [] []),(6,.int .i64 20),(7,.int .i64 ((x.2*20:Nat):Int)),(8,.int .i64 ((x.2*20:Nat)+20:Int))],H.set i (.cells (geAV x.1++rest)),T⟩)
  (fun x=>x.2*20≤N∧x.1.Perm d∧(∀t,x.2*20≤t→x.1.getD t ze=d.getD t ze)∧(∀c,c<x.2→Od x.1 (c*20) (c*20+20))∧∀t,t<x.2*20→∃u,u / 20=t / 20∧x.1.getD t ze=d.getD u ze) (fun x=>N-x.2*20) (d,0) ?_ ?_ ?_
 ·exact⟨by simp only;omega,.refl _,fun _ _=>rfl,fun c hc=>by simp only at hc;omega,fun t ht=>by simp only at ht;omega⟩
 ·refine weak_to [] [] ?_ ?_ ?_ ?_ (HO' d) ?_
  all_goals simp[hil,hset0]
 ·rintro⟨d1,k⟩ ⟨g1,g2,g3,g4,g5⟩;simp only at g1 g2 g3 g4 g5;have hl1:d1.length=N:=by rw[g2.length_eq,hd]
  obtain⟨a,ha⟩:∃a,a=k*20:=⟨_,rfl⟩
  rw[←ha] at g1 g3 g5;have hwa:Wg d1 a N:=fun p q p1 p2 p3=>by
   rw[g3 p p1,g3 q (by omega)];exact hw p q (by omega) p2 p3
  simp only[←ha];refine aw_then fun K2 hK2=>?_
  by_cases hk:a+20≤N
  ·have bk:decide ((a:Int)+20≤N)=true:=decide_eq_true (by omega);have bk':((a:Int)+20≤N):=by omega
   have c:=insert_ok hg d1 rest a (a+20) i (by omega) (by omega) (by omega) (fun p q p1 p2 p3=>hwa p q p1 p2 (by omega)) (H.set i (.cells (geAV d1++rest))) T (List.getElem?_set_self hil) (by simpa using hr);rw[hl1,show ((a+20:Nat):Int)=(a:Int)+20 by omega] at c;refine aw_reg fun K hK=>?_;simp(disch:=omega)[bk,bk'];apply hK;clear hK K;refine aw_if rfl (fun h=>?_) (fun h=>absurd h (by simp[bk']));apply aw_skip;simp(disch:=omega) ;apply hK2;clear hK2;apply aw_block;refine aw_reg fun K hK=>?_;simp(disch:=omega) ;refine⟨_,c,?_⟩;rintro v H' T' ⟨rfl,rfl,d2,rfl,k1,k2⟩;simp(disch:=omega) ;apply hK;clear hK K;apply aw_reg;intro K h;simp(disch:=omega);apply h;clear h K;refine aw_reg0 fun K hK=>?_;simp(disch:=omega) ;apply hK;clear hK K;refine⟨(d2,k+1),⟨by simp only;omega,k1.perm.trans g2,fun t ht=>?_,fun c hc=>?_,fun t ht=>?_⟩,by show N-(k+1)*20<N-a;omega,?_⟩
   ·simp only at ht;rw[k1.out t (by omega)];exact g3 t (by omega)
   ·simp only at hc;rcases Nat.lt_or_ge c k with e|e
    ·intro p q p1 p2 p3;rw[k1.out p (by omega),k1.out q (by omega)];exact g4 c e p q p1 p2 p3
    ·have:c=k:=by omega
     subst this;rw[←ha];exact k2
   ·simp only at ht;rcases Nat.lt_or_ge t a with e|e
    ·rw[k1.out t (by omega)];exact g5 t e
    ·obtain⟨u,u1,u2,u3⟩:=k1.frm t e (by omega);exact⟨u,by omega,by rw[u3];exact g3 u u1⟩
   ·refine weak_to [] [] ?_ ?_ ?_ ?_ (HO' d2) ?_
    all_goals simp[hil]
    all_goals omega
  ·have bk:decide ((a:Int)+20≤N)=false:=decide_eq_false (by omega);have bk':¬((a:Int)+20≤N):=by omega
   have c:=insert_ok hg d1 rest a N i (by omega) (by omega) (by omega) hwa (H.set i (.cells (geAV d1++rest))) T (List.getElem?_set_self hil) (by simpa using hr);rw[hl1] at c;refine aw_reg fun K hK=>?_;simp(disch:=omega)[bk,bk'];apply hK;clear hK K;refine aw_if rfl (fun h=>absurd h (by simp[bk'])) (fun h=>?_);apply aw_exit;simp(disch:=omega) ;apply hK1;clear hK1;refine aw_reg fun K hK=>?_;simp(disch:=omega) ;refine⟨_,c,?_⟩;rintro v H' T' ⟨rfl,rfl,d2,rfl,k1,k2⟩;simp(disch:=omega) ;apply hK;clear hK K;have hbs:Bs d d2 N:=by
    have hfr:∀t,t<N→∃u,u / 20=t / 20∧u<N∧d2.getD t ze=d.getD u ze:=fun t ht=>by
     rcases Nat.lt_or_ge t a with e|e
     ·obtain⟨u,u1,u2⟩:=g5 t e;exact⟨u,u1,by omega,by rw[k1.out t (by omega)];exact u2⟩
     ·obtain⟨u,u1,u2,u3⟩:=k1.frm t e ht;exact⟨u,by omega,u2,by rw[u3];exact g3 u u1⟩
    have hs:∀c,c<k→Od d2 (c*20) (c*20+20):=fun c e p q p1 p2 p3=>by
     rw[k1.out p (by omega),k1.out q (by omega)];exact g4 c e p q p1 p2 p3
    refine⟨⟨k1.perm.trans g2,fun t ht=>?_,fun t t1 t2=>?_⟩,fun h20=>?_,fun h20=>⟨?_,?_,fun p q p1 p2 p3 p4=>?_⟩⟩
    ·rw[k1.out t (by omega)];exact g3 t (by omega)
    ·obtain⟨u,u1,u2,u3⟩:=hfr t t2;exact⟨u,by omega,u2,u3⟩
    ·rcases Nat.eq_zero_or_pos k with e|e
     ·subst e;have:a=0:=by omega
      rw[this] at k2;exact k2
     ·have hk1:k=1:=by omega
      subst hk1;have:N=20:=by omega
      subst this;exact hs 0 (by omega)
    ·exact hs 0 (by omega)
    ·rcases Nat.eq_or_lt_of_le (show 1≤k by omega) with e|e
     ·have:a=20:=by omega
      rw[this] at k2;exact k2
     ·have hk2:k=2:=by omega
      have:N=40:=by omega
      rw[this];exact hs 1 (by omega)
    ·obtain⟨u,u1,u2,u3⟩:=hfr p (by omega);obtain⟨v,v1,v2,v3⟩:=hfr q p4;rw[u3,v3];exact hw u v (by omega) (by omega) v2
   clear k1 k2 g2 g3 g4 g5 c hwa;apply aw_block;refine aw_loop (X:=List GE×Nat) (fun x=>⟨[(0,.msl i 0 N),(1,.int .i64 (N:Nat)),(2,.fn g [] []),(6,.int .i64 (x.2:Nat))],H.set i (.cells (geAV x.1++rest)),T'⟩)
    (fun x=>(x.2=20∧x.1=d2)∨(x.2=40∧Sx d x.1 0 N∧Od x.1 0 N)) (fun x=>40-x.2) (d2,20) ?_ ?_ ?_
   ·exact .inl ⟨rfl,rfl⟩
   ·refine weak_to [] [] ?_ ?_ ?_ ?_ (HO' d2) ?_
    all_goals simp[hil]
   ·rintro⟨d3,z⟩ hz;simp only at hz;refine aw_then fun K2 hK2=>?_;rcases hz with⟨rfl,rfl⟩|⟨rfl,z1,z2⟩
    ·by_cases h20:20<N
     ·have b20:decide ((20:Int)<N)=true:=decide_eq_true (by omega);have b20':(20:Int)<N:=by omega
      have hmp:=hbs.two h20;have hl3:d3.length=N:=by rw[hbs.seg.len,hd]
      refine aw_reg fun K hK=>?_;simp(disch:=omega)[b20,b20'];apply hK;clear hK K;refine aw_if rfl (fun h=>?_) (fun h=>absurd h (by simp[h20]));apply aw_skip;simp(disch:=omega) ;apply hK2;clear hK2;apply aw_block;apply aw_reg;intro K h;simp(disch:=omega);apply h;clear h K;refine aw_then fun K3 hK3=>?_;apply aw_block;refine aw_loop (X:=List GE×Nat) (fun x=>⟨[(0,.msl i 0 N),(1,.int .i64 (N:Nat)),(2,.fn g [] []),(6,.int .i64 20),(7,.int .i64 ((x.2*40:Nat):Int)),(8,.int .i64 (((x.2*40:Nat):Int)+40))],H.set i (.cells (geAV x.1++rest)),T'⟩)
       (fun x=>(x.2=0∧x.1=d3)∨(x.2=1∧N=40∧Sx d x.1 0 N∧Od x.1 0 N)) (fun x=>1-x.2) (d3,0) ?_ ?_ ?_
      ·exact .inl ⟨rfl,rfl⟩
      ·refine weak_to [] [] ?_ ?_ ?_ ?_ (HO' d3) ?_
       all_goals simp[hil]
      ·rintro⟨d4,j⟩ hz;simp only at hz;refine aw_then fun K4 hK4=>?_;rcases hz with⟨rfl,rfl⟩|⟨rfl,z0,z1,z2⟩
       ·by_cases h40:N=40
        ·subst h40;have c:ACall Tryz.prog 186 [.msl i 0 40,.int .i64 0,.int .i64 20,.int .i64 40,.fn g [] []] (H.set i (.cells (geAV d4++rest))) T' (TurnQ i rest (H.set i (.cells (geAV d4++rest))) T' (fun d'=>Sx d4 d' 0 40∧Od d' 0 40)):=
          merge_ok hg 40 (by decide) 40 d4 rest 0 20 40 i (by omega) (by omega) (by omega) (by omega) hl3 hmp (H.set i (.cells (geAV d4++rest))) T' (List.getElem?_set_self hil) (by simpa using hr)
         apply aw_reg;intro K h;simp(disch:=omega);apply h;clear h K;apply aw_ift rfl;apply aw_skip;simp(disch:=omega) ;apply hK4;clear hK4;apply aw_block;refine aw_reg fun K hK=>?_;simp(disch:=omega) ;refine⟨_,c,?_⟩;rintro v H' T'' ⟨rfl,rfl,d5,rfl,k1,k2⟩;simp(disch:=omega) ;apply hK;clear hK K;apply aw_reg;intro K h;simp(disch:=omega);apply h;clear h K;refine aw_reg0 fun K hK=>?_;simp(disch:=omega) ;apply hK;clear hK K;refine⟨(d5,1),.inr ⟨rfl,rfl,hbs.seg.trans k1,k2⟩,by show 1-1<1-0;omega,?_⟩;refine weak_to [] [] ?_ ?_ ?_ ?_ (HO' d5) ?_
         all_goals simp[hil]
        ·have b40:decide ((40:Int)≤N)=false:=decide_eq_false (by omega);have b40':¬(40:Int)≤N:=by omega
         have c:ACall Tryz.prog 186 [.msl i 0 N,.int .i64 0,.int .i64 20,.int .i64 (N:Nat),.fn g [] []] (H.set i (.cells (geAV d4++rest))) T' (TurnQ i rest (H.set i (.cells (geAV d4++rest))) T' (fun d'=>Sx d4 d' 0 N∧Od d' 0 N)):=
          merge_ok hg N (by omega) 40 d4 rest 0 20 N i (by omega) (by omega) h20 (by omega) hl3 hmp (H.set i (.cells (geAV d4++rest))) T' (List.getElem?_set_self hil) (by simpa using hr)
         refine aw_reg fun K hK=>?_;simp(disch:=omega)[b40,b40'];apply hK;clear hK K;apply aw_iff rfl;apply aw_exit;simp(disch:=omega) ;apply hK3;clear hK3;refine aw_then fun K4 hK4=>?_;apply aw_reg;intro K h;simp(disch:=omega);apply h;clear h K;refine aw_reg fun K hK=>?_;simp(disch:=omega)[b20,b20'];apply hK;clear hK K;refine aw_if rfl (fun h=>?_) (fun h=>absurd h (by simp[h20]));refine aw_reg0 fun K hK=>?_;simp(disch:=omega) ;refine⟨_,c,?_⟩;rintro v H' T'' ⟨rfl,rfl,d5,rfl,k1,k2⟩;simp(disch:=omega) ;apply hK;clear hK K;apply hK4;clear hK4;refine aw_reg0 fun K hK=>?_;simp(disch:=omega) ;apply hK;clear hK K;refine⟨(d5,40),.inr ⟨rfl,hbs.seg.trans k1,k2⟩,by show 40-40<40-20;omega,?_⟩;refine weak_to [] [] ?_ ?_ ?_ ?_ (HO' d5) ?_
         all_goals simp[hil]
       ·subst z0;apply aw_reg;intro K h;simp(disch:=omega);apply h;clear h K;apply aw_iff rfl;apply aw_exit;simp(disch:=omega) ;apply hK3;clear hK3;refine aw_then fun K4 hK4=>?_;apply aw_reg;intro K h;simp(disch:=omega);apply h;clear h K;apply aw_reg;intro K h;simp(disch:=omega);apply h;clear h K;apply aw_iff rfl;apply aw_skip;simp(disch:=omega) ;apply hK4;clear hK4;refine aw_reg0 fun K hK=>?_;simp(disch:=omega) ;apply hK;clear hK K;refine⟨(d4,40),.inr ⟨rfl,z1,z2⟩,by show 40-40<40-20;omega,?_⟩;refine weak_to [] [] ?_ ?_ ?_ ?_ (HO' d4) ?_
        all_goals simp[hil]
     ·have b20:decide ((20:Int)<N)=false:=decide_eq_false (by omega);have b20':¬(20:Int)<N:=by omega
      refine aw_reg fun K hK=>?_;simp(disch:=omega)[b20,b20'];apply hK;clear hK K;refine aw_if rfl (fun h=>absurd h (by simp[h20])) (fun h=>?_);apply aw_exit;simp(disch:=omega) ;exact⟨rfl,rfl,d3,rfl,hbs.seg,hbs.one (by omega)⟩
    ·have b20:decide ((40:Int)<N)=false:=decide_eq_false (by omega);have b20':¬(40:Int)<N:=by omega
     refine aw_reg fun K hK=>?_;simp(disch:=omega)[b20,b20'];apply hK;clear hK K;apply aw_iff rfl;apply aw_exit;simp(disch:=omega) ;exact⟨rfl,rfl,d3,rfl,z1,z2⟩
end Go.Proofs.YtoejlmpbebjemaaGreat
