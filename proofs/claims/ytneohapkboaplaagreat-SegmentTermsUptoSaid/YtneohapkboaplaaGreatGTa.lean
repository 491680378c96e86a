/- The reference of layers 37 and 39, the parts that Build calls: words and numbers of a field, documents in order.
  Conditions: lengths below 400 or 1000, as each theorem says. -/
import Derived.Test.YtneohapkboaplaaGreatGBC
set_option linter.all false
set_option maxRecDepth 100000
namespace Seg
open Sug Go.Am
def wzf:List Zn→Int→List Wd
 |[],_=>[]
 |z::r,f=>if z.f=f then z.ws else wzf r f
def nmf (ns:List Nm)(f:Int):List Int:=(ns.filter fun x=>x.1==f).map (·.2)
theorem wzf_at (f:Int):∀(zs:List Zn)(i:Nat),i<zs.length→(∀j,j<i→(zs.getD j z0).f≠f)→(zs.getD i z0).f=f→wzf zs f=(zs.getD i z0).ws
 |[],i,h,_,_=>absurd h (Nat.not_lt_zero _)
 |z::r,0,_,_,h=>by
  have h:z.f=f:=h
  unfold wzf;rw[if_pos h];rfl
 |z::r,i+1,hi,h,h2=>by
  have h0:z.f≠f:=h 0 (by omega)
  unfold wzf;rw[if_neg h0]
  exact wzf_at f r i (by simpa using hi) (fun j hj=>h (j+1) (by omega)) h2
theorem wzf_none (f:Int):∀(zs:List Zn),(∀j,j<zs.length→(zs.getD j z0).f≠f)→wzf zs f=[]
 |[],_=>rfl
 |z::r,h=>by
  have h0:z.f≠f:=h 0 (by simp)
  unfold wzf;rw[if_neg h0]
  exact wzf_none f r fun j hj=>h (j+1) (by simpa using hj)
theorem nmf_take (ns:List Nm)(f:Int)(i:Nat)(h:i<ns.length):nmf (ns.take (i+1)) f=nmf (ns.take i) f++(if (ns.getD i n0).1=f then [(ns.getD i n0).2] else []):=by
 unfold nmf
 rw[take_getD ns i n0 h,List.filter_append,List.map_append]
 congr 1
 rw[List.filter_cons]
 by_cases h1:(ns.getD i n0).1=f
 ·rw[if_pos h1,if_pos (by simpa using h1)];rfl
 ·rw[if_neg h1,if_neg (by simpa using h1)];rfl
theorem insD_at (x:Dc):∀(d:List Dc)(n:Nat),n≤d.length→(∀j,j<n→(d.getD j d0).id≤x.id)→(n<d.length→¬(d.getD n d0).id≤x.id)→insD x d=d.take n++x::d.drop n
 |[],n,h,_,_=>by
  have:n=0:=by simpa using h
  subst this;rfl
 |y::r,0,_,_,h=>by
  have:=h (by simp)
  have h1:¬y.id≤x.id:=this
  rw[insD,if_neg h1];rfl
 |y::r,n+1,h0,h1,h2=>by
  have hy:y.id≤x.id:=h1 0 (by omega)
  rw[insD,if_pos hy,insD_at x r n (by simpa using h0) (fun j hj=>h1 (j+1) (by omega)) (fun hn=>h2 (by simpa using hn))]
  rfl
theorem sortD_snoc (l:List Dc)(x:Dc):sortD (l++[x])=insD x (sortD l):=by simp[sortD]
theorem sortD_len (l:List Dc):(sortD l).length=l.length:=(sortD_inOrd l).perm.length_eq
theorem insN_at (x:Nm):∀(d:List Nm)(n:Nat),n≤d.length→(∀j,j<n→nmlt (d.getD j n0) x=true)→(n<d.length→nmlt (d.getD n n0) x=false)→insN x d=d.take n++x::d.drop n
 |[],n,h,_,_=>by
  have:n=0:=by simpa using h
  subst this;rfl
 |y::r,0,_,_,h=>by
  have h1:nmlt y x=false:=h (by simp)
  rw[insN,if_neg (by simp[h1])];rfl
 |y::r,n+1,h0,h1,h2=>by
  have hy:nmlt y x=true:=h1 0 (by omega)
  rw[insN,if_pos hy,insN_at x r n (by simpa using h0) (fun j hj=>h1 (j+1) (by omega)) (fun hn=>h2 (by simpa using hn))]
  rfl
theorem isortN_snoc (l:List Nm)(x:Nm):isortN (l++[x])=insN x (isortN l):=by simp[isortN]
theorem isortN_perm (l:List Nm):(isortN l).Perm l:=by
 rw[isortN_eq];exact List.mergeSort_perm _ _
end Seg
namespace Go.Proofs.YtneohapkboaplaaGreat
open Go Go.Am Sug Seg
attribute [-simp] List.getD_eq_getElem?_getD in
set_option maxHeartbeats 4000000 in
theorem words37_ok (d:Dc)(hs:SzD d)(hw6:∀z∈d.zs,z.ws.length≤1000000)(f:Int)(H:List Blk)(T:Toks):ACall Tryz.prog 30 [.agg (dcC d),.int .i64 f] H T (Is (.sl (wzf d.zs f).length (wdAV (wzf d.zs f)) .none) H T):=by
 refine ACall.drop' ?_ (by simp)
 have hml:maxLen≤9223372036854775807:=by decide
 obtain⟨id,zs,ns⟩:=d
 obtain⟨hz,hw,hn⟩:=hs
 simp only at hz hw hn hw6 ⊢
 have hz':=Nat.le_trans hz hml
 refine acall_enter 6 [] Tryz.ntmps30 Tryz.func30 rfl (fun _ _=>Tryz.call30 _ _) (by simp) (fun HO=>?_)
 refine aw_reg fun K hK=>?_;simp(disch:=omega) ;refine hK _ ?_;clear hK K
 have HO1:HOk (H++[.cells (dcC ⟨id,zs,ns⟩)]) T:=HO.snoc (by simp)
 refine aw_then fun K1 hK1=>?_
 refine aw_reg fun K hK=>?_;simp(disch:=omega) ;refine hK _ ?_;clear hK K
 refine aw_block ?_
 refine aw_loop (X:=Nat) (fun i=>⟨[(1,.int .i64 f),(2,.ptr H.length 0),(5,.int .i64 (i:Nat))],H++[.cells (dcC ⟨id,zs,ns⟩)],T⟩)
  (fun i=>i≤zs.length∧∀j,j<i→(zs.getD j z0).f≠f) (fun i=>zs.length-i) 0 ?_ ?_ ?_
 ·exact⟨Nat.zero_le _,fun j hj=>absurd hj (Nat.not_lt_zero _)⟩
 ·refine weak_to [] [] ?_ ?_ ?_ ?_ HO1 ?_
  all_goals simp
 ·rintro i ⟨g1,g2⟩
  refine aw_then fun K2 hK2=>?_
  refine aw_reg fun K hK=>?_;simp(disch:=omega) ;refine hK _ ?_;clear hK K
  refine aw_if rfl (fun hk=>?_) (fun hk=>?_)
  ·simp  at hk
   obtain⟨a1,a2⟩:=znAV_at zs i hk
   have hwl:=hw6 _ (getD_mem zs i z0 hk)
   have hpos:=wzf_at f zs i hk g2
   have hadd:(zs.getD i z0).f≠f→∀j,j<i+1→(zs.getD j z0).f≠f:=fun h j hj=>by
    rcases Nat.lt_or_ge j i with h1|h1
    ·exact g2 j h1
    ·have:j=i:=by omega
     subst this;exact h
   generalize zs.getD i z0=z at *
   obtain⟨zf,ws⟩:=z
   simp only at a1 a2 hwl hpos hadd
   refine aw_skip ?_;simp(disch:=omega) 
   refine hK2 _ ?_;clear hK2
   refine aw_then fun K3 hK3=>?_
   refine aw_block ?_
   by_cases h1:zf=f
   ·have b1:(zf==f)=true:=by simpa using h1
    have hp:=hpos h1
    refine aw_reg fun K hK=>?_;simp(disch:=omega)[a1,a2,znAV_len,hk,b1,h1];refine hK _ ?_;clear hK K
    refine aw_ift rfl ?_
    have hwl':(0+ws.length)*24≤140737488355328:=by omega
    have hwl2:0+ws.length≤9223372036854775807:=by omega
    refine aw_reg fun K hK=>?_;simp(disch:=omega)[a1,a2,znAV_len,hk,wdAV_len,amade_zero];refine hK _ ?_;clear hK K
    refine aw_ret ?_;simp(disch:=omega) 
    rw[hp]
    exact⟨rfl,rfl⟩
   ·have b1:(zf==f)=false:=by simpa using h1
    refine aw_reg fun K hK=>?_;simp(disch:=omega)[a1,a2,znAV_len,hk,b1,h1];refine hK _ ?_;clear hK K
    refine aw_iff rfl ?_
    refine aw_skip ?_;simp(disch:=omega) 
    refine hK3 _ ?_;clear hK3
    refine aw_reg0 fun K hK=>?_;simp(disch:=omega) 
    refine hK _ ?_;clear hK K
    refine⟨i+1,⟨by show i+1≤_;omega,hadd h1⟩,by show zs.length-(i+1)<zs.length-i;omega,?_⟩
    refine weak_to [] [] ?_ ?_ ?_ ?_ HO1 ?_
    all_goals simp
  ·simp  at hk
   have hn:=wzf_none f zs fun j hj=>g2 j (by omega)
   refine aw_exit ?_;simp(disch:=omega) 
   refine hK1 _ ?_;clear hK1
   refine aw_reg fun K hK=>?_;simp(disch:=omega) ;refine hK _ ?_;clear hK K
   refine aw_ret ?_;simp(disch:=omega) 
   rw[hn]
   exact⟨rfl,rfl⟩
attribute [-simp] List.getD_eq_getElem?_getD in
set_option maxHeartbeats 4000000 in
theorem nums37_ok (d:Dc)(hs:SzD d)(hn6:d.ns.length≤1000000)(f:Int)(H:List Blk)(T:Toks):ACall Tryz.prog 31 [.agg (dcC d),.int .i64 f] H T (Is (.sl (nmf d.ns f).length (ints (nmf d.ns f)) .none) H T):=by
 refine ACall.drop' ?_ (by simp)
 obtain⟨id,zs,ns⟩:=d
 simp only at hn6 ⊢
 refine acall_enter 7 [] Tryz.ntmps31 Tryz.func31 rfl (fun _ _=>Tryz.call31 _ _) (by simp) (fun HO=>?_)
 refine aw_reg fun K hK=>?_;simp(disch:=omega) ;refine hK _ ?_;clear hK K
 have HO1:HOk (H++[.cells (dcC ⟨id,zs,ns⟩)]) T:=HO.snoc (by simp)
 refine aw_reg fun K hK=>?_;simp(disch:=omega) ;refine hK _ ?_;clear hK K
 refine aw_then fun K1 hK1=>?_
 refine aw_reg fun K hK=>?_;simp(disch:=omega) ;refine hK _ ?_;clear hK K
 refine aw_block ?_
 refine aw_own 5 0 1 [] (by omega) (by simp) ?_
 refine aw_loop (X:=Nat) (fun i=>⟨[(1,.int .i64 f),(2,.ptr H.length 0),(5,.sl (nmf (ns.take i) f).length (ints (nmf (ns.take i) f)) (.own T.length)),(6,.int .i64 (i:Nat))],H++[.cells (dcC ⟨id,zs,ns⟩)],T++[((nmf (ns.take i) f).length,1)]⟩)
  (fun i=>i≤ns.length) (fun i=>ns.length-i) 0 ?_ ?_ ?_
 ·exact Nat.zero_le _
 ·refine weak_to [] [] ?_ ?_ ?_ ?_ (HO1.toks (by simp)) ?_
  all_goals simp[nmf]
 ·intro i g1
  refine aw_then fun K2 hK2=>?_
  refine aw_reg fun K hK=>?_;simp(disch:=omega) ;refine hK _ ?_;clear hK K
  refine aw_if rfl (fun hk=>?_) (fun hk=>?_)
  ·simp  at hk
   obtain⟨a1,a2⟩:=nmAV_at ns i hk
   have htk:=nmf_take ns f i hk
   have hll:(nmf (ns.take i) f).length≤1000000:=by
    unfold nmf
    rw[List.length_map]
    exact Nat.le_trans (List.length_filter_le _ _) (by rw[List.length_take];omega)
   generalize nmf (ns.take i) f=out at *
   generalize ns.getD i n0=x at *
   obtain⟨xf,xn⟩:=x
   simp only at a1 a2 htk
   refine aw_skip ?_;simp(disch:=omega) 
   refine hK2 _ ?_;clear hK2
   refine aw_then fun K3 hK3=>?_
   refine aw_block ?_
   by_cases h1:xf=f
   ·have b1:(xf==f)=true:=by simpa using h1
    rw[if_pos h1] at htk
    refine aw_reg fun K hK=>?_;simp(disch:=omega)[a1,a2,nmAV_len,hk,b1,h1];refine hK _ ?_;clear hK K
    refine aw_ift rfl ?_
    refine aw_reg0 fun K hK=>?_;simp(disch:=omega)[a1,a2,nmAV_len,hk,ints_snoc]
    refine hK _ ?_;clear hK K
    refine hK3 _ ?_;clear hK3
    refine aw_reg0 fun K hK=>?_;simp(disch:=omega) 
    refine hK _ ?_;clear hK K
    refine⟨i+1,by show i+1≤_;omega,by show ns.length-(i+1)<ns.length-i;omega,?_⟩
    refine weak_to [] [] ?_ ?_ ?_ ?_ (HO1.toks (by simp)) ?_
    all_goals simp[htk]
   ·have b1:(xf==f)=false:=by simpa using h1
    rw[if_neg h1,List.append_nil] at htk
    refine aw_reg fun K hK=>?_;simp(disch:=omega)[a1,a2,nmAV_len,hk,b1,h1];refine hK _ ?_;clear hK K
    refine aw_iff rfl ?_
    refine aw_skip ?_;simp(disch:=omega) 
    refine hK3 _ ?_;clear hK3
    refine aw_reg0 fun K hK=>?_;simp(disch:=omega) 
    refine hK _ ?_;clear hK K
    refine⟨i+1,by show i+1≤_;omega,by show ns.length-(i+1)<ns.length-i;omega,?_⟩
    refine weak_to [] [] ?_ ?_ ?_ ?_ (HO1.toks (by simp)) ?_
    all_goals simp[htk]
  ·simp  at hk
   have hie:i=ns.length:=by omega
   subst hie
   rw[List.take_length]
   refine aw_exit ?_;simp(disch:=omega) 
   refine hK1 _ ?_;clear hK1
   refine aw_reg fun K hK=>?_;simp(disch:=omega) ;refine hK _ ?_;clear hK K
   refine aw_ret ?_;simp(disch:=omega) 
attribute [-simp] List.getD_eq_getElem?_getD in
set_option maxHeartbeats 4000000 in
theorem sorted39_ok (l:List Dc)(hl:l.length≤1000000)(H:List Blk)(T:Toks)(tg:Tag):ACall Tryz.prog 42 [.sl l.length (dcAV l) tg] H T (Is (.sl (sortD l).length (dcAV (sortD l)) .none) H T):=by
 refine ACall.untag1 ?_
 refine ACall.drop' ?_ (by simp)
 refine acall_enter 6 [] Tryz.ntmps42 Tryz.func42 rfl (fun _ _=>Tryz.call42 _ _) (by simp) (fun HO=>?_)
 refine aw_reg fun K hK=>?_;simp(disch:=omega) ;refine hK _ ?_;clear hK K
 refine aw_reg fun K hK=>?_;simp(disch:=omega) ;refine hK _ ?_;clear hK K
 refine aw_then fun K1 hK1=>?_
 refine aw_reg fun K hK=>?_;simp(disch:=omega) ;refine hK _ ?_;clear hK K
 refine aw_block ?_
 refine aw_loop (X:=Nat) (fun k=>⟨[(0,.sl l.length (dcAV l) .none),(3,.sl (sortD (l.take k)).length (dcAV (sortD (l.take k))) .none),(4,.int .i64 (k:Nat))],H,T⟩)
  (fun k=>k≤l.length) (fun k=>l.length-k) 0 ?_ ?_ ?_
 ·exact Nat.zero_le _
 ·refine weak_to [] [] ?_ ?_ ?_ ?_ HO ?_
  all_goals simp[sortD,dcAV_nil]
 ·intro k g1
  refine aw_then fun K2 hK2=>?_
  refine aw_reg fun K hK=>?_;simp(disch:=omega) ;refine hK _ ?_;clear hK K
  refine aw_if rfl (fun hk=>?_) (fun hk=>?_)
  ·simp  at hk
   have hat:=(dcAV_at l k hk).1
   have hcut:=dcAV_cut l k hk
   have hft:sortD (l.take (k+1))=insD (l.getD k d0) (sortD (l.take k)):=by rw[take_getD l k d0 hk];exact sortD_snoc _ _
   have hdl:(sortD (l.take k)).length≤1000000:=by rw[sortD_len,List.length_take];omega
   generalize sortD (l.take k)=d at *
   generalize l.getD k d0=x at *
   refine aw_skip ?_;simp(disch:=omega) 
   refine hK2 _ ?_;clear hK2
   refine aw_then fun K3 hK3=>?_
   refine aw_block ?_
   refine aw_reg fun K hK=>?_;simp(disch:=omega) ;refine hK _ ?_;clear hK K
   refine aw_then fun K5 hK5=>?_
   refine aw_block ?_
   refine aw_loop (X:=Nat) (fun n=>⟨[(0,.sl l.length (dcAV l) .none),(3,.sl d.length (dcAV d) .none),(4,.int .i64 (k:Nat)),(5,.int .i64 (n:Nat))],H,T⟩)
    (fun n=>n≤d.length∧∀j,j<n→(d.getD j d0).id≤x.id) (fun n=>d.length-n) 0 ?_ ?_ ?_
   ·exact⟨Nat.zero_le _,fun j hj=>absurd hj (Nat.not_lt_zero _)⟩
   ·refine weak_to [] [] ?_ ?_ ?_ ?_ HO ?_
    all_goals simp
   ·rintro n ⟨hn1,hn2⟩
    have go:(n<d.length→¬(d.getD n d0).id≤x.id)→∀e,envLe H.length T.length e [(0,.sl l.length (dcAV l) .none),(3,.sl d.length (dcAV d) .none),(4,.int .i64 (k:Nat)),(5,.int .i64 (n:Nat))]→K5 ⟨e,H,T⟩:=by
     intro hn3 e he
     have hins:=insD_at x d n hn1 hn2 hn3
     refine hK5 _ (aw_weak ⟨[(0,.sl l.length (dcAV l) .none),(3,.sl d.length (dcAV d) .none),(4,.int .i64 (k:Nat)),(5,.int .i64 (n:Nat))],H,T⟩ (weak_to [] [] (by simp) (by simp) (by simp) (by simp) HO (by simpa using he)) ?_)
     have ht:=dcAV_tk d n
     have hdr:=dcAV_drop d n
     have hlt:(dcAV (d.take n)).length=n*3:=by rw[dcAV_len,List.length_take];omega
     have hld:(dcAV (d.drop n)).length=(d.length-n)*3:=by rw[dcAV_len,List.length_drop]
     have htk:(dcAV (d.drop n)).take ((d.length-n)*3)=dcAV (d.drop n):=by rw[←hld,List.take_length]
     have hres:dcAV (d.take n)++.int .i64 x.id::.sl x.zs.length (znAV x.zs) .none::.sl x.ns.length (nmAV x.ns) .none::dcAV (d.drop n)=dcAV (insD x d):=by rw[hins];simp[dcAV]
     have hlen:n+1+(d.length-n)=(insD x d).length:=by rw[hins];simp;omega
     refine aw_draw0 [4,10,14] [0,0,0,0,0,0,0,0,0,0,1,0,0,0,2,3] [[],[],[]] drawMixed (by kernel_rfl) (by kernel_rfl) fun K hK=>?_;simp(disch:=omega)[amade_zero,dcAV_len,ht,hdr,hlt,hld,htk,hat,hcut,hk]
     rw[hres,hlen]
     refine hK _ ?_;clear hK K
     refine hK3 _ ?_;clear hK3
     refine aw_reg0 fun K hK=>?_;simp(disch:=omega) 
     refine hK _ ?_;clear hK K
     refine⟨k+1,by show k+1≤_;omega,by show l.length-(k+1)<l.length-k;omega,?_⟩
     simp only[hft]
     refine weak_to [] [((insD x d).length*3,3)] ?_ ?_ ?_ ?_ HO ?_
     all_goals simp
    refine aw_then fun K6 hK6=>?_
    by_cases hn3:n<d.length
    ·have hdat:=(dcAV_at d n hn3).1
     have hst:(d.getD n d0).id≤x.id→∀j,j<n+1→(d.getD j d0).id≤x.id:=fun h j hj=>by
      rcases Nat.lt_or_ge j n with h3|h3
      ·exact hn2 j h3
      ·have:j=n:=by omega
       subst this;exact h
     generalize d.getD n d0=y at *
     have b4:decide ((n:Int)<d.length)=true:=decide_eq_true (by omega)
     by_cases ha:y.id≤x.id
     ·have b5:decide (y.id≤x.id)=true:=decide_eq_true ha
      refine aw_draw [] [] [] drawMixed (by kernel_rfl) (by kernel_rfl) fun K hK=>?_;simp(disch:=omega)[b4,hn3,hdat,dcAV_len,hat,hk,b5,ha]
      refine hK _ ?_;clear hK K
      refine aw_ift rfl ?_
      refine aw_skip ?_;simp(disch:=omega) 
      refine hK6 _ ?_;clear hK6
      refine aw_block ?_
      refine aw_reg0 fun K hK=>?_;simp(disch:=omega) 
      refine hK _ ?_;clear hK K
      refine⟨n+1,⟨by show n+1≤_;omega,hst ha⟩,by show d.length-(n+1)<d.length-n;omega,?_⟩
      refine weak_to [] [] ?_ ?_ ?_ ?_ HO ?_
      all_goals simp
     ·have b5:decide (y.id≤x.id)=false:=decide_eq_false ha
      refine aw_draw [] [] [] drawMixed (by kernel_rfl) (by kernel_rfl) fun K hK=>?_;simp(disch:=omega)[b4,hn3,hdat,dcAV_len,hat,hk,b5,ha]
      refine hK _ ?_;clear hK K
      refine aw_iff rfl ?_
      refine aw_exit ?_;simp(disch:=omega) 
      refine go (fun _=>ha) _ ?_
      simp
    ·have b4:decide ((n:Int)<d.length)=false:=decide_eq_false (by omega)
     refine aw_draw [] [] [] drawMixed (by kernel_rfl) (by kernel_rfl) fun K hK=>?_;simp(disch:=omega)[b4,hn3]
     refine hK _ ?_;clear hK K
     refine aw_iff rfl ?_
     refine aw_exit ?_;simp(disch:=omega) 
     refine go (fun h=>absurd h hn3) _ ?_
     simp
  ·simp  at hk
   have e:k=l.length:=by omega
   subst e
   rw[List.take_length]
   refine aw_exit ?_;simp(disch:=omega) 
   refine hK1 _ ?_;clear hK1
   refine aw_reg fun K hK=>?_;simp(disch:=omega) ;refine hK _ ?_;clear hK K
   refine aw_ret ?_;simp(disch:=omega) 
end Go.Proofs.YtneohapkboaplaaGreat
