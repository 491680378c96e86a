/- The reference of layers 37 and 39, the parts that Build calls: words and numbers of a field, documents in order. The reference's test of documents (layer 37). The reference's terms (layer 39): the words of the fields of documents, in order, each once; the list is a box that is written to later. The reference's positions and columns (layer 39). The reference's Build (layer 39): the lists of the terms grow in place. The reference's Build (layer 39): the loops. The reference's Build (layer 39): the whole.
   Conditions: as the theorems say. -/
import Derived.Test.YtneohapkboaplaaGreatGBC
import Derived.Test.YtneohapkboaplaaGreatGRA
import Derived.Test.YtneohapkboaplaaGreatAmC
set_option linter.all false
set_option maxRecDepth 100000
namespace Seg
open Sug Go.Am
def wzf:List Zn→Int→List Wd
 |[],_=>[]
 |z::r,f=>if z.f=f then z.ws else wzf r f
def nmf (ns:List Nm)(f:Int):List Int:=(ns.filter fun x=>x.1==f).map (·.2)
theorem wzf_at (f:Int):∀(zs:List Zn)(i:Nat),i<zs.length→(∀j,j<i→(zs.getD j z0).f≠f)→(zs.getD i z0).f=f→wzf zs f=(zs.getD i z0).ws
 |[],i,h,_,_=>absurd h (Nat.not_lt_zero _)
 |z::r,0,_,_,h=>by
  have h:z.f=f:=h;unfold wzf;rw[if_pos h];rfl
 |z::r,i+1,hi,h,h2=>by
  have h0:z.f≠f:=h 0 (by omega);unfold wzf;rw[if_neg h0];exact wzf_at f r i (by simpa using hi) (fun j hj=>h (j+1) (by omega)) h2
theorem wzf_none (f:Int):∀(zs:List Zn),(∀j,j<zs.length→(zs.getD j z0).f≠f)→wzf zs f=[]
 |[],_=>rfl
 |z::r,h=>by
  have h0:z.f≠f:=h 0 (by simp);unfold wzf;rw[if_neg h0];exact wzf_none f r fun j hj=>h (j+1) (by simpa using hj)
theorem nmf_take (ns:List Nm)(f:Int)(i:Nat)(h:i<ns.length):nmf (ns.take (i+1)) f=nmf (ns.take i) f++(if (ns.getD i n0).1=f then [(ns.getD i n0).2] else []):=by
 unfold nmf;rw[take_getD ns i n0 h,List.filter_append,List.map_append]
 congr 1
 rw[List.filter_cons]
 by_cases h1:(ns.getD i n0).1=f
 ·rw[if_pos h1,if_pos (by simpa using h1)];rfl
 ·rw[if_neg h1,if_neg (by simpa using h1)];rfl
theorem insD_at (x:Dc):∀(d:List Dc)(n:Nat),n≤d.length→(∀j,j<n→(d.getD j d0).id≤x.id)→(n<d.length→¬(d.getD n d0).id≤x.id)→insD x d=d.take n++x::d.drop n
 |[],n,h,_,_=>by
  have:n=0:=by simpa using h
  subst this;rfl
 |y::r,0,_,_,h=>by
  have:=h (by simp);have h1:¬y.id≤x.id:=this;rw[insD,if_neg h1];rfl
 |y::r,n+1,h0,h1,h2=>by
  have hy:y.id≤x.id:=h1 0 (by omega);rw[insD,if_pos hy,insD_at x r n (by simpa using h0) (fun j hj=>h1 (j+1) (by omega)) (fun hn=>h2 (by simpa using hn))];rfl
theorem sortD_snoc (l:List Dc)(x:Dc):sortD (l++[x])=insD x (sortD l):=by simp[sortD]
theorem sortD_len (l:List Dc):(sortD l).length=l.length:=(sortD_inOrd l).perm.length_eq
theorem insN_at (x:Nm):∀(d:List Nm)(n:Nat),n≤d.length→(∀j,j<n→nmlt (d.getD j n0) x=true)→(n<d.length→nmlt (d.getD n n0) x=false)→insN x d=d.take n++x::d.drop n
 |[],n,h,_,_=>by
  have:n=0:=by simpa using h
  subst this;rfl
 |y::r,0,_,_,h=>by
  have h1:nmlt y x=false:=h (by simp);rw[insN,if_neg (by simp[h1])];rfl
 |y::r,n+1,h0,h1,h2=>by
  have hy:nmlt y x=true:=h1 0 (by omega);rw[insN,if_pos hy,insN_at x r n (by simpa using h0) (fun j hj=>h1 (j+1) (by omega)) (fun hn=>h2 (by simpa using hn))];rfl
theorem isortN_snoc (l:List Nm)(x:Nm):isortN (l++[x])=insN x (isortN l):=by simp[isortN]
theorem isortN_perm (l:List Nm):(isortN l).Perm l:=by
 rw[isortN_eq];exact List.mergeSort_perm _ _
end Seg
namespace Go.Proofs.YtneohapkboaplaaGreat
open Go Go.Am Sug Seg
attribute [-simp] List.getD_eq_getElem?_getD in
set_option maxHeartbeats 4000000 in
theorem words37_ok (d:Dc)(hs:SzD d)(hw6:∀z∈d.zs,z.ws.length≤1000000)(f:Int)(H:List Blk)(T:Toks):ACall Tryz.prog 30 [.agg (dcC d),.int .i64 f] H T (Is (.sl (wzf d.zs f).length (wdAV (wzf d.zs f)) .none) H T):=by
 refine ACall.drop' ?_ (by simp);have hml:maxLen≤9223372036854775807:=by decide
 obtain⟨id,zs,ns⟩:=d;obtain⟨hz,hw,hn⟩:=hs;simp only at hz hw hn hw6 ⊢;have hz':=Nat.le_trans hz hml;refine acall_enter 6 [] Tryz.ntmps30 Tryz.func30 rfl (fun _ _=>Tryz.call30 _ _) (by simp) (fun HO=>?_);apply aw_reg;intro K h;simp(disch:=omega);apply h;clear h K;have HO1:HOk (H++[.cells (dcC ⟨id,zs,ns⟩)]) T:=HO.snoc (by simp);refine aw_then fun K1 hK1=>?_;apply aw_reg;intro K h;simp(disch:=omega);apply h;clear h K;apply aw_block;refine aw_loop (X:=Nat) (fun i=>⟨[(1,.int .i64 f),(2,.ptr H.length 0),(5,.int .i64 (i:Nat))],H++[.cells (dcC ⟨id,zs,ns⟩)],T⟩)
  (fun i=>i≤zs.length∧∀j,j<i→(zs.getD j z0).f≠f) (fun i=>zs.length-i) 0 ?_ ?_ ?_
 ·exact⟨Nat.zero_le _,fun j hj=>absurd hj (Nat.not_lt_zero _)⟩
 ·refine weak_to [] [] ?_ ?_ ?_ ?_ HO1 ?_
  all_goals simp
 ·rintro i ⟨g1,g2⟩;refine aw_then fun K2 hK2=>?_;apply aw_reg;intro K h;simp(disch:=omega);apply h;clear h K;refine aw_if rfl (fun hk=>?_) (fun hk=>?_)
  ·simp  at hk;obtain⟨a1,a2⟩:=znAV_at zs i hk;have hwl:=hw6 _ (getD_mem zs i z0 hk);have hpos:=wzf_at f zs i hk g2;have hadd:(zs.getD i z0).f≠f→∀j,j<i+1→(zs.getD j z0).f≠f:=fun h j hj=>by
    rcases Nat.lt_or_ge j i with h1|h1
    ·exact g2 j h1
    ·have:j=i:=by omega
     subst this;exact h
   generalize zs.getD i z0=z at *;obtain⟨zf,ws⟩:=z;simp only at a1 a2 hwl hpos hadd;apply aw_skip;simp(disch:=omega) ;apply hK2;clear hK2;refine aw_then fun K3 hK3=>?_;apply aw_block
   by_cases h1:zf=f
   ·have b1:(zf==f)=true:=by simpa using h1
    have hp:=hpos h1;refine aw_reg fun K hK=>?_;simp(disch:=omega)[a1,a2,znAV_len,hk,b1,h1];apply hK;clear hK K;apply aw_ift rfl;have hwl':(0+ws.length)*24≤140737488355328:=by omega
    have hwl2:0+ws.length≤9223372036854775807:=by omega
    refine aw_reg fun K hK=>?_;simp(disch:=omega)[a1,a2,znAV_len,hk,wdAV_len,amade_zero];apply hK;clear hK K;apply aw_ret;simp(disch:=omega) ;rw[hp];exact⟨rfl,rfl⟩
   ·have b1:(zf==f)=false:=by simpa using h1
    refine aw_reg fun K hK=>?_;simp(disch:=omega)[a1,a2,znAV_len,hk,b1,h1];apply hK;clear hK K;apply aw_iff rfl;apply aw_skip;simp(disch:=omega) ;apply hK3;clear hK3;refine aw_reg0 fun K hK=>?_;simp(disch:=omega) ;apply hK;clear hK K;refine⟨i+1,⟨by show i+1≤_;omega,hadd h1⟩,by show zs.length-(i+1)<zs.length-i;omega,?_⟩;refine weak_to [] [] ?_ ?_ ?_ ?_ HO1 ?_
    all_goals simp
  ·simp  at hk;have hn:=wzf_none f zs fun j hj=>g2 j (by omega);apply aw_exit;simp(disch:=omega) ;apply hK1;clear hK1;apply aw_reg;intro K h;simp(disch:=omega);apply h;clear h K;apply aw_ret;simp(disch:=omega) ;rw[hn];exact⟨rfl,rfl⟩
attribute [-simp] List.getD_eq_getElem?_getD in
set_option maxHeartbeats 4000000 in
theorem nums37_ok (d:Dc)(hs:SzD d)(hn6:d.ns.length≤1000000)(f:Int)(H:List Blk)(T:Toks):ACall Tryz.prog 31 [.agg (dcC d),.int .i64 f] H T (Is (.sl (nmf d.ns f).length (ints (nmf d.ns f)) .none) H T):=by
 refine ACall.drop' ?_ (by simp);obtain⟨id,zs,ns⟩:=d;simp only at hn6 ⊢;refine acall_enter 7 [] Tryz.ntmps31 Tryz.func31 rfl (fun _ _=>Tryz.call31 _ _) (by simp) (fun HO=>?_);apply aw_reg;intro K h;simp(disch:=omega);apply h;clear h K;have HO1:HOk (H++[.cells (dcC ⟨id,zs,ns⟩)]) T:=HO.snoc (by simp);apply aw_reg;intro K h;simp(disch:=omega);apply h;clear h K;refine aw_then fun K1 hK1=>?_;apply aw_reg;intro K h;simp(disch:=omega);apply h;clear h K;apply aw_block;refine aw_own 5 0 1 [] (by omega) (by simp) ?_;refine aw_loop (X:=Nat) (fun i=>⟨[(1,.int .i64 f),(2,.ptr H.length 0),(5,.sl (nmf (ns.take i) f).length (ints (nmf (ns.take i) f)) (.own T.length)),(6,.int .i64 (i:Nat))],H++[.cells (dcC ⟨id,zs,ns⟩)],T++[((nmf (ns.take i) f).length,1)]⟩)
  (fun i=>i≤ns.length) (fun i=>ns.length-i) 0 ?_ ?_ ?_
 ·exact Nat.zero_le _
 ·refine weak_to [] [] ?_ ?_ ?_ ?_ (HO1.toks (by simp)) ?_
  all_goals simp[nmf]
 ·intro i g1;refine aw_then fun K2 hK2=>?_;apply aw_reg;intro K h;simp(disch:=omega);apply h;clear h K;refine aw_if rfl (fun hk=>?_) (fun hk=>?_)
  ·simp  at hk;obtain⟨a1,a2⟩:=nmAV_at ns i hk;have htk:=nmf_take ns f i hk;have hll:(nmf (ns.take i) f).length≤1000000:=by
    unfold nmf;rw[List.length_map];exact Nat.le_trans (List.length_filter_le _ _) (by rw[List.length_take];omega)
   generalize nmf (ns.take i) f=out at *;generalize ns.getD i n0=x at *;obtain⟨xf,xn⟩:=x;simp only at a1 a2 htk;apply aw_skip;simp(disch:=omega) ;apply hK2;clear hK2;refine aw_then fun K3 hK3=>?_;apply aw_block
   by_cases h1:xf=f
   ·have b1:(xf==f)=true:=by simpa using h1
    rw[if_pos h1] at htk;refine aw_reg fun K hK=>?_;simp(disch:=omega)[a1,a2,nmAV_len,hk,b1,h1];apply hK;clear hK K;apply aw_ift rfl;refine aw_reg0 fun K hK=>?_;simp(disch:=omega)[a1,a2,nmAV_len,hk,ints_snoc];apply hK;clear hK K;apply hK3;clear hK3;refine aw_reg0 fun K hK=>?_;simp(disch:=omega) ;apply hK;clear hK K;refine⟨i+1,by show i+1≤_;omega,by show ns.length-(i+1)<ns.length-i;omega,?_⟩;refine weak_to [] [] ?_ ?_ ?_ ?_ (HO1.toks (by simp)) ?_
    all_goals simp[htk]
   ·have b1:(xf==f)=false:=by simpa using h1
    rw[if_neg h1,List.append_nil] at htk;refine aw_reg fun K hK=>?_;simp(disch:=omega)[a1,a2,nmAV_len,hk,b1,h1];apply hK;clear hK K;apply aw_iff rfl;apply aw_skip;simp(disch:=omega) ;apply hK3;clear hK3;refine aw_reg0 fun K hK=>?_;simp(disch:=omega) ;apply hK;clear hK K;refine⟨i+1,by show i+1≤_;omega,by show ns.length-(i+1)<ns.length-i;omega,?_⟩;refine weak_to [] [] ?_ ?_ ?_ ?_ (HO1.toks (by simp)) ?_
    all_goals simp[htk]
  ·simp  at hk;have hie:i=ns.length:=by omega
   subst hie;rw[List.take_length];apply aw_exit;simp(disch:=omega) ;apply hK1;clear hK1;apply aw_reg;intro K h;simp(disch:=omega);apply h;clear h K;apply aw_ret;simp(disch:=omega) 
attribute [-simp] List.getD_eq_getElem?_getD in
set_option maxHeartbeats 4000000 in
theorem sorted39_ok (l:List Dc)(hl:l.length≤1000000)(H:List Blk)(T:Toks)(tg:Tag):ACall Tryz.prog 42 [.sl l.length (dcAV l) tg] H T (Is (.sl (sortD l).length (dcAV (sortD l)) .none) H T):=by
 refine ACall.untag1 ?_;refine ACall.drop' ?_ (by simp);refine acall_enter 6 [] Tryz.ntmps42 Tryz.func42 rfl (fun _ _=>Tryz.call42 _ _) (by simp) (fun HO=>?_);apply aw_reg;intro K h;simp(disch:=omega);apply h;clear h K;apply aw_reg;intro K h;simp(disch:=omega);apply h;clear h K;refine aw_then fun K1 hK1=>?_;apply aw_reg;intro K h;simp(disch:=omega);apply h;clear h K;apply aw_block;refine aw_loop (X:=Nat) (fun k=>⟨[(0,.sl l.length (dcAV l) .none),(3,.sl (sortD (l.take k)).length (dcAV (sortD (l.take k))) .none),(4,.int .i64 (k:Nat))],H,T⟩)
  (fun k=>k≤l.length) (fun k=>l.length-k) 0 ?_ ?_ ?_
 ·exact Nat.zero_le _
 ·refine weak_to [] [] ?_ ?_ ?_ ?_ HO ?_
  all_goals simp[sortD,dcAV_nil]
 ·intro k g1;refine aw_then fun K2 hK2=>?_;apply aw_reg;intro K h;simp(disch:=omega);apply h;clear h K;refine aw_if rfl (fun hk=>?_) (fun hk=>?_)
  ·simp  at hk;have hat:=(dcAV_at l k hk).1;have hcut:=dcAV_cut l k hk;have hft:sortD (l.take (k+1))=insD (l.getD k d0) (sortD (l.take k)):=by rw[take_getD l k d0 hk];exact sortD_snoc _ _
   have hdl:(sortD (l.take k)).length≤1000000:=by rw[sortD_len,List.length_take];omega
   generalize sortD (l.take k)=d at *;generalize l.getD k d0=x at *;apply aw_skip;simp(disch:=omega) ;apply hK2;clear hK2;refine aw_then fun K3 hK3=>?_;apply aw_block;apply aw_reg;intro K h;simp(disch:=omega);apply h;clear h K;refine aw_then fun K5 hK5=>?_;apply aw_block;refine aw_loop (X:=Nat) (fun n=>⟨[(0,.sl l.length (dcAV l) .none),(3,.sl d.length (dcAV d) .none),(4,.int .i64 (k:Nat)),(5,.int .i64 (n:Nat))],H,T⟩)
    (fun n=>n≤d.length∧∀j,j<n→(d.getD j d0).id≤x.id) (fun n=>d.length-n) 0 ?_ ?_ ?_
   ·exact⟨Nat.zero_le _,fun j hj=>absurd hj (Nat.not_lt_zero _)⟩
   ·refine weak_to [] [] ?_ ?_ ?_ ?_ HO ?_
    all_goals simp
   ·rintro n ⟨hn1,hn2⟩;have go:(n<d.length→¬(d.getD n d0).id≤x.id)→∀e,envLe H.length T.length e [(0,.sl l.length (dcAV l) .none),(3,.sl d.length (dcAV d) .none),(4,.int .i64 (k:Nat)),(5,.int .i64 (n:Nat))]→K5 ⟨e,H,T⟩:=by
     intro hn3 e he;have hins:=insD_at x d n hn1 hn2 hn3;refine hK5 _ (aw_weak ⟨[(0,.sl l.length (dcAV l) .none),(3,.sl d.length (dcAV d) .none),(4,.int .i64 (k:Nat)),(5,.int .i64 (n:Nat))],H,T⟩ (weak_to [] [] (by simp) (by simp) (by simp) (by simp) HO (by simpa using he)) ?_);have ht:=dcAV_tk d n;have hdr:=dcAV_drop d n;have hlt:(dcAV (d.take n)).length=n*3:=by rw[dcAV_len,List.length_take];omega
     have hld:(dcAV (d.drop n)).length=(d.length-n)*3:=by rw[dcAV_len,List.length_drop]
     have htk:(dcAV (d.drop n)).take ((d.length-n)*3)=dcAV (d.drop n):=by rw[←hld,List.take_length]
     have hres:dcAV (d.take n)++.int .i64 x.id::.sl x.zs.length (znAV x.zs) .none::.sl x.ns.length (nmAV x.ns) .none::dcAV (d.drop n)=dcAV (insD x d):=by rw[hins];simp[dcAV]
     have hlen:n+1+(d.length-n)=(insD x d).length:=by rw[hins];simp;omega
     refine aw_draw0 [4,10,14] [0,0,0,0,0,0,0,0,0,0,1,0,0,0,2,3] [[],[],[]] drawMixed (by kernel_rfl) (by kernel_rfl) fun K hK=>?_;simp(disch:=omega)[amade_zero,dcAV_len,ht,hdr,hlt,hld,htk,hat,hcut,hk];rw[hres,hlen];apply hK;clear hK K;apply hK3;clear hK3;refine aw_reg0 fun K hK=>?_;simp(disch:=omega) ;apply hK;clear hK K;refine⟨k+1,by show k+1≤_;omega,by show l.length-(k+1)<l.length-k;omega,?_⟩;simp only[hft];refine weak_to [] [((insD x d).length*3,3)] ?_ ?_ ?_ ?_ HO ?_
     all_goals simp
    refine aw_then fun K6 hK6=>?_
    by_cases hn3:n<d.length
    ·have hdat:=(dcAV_at d n hn3).1;have hst:(d.getD n d0).id≤x.id→∀j,j<n+1→(d.getD j d0).id≤x.id:=fun h j hj=>by
      rcases Nat.lt_or_ge j n with h3|h3
      ·exact hn2 j h3
      ·have:j=n:=by omega
       subst this;exact h
     generalize d.getD n d0=y at *;have b4:decide ((n:Int)<d.length)=true:=decide_eq_true (by omega)
     by_cases ha:y.id≤x.id
     ·have b5:decide (y.id≤x.id)=true:=decide_eq_true ha;refine aw_draw [] [] [] drawMixed (by kernel_rfl) (by kernel_rfl) fun K hK=>?_;simp(disch:=omega)[b4,hn3,hdat,dcAV_len,hat,hk,b5,ha];apply hK;clear hK K;apply aw_ift rfl;apply aw_skip;simp(disch:=omega) ;apply hK6;clear hK6;apply aw_block;refine aw_reg0 fun K hK=>?_;simp(disch:=omega) ;apply hK;clear hK K;refine⟨n+1,⟨by show n+1≤_;omega,hst ha⟩,by show d.length-(n+1)<d.length-n;omega,?_⟩;refine weak_to [] [] ?_ ?_ ?_ ?_ HO ?_
      all_goals simp
     ·have b5:decide (y.id≤x.id)=false:=decide_eq_false ha;refine aw_draw [] [] [] drawMixed (by kernel_rfl) (by kernel_rfl) fun K hK=>?_;simp(disch:=omega)[b4,hn3,hdat,dcAV_len,hat,hk,b5,ha];apply hK;clear hK K;apply aw_iff rfl;apply aw_exit;simp(disch:=omega) ;refine go (fun _=>ha) _ ?_;simp
    ·have b4:decide ((n:Int)<d.length)=false:=decide_eq_false (by omega);refine aw_draw [] [] [] drawMixed (by kernel_rfl) (by kernel_rfl) fun K hK=>?_;simp(disch:=omega)[b4,hn3];apply hK;clear hK K;apply aw_iff rfl;apply aw_exit;simp(disch:=omega) ;refine go (fun h=>absurd h hn3) _ ?_;simp
  ·simp  at hk;have e:k=l.length:=by omega
   subst e;rw[List.take_length];apply aw_exit;simp(disch:=omega) ;apply hK1;clear hK1;apply aw_reg;intro K h;simp(disch:=omega);apply h;clear h K;apply aw_ret;simp(disch:=omega) 
end Go.Proofs.YtneohapkboaplaaGreat

set_option linter.all false
set_option maxRecDepth 100000
namespace Go.Proofs.YtneohapkboaplaaGreat
open Go Go.Am Sug Seg
attribute [-simp] List.getD_eq_getElem?_getD in
theorem numLess_ok (x y:Nm)(H:List Blk)(T:Toks):ACall Tryz.prog 146 [.agg [.int .i64 x.1,.int .i64 x.2],.agg [.int .i64 y.1,.int .i64 y.2]] H T (Is (.bool (nmlt x y)) H T):=by
 refine ACall.drop' ?_ (by simp);generalize hq:nmlt x y=q;unfold nmlt at hq;obtain⟨x1,x2⟩:=x;obtain⟨y1,y2⟩:=y;simp only at hq;refine acall_enter 5 [] Tryz.ntmps146 Tryz.func146 rfl (fun _ _=>Tryz.call146 _ _) (by simp) (fun HO=>?_);apply aw_reg;intro K h;simp(disch:=omega);apply h;clear h K
 by_cases h1:x1<y1
 ·have b1:decide (x1<y1)=true:=decide_eq_true h1;rw[b1] at hq;refine aw_reg fun K hK=>?_;simp(disch:=omega)[b1,h1];apply hK;clear hK K;apply aw_ret;simp(disch:=omega) ;rw[←hq];rfl
 ·have b1:decide (x1<y1)=false:=decide_eq_false h1
  by_cases h2:x1=y1
  ·have b2:(x1==y1)=true:=by simpa using h2
   rw[b1,decide_eq_true h2,Bool.true_and,Bool.false_or] at hq;refine aw_reg fun K hK=>?_;simp(disch:=omega)[b1,h1,b2,h2];apply hK;clear hK K;apply aw_ret;simp(disch:=omega) ;exact hq
  ·have b2:(x1==y1)=false:=by simpa using h2
   rw[b1,decide_eq_false h2,Bool.false_and,Bool.false_or] at hq;refine aw_reg fun K hK=>?_;simp(disch:=omega)[b1,h1,b2,h2];apply hK;clear hK K;apply aw_ret;simp(disch:=omega) ;exact hq.symm
end Go.Proofs.YtneohapkboaplaaGreat
namespace Seg
theorem lastW_ge (ws:List Wd):∀k,(∀j,j<k→okWd ws j=true)→-1≤lastW ws k
 |0,_=>by simp[lastW]
 |k+1,h=>by
  have h1:=lastW_ge ws k fun j hj=>h j (by omega);have h2:=h k (by omega);unfold okWd at h2;simp only[Bool.and_eq_true,decide_eq_true_eq] at h2;have h3:=h2.2.1;have h4:lastW ws (k+1)=(ws.getD k w0).2:=by simp[lastW]
  rw[h4];omega
theorem lastZ_ge (zs:List Zn):∀k,(∀j,j<k→okZn zs j=true)→0≤lastZ zs k
 |0,_=>by simp[lastZ]
 |k+1,h=>by
  have h1:=lastZ_ge zs k fun j hj=>h j (by omega);have h2:=h k (by omega);unfold okZn at h2;simp only[Bool.and_eq_true,decide_eq_true_eq] at h2;have h3:=h2.1.1;have h4:lastZ zs (k+1)=(zs.getD k z0).f:=by simp[lastZ]
  rw[h4];omega
end Seg
namespace Go.Proofs.YtneohapkboaplaaGreat
open Go Go.Am Sug Seg
attribute [-simp] List.getD_eq_getElem?_getD in
set_option maxHeartbeats 4000000 in
theorem wds37_loop (id:Int)(zs:List Zn)(ns:List Nm)(f:Int)(ws:List Wd)(i:Nat)(hwl:ws.length≤maxLen)(hwt:∀w∈ws,w.1.length≤maxLen)(H:List Blk)(T:Toks)(HO2:HOk (H++[.cells (dcC ⟨id,zs,ns⟩),.cells (znC ⟨f,ws⟩)]) T)
  (Q:Exit→St→Prop) (bad:∀k,k<ws.length→okWd ws k=false→∀(e:Env)(rH:List Blk)(rT:Toks),eget e 2=.bool false→Q .ret ⟨e,H++rH,T++rT⟩)
  (go:(∀k,k<ws.length→okWd ws k=true)→∀e:Env,envLe (H.length+2) T.length e [(1,.ptr H.length 0),(3,.int .i64 (i:Nat))]→Q .normal ⟨e,H++[.cells (dcC ⟨id,zs,ns⟩),.cells (znC ⟨f,ws⟩)],T⟩) :
  AW ⟨Tryz.prog,146,9,H.length,T.length,[]⟩ (subC [1,0,1,0,0,1,0,0,1,1] (Tryz.f66.body.getD .skip)) Q ⟨[(1,.ptr H.length 0),(3,.int .i64 (i:Nat)),(4,.ptr (H.length+1) 0)],H++[.cells (dcC ⟨id,zs,ns⟩),.cells (znC ⟨f,ws⟩)],T⟩:=by
 conv=>arg 2;whnf
 have hml:maxLen≤9223372036854775807:=by decide
 have hwl':=Nat.le_trans hwl hml;apply aw_reg;intro K h;simp(disch:=omega);apply h;clear h K;apply aw_block;refine aw_loop (X:=Nat) (fun k=>⟨[(1,.ptr H.length 0),(3,.int .i64 (i:Nat)),(4,.ptr (H.length+1) 0),(5,.int .i64 (k:Nat))],H++[.cells (dcC ⟨id,zs,ns⟩),.cells (znC ⟨f,ws⟩)],T⟩)
  (fun k=>k≤ws.length∧∀j,j<k→okWd ws j=true) (fun k=>ws.length-k) 0 ?_ ?_ ?_
 ·exact⟨Nat.zero_le _,fun j hj=>absurd hj (Nat.not_lt_zero _)⟩
 ·refine weak_to [] [] ?_ ?_ ?_ ?_ HO2 ?_
  all_goals simp
 ·rintro m ⟨m1,m2⟩;refine aw_then fun K5 hK5=>?_;apply aw_reg;intro K h;simp(disch:=omega);apply h;clear h K;refine aw_if rfl (fun hk2=>?_) (fun hk2=>?_)
  ·simp  at hk2;have hcn:=wdAV_cut ws m hk2;have hge:=lastW_ge ws m m2;have eok2:okWd ws m=(okW (ws.getD m w0).1&&(decide (lastW ws m<(ws.getD m w0).2)&&decide ((ws.getD m w0).2≤1000000))):=rfl;have hlast:0<m→lastW ws m=(ws.getD (m-1) w0).2:=fun h=>by unfold lastW;rw[if_neg (by omega)]
   have hlast0:m=0→lastW ws m=-1:=fun h=>by unfold lastW;rw[if_pos h]
   have hcp:=fun h=>(wdAV_at ws (m-1) h).2;have hxl:=hwt _ (getD_mem ws m w0 hk2);generalize lastW ws m=la at *;generalize (ws.getD (m-1) w0).2=py at *;generalize hnn:ws.getD m w0=z at *;obtain⟨x1,x2⟩:=z;simp only at hcn hcp eok2 hxl;apply aw_skip;simp(disch:=omega) ;apply hK5;clear hK5;refine aw_then fun K6 hK6=>?_;apply aw_block;refine aw_reg fun K hK=>?_;simp(disch:=omega)[hcn,wdAV_len];apply hK;clear hK K;have HO3:HOk (H++[.cells (dcC ⟨id,zs,ns⟩),.cells (znC ⟨f,ws⟩),.cells [.str x1,.int .i64 x2]]) T:=by
    have:=HOk.snoc (vs:=[.str x1,.int .i64 x2]) HO2 (by simp);simpa using this
   have cw:=wordR_ok x1 hxl (H++[.cells (dcC ⟨id,zs,ns⟩),.cells (znC ⟨f,ws⟩),.cells [.str x1,.int .i64 x2]]) T;refine aw_draw [] [] [] drawMixed (by kernel_rfl) (by kernel_rfl) fun K hK=>?_;have key2:∀e b,b=okWd ws m→envLe (H.length+3) T.length e [(1,.ptr H.length 0),(3,.int .i64 (i:Nat)),(4,.ptr (H.length+1) 0),(5,.int .i64 (m:Nat)),(92,.bool (!b))]→K ⟨e,H++[.cells (dcC ⟨id,zs,ns⟩),.cells (znC ⟨f,ws⟩),.cells [.str x1,.int .i64 x2]],T⟩:=by
    intro e b2 hb2 he2;refine hK _ (aw_weak ⟨[(1,.ptr H.length 0),(3,.int .i64 (i:Nat)),(4,.ptr (H.length+1) 0),(5,.int .i64 (m:Nat)),(92,.bool (!b2))],H++[.cells (dcC ⟨id,zs,ns⟩),.cells (znC ⟨f,ws⟩)],T⟩ (weak_to [.cells [.str x1,.int .i64 x2]] [] (by simp) (by simp) (by simp) (by simp) HO2 (by simpa using he2)) ?_)
    cases b2 with
    |false=>
     apply aw_ift rfl;apply aw_reg;intro K h;simp(disch:=omega);apply h;clear h K;apply aw_ret;rw[←List.append_nil T];exact bad m hk2 hb2.symm _ _ _ rfl
    |true=>
     apply aw_iff rfl;apply aw_skip;simp(disch:=omega) ;apply hK6;clear hK6;refine aw_reg0 fun K hK=>?_;simp(disch:=omega) ;apply hK;clear hK K;refine⟨m+1,⟨by show m+1≤_;omega,fun j hj=>?_⟩,by show ws.length-(m+1)<ws.length-m;omega,?_⟩
     ·rcases Nat.lt_or_ge j m with h|h
      ·exact m2 j h
      ·have:j=m:=by omega
       subst this;exact hb2.symm
     ·refine weak_to [] [] ?_ ?_ ?_ ?_ HO2 ?_
      all_goals simp
   clear hK
   cases hw:okW x1 with
   |false=>
    rw[hw] at cw eok2;simp(disch:=omega) ;refine dcall_is (cw) rfl ?_;simp(disch:=omega) ;refine key2 _ false (by rw[eok2];rfl) (by simp)
   |true=>
   rw[hw] at cw eok2;rw[Bool.true_and] at eok2
   by_cases v3:x2<0
   ·have w3:decide (x2<0)=true:=decide_eq_true v3;simp(disch:=omega) ;refine dcall_is (cw) rfl ?_;simp(disch:=omega)[w3,v3];refine key2 _ false (by rw[eok2,decide_eq_false (by omega:¬la<x2)];rfl) (by simp)
   have w3:decide (x2<0)=false:=decide_eq_false v3
   by_cases v4:1000000<x2
   ·have w4:decide (1000000<x2)=true:=decide_eq_true v4;simp(disch:=omega) ;refine dcall_is (cw) rfl ?_;simp(disch:=omega)[w3,v3,w4,v4];refine key2 _ false (by rw[eok2,decide_eq_false (by omega:¬x2≤1000000)];simp) (by simp)
   have w4:decide (1000000<x2)=false:=decide_eq_false v4;rw[decide_eq_true (by omega:x2≤1000000),Bool.and_true] at eok2;rcases Nat.eq_zero_or_pos m with h5|h5
   ·have hl0:=hlast0 h5;subst h5;simp(disch:=omega) ;refine dcall_is (cw) rfl ?_;simp(disch:=omega)[w3,v3,w4,v4];refine key2 _ true (by rw[eok2,decide_eq_true (by omega:la<x2)]) (by simp)
   ·have e6:((m:Int)-1)=((m-1:Nat):Int):=by omega
    have b5:decide ((0:Int)<(m:Int))=true:=decide_eq_true (by omega);have hcp':=hcp (by omega);have hl0:=hlast h5
    by_cases v5:x2≤py
    ·have w5:decide (x2≤py)=true:=decide_eq_true v5;simp(disch:=omega) ;refine dcall_is (cw) rfl ?_;simp(disch:=omega)[w3,v3,w4,v4,b5,h5,e6,hcp',wdAV_len,w5,v5];refine key2 _ false (by rw[eok2,decide_eq_false (by omega:¬la<x2)]) (by simp)
    ·have w5:decide (x2≤py)=false:=decide_eq_false v5;simp(disch:=omega) ;refine dcall_is (cw) rfl ?_;simp(disch:=omega)[w3,v3,w4,v4,b5,h5,e6,hcp',wdAV_len,w5,v5];refine key2 _ true (by rw[eok2,decide_eq_true (by omega:la<x2)]) (by simp)
  ·simp  at hk2;apply aw_exit;simp(disch:=omega) ;exact go (fun k h=>m2 k (by omega)) _ (by simp)
attribute [-simp] List.getD_eq_getElem?_getD in
set_option maxHeartbeats 4000000 in
theorem nms37_tail (d:Dc)(hs:SzD d)(hz:∀i,i<d.zs.length→okZn d.zs i=true)(H:List Blk)(T:Toks)(HO:HOk (H++[.cells (dcC d)]) T) :
  AW ⟨Tryz.prog,146,9,H.length,T.length,[]⟩ (subC [1,1] (Tryz.f66.body.getD .skip)) (RetQ Tryz.prog Tryz.f66.results.toList fun r H' T'=>(∃rH,H'=H++rH)∧(∃rT,T'=T++rT)∧(r=.bool (validD d)∨untag r=.bool (validD d))) ⟨[(1,.ptr H.length 0)],H++[.cells (dcC d)],T⟩:=by
 conv=>arg 2;whnf
 have hml:maxLen≤9223372036854775807:=by decide
 have badn:=fun i h=>validD_n (d:=d) (i:=i) h;have badi:=validD_id (d:=d);have good:=fun h1 h3=>validD_good (d:=d) h1 hz h3;obtain⟨id,zs,ns⟩:=d;obtain⟨_,_,hn⟩:=hs;simp only at hn badn badi good;have hn':=Nat.le_trans hn hml;generalize hq:validD ⟨id,zs,ns⟩=q at *;refine aw_then fun K1 hK1=>?_;apply aw_reg;intro K h;simp(disch:=omega);apply h;clear h K;apply aw_block;refine aw_loop (X:=Nat) (fun i=>⟨[(1,.ptr H.length 0),(7,.int .i64 (i:Nat))],H++[.cells (dcC ⟨id,zs,ns⟩)],T⟩)
  (fun i=>i≤ns.length∧∀j,j<i→okNm ns j=true) (fun i=>ns.length-i) 0 ?_ ?_ ?_
 ·exact⟨Nat.zero_le _,fun j hj=>absurd hj (Nat.not_lt_zero _)⟩
 ·refine weak_to [] [] ?_ ?_ ?_ ?_ HO ?_
  all_goals simp
 ·rintro m ⟨m1,m2⟩;refine aw_then fun K5 hK5=>?_;apply aw_reg;intro K h;simp(disch:=omega);apply h;clear h K;refine aw_if rfl (fun hk2=>?_) (fun hk2=>?_)
  ·simp  at hk2;have hcn:=nmAV_cut ns m hk2;have eok2:okNm ns m=(okNv (ns.getD m n0)&&(decide (m=0)||nmlt (ns.getD (m-1) n0) (ns.getD m n0))):=rfl;have cn:=fun H T=>numLess_ok (ns.getD (m-1) n0) (ns.getD m n0) H T;replace badn:=badn m hk2;generalize nmlt (ns.getD (m-1) n0) (ns.getD m n0)=cq at *;have hcp:=fun h=>nmAV_cut ns (m-1) h;generalize ns.getD (m-1) n0=y at *;generalize hnn:ns.getD m n0=z at *;obtain⟨x1,x2⟩:=z;obtain⟨y1,y2⟩:=y;simp only at hcn hcp eok2;unfold okNv at eok2;simp only at eok2;apply aw_skip;simp(disch:=omega) ;apply hK5;clear hK5;refine aw_then fun K6 hK6=>?_;apply aw_block;refine aw_reg fun K hK=>?_;simp(disch:=omega)[hcn,nmAV_len];apply hK;clear hK K;have c:=cn (H++[.cells (dcC ⟨id,zs,ns⟩),.cells [.int .i64 x1,.int .i64 x2]]) T;refine aw_draw [] [] [] drawMixed (by kernel_rfl) (by kernel_rfl) fun K hK=>?_;have key2:∀e b,b=okNm ns m→envLe (H.length+2) T.length e [(1,.ptr H.length 0),(7,.int .i64 (m:Nat)),(137,.bool (!b))]→K ⟨e,H++[.cells (dcC ⟨id,zs,ns⟩),.cells [.int .i64 x1,.int .i64 x2]],T⟩:=by
    intro e b2 hb2 he2;refine hK _ (aw_weak ⟨[(1,.ptr H.length 0),(7,.int .i64 (m:Nat)),(137,.bool (!b2))],H++[.cells (dcC ⟨id,zs,ns⟩)],T⟩ (weak_to [.cells [.int .i64 x1,.int .i64 x2]] [] (by simp) (by simp) (by simp) (by simp) HO (by simpa using he2)) ?_)
    cases b2 with
    |false=>
     apply aw_ift rfl;apply aw_reg;intro K h;simp(disch:=omega);apply h;clear h K;apply aw_ret;simp(disch:=omega) ;exact badn hb2.symm
    |true=>
     apply aw_iff rfl;apply aw_skip;simp(disch:=omega) ;apply hK6;clear hK6;refine aw_reg0 fun K hK=>?_;simp(disch:=omega) ;apply hK;clear hK K;refine⟨m+1,⟨by show m+1≤_;omega,fun j hj=>?_⟩,by show ns.length-(m+1)<ns.length-m;omega,?_⟩
     ·rcases Nat.lt_or_ge j m with h|h
      ·exact m2 j h
      ·have:j=m:=by omega
       subst this;exact hb2.symm
     ·refine weak_to [] [] ?_ ?_ ?_ ?_ HO ?_
      all_goals simp
   clear hK
   by_cases v1:x1<5
   ·have w1:decide (x1<5)=true:=decide_eq_true v1;simp(disch:=omega)[w1,v1];refine key2 _ false (by rw[eok2,decide_eq_false (by omega:¬(5≤x1∧x1≤7))];rfl) (by simp)
   have w1:decide (x1<5)=false:=decide_eq_false v1
   by_cases v2:7<x1
   ·have w2:decide (7<x1)=true:=decide_eq_true v2;simp(disch:=omega)[w1,v1,w2,v2];refine key2 _ false (by rw[eok2,decide_eq_false (by omega:¬(5≤x1∧x1≤7))];rfl) (by simp)
   have w2:decide (7<x1)=false:=decide_eq_false v2;rw[decide_eq_true (by omega:5≤x1∧x1≤7),Bool.true_and] at eok2
   by_cases v3:x2<0
   ·have w3:decide (x2<0)=true:=decide_eq_true v3;simp(disch:=omega)[w1,v1,w2,v2,w3,v3];refine key2 _ false (by rw[eok2,decide_eq_false (by omega:¬(0≤x2∧x2≤1000000000000))];rfl) (by simp)
   have w3:decide (x2<0)=false:=decide_eq_false v3
   by_cases v4:1000000000000<x2
   ·have w4:decide (1000000000000<x2)=true:=decide_eq_true v4;simp(disch:=omega)[w1,v1,w2,v2,w3,v3,w4,v4];refine key2 _ false (by rw[eok2,decide_eq_false (by omega:¬(0≤x2∧x2≤1000000000000))];rfl) (by simp)
   have w4:decide (1000000000000<x2)=false:=decide_eq_false v4;rw[decide_eq_true (by omega:0≤x2∧x2≤1000000000000),Bool.true_and] at eok2;rcases Nat.eq_zero_or_pos m with h5|h5
   ·subst h5;simp(disch:=omega)[w1,v1,w2,v2,w3,v3,w4,v4];refine key2 _ true (by rw[eok2];rfl) (by simp)
   ·have e6:((m:Int)-1)=((m-1:Nat):Int):=by omega
    have b5:decide ((0:Int)<(m:Int))=true:=decide_eq_true (by omega);have hcp':=hcp (by omega);rw[decide_eq_false (by omega:¬m=0),Bool.false_or] at eok2;simp(disch:=omega)[w1,v1,w2,v2,w3,v3,w4,v4,b5,h5,e6,hcp',nmAV_len];refine dcall_is (c) rfl ?_;simp(disch:=omega) ;refine key2 _ cq eok2.symm (by simp)
  ·simp  at hk2;apply aw_exit;simp(disch:=omega) ;apply hK1;clear hK1
   by_cases h1:1≤id
   ·have b1:decide (1≤id)=true:=decide_eq_true h1
    by_cases h2:id≤1000000000
    ·have b2:decide (id≤1000000000)=true:=decide_eq_true h2;refine aw_reg fun K hK=>?_;simp(disch:=omega)[b1,h1,b2,h2];apply hK;clear hK K;apply aw_ret;simp(disch:=omega) ;exact good ⟨h1,h2⟩ (fun j hj=>m2 j (by omega))
    ·have b2:decide (id≤1000000000)=false:=decide_eq_false h2;refine aw_reg fun K hK=>?_;simp(disch:=omega)[b1,h1,b2,h2];apply hK;clear hK K;apply aw_ret;simp(disch:=omega) ;exact badi (by omega)
   ·have b1:decide (1≤id)=false:=decide_eq_false h1;refine aw_reg fun K hK=>?_;simp(disch:=omega)[b1,h1];apply hK;clear hK K;apply aw_ret;simp(disch:=omega) ;exact badi (by omega)
attribute [-simp] List.getD_eq_getElem?_getD in
set_option maxHeartbeats 4000000 in
theorem valid37R_ok (d:Dc)(hs:SzD d)(H:List Blk)(T:Toks):ACall Tryz.prog 66 [.agg (dcC d)] H T (Is (.bool (validD d)) H T):=by
 refine ACall.drop' ?_ (by simp);have hml:maxLen≤9223372036854775807:=by decide
 have badz:=fun i h=>validD_z (d:=d) (i:=i) h;have tail:=fun hz=>nms37_tail d hs hz H T;obtain⟨id,zs,ns⟩:=d;obtain⟨hz,hw,hn⟩:=hs;simp only at hz hw hn badz tail;have hz':=Nat.le_trans hz hml;generalize hq:validD ⟨id,zs,ns⟩=q at *;refine acall_enter 9 [] Tryz.ntmps66 Tryz.func66 rfl (fun _ _=>Tryz.call66 _ _) (by simp) (fun HO=>?_);apply aw_reg;intro K h;simp(disch:=omega);apply h;clear h K;have HO1:HOk (H++[.cells (dcC ⟨id,zs,ns⟩)]) T:=HO.snoc (by simp);replace tail:=fun hz=>tail hz HO1;refine aw_then fun K1 hK1=>?_;apply aw_reg;intro K h;simp(disch:=omega);apply h;clear h K;apply aw_block;refine aw_loop (X:=Nat) (fun i=>⟨[(1,.ptr H.length 0),(3,.int .i64 (i:Nat))],H++[.cells (dcC ⟨id,zs,ns⟩)],T⟩)
  (fun i=>i≤zs.length∧∀j,j<i→okZn zs j=true) (fun i=>zs.length-i) 0 ?_ ?_ ?_
 ·exact⟨Nat.zero_le _,fun j hj=>absurd hj (Nat.not_lt_zero _)⟩
 ·refine weak_to [] [] ?_ ?_ ?_ ?_ HO1 ?_
  all_goals simp
 ·rintro i ⟨g1,g2⟩;refine aw_then fun K2 hK2=>?_;apply aw_reg;intro K h;simp(disch:=omega);apply h;clear h K;refine aw_if rfl (fun hk=>?_) (fun hk=>?_)
  ·simp  at hk;have hcut:=znAV_cut zs i hk;obtain⟨hwl,hwt⟩:=hw _ (getD_mem zs i z0 hk);have hge:=lastZ_ge zs i g2;have ebad:=okZn_bad (zs:=zs) (i:=i);have ewd:=fun k=>okZn_w (zs:=zs) (i:=i) (k:=k);have egood:=okZn_good (zs:=zs) (i:=i);replace badz:=badz i hk;have hlast:0<i→lastZ zs i=(zs.getD (i-1) z0).f:=fun h=>by unfold lastZ;rw[if_neg (by omega)]
   have hlast0:i=0→lastZ zs i=0:=fun h=>by unfold lastZ;rw[if_pos h]
   have hat:=fun h=>(znAV_at zs (i-1) h).1;generalize lastZ zs i=la at *;generalize (zs.getD (i-1) z0).f=fp at *;generalize zs.getD i z0=z at *;obtain⟨f,ws⟩:=z;simp only at hcut hwl hwt ebad ewd egood;have hwl':=Nat.le_trans hwl hml;apply aw_skip;simp(disch:=omega) ;apply hK2;clear hK2;refine aw_then fun K3 hK3=>?_;apply aw_block;refine aw_reg fun K hK=>?_;simp(disch:=omega)[hcut,znAV_len];apply hK;clear hK K;have HO2:HOk (H++[.cells (dcC ⟨id,zs,ns⟩),.cells (znC ⟨f,ws⟩)]) T:=by
    have:=HOk.snoc (vs:=znC ⟨f,ws⟩) HO1 (by simp);simpa using this
   refine aw_then fun K4 hK4=>?_;refine aw_draw [] [] [] drawMixed (by kernel_rfl) (by kernel_rfl) fun K hK=>?_;have key:∀e b,(b=true→la<f∧f≤4∧ws.length≠0)→(b=false→okZn zs i=false)→envLe (H.length+2) T.length e [(1,.ptr H.length 0),(3,.int .i64 (i:Nat)),(4,.ptr (H.length+1) 0),(50,.bool (!b))]→K ⟨e,H++[.cells (dcC ⟨id,zs,ns⟩),.cells (znC ⟨f,ws⟩)],T⟩:=by
    intro e b hb hb' he;refine hK _ (aw_weak ⟨[(1,.ptr H.length 0),(3,.int .i64 (i:Nat)),(4,.ptr (H.length+1) 0),(50,.bool (!b))],H++[.cells (dcC ⟨id,zs,ns⟩),.cells (znC ⟨f,ws⟩)],T⟩ (weak_to [] [] (by simp) (by simp) (by simp) (by simp) HO2 (by simpa using he)) ?_)
    cases b with
    |false=>
     apply aw_ift rfl;apply aw_reg;intro K h;simp(disch:=omega);apply h;clear h K;apply aw_ret;simp(disch:=omega) ;exact badz (hb' rfl)
    |true=>
    obtain⟨b1,b2,b3⟩:=hb rfl;apply aw_iff rfl;apply aw_skip;simp(disch:=omega) ;apply hK4;clear hK4;refine aw_weak ⟨[(1,.ptr H.length 0),(3,.int .i64 (i:Nat)),(4,.ptr (H.length+1) 0)],H++[.cells (dcC ⟨id,zs,ns⟩),.cells (znC ⟨f,ws⟩)],T⟩ (weak_to [] [] (by simp) (by simp) (by simp) (by simp) HO2 (by simp)) ?_;refine wds37_loop id zs ns f ws i hwl hwt H T HO2 _ (fun k hk3 hb3 e rH rT he=>?_) fun hg e he=>?_
    ·show RetQ Tryz.prog Tryz.f66.results.toList (fun r H' T'=>(∃rH,H'=H++rH)∧(∃rT,T'=T++rT)∧(r=.bool q∨untag r=.bool q)) .ret _;simp[he,badz (ewd k hk3 hb3)]
    ·refine hK3 _ (aw_weak ⟨[(1,.ptr H.length 0),(3,.int .i64 (i:Nat))],H++[.cells (dcC ⟨id,zs,ns⟩)],T⟩ (weak_to [.cells (znC ⟨f,ws⟩)] [] (by simp) (by simp) (by simp) (by simp) HO1 (by simpa using he)) ?_);refine aw_reg0 fun K hK=>?_;simp(disch:=omega) ;apply hK;clear hK K;refine⟨i+1,⟨by show i+1≤_;omega,fun j hj=>?_⟩,by show zs.length-(i+1)<zs.length-i;omega,?_⟩
     ·rcases Nat.lt_or_ge j i with h|h
      ·exact g2 j h
      ·have:j=i:=by omega
       subst this;exact egood b1 b2 b3 hg
     ·refine weak_to [] [] ?_ ?_ ?_ ?_ HO1 ?_
      all_goals simp
   clear hK
   by_cases v1:f<1
   ·have w1:decide (f<1)=true:=decide_eq_true v1;simp(disch:=omega)[w1,v1];refine key _ false (fun h=>by cases h) (fun _=>ebad (by omega)) (by simp)
   have w1:decide (f<1)=false:=decide_eq_false v1
   by_cases v2:4<f
   ·have w2:decide (4<f)=true:=decide_eq_true v2;simp(disch:=omega)[w1,v1,w2,v2];refine key _ false (fun h=>by cases h) (fun _=>ebad (by omega)) (by simp)
   have w2:decide (4<f)=false:=decide_eq_false v2
   by_cases v3:ws.length=0
   ·have e3:ws=[]:=List.length_eq_zero_iff.1 v3;subst e3;rcases Nat.eq_zero_or_pos i with h5|h5
    ·subst h5;simp(disch:=omega)[w1,v1,w2,v2];refine key _ false (fun h=>by cases h) (fun _=>ebad (by simp)) (by simp)
    ·have e6:((i:Int)-1)=((i-1:Nat):Int):=by omega
     have b5:decide ((0:Int)<(i:Int))=true:=decide_eq_true (by omega);have hat':=hat (by omega)
     by_cases v4:f≤fp
     ·have w4:decide (f≤fp)=true:=decide_eq_true v4;simp(disch:=omega)[w1,v1,w2,v2,b5,h5,e6,hat',znAV_len,w4,v4];refine key _ false (fun h=>by cases h) (fun _=>ebad (by simp)) (by simp)
     ·have w4:decide (f≤fp)=false:=decide_eq_false v4;simp(disch:=omega)[w1,v1,w2,v2,b5,h5,e6,hat',znAV_len,w4,v4];refine key _ false (fun h=>by cases h) (fun _=>ebad (by simp)) (by simp)
   have w3:((ws.length:Int)==0)=false:=beq_eq_false_iff_ne.2 (by omega);have n3:ws≠[]:=fun e=>v3 (by rw[e];rfl);rcases Nat.eq_zero_or_pos i with h5|h5
   ·have hl0:=hlast0 h5;subst h5;simp(disch:=omega)[w1,v1,w2,v2,w3,n3];refine key _ true (fun _=>⟨by omega,by omega,v3⟩) (fun h=>by cases h) (by simp)
   ·have e6:((i:Int)-1)=((i-1:Nat):Int):=by omega
    have b5:decide ((0:Int)<(i:Int))=true:=decide_eq_true (by omega);have hat':=hat (by omega);have hl0:=hlast h5
    by_cases v4:f≤fp
    ·have w4:decide (f≤fp)=true:=decide_eq_true v4;simp(disch:=omega)[w1,v1,w2,v2,w3,n3,b5,h5,e6,hat',znAV_len,w4,v4];refine key _ false (fun h=>by cases h) (fun _=>ebad (by omega)) (by simp)
    ·have w4:decide (f≤fp)=false:=decide_eq_false v4;simp(disch:=omega)[w1,v1,w2,v2,w3,n3,b5,h5,e6,hat',znAV_len,w4,v4];refine key _ true (fun _=>⟨by omega,by omega,v3⟩) (fun h=>by cases h) (by simp)
  ·simp  at hk;apply aw_exit;simp(disch:=omega) ;apply hK1;clear hK1;refine aw_weak ⟨[(1,.ptr H.length 0)],H++[.cells (dcC ⟨id,zs,ns⟩)],T⟩ (weak_to [] [] (by simp) (by simp) (by simp) (by simp) HO1 (by simp)) ?_;exact tail fun j hj=>g2 j (by omega)
end Go.Proofs.YtneohapkboaplaaGreat

set_option linter.all false
set_option maxRecDepth 100000
namespace Seg
open Sug Go.Am
abbrev k0:Ky:=(0,[])
abbrev krC (k:Ky):List AV:=[.int .i64 k.1,.str k.2,.sl 0 [] .full]
def krAV (l:List Ky):List AV:=l.flatMap fun k=>[.int .i64 k.1,.str k.2,.sl 0 [] .full]
theorem kr_rows:CellsK krC 3:=fun _=>rfl
theorem krAV_len (l:List Ky):(krAV l).length=l.length*3:=rows_len kr_rows l
theorem krAV_cut (l:List Ky)(rest:List AV)(i:Nat)(h:i<l.length):((krAV l++rest).drop (i*3)).take 3=krC (l.getD i k0):=by
 rw[List.drop_append,List.take_append,show ((krAV l).drop (i*3)).take 3=krC (l.getD i k0) from rows_cut kr_rows l i k0 h];rw[show 3-((krAV l).drop (i*3)).length=0 by rw[List.length_drop,krAV_len];omega];simp
theorem krAV_tk (l:List Ky)(i:Nat):(krAV l).take (i*3)=krAV (l.take i):=rows_take kr_rows l i
theorem krAV_drop (l:List Ky)(i:Nat):(krAV l).drop (i*3)=krAV (l.drop i):=rows_drop kr_rows l i
theorem insK_at (x:Ky):∀(d:List Ky)(n:Nat),n≤d.length→(∀j,j<n→kylt (d.getD j k0) x=true)→(n<d.length→kylt (d.getD n k0) x=false)→
  (n<d.length→kylt x (d.getD n k0)=false→insK x d=d)∧((n<d.length→kylt x (d.getD n k0)=true)→insK x d=d.take n++x::d.drop n)
 |[],n,h,_,_=>by
  have:n=0:=by simpa using h
  subst this;exact⟨fun h=>absurd h (Nat.not_lt_zero _),fun _=>rfl⟩
 |y::r,0,_,_,h=>by
  have h1:kylt y x=false:=h (by simp);refine⟨fun _ h2=>?_,fun h2=>?_⟩
  ·have h2:kylt x y=false:=h2;rw[insK,if_neg (by simp[h1]),if_neg (by simp[h2])]
  ·have h2:kylt x y=true:=h2 (by simp);rw[insK,if_neg (by simp[h1]),if_pos h2];rfl
 |y::r,n+1,h0,h1,h2=>by
  have hy:kylt y x=true:=h1 0 (by omega);obtain⟨a,b⟩:=insK_at x r n (by simpa using h0) (fun j hj=>h1 (j+1) (by omega)) (fun hn=>h2 (by simpa using hn));refine⟨fun h3 h4=>?_,fun h3=>?_⟩
  ·rw[insK,if_pos hy,a (by simpa using h3) h4]
  ·rw[insK,if_pos hy,b fun h4=>h3 (by simpa using h4)];rfl
theorem insK_len (x:Ky):∀d:List Ky,(insK x d).length≤d.length+1
 |[]=>by simp[insK]
 |y::r=>by
  have:=insK_len x r;unfold insK
  split
  ·simp;omega
  ·split<;>simp
def insAll (a:List Ky)(l:List Ky):List Ky:=l.foldl (fun a k=>insK k a) a
theorem insAll_len (l:List Ky):∀a:List Ky,(insAll a l).length≤a.length+l.length:=by
 unfold insAll
 induction l with
 |nil=>intro a;simp
 |cons x r ih=>intro a;rw[List.foldl_cons];have:=ih (insK x a);have:=insK_len x a;simp;omega
theorem insAll_app (a l m:List Ky):insAll a (l++m)=insAll (insAll a l) m:=by unfold insAll;rw[List.foldl_append]
def zkeys (z:Zn):List Ky:=z.ws.map fun w=>(z.f,w.1)
def dkeys (d:Dc):List Ky:=d.zs.flatMap zkeys
theorem dwds_keys (zs:List Zn):(dwds zs).map (·.1)=zs.flatMap zkeys:=by
 unfold dwds zwds zkeys;rw[List.map_flatMap];simp[List.map_map,Function.comp_def]
theorem keysF_all (L:List Dc):keysF L=insAll [] (L.flatMap dkeys):=by
 unfold keysF insAll dkeys
 congr 1
 congr 1
 funext d
 exact dwds_keys d.zs
def TR (h0:Nat)(J:List Blk)(ks:List Ky)(tv:AV):Prop:=
 (ks=[]∧tv=.sl 0 [] .full)∨(∃i rest,tv=.msl i 0 ks.length∧h0≤i∧J[i]?=some (.cells (krAV ks++rest))∧0<ks.length)
theorem TR.app {h0:Nat}{J:List Blk}{ks:List Ky}{tv:AV}(h:TR h0 J ks tv)(G:List Blk):TR h0 (J++G) ks tv:=by
 rcases h with h|⟨i,rest,h1,h2,h3,h4⟩
 ·exact .inl h
 ·exact .inr ⟨i,rest,h1,h2,by rw[List.getElem?_append_left (List.getElem?_eq_some_iff.1 h3).1];exact h3,h4⟩
end Seg
namespace Go.Proofs.YtneohapkboaplaaGreat
open Go Go.Am Sug Seg
noncomputable def ops17:List Oper:=match subC [1,1,0,1,0,0,1,0,0,1,0,0,1,0,0,1,1,0,0,1,0,0,1,1,1,1,0] (Tryz.f67.body.getD .skip) with
 |.region _ ops _=>ops.toList
 |_=>[]
set_option maxHeartbeats 4000000 in
theorem chain17 {K:St→Prop}{P:List Blk→Toks→Prop}{nb tb:Nat}(f:Int)(w:Bs)(n m:Nat)(A B:List AV)(x1 x2:AV)(e:Env)(J:List Blk)(U:Toks)(hn:n≤1000000)(hm:m≤1000000)(hA:A.length=n*3)(hB:B.length=m*3)
  (h76:eget e 76=.sl 0 [] .full) (h79:eget e 79=x1) (h82:eget e 82=.sl 1 (krC (f,w)) .full) (h86:eget e 86=x2) (hs1:asrc J 3 x1=some (n,A)) (hs2:∀J',Pre J J'→asrc J' 3 x2=some (m,B)) (hP:∀J',Pre J J'→P J' U)
  (k:∀(e':Env)(J':List Blk)(i' cap':Nat)(rest':List AV),Pre J J'→J.length≤i'→J'[i']?=some (.cells (A++krC (f,w)++B++rest'))→eget e' 3=.csl i' (n+1+m) cap'→(∀t,t<80→t≠3→eget e' t=eget e t)→K ⟨e',J',U⟩) :
  cgo2 ⟨Tryz.prog,89,10,nb,tb,[100080,100083]⟩ K P ([4,7,11,12].map fun i=>ops17.getD i default) e J U:=by
 show cgo2 _ K P [ops17.getD 4 default,ops17.getD 7 default,ops17.getD 11 default,ops17.getD 12 default] e J U;have hJJ:Pre J J:=⟨[],by simp⟩
 have tail:∀(e7:Env)(J7:List Blk)(i7 cap7:Nat)(rest7:List AV),Pre J J7→J.length≤i7→J7[i7]?=some (.cells ((A++krC (f,w))++rest7))→((A++krC (f,w))++rest7).length=cap7*3→eget e7 83=.csl i7 (n+1) cap7→eget e7 86=x2→
   (∀t,t<80→eget e7 t=eget e t)→cgo2 ⟨Tryz.prog,89,10,nb,tb,[100080,100083]⟩ K P [ops17.getD 11 default,ops17.getD 12 default] e7 J7 U:=by
  intro e7 J7 i7 cap7 rest7 hp hi hg hl h83 h862 hold;rw[cgo2_cons]
  conv=>arg 2;whnf
  refine cexec_csl 127 (A++krC (f,w)) rest7 B m (by simp[aev,h83]) (by simp[aev,h83]) (by simp[aev,h83,h862];exact⟨rfl,rfl,rfl,rfl,rfl⟩) (by simp) hg (by simp[hA];omega) (by simpa using hl) (by simpa using hs2 _ hp) (by simp[hB]) (by simp;omega) (by omega) (by simp) (by simp) ?_;intro i8 cap8 B8 J8 hor hl8 hc8;have l7:=(List.getElem?_eq_some_iff.1 hg).1;have hp8:Pre J J8:=by
   rcases hor with⟨rfl,_⟩|⟨rfl,_⟩
   ·exact hp.set hi _
   ·exact hp.app _
  have hi8:J.length≤i8:=by
   have:=hp.le;rcases hor with⟨_,rfl⟩|⟨_,rfl⟩<;>omega
  have hg8:J8[i8]?=some (.cells (A++krC (f,w)++B++B8)):=by
   rcases hor with⟨rfl,rfl⟩|⟨rfl,rfl⟩
   ·rw[List.getElem?_set_self l7]
   ·simp
  refine⟨hP J8 hp8,putE_some (Nat.lt_of_sub_eq_succ rfl) ?_⟩;rw[cgo2_cons]
  conv=>arg 2;whnf
  refine cexec_op (v:=.csl i8 (n+1+m) cap8) (H':=J8) (T':=U) rfl rfl rfl rfl (by simp[aev,eget_eput_same]) ⟨hP J8 hp8,putE_some (Nat.lt_of_sub_eq_succ rfl) ?_⟩;rw[cgo2_nil];exact k _ J8 i8 cap8 B8 hp8 hi8 hg8 (eget_eput_same _ _ _) fun t h1 h2=>by
   rw[eget_eput_other _ _ _ _ (fun e=>h2 e.symm),eget_eput_other _ _ _ _ (by omega),hold t h1]
 rcases Nat.eq_zero_or_pos n with h0|h0
 ·subst h0;have hA0:A=[]:=List.length_eq_zero_iff.1 (by simpa using hA);subst hA0;rw[cgo2_cons]
  conv=>arg 2;whnf
  refine cexec_z (by simp[-asrc,aev,h76,h79,hs1]) ⟨hP J hJJ,putE_some (Nat.lt_of_sub_eq_succ rfl) ?_⟩;rw[cgo2_cons]
  conv=>arg 2;whnf
  refine cexec_cap0 (m:=1) (z:=3) (ys:=krC (f,w)) (by simp[aev,h82,eget_eput_same,eget_eput_other,asrc]) (by simp[aev,h82,eget_eput_same,eget_eput_other,asrc]) fun nc hnc=>⟨hP _ (hJJ.app _),putE_some (Nat.lt_of_sub_eq_succ rfl) ?_⟩
  refine tail _ _ J.length nc (List.replicate ((nc-1)*3) .top) (hJJ.app _) (Nat.le_refl _) (by simp) (by simp;omega) (by simp[eget_eput_same]) ?_ ?_
  ·rw[eget_eput_other _ _ _ _ (by omega),eget_eput_other _ _ _ _ (by omega),h86]
  ·intro t ht;rw[eget_eput_other _ _ _ _ (by omega),eget_eput_other _ _ _ _ (by omega)]
 ·have hn0:n≠0:=by omega
  have q1:n*48≤140737488355328:=by omega
  have q2:n≤9223372036854775807:=by omega
  rw[cgo2_cons]
  conv=>arg 2;whnf
  refine cexec_cap0 (m:=n) (z:=3) (ys:=A) (by simp[-asrc,aev,h76,h79,hs1,hn0]) (by simp[-asrc,aev,h76,h79,hs1,h0,q1,q2]) fun nc hnc=>⟨hP _ (hJJ.app _),putE_some (Nat.lt_of_sub_eq_succ rfl) ?_⟩
  rw[cgo2_cons]
  conv=>arg 2;whnf
  refine cexec_csl 127 A (List.replicate ((nc-n)*3) .top) (krC (f,w)) 1 (i:=J.length) (n:=n) (cap:=nc) (by simp[aev,eget_eput_same]) (by simp[aev,eget_eput_same]) (by simp[aev,eget_eput_same,eget_eput_other,h82];exact⟨rfl,rfl,rfl⟩) (by simp) (by simp) (by simpa using hA) (by simp[hA,Nat.sub_mul];omega) (by simp[asrc]) (by simp) (by simp;omega) (by omega) (by simp) (by simp) ?_;intro i7 cap7 B7 J7 hor hl7 hc7;have hp7:Pre J J7:=by
   rcases hor with⟨rfl,_⟩|⟨rfl,_⟩
   ·exact(hJJ.app _).set (Nat.le_refl _) _
   ·exact(hJJ.app _).app _
  have hi7:J.length≤i7:=by
   rcases hor with⟨_,rfl⟩|⟨_,rfl⟩<;>simp
  refine⟨hP J7 hp7,putE_some (Nat.lt_of_sub_eq_succ rfl) ?_⟩;refine tail _ J7 i7 cap7 B7 hp7 hi7 ?_ (by simpa using hl7) (eget_eput_same _ _ _) ?_ ?_
  ·rcases hor with⟨rfl,rfl⟩|⟨rfl,rfl⟩
   ·rw[List.getElem?_set_self (by simp)]
   ·rw[List.getElem?_append_right (Nat.le_refl _)];simp
  ·rw[eget_eput_other _ _ _ _ (by omega),eget_eput_other _ _ _ _ (by omega),h86]
  ·intro t ht;rw[eget_eput_other _ _ _ _ (by omega),eget_eput_other _ _ _ _ (by omega)]
attribute [-simp] List.getD_eq_getElem?_getD in
set_option maxHeartbeats 8000000 in
theorem key_step (L:List Dc)(f:Int)(ws:List Wd)(i zi k p6:Nat)(ks:List Ky)(tv:AV)(h0 nb tb:Nat)(J:List Blk)(U:Toks)(hk:k<ws.length)(hks:ks.length≤1000000)(hTR:TR h0 J ks tv)(h6:J[p6]?=some (.cells (znC ⟨f,ws⟩)))
  (hnb:nb≤J.length) (htb:tb≤U.length) (HO:HOk J U) (h0J:h0≤J.length) (Q:Exit→St→Prop)
  (go:∀(e:Env)(J':List Blk)(tv':AV),(∃G,J'=J++G)→TR h0 J' (insK (f,(ws.getD k w0).1) ks) tv'→
   envLe J'.length U.length e [(0,.sl L.length (dcAV L) .none),(3,tv'),(4,.int .i64 (i:Nat)),(5,.int .i64 (zi:Nat)),(6,.ptr p6 0),(7,.int .i64 (k:Nat))]→Q .normal ⟨e,J',U⟩) :
  AW ⟨Tryz.prog,89,10,nb,tb,[100080,100083]⟩ (subC [1,1,0,1,0,0,1,0,0,1,0,0,1,0,0,1,1,0,0,1,0,0] (Tryz.f67.body.getD .skip)) Q
   ⟨[(0,.sl L.length (dcAV L) .none),(3,tv),(4,.int .i64 (i:Nat)),(5,.int .i64 (zi:Nat)),(6,.ptr p6 0),(7,.int .i64 (k:Nat))],J,U⟩:=by
 conv=>arg 2;whnf
 have hat:=(wdAV_at ws k hk).1;have e6:=at_of h6;have l6:=(List.getElem?_eq_some_iff.1 h6).1;generalize (ws.getD k w0).1=w at *;refine aw_draw [9,10] [0,0,0,0,0,0,0,0,0,0,1] [[0,1,2,3,4,5,6,7,8],[]] drawMixed (by kernel_rfl) (by kernel_rfl) fun K hK=>?_;simp(disch:=omega)[e6,l6,wdAV_len,hat,hk,List.getElem?_append_left,List.getElem_append_left];apply hK;clear hK K;have HO1:HOk (J++[.cells (krC (f,w))]) U:=HO.snoc (by simp);have g8:(J++[Blk.cells (krC (f,w))])[J.length]?=some (.cells (krC (f,w))):=by simp
 have hTR1:=hTR.app [Blk.cells (krC (f,w))];have hl1:(J++[Blk.cells (krC (f,w))]).length=J.length+1:=by simp
 have hpre:∃G,J++[Blk.cells (krC (f,w))]=J++G:=⟨_,rfl⟩
 obtain⟨p8,hp8⟩:∃p,p=J.length:=⟨_,rfl⟩
 rw[←hp8] at g8;simp only[←hp8];rw[show Blk.cells [.int .i64 f,.str w,.sl 0 [] .full]=.cells (krC (f,w)) from rfl];generalize J++[Blk.cells (krC (f,w))]=J1 at *;have e8:=at_of g8;have l8:=(List.getElem?_eq_some_iff.1 g8).1;have hbt:∀(n:Nat),J1.length≤n→Below n U.length tv:=fun n hn=>by
  rcases hTR1 with⟨_,rfl⟩|⟨i,rest,rfl,_,h3,_⟩
  ·simp
  ·have:=(List.getElem?_eq_some_iff.1 h3).1;simp;omega
 have hbt0:=hbt J1.length (Nat.le_refl _);refine aw_weak ⟨[(0,.sl L.length (dcAV L) .none),(3,tv),(4,.int .i64 (i:Nat)),(5,.int .i64 (zi:Nat)),(6,.ptr p6 0),(7,.int .i64 (k:Nat)),(8,.ptr p8 0)],J1,U⟩ (weak_to [] [] (by simp) (by simp) (by show nb≤J1.length;omega) htb HO1 (by simp[hbt0];omega)) ?_;apply aw_reg;intro K h;simp(disch:=omega);apply h;clear h K;refine aw_then fun K5 hK5=>?_;apply aw_block;have hes:∀(e:Env)(n:Nat),envLe J1.length U.length e [(0,.sl L.length (dcAV L) .none),(3,tv),(4,.int .i64 (i:Nat)),(5,.int .i64 (zi:Nat)),(6,.ptr p6 0),(7,.int .i64 (k:Nat)),(8,.ptr p8 0),(9,.int .i64 (n:Nat))]→
   Weak ⟨Tryz.prog,89,10,nb,tb,[100080,100083]⟩ ⟨e,J1,U⟩ ⟨[(0,.sl L.length (dcAV L) .none),(3,tv),(4,.int .i64 (i:Nat)),(5,.int .i64 (zi:Nat)),(6,.ptr p6 0),(7,.int .i64 (k:Nat)),(8,.ptr p8 0),(9,.int .i64 (n:Nat))],J1,U⟩:=fun e n he=>
  weak_to [] [] (by simp) (by simp) (by show nb≤J1.length;omega) htb HO1 he
 have cont:∀n,n≤ks.length→(∀j,j<n→kylt (ks.getD j k0) (f,w)=true)→(n<ks.length→kylt (ks.getD n k0) (f,w)=false)→∀e,envLe J1.length U.length e [(0,.sl L.length (dcAV L) .none),(3,tv),(4,.int .i64 (i:Nat)),(5,.int .i64 (zi:Nat)),(6,.ptr p6 0),(7,.int .i64 (k:Nat)),(8,.ptr p8 0),(9,.int .i64 (n:Nat))]→K5 ⟨e,J1,U⟩:=by
  intro n hn1 hn2 hn3 e he;refine hK5 _ (aw_weak _ (hes e n he) ?_);clear hK5 he;obtain⟨hsame,hins⟩:=insK_at (f,w) ks n hn1 hn2 hn3;have fin:(n<ks.length→kylt (f,w) (ks.getD n k0)=true)→∀(e:Env)(J':List Blk)(i' cap':Nat)(rest':List AV),Pre J1 J'→J1.length≤i'→J'[i']?=some (.cells (krAV (ks.take n++(f,w)::ks.drop n)++rest'))→
    envLe J'.length U.length e [(0,.sl L.length (dcAV L) .none),(3,.msl i' 0 (n+1+(ks.length-n))),(4,.int .i64 (i:Nat)),(5,.int .i64 (zi:Nat)),(6,.ptr p6 0),(7,.int .i64 (k:Nat))]→Q .normal ⟨e,J',U⟩:=by
   intro h e J' i' cap' rest' hp hi' hg he;obtain⟨G,rfl⟩:=hp;obtain⟨G1,rfl⟩:=hpre;have hl:(insK (f,w) ks).length=n+1+(ks.length-n):=by rw[hins h];simp;omega
   refine go e _ _ ⟨G1++G,by simp⟩ (.inr ⟨i',rest',rfl,by simp at hi';omega,by rw[hins h];exact hg,by omega⟩) ?_;rw[hl];exact he
  have fin2:(n<ks.length→kylt (f,w) (ks.getD n k0)=true)→∀(e e0:Env)(J':List Blk)(i' cap':Nat)(rest':List AV),Pre J1 J'→J1.length≤i'→J'[i']?=some (.cells (krAV (ks.take n)++krC (f,w)++krAV (ks.drop n)++rest'))→eget e 3=.csl i' (n+1+(ks.length-n)) cap'→(∀t,t<80→t≠3→eget e t=eget e0 t)→
    eget e0 0=.sl L.length (dcAV L) .none→eget e0 4=.int .i64 (i:Nat)→eget e0 5=.int .i64 (zi:Nat)→eget e0 6=.ptr p6 0→eget e0 7=.int .i64 (k:Nat)→Q .normal ⟨e,J',U⟩:=by
   intro h e e0 J' i' cap' rest' hp hi' hg h3 hold q0 q4 q5 q6 q7;have hle:=hp.le;have hlt:=(List.getElem?_eq_some_iff.1 hg).1;refine fin h e J' i' cap' rest' hp hi' ?_ ?_
   ·rw[hg];congr 2;rw[show krAV (ks.take n++(f,w)::ks.drop n)=krAV (ks.take n)++krC (f,w)++krAV (ks.drop n) by simp[krAV]]
   ·simp[h3,hold,q0,q4,q5,q6,q7,hlt];omega
  have c1:(krAV (ks.take n)).length=n*3:=by rw[krAV_len,List.length_take];omega
  have c2:(krAV (ks.drop n)).length=(ks.length-n)*3:=by rw[krAV_len,List.length_drop]
  have hPre8:∀J',Pre J1 J'→J'[p8]?=some (.cells (krC (f,w))):=by
   rintro J' ⟨G,rfl⟩;rw[List.getElem?_append_left l8];exact g8
  rcases hTR1 with⟨rfl,rfl⟩|⟨ib,rest,rfl,hib,gi,hpos⟩
  ·have hn0:n=0:=by simpa using hn1
   subst hn0;refine aw_draw [] [] [] drawMixed (by kernel_rfl) (by kernel_rfl) fun K hK=>?_;simp(disch:=omega) ;apply hK;clear hK K;apply aw_ift rfl;refine aw_chain0 [4,7,11,12] drawMixed (by kernel_rfl) fun K hK=>?_;simp(disch:=omega)[amade_zero,e8,l8];refine cgo_of (fun J' _=>J'[p8]?=some (.cells (krC (f,w)))) (fun J' U' hJ'=>?_) ?_
   ·have e9:=at_of hJ';have l9:=(List.getElem?_eq_some_iff.1 hJ').1;simp(disch:=omega)[amade_zero,e9,l9]
   ·exact chain17 f w 0 0 [] [] _ _ _ J1 U (by omega) (by omega) rfl rfl rfl rfl rfl rfl rfl (fun _ _=>rfl) hPre8 fun e' J' i' cap' rest' hp hi' hg h3 hold=>hK _ (fin2 (fun h=>absurd h (Nat.not_lt_zero _)) e' _ J' i' cap' rest' hp hi' (by simpa[krAV] using hg) h3 hold rfl rfl rfl rfl rfl)
  ·have hcut:=krAV_cut ks rest;have hlen:(krAV ks++rest).length=ks.length*3+rest.length:=by rw[List.length_append,krAV_len]
   have hv1:(krAV ks++rest).take (n*3)=krAV (ks.take n):=by rw[List.take_append_of_le_length (by rw[krAV_len];omega),krAV_tk]
   have hv2:((krAV ks++rest).drop (n*3)).take ((ks.length-n)*3)=krAV (ks.drop n):=by
    rw[List.drop_append_of_le_length (by rw[krAV_len];omega),krAV_drop,List.take_left' c2]
   generalize hvs:krAV ks++rest=vs at *;have ei:=at_of gi;have li:=(List.getElem?_eq_some_iff.1 gi).1;have hPrei:∀J',Pre J1 J'→J'[ib]?=some (.cells vs):=by
    rintro J' ⟨G,rfl⟩;rw[List.getElem?_append_left li];exact gi
   rcases Nat.lt_or_ge n ks.length with h4|h4
   ·have hcutn:=hcut n h4;have b1:((n:Int)==(ks.length:Int))=false:=beq_eq_false_iff_ne.2 (by omega);have c:=termLess_ok (f,w) (ks.getD n k0) (.sl 0 [] .full) (.sl 0 [] .full) J1 U (by simp) (by simp);have d1:n*3+3≤vs.length:=by omega
    have d2:n*3≤vs.length:=by omega
    have d3:n*3+(ks.length-n)*3≤vs.length:=by omega
    cases hlt:kylt (f,w) (ks.getD n k0) with
    |false=>
     rw[hlt] at c;rw[hsame h4 hlt] at go;generalize ks.getD n k0=y at *;refine aw_draw [] [] [] drawMixed (by kernel_rfl) (by kernel_rfl) fun K hK=>?_;simp(disch:=omega)[b1,h4,e8,l8,ei,li,hcutn,d1,d2];refine dcall_is (c) rfl ?_;simp(disch:=omega) ;apply hK;clear hK K;apply aw_iff rfl;apply aw_skip;obtain⟨G1,hG1⟩:=hpre;refine go _ J1 _ ⟨G1,hG1⟩ (.inr ⟨ib,rest,rfl,hib,by rw[hvs];exact gi,hpos⟩) ?_;simp[li];omega
    |true=>
     rw[hlt] at c;have fin3:=fin2 fun _=>hlt;generalize ks.getD n k0=y at *;refine aw_draw [] [] [] drawMixed (by kernel_rfl) (by kernel_rfl) fun K hK=>?_;simp(disch:=omega)[b1,h4,e8,l8,ei,li,hcutn,d1,d2];refine dcall_is (c) rfl ?_;simp(disch:=omega) ;apply hK;clear hK K;apply aw_ift rfl;refine aw_chain0 [4,7,11,12] drawMixed (by kernel_rfl) fun K hK=>?_;simp(disch:=omega)[amade_zero,e8,l8,h4];refine cgo_of (fun J' _=>J'[p8]?=some (.cells (krC (f,w)))) (fun J' U' hJ'=>?_) ?_
     ·have e9:=at_of hJ';have l9:=(List.getElem?_eq_some_iff.1 hJ').1;simp(disch:=omega)[amade_zero,e9,l9,h4]
     ·exact chain17 f w n (ks.length-n) (krAV (ks.take n)) (krAV (ks.drop n)) _ _ _ J1 U (by omega) (by omega) c1 c2 rfl rfl rfl rfl (by simp[asrc,ei,li,d2,hv1]) (fun J' hp=>by
       have:=hPrei J' hp;simp[asrc,this,d3,hv2]) hPre8 fun e' J' i' cap' rest' hp hi' hg h3 hold=>hK _ (fin3 e' _ J' i' cap' rest' hp hi' hg h3 hold rfl rfl rfl rfl rfl)
   ·have hnk:n=ks.length:=by omega
    subst hnk;have fin3:=fin2 fun h=>absurd h (Nat.lt_irrefl _);have d2:ks.length*3≤vs.length:=by omega
    have hne:ks≠[]:=fun e=>by rw[e] at hpos;exact absurd hpos (Nat.lt_irrefl _)
    refine aw_draw [] [] [] drawMixed (by kernel_rfl) (by kernel_rfl) fun K hK=>?_;simp(disch:=omega) ;apply hK;clear hK K;apply aw_ift rfl;refine aw_chain0 [4,7,11,12] drawMixed (by kernel_rfl) fun K hK=>?_;simp(disch:=omega)[amade_zero,e8,l8,hne];refine cgo_of (fun J' _=>J'[p8]?=some (.cells (krC (f,w)))) (fun J' U' hJ'=>?_) ?_
    ·have e9:=at_of hJ';have l9:=(List.getElem?_eq_some_iff.1 hJ').1;simp(disch:=omega)[amade_zero,e9,l9,hne]
    ·exact chain17 f w ks.length (ks.length-ks.length) (krAV (ks.take ks.length)) (krAV (ks.drop ks.length)) _ _ _ J1 U (by omega) (by omega) c1 c2 rfl rfl rfl rfl (by simp[asrc,ei,li,d2,hv1]) (fun J' hp=>by simp[krAV]) hPre8 fun e' J' i' cap' rest' hp hi' hg h3 hold=>hK _ (fin3 e' _ J' i' cap' rest' hp hi' hg h3 hold rfl rfl rfl rfl rfl)
 refine aw_loop (X:=Nat) (fun n=>⟨[(0,.sl L.length (dcAV L) .none),(3,tv),(4,.int .i64 (i:Nat)),(5,.int .i64 (zi:Nat)),(6,.ptr p6 0),(7,.int .i64 (k:Nat)),(8,.ptr p8 0),(9,.int .i64 (n:Nat))],J1,U⟩)
  (fun n=>n≤ks.length∧∀j,j<n→kylt (ks.getD j k0) (f,w)=true) (fun n=>ks.length-n) 0 ?_ ?_ ?_
 ·exact⟨Nat.zero_le _,fun j hj=>absurd hj (Nat.not_lt_zero _)⟩
 ·refine hes _ 0 ?_;simp[hbt0,l8];omega
 ·rintro n ⟨hn1,hn2⟩;replace cont:=cont n hn1 hn2;have hes2:=hes;refine aw_then fun K6 hK6=>?_;rcases Nat.lt_or_ge n ks.length with h4|h4
  ·rcases hTR1 with⟨rfl,rfl⟩|⟨ib,rest,rfl,hib,gi,hpos⟩
   ·exact absurd h4 (Nat.not_lt_zero _)
   have hcutn:=krAV_cut ks rest n h4;have hlen:(krAV ks++rest).length=ks.length*3+rest.length:=by rw[List.length_append,krAV_len]
   generalize krAV ks++rest=vs at *;have ei:=at_of gi;have li:=(List.getElem?_eq_some_iff.1 gi).1;have d1:n*3+3≤vs.length:=by omega
   have b1:decide ((n:Int)<(ks.length:Int))=true:=decide_eq_true (by omega);have c:=termLess_ok (ks.getD n k0) (f,w) (.sl 0 [] .full) (.sl 0 [] .full) J1 U (by simp) (by simp);have hst:kylt (ks.getD n k0) (f,w)=true→∀j,j<n+1→kylt (ks.getD j k0) (f,w)=true:=fun h j hj=>by
    rcases Nat.lt_or_ge j n with h3|h3
    ·exact hn2 j h3
    ·have:j=n:=by omega
     subst this;exact h
   cases hlt:kylt (ks.getD n k0) (f,w) with
   |true=>
    rw[hlt] at c;replace hst:=hst hlt;generalize ks.getD n k0=y at hcutn c;refine aw_draw [] [] [] drawMixed (by kernel_rfl) (by kernel_rfl) fun K hK=>?_;simp(disch:=omega)[b1,h4,e8,l8,ei,li,hcutn,d1];refine dcall_is (c) rfl ?_;simp(disch:=omega) ;apply hK;clear hK K;apply aw_ift rfl;apply aw_skip;apply hK6;clear hK6;apply aw_block;refine aw_reg0 fun K hK=>?_;simp(disch:=omega) ;apply hK;clear hK K;refine⟨n+1,⟨by show n+1≤_;omega,hst⟩,by show ks.length-(n+1)<ks.length-n;omega,?_⟩;refine hes2 _ (n+1) ?_;simp[li,l8];omega
   |false=>
    rw[hlt] at c;replace cont:=cont fun _=>hlt;generalize ks.getD n k0=y at hcutn c;refine aw_draw [] [] [] drawMixed (by kernel_rfl) (by kernel_rfl) fun K hK=>?_;simp(disch:=omega)[b1,h4,e8,l8,ei,li,hcutn,d1];refine dcall_is (c) rfl ?_;simp(disch:=omega) ;apply hK;clear hK K;apply aw_iff rfl;apply aw_exit;simp(disch:=omega) ;refine cont _ ?_;simp[li,l8];omega
  ·have hnk:n=ks.length:=by omega
   replace cont:=cont fun h=>absurd h (by omega);subst hnk;rcases hTR1 with⟨rfl,rfl⟩|⟨ib,rest,rfl,hib,gi,hpos⟩
   ·refine aw_draw [] [] [] drawMixed (by kernel_rfl) (by kernel_rfl) fun K hK=>?_;simp(disch:=omega) ;apply hK;clear hK K;apply aw_iff rfl;apply aw_exit;simp(disch:=omega) ;refine cont _ ?_;simp[l8];omega
   ·have li:=(List.getElem?_eq_some_iff.1 gi).1;refine aw_draw [] [] [] drawMixed (by kernel_rfl) (by kernel_rfl) fun K hK=>?_;simp(disch:=omega) ;apply hK;clear hK K;apply aw_iff rfl;apply aw_exit;simp(disch:=omega) ;refine cont _ ?_;simp[li,l8];omega
attribute [-simp] List.getD_eq_getElem?_getD in
set_option maxHeartbeats 4000000 in
theorem wordsT_loop (L:List Dc)(f:Int)(ws:List Wd)(i zi p6:Nat)(ks:List Ky)(tv:AV)(h0 nb tb:Nat)(J:List Blk)(U:Toks)(hks:ks.length+ws.length≤1000000)(hTR:TR h0 J ks tv)(h6:J[p6]?=some (.cells (znC ⟨f,ws⟩)))
  (hnb:nb≤J.length) (htb:tb≤U.length) (HO:HOk J U) (h0J:h0≤J.length) (Q:Exit→St→Prop)
  (go:∀(e:Env)(J':List Blk)(tv':AV),(∃G,J'=J++G)→TR h0 J' (insAll ks (zkeys ⟨f,ws⟩)) tv'→
   envLe J'.length U.length e [(0,.sl L.length (dcAV L) .none),(3,tv'),(4,.int .i64 (i:Nat)),(5,.int .i64 (zi:Nat))]→Q .normal ⟨e,J',U⟩) :
  AW ⟨Tryz.prog,89,10,nb,tb,[100080,100083]⟩ (subC [1,1,0,1,0,0,1,0,0,1,0,0,1,0,0,1] (Tryz.f67.body.getD .skip)) Q
   ⟨[(0,.sl L.length (dcAV L) .none),(3,tv),(4,.int .i64 (i:Nat)),(5,.int .i64 (zi:Nat)),(6,.ptr p6 0)],J,U⟩:=by
 conv=>arg 2;whnf
 have l6:=(List.getElem?_eq_some_iff.1 h6).1;have hbt:∀(J1:List Blk)(ks1:List Ky)(tv1:AV),TR h0 J1 ks1 tv1→Below J1.length U.length tv1:=fun J1 ks1 tv1 h=>by
  rcases h with⟨_,rfl⟩|⟨i,rest,rfl,_,h3,_⟩
  ·simp
  ·simpa using(List.getElem?_eq_some_iff.1 h3).1
 have hb0:=hbt J ks tv hTR;apply aw_reg;intro K h;simp(disch:=omega);apply h;clear h K;apply aw_block;refine aw_loop (X:=Nat×List Blk×AV) (fun x=>⟨[(0,.sl L.length (dcAV L) .none),(3,x.2.2),(4,.int .i64 (i:Nat)),(5,.int .i64 (zi:Nat)),(6,.ptr p6 0),(7,.int .i64 (x.1:Nat))],x.2.1,U⟩)
  (fun x=>x.1≤ws.length∧(∃G,x.2.1=J++G)∧TR h0 x.2.1 (insAll ks ((ws.take x.1).map fun w=>(f,w.1))) x.2.2∧HOk x.2.1 U) (fun x=>ws.length-x.1) (0,J,tv) ?_ ?_ ?_
 ·exact⟨Nat.zero_le _,⟨[],by simp⟩,by simpa[insAll] using hTR,HO⟩
 ·refine weak_to [] [] (by simp) (by simp) hnb htb HO ?_;simp[hb0,l6]
 ·rintro⟨k,J1,tv1⟩ ⟨g1,⟨G,hG⟩,g3,g4⟩;simp only at g1 hG g3 g4;have hl1:J.length≤J1.length:=by rw[hG];simp
  have h61:J1[p6]?=some (.cells (znC ⟨f,ws⟩)):=by rw[hG,List.getElem?_append_left l6];exact h6
  have e6:=at_of h61;have l61:=(List.getElem?_eq_some_iff.1 h61).1;have hb1:=hbt J1 _ tv1 g3;refine aw_then fun K5 hK5=>?_;refine aw_reg fun K hK=>?_;simp(disch:=omega)[e6,l61];apply hK;clear hK K;refine aw_if rfl (fun hk=>?_) (fun hk=>?_)
  ·simp  at hk;have hkl:(insAll ks ((ws.take k).map fun w=>(f,w.1))).length≤1000000:=by
    have:=insAll_len ((ws.take k).map fun w=>(f,w.1)) ks;rw[List.length_map,List.length_take] at this;omega
   have hnx:insAll ks ((ws.take (k+1)).map fun w=>(f,w.1))=insK (f,(ws.getD k w0).1) (insAll ks ((ws.take k).map fun w=>(f,w.1))):=by
    rw[take_getD ws k w0 hk,List.map_append,insAll_app];rfl
   generalize insAll ks ((ws.take k).map fun w=>(f,w.1))=ks1 at *;apply aw_skip;apply hK5;clear hK5;refine aw_then fun K6 hK6=>?_;apply aw_block;refine aw_weak ⟨[(0,.sl L.length (dcAV L) .none),(3,tv1),(4,.int .i64 (i:Nat)),(5,.int .i64 (zi:Nat)),(6,.ptr p6 0),(7,.int .i64 (k:Nat))],J1,U⟩ (weak_to [] [] (by simp) (by simp) (by show nb≤J1.length;omega) htb g4 (by simp[hb1,l61])) ?_;refine key_step L f ws i zi k p6 ks1 tv1 h0 nb tb J1 U hk hkl g3 h61 (by omega) htb g4 (by omega) _ fun e J2 tv2 hG2 hT2 he=>?_;have hb2:=hbt J2 _ tv2 hT2;obtain⟨G2,hG2⟩:=hG2;have hl2:J1.length≤J2.length:=by rw[hG2];simp
   refine hK6 _ (aw_hok fun HO2=>?_);refine aw_weak ⟨[(0,.sl L.length (dcAV L) .none),(3,tv2),(4,.int .i64 (i:Nat)),(5,.int .i64 (zi:Nat)),(6,.ptr p6 0),(7,.int .i64 (k:Nat))],J2,U⟩ (weak_to [] [] (by simp) (by simp) (by show nb≤J2.length;omega) htb HO2 he) ?_;refine aw_reg0 fun K hK=>?_;simp(disch:=omega) ;apply hK;clear hK K;refine⟨(k+1,J2,tv2),⟨by show k+1≤_;omega,⟨G++G2,by rw[hG2,hG,List.append_assoc]⟩,by simp only;rw[hnx];exact hT2,HO2⟩,by show ws.length-(k+1)<ws.length-k;omega,?_⟩;refine weak_to [] [] (by simp) (by simp) (by show nb≤J2.length;omega) htb HO2 ?_;simp[hb2];omega
  ·simp  at hk;have hke:k=ws.length:=by omega
   subst hke;rw[List.take_length] at g3;apply aw_exit;simp(disch:=omega) ;refine go _ J1 tv1 ⟨G,hG⟩ g3 ?_;simp[hb1]
attribute [-simp] List.getD_eq_getElem?_getD in
set_option maxHeartbeats 4000000 in
theorem zonesT_loop (L:List Dc)(i:Nat)(hi:i<L.length)(ks:List Ky)(tv:AV)(h0 nb tb:Nat)(J:List Blk)(U:Toks)(hks:ks.length+(dkeys (L.getD i d0)).length≤1000000)(hzl:(L.getD i d0).zs.length≤9223372036854775807)(hTR:TR h0 J ks tv)
  (hnb:nb≤J.length) (htb:tb≤U.length) (HO:HOk J U) (h0J:h0≤J.length) (Q:Exit→St→Prop)
  (go:∀(e:Env)(J':List Blk)(tv':AV),(∃G,J'=J++G)→TR h0 J' (insAll ks (dkeys (L.getD i d0))) tv'→
   envLe J'.length U.length e [(0,.sl L.length (dcAV L) .none),(3,tv'),(4,.int .i64 (i:Nat))]→Q .normal ⟨e,J',U⟩) :
  AW ⟨Tryz.prog,89,10,nb,tb,[100080,100083]⟩ (subC [1,1,0,1,0,0,1,0,0] (Tryz.f67.body.getD .skip)) Q
   ⟨[(0,.sl L.length (dcAV L) .none),(3,tv),(4,.int .i64 (i:Nat))],J,U⟩:=by
 conv=>arg 2;whnf
 obtain⟨_,hat,_⟩:=dcAV_at L i hi;have hbt:∀(J1:List Blk)(ks1:List Ky)(tv1:AV),TR h0 J1 ks1 tv1→Below J1.length U.length tv1:=fun J1 ks1 tv1 h=>by
  rcases h with⟨_,rfl⟩|⟨i,rest,rfl,_,h3,_⟩
  ·simp
  ·simpa using(List.getElem?_eq_some_iff.1 h3).1
 have hb0:=hbt J ks tv hTR;unfold dkeys at hks go;generalize (L.getD i d0).zs=zs at *;apply aw_reg;intro K h;simp(disch:=omega);apply h;clear h K;apply aw_block;refine aw_loop (X:=Nat×List Blk×AV) (fun x=>⟨[(0,.sl L.length (dcAV L) .none),(3,x.2.2),(4,.int .i64 (i:Nat)),(5,.int .i64 (x.1:Nat))],x.2.1,U⟩)
  (fun x=>x.1≤zs.length∧(∃G,x.2.1=J++G)∧TR h0 x.2.1 (insAll ks ((zs.take x.1).flatMap zkeys)) x.2.2∧HOk x.2.1 U) (fun x=>zs.length-x.1) (0,J,tv) ?_ ?_ ?_
 ·exact⟨Nat.zero_le _,⟨[],by simp⟩,by simpa[insAll] using hTR,HO⟩
 ·refine weak_to [] [] (by simp) (by simp) hnb htb HO ?_;simp[hb0]
 ·rintro⟨k,J1,tv1⟩ ⟨g1,⟨G,hG⟩,g3,g4⟩;simp only at g1 hG g3 g4;have hl1:J.length≤J1.length:=by rw[hG];simp
  have hb1:=hbt J1 _ tv1 g3;refine aw_then fun K5 hK5=>?_;refine aw_reg fun K hK=>?_;simp(disch:=omega)[hat,dcAV_len,hi];apply hK;clear hK K;refine aw_if rfl (fun hk=>?_) (fun hk=>?_)
  ·simp  at hk;have hcut:=znAV_cut zs k hk;have hnx:insAll ks ((zs.take (k+1)).flatMap zkeys)=insAll (insAll ks ((zs.take k).flatMap zkeys)) (zkeys (zs.getD k z0)):=by
    rw[take_getD zs k z0 hk,List.flatMap_append,insAll_app];simp
   have hkl:(insAll ks ((zs.take k).flatMap zkeys)).length+(zs.getD k z0).ws.length≤1000000:=by
    have h1:=insAll_len ((zs.take k).flatMap zkeys) ks;have h2:((zs.take k).flatMap zkeys).length+(zkeys (zs.getD k z0)).length≤(zs.flatMap zkeys).length:=by
     have h3:zs.flatMap zkeys=(zs.take k).flatMap zkeys++(zkeys (zs.getD k z0)++(zs.drop (k+1)).flatMap zkeys):=by
      conv=>lhs;rw[←List.take_append_drop k zs,getD_cons_drop zs k z0 hk,List.flatMap_append,List.flatMap_cons]
     rw[h3];simp
    have h4:(zkeys (zs.getD k z0)).length=(zs.getD k z0).ws.length:=by simp[zkeys]
    omega
   generalize insAll ks ((zs.take k).flatMap zkeys)=ks1 at *;generalize zs.getD k z0=z at *;obtain⟨f,ws⟩:=z;simp only at hcut hkl;apply aw_skip;apply hK5;clear hK5;refine aw_then fun K6 hK6=>?_;apply aw_block;refine aw_reg fun K hK=>?_;simp(disch:=omega)[hat,dcAV_len,hi,hcut,znAV_len,hk];apply hK;clear hK K;have HO1:HOk (J1++[.cells (znC ⟨f,ws⟩)]) U:=g4.snoc (by simp);have hg6:(J1++[Blk.cells (znC ⟨f,ws⟩)])[J1.length]?=some (.cells (znC ⟨f,ws⟩)):=by simp
   have hT1:=g3.app [Blk.cells (znC ⟨f,ws⟩)];have hlx:(J1++[Blk.cells (znC ⟨f,ws⟩)]).length=J1.length+1:=by simp
   have hGx:∃G',J1++[Blk.cells (znC ⟨f,ws⟩)]=J++G':=⟨G++[Blk.cells (znC ⟨f,ws⟩)],by rw[hG,List.append_assoc]⟩
   rw[show Blk.cells [.int .i64 f,.sl ws.length (wdAV ws) .none]=.cells (znC ⟨f,ws⟩) from rfl];obtain⟨p6,hp6⟩:∃p,p=J1.length:=⟨_,rfl⟩
   rw[←hp6] at hg6;simp only[←hp6];generalize J1++[Blk.cells (znC ⟨f,ws⟩)]=J2 at *;obtain⟨G',hG'⟩:=hGx;have hb2:=hbt J2 _ tv1 hT1;refine aw_weak ⟨[(0,.sl L.length (dcAV L) .none),(3,tv1),(4,.int .i64 (i:Nat)),(5,.int .i64 (k:Nat)),(6,.ptr p6 0)],J2,U⟩ (weak_to [] [] (by simp) (by simp) (by show nb≤J2.length;omega) htb HO1 (by simp[hb2];omega)) ?_;refine wordsT_loop L f ws i k p6 ks1 tv1 h0 nb tb J2 U hkl hT1 hg6 (by omega) htb HO1 (by omega) _ fun e J3 tv3 hG3 hT3 he=>?_;have hb3:=hbt J3 _ tv3 hT3;obtain⟨G3,hG3⟩:=hG3;have hl3:J2.length≤J3.length:=by rw[hG3];simp
   refine hK6 _ (aw_hok fun HO2=>?_);refine aw_weak ⟨[(0,.sl L.length (dcAV L) .none),(3,tv3),(4,.int .i64 (i:Nat)),(5,.int .i64 (k:Nat))],J3,U⟩ (weak_to [] [] (by simp) (by simp) (by show nb≤J3.length;omega) htb HO2 he) ?_;refine aw_reg0 fun K hK=>?_;simp(disch:=omega) ;apply hK;clear hK K;refine⟨(k+1,J3,tv3),⟨by show k+1≤_;omega,⟨G'++G3,by rw[hG3,hG',List.append_assoc]⟩,by simp only;rw[hnx];exact hT3,HO2⟩,by show zs.length-(k+1)<zs.length-k;omega,?_⟩;refine weak_to [] [] (by simp) (by simp) (by show nb≤J3.length;omega) htb HO2 ?_;simp[hb3]
  ·simp  at hk;have hke:k=zs.length:=by omega
   subst hke;rw[List.take_length] at g3;apply aw_exit;simp(disch:=omega) ;refine go _ J1 tv1 ⟨G,hG⟩ g3 ?_;simp[hb1]
attribute [-simp] List.getD_eq_getElem?_getD in
set_option maxHeartbeats 4000000 in
theorem terms39_ok (L:List Dc)(hL:L.length≤1000000)(hks:(L.flatMap dkeys).length≤1000000)(hz:∀d∈L,d.zs.length≤1000000)(H:List Blk)(T:Toks)(tg:Tag) :
  ACall Tryz.prog 67 [.sl L.length (dcAV L) tg] H T (fun r H' T'=>(∃G,H'=H++G)∧T'=T∧TR H.length H' (keysF L) r):=by
 refine ACall.untag1 ?_;rw[keysF_all];have hbt:∀(J1:List Blk)(ks1:List Ky)(tv1:AV),TR H.length J1 ks1 tv1→Below J1.length T.length tv1:=fun J1 ks1 tv1 h=>by
  rcases h with⟨_,rfl⟩|⟨i,rest,rfl,_,h3,_⟩
  ·simp
  ·simpa using(List.getElem?_eq_some_iff.1 h3).1
 refine acall_enter 10 [100080,100083] Tryz.ntmps67 Tryz.func67 rfl (fun _ _=>Tryz.call67 _ _) (by simp) (fun HO=>?_);apply aw_reg;intro K h;simp(disch:=omega);apply h;clear h K;apply aw_reg;intro K h;simp(disch:=omega);apply h;clear h K;refine aw_then fun K1 hK1=>?_;apply aw_reg;intro K h;simp(disch:=omega);apply h;clear h K;apply aw_block;refine aw_loop (X:=Nat×List Blk×AV) (fun x=>⟨[(0,.sl L.length (dcAV L) .none),(3,x.2.2),(4,.int .i64 (x.1:Nat))],x.2.1,T⟩)
  (fun x=>x.1≤L.length∧(∃G,x.2.1=H++G)∧TR H.length x.2.1 (insAll [] ((L.take x.1).flatMap dkeys)) x.2.2∧HOk x.2.1 T) (fun x=>L.length-x.1) (0,H,.sl 0 [] .full) ?_ ?_ ?_
 ·exact⟨Nat.zero_le _,⟨[],by simp⟩,.inl ⟨by simp[insAll],rfl⟩,HO⟩
 ·refine weak_to [] [] (by simp) (by simp) (Nat.le_refl _) (Nat.le_refl _) HO ?_;simp
 ·rintro⟨k,J1,tv1⟩ ⟨g1,⟨G,hG⟩,g3,g4⟩;simp only at g1 hG g3 g4;have hl1:H.length≤J1.length:=by rw[hG];simp
  have hb1:=hbt J1 _ tv1 g3;refine aw_then fun K5 hK5=>?_;apply aw_reg;intro K h;simp(disch:=omega);apply h;clear h K;refine aw_if rfl (fun hk=>?_) (fun hk=>?_)
  ·simp  at hk;have hnx:insAll [] ((L.take (k+1)).flatMap dkeys)=insAll (insAll [] ((L.take k).flatMap dkeys)) (dkeys (L.getD k d0)):=by
    rw[take_getD L k d0 hk,List.flatMap_append,insAll_app];simp
   have hkl:(insAll [] ((L.take k).flatMap dkeys)).length+(dkeys (L.getD k d0)).length≤1000000:=by
    have h1:=insAll_len ((L.take k).flatMap dkeys) [];have h2:((L.take k).flatMap dkeys).length+(dkeys (L.getD k d0)).length≤(L.flatMap dkeys).length:=by
     have h3:L.flatMap dkeys=(L.take k).flatMap dkeys++(dkeys (L.getD k d0)++(L.drop (k+1)).flatMap dkeys):=by
      conv=>lhs;rw[←List.take_append_drop k L,getD_cons_drop L k d0 hk,List.flatMap_append,List.flatMap_cons]
     rw[h3];simp
    rw[List.length_nil,Nat.zero_add] at h1;omega
   have hzk:=hz _ (getD_mem L k d0 hk);generalize insAll [] ((L.take k).flatMap dkeys)=ks1 at *;apply aw_skip;apply hK5;clear hK5;refine aw_then fun K6 hK6=>?_;apply aw_block;refine aw_weak ⟨[(0,.sl L.length (dcAV L) .none),(3,tv1),(4,.int .i64 (k:Nat))],J1,T⟩ (weak_to [] [] (by simp) (by simp) hl1 (Nat.le_refl _) g4 (by simp[hb1])) ?_;refine zonesT_loop L k hk ks1 tv1 H.length H.length T.length J1 T hkl (by omega) g3 hl1 (Nat.le_refl _) g4 hl1 _ fun e J3 tv3 hG3 hT3 he=>?_;have hb3:=hbt J3 _ tv3 hT3;obtain⟨G3,hG3⟩:=hG3;have hl3:J1.length≤J3.length:=by rw[hG3];simp
   refine hK6 _ (aw_hok fun HO2=>?_);refine aw_weak ⟨[(0,.sl L.length (dcAV L) .none),(3,tv3),(4,.int .i64 (k:Nat))],J3,T⟩ (weak_to [] [] (by simp) (by simp) (by show H.length≤J3.length;omega) (Nat.le_refl _) HO2 he) ?_;refine aw_reg0 fun K hK=>?_;simp(disch:=omega) ;apply hK;clear hK K;refine⟨(k+1,J3,tv3),⟨by show k+1≤_;omega,⟨G++G3,by rw[hG3,hG,List.append_assoc]⟩,by simp only;rw[hnx];exact hT3,HO2⟩,by show L.length-(k+1)<L.length-k;omega,?_⟩;refine weak_to [] [] (by simp) (by simp) (by show H.length≤J3.length;omega) (Nat.le_refl _) HO2 ?_;simp[hb3]
  ·simp  at hk;have hke:k=L.length:=by omega
   subst hke;rw[List.take_length] at g3;apply aw_exit;simp(disch:=omega) ;apply hK1;clear hK1;apply aw_reg;intro K h;simp(disch:=omega);apply h;clear h K;apply aw_ret;simp(disch:=omega) ;exact⟨⟨G,hG⟩,g3⟩
end Go.Proofs.YtneohapkboaplaaGreat

set_option linter.all false
set_option maxRecDepth 100000
namespace Seg
open Sug Go.Am
def posZ (ws:List Wd)(w:Bs):List Int:=(ws.filter fun x=>x.1==w).map (·.2)
theorem posZ_take (ws:List Wd)(w:Bs)(i:Nat)(h:i<ws.length):posZ (ws.take (i+1)) w=posZ (ws.take i) w++(if (ws.getD i w0).1=w then [(ws.getD i w0).2] else []):=by
 unfold posZ;rw[take_getD ws i w0 h,List.filter_append,List.map_append]
 congr 1
 rw[List.filter_cons]
 by_cases h1:(ws.getD i w0).1=w
 ·rw[if_pos h1,if_pos (by simpa using h1)];rfl
 ·rw[if_neg h1,if_neg (by simpa using h1)];rfl
def its1 (f:Int)(d:Dc):List Nm:=(nmf d.ns f).map fun n=>(n,d.id)
theorem itsF_its1 (L:List Dc)(f:Int):itsF L f=L.flatMap (its1 f):=by
 unfold itsF its1 nmf
 congr 1
 funext d
 rw[List.map_map];exact List.map_congr_left fun x _=>rfl
end Seg
namespace Go.Proofs.YtneohapkboaplaaGreat
open Go Go.Am Sug Seg
attribute [-simp] List.getD_eq_getElem?_getD in
set_option maxHeartbeats 4000000 in
theorem positionsR_ok (d:Dc)(hs:SzD d)(hw6:∀z∈d.zs,z.ws.length≤1000000)(f:Int)(w:Bs)(H:List Blk)(T:Toks):ACall Tryz.prog 68 [.agg (dcC d),.int .i64 f,.str w] H T (Is (.sl (posZ (wzf d.zs f) w).length (ints (posZ (wzf d.zs f) w)) .none) H T):=by
 refine ACall.drop' ?_ (by simp);have c:=fun H T=>words37_ok d hs hw6 f H T;have hwl:(wzf d.zs f).length≤1000000:=by
  have key:∀zs:List Zn,(∀z∈zs,z.ws.length≤1000000)→(wzf zs f).length≤1000000:=by
   intro zs
   induction zs with
   |nil=>intro _;simp[wzf]
   |cons z r ih=>
    intro h;unfold wzf
    split
    ·exact h z (by simp)
    ·exact ih fun y hy=>h y (by simp[hy])
  exact key _ hw6
 generalize wzf d.zs f=ws at *;refine acall_enter 10 [] Tryz.ntmps68 Tryz.func68 rfl (fun _ _=>Tryz.call68 _ _) (by simp) (fun HO=>?_);apply aw_reg;intro K h;simp(disch:=omega);apply h;clear h K;have HO1:HOk (H++[.cells (dcC d)]) T:=HO.snoc (by simp);apply aw_reg;intro K h;simp(disch:=omega);apply h;clear h K;refine aw_reg fun K hK=>?_;simp(disch:=omega) ;refine acall_is (c _ _) ?_;simp(disch:=omega) ;apply hK;clear hK K;refine aw_then fun K1 hK1=>?_;apply aw_reg;intro K h;simp(disch:=omega);apply h;clear h K;apply aw_block;refine aw_own 7 0 1 [] (by omega) (by simp) ?_;refine aw_loop (X:=Nat) (fun i=>⟨[(2,.str w),(7,.sl (posZ (ws.take i) w).length (ints (posZ (ws.take i) w)) (.own T.length)),(8,.sl ws.length (wdAV ws) .none),(9,.int .i64 (i:Nat))],H++[.cells (dcC d)],T++[((posZ (ws.take i) w).length,1)]⟩)
  (fun i=>i≤ws.length) (fun i=>ws.length-i) 0 ?_ ?_ ?_
 ·exact Nat.zero_le _
 ·refine weak_to [] [] ?_ ?_ ?_ ?_ (HO1.toks (by simp)) ?_
  all_goals simp[posZ]
 ·intro i g1;refine aw_then fun K2 hK2=>?_;apply aw_reg;intro K h;simp(disch:=omega);apply h;clear h K;refine aw_if rfl (fun hk=>?_) (fun hk=>?_)
  ·simp  at hk;obtain⟨a1,a2⟩:=wdAV_at ws i hk;have htk:=posZ_take ws w i hk;have hll:(posZ (ws.take i) w).length≤1000000:=by
    unfold posZ;rw[List.length_map];exact Nat.le_trans (List.length_filter_le _ _) (by rw[List.length_take];omega)
   generalize posZ (ws.take i) w=out at *;generalize ws.getD i w0=x at *;obtain⟨xt,xp⟩:=x;simp only at a1 a2 htk;apply aw_skip;simp(disch:=omega) ;apply hK2;clear hK2;refine aw_then fun K3 hK3=>?_;apply aw_block
   by_cases h1:xt=w
   ·have b1:(xt==w)=true:=by simpa using h1
    rw[if_pos h1] at htk;refine aw_reg fun K hK=>?_;simp(disch:=omega)[a1,a2,wdAV_len,hk,b1,h1];apply hK;clear hK K;apply aw_ift rfl;refine aw_reg0 fun K hK=>?_;simp(disch:=omega)[a1,a2,wdAV_len,hk,ints_snoc];apply hK;clear hK K;apply hK3;clear hK3;refine aw_reg0 fun K hK=>?_;simp(disch:=omega) ;apply hK;clear hK K;refine⟨i+1,by show i+1≤_;omega,by show ws.length-(i+1)<ws.length-i;omega,?_⟩;refine weak_to [] [] ?_ ?_ ?_ ?_ (HO1.toks (by simp)) ?_
    all_goals simp[htk]
   ·have b1:(xt==w)=false:=by simpa using h1
    rw[if_neg h1,List.append_nil] at htk;refine aw_reg fun K hK=>?_;simp(disch:=omega)[a1,a2,wdAV_len,hk,b1,h1];apply hK;clear hK K;apply aw_iff rfl;apply aw_skip;simp(disch:=omega) ;apply hK3;clear hK3;refine aw_reg0 fun K hK=>?_;simp(disch:=omega) ;apply hK;clear hK K;refine⟨i+1,by show i+1≤_;omega,by show ws.length-(i+1)<ws.length-i;omega,?_⟩;refine weak_to [] [] ?_ ?_ ?_ ?_ (HO1.toks (by simp)) ?_
    all_goals simp[htk]
  ·simp  at hk;have hie:i=ws.length:=by omega
   subst hie;rw[List.take_length];apply aw_exit;simp(disch:=omega) ;apply hK1;clear hK1;apply aw_reg;intro K h;simp(disch:=omega);apply h;clear h K;apply aw_ret;simp(disch:=omega) 
attribute [-simp] List.getD_eq_getElem?_getD in
set_option maxHeartbeats 8000000 in
theorem columnR_ok (L:List Dc)(f:Int)(hL:L.length≤1000000)(hs:∀d∈L,SzD d)(hn:∀d∈L,d.ns.length≤1000000)(hi:(itsF L f).length≤1000000)(H:List Blk)(T:Toks)(tg:Tag):ACall Tryz.prog 69 [.sl L.length (dcAV L) tg,.int .i64 f] H T (Is (.sl (isortN (itsF L f)).length (nmAV (isortN (itsF L f))) .none) H T):=by
 refine ACall.untag1 ?_;refine ACall.drop' ?_ (by simp);rw[itsF_its1] at *;refine acall_enter 11 [] Tryz.ntmps69 Tryz.func69 rfl (fun _ _=>Tryz.call69 _ _) (by simp) (fun HO=>?_);apply aw_reg;intro K h;simp(disch:=omega);apply h;clear h K;apply aw_reg;intro K h;simp(disch:=omega);apply h;clear h K;refine aw_then fun K1 hK1=>?_;apply aw_reg;intro K h;simp(disch:=omega);apply h;clear h K;apply aw_block;refine aw_loop (X:=Nat) (fun k=>⟨[(0,.sl L.length (dcAV L) .none),(1,.int .i64 f),(5,.sl (isortN ((L.take k).flatMap (its1 f))).length (nmAV (isortN ((L.take k).flatMap (its1 f)))) .none),(6,.int .i64 (k:Nat))],H,T⟩)
  (fun k=>k≤L.length) (fun k=>L.length-k) 0 ?_ ?_ ?_
 ·exact Nat.zero_le _
 ·refine weak_to [] [] ?_ ?_ ?_ ?_ HO ?_
  all_goals simp[isortN,nmAV_nil]
 ·intro k h1;refine aw_then fun K2 hK2=>?_;apply aw_reg;intro K h;simp(disch:=omega);apply h;clear h K;refine aw_if rfl (fun hk=>?_) (fun hk=>?_)
  ·simp  at hk;have hat:=(dcAV_at L k hk).1;have hcut:=dcAV_cut L k hk;have hft:(L.take (k+1)).flatMap (its1 f)=(L.take k).flatMap (its1 f)++(nmf (L.getD k d0).ns f).map fun n=>(n,(L.getD k d0).id):=by rw[take_getD L k d0 hk,List.flatMap_append];simp[its1]
   have hdl:((L.take k).flatMap (its1 f)).length+(nmf (L.getD k d0).ns f).length≤1000000:=by
    have h3:L.flatMap (its1 f)=(L.take k).flatMap (its1 f)++(its1 f (L.getD k d0)++(L.drop (k+1)).flatMap (its1 f)):=by
     conv=>lhs;rw[←List.take_append_drop k L,getD_cons_drop L k d0 hk,List.flatMap_append,List.flatMap_cons]
    rw[h3,List.length_append,List.length_append] at hi;have h4:(its1 f (L.getD k d0)).length=(nmf (L.getD k d0).ns f).length:=by simp[its1]
    omega
   have c0:=fun H T=>nums37_ok (L.getD k d0) (hs _ (getD_mem L k d0 hk)) (Nat.le_trans (hn _ (getD_mem L k d0 hk)) (by omega)) f H T;generalize (L.take k).flatMap (its1 f)=pre at *;generalize nmf (L.getD k d0).ns f=nl at *;generalize L.getD k d0=x at *;have hil:(nl.map fun n=>(n,x.id)).length=nl.length:=by simp
   have hig:∀m,m<nl.length→(nl.map fun n=>(n,x.id)).getD m n0=(nl.getD m 0,x.id):=fun m hm=>by
    rw[List.getD_eq_getElem?_getD,List.getElem?_map,List.getD_eq_getElem?_getD,List.getElem?_eq_getElem hm];rfl
   generalize nl.map (fun n=>(n,x.id))=il at *;apply aw_skip;simp(disch:=omega) ;apply hK2;clear hK2;refine aw_then fun K3 hK3=>?_;apply aw_block;refine aw_reg fun K hK=>?_;simp(disch:=omega)[hcut,dcAV_len,hk];refine acall_is (c0 _ _) ?_;simp(disch:=omega) ;apply hK;clear hK K;apply aw_reg;intro K h;simp(disch:=omega);apply h;clear h K;apply aw_block;refine aw_loop (X:=Nat) (fun m=>⟨[(0,.sl L.length (dcAV L) .none),(1,.int .i64 f),(5,.sl (isortN (pre++il.take m)).length (nmAV (isortN (pre++il.take m))) .none),(6,.int .i64 (k:Nat)),(7,.sl nl.length (ints nl) .none),(8,.int .i64 (m:Nat))],H,T⟩)
    (fun m=>m≤nl.length) (fun m=>nl.length-m) 0 ?_ ?_ ?_
   ·exact Nat.zero_le _
   ·refine weak_to [] [] ?_ ?_ ?_ ?_ HO ?_
    all_goals simp
   ·intro m hm1;refine aw_then fun K4 hK4=>?_;apply aw_reg;intro K h;simp(disch:=omega);apply h;clear h K;refine aw_if rfl (fun hm=>?_) (fun hm=>?_)
    ·simp  at hm;have hnat:=getD_ints hm;have hft2:pre++il.take (m+1)=(pre++il.take m)++[(nl.getD m 0,x.id)]:=by rw[take_getD il m n0 (by omega),hig m hm,List.append_assoc]
     have hdl':(isortN (pre++il.take m)).length≤1000000:=by rw[(isortN_perm _).length_eq,List.length_append,List.length_take];omega
     generalize pre++il.take m=pm at *;have hft3:isortN (pre++il.take (m+1))=insN (nl.getD m 0,x.id) (isortN pm):=by rw[hft2];exact isortN_snoc _ _
     generalize isortN pm=d at *;generalize nl.getD m 0=nv at *;apply aw_skip;simp(disch:=omega) ;apply hK4;clear hK4;refine aw_then fun K4 hK4=>?_;apply aw_block;refine aw_draw [10,11] [0,0,0,0,0,0,0,0,0,0,0,1] [[0,1,2,3,4,5,6,7,8,9],[]] drawMixed (by kernel_rfl) (by kernel_rfl) fun K hK=>?_;simp(disch:=omega)[hnat,hat,ints_len,dcAV_len,hk,hm];apply hK;clear hK K;have HO':HOk (H++[.cells (nmC (nv,x.id))]) T:=HO.snoc (by simp);rw[show Blk.cells [.int .i64 nv,.int .i64 x.id]=.cells (nmC (nv,x.id)) from rfl];apply aw_reg;intro K h;simp(disch:=omega);apply h;clear h K;refine aw_then fun K5 hK5=>?_;apply aw_block;refine aw_loop (X:=Nat) (fun n=>⟨[(0,.sl L.length (dcAV L) .none),(1,.int .i64 f),(5,.sl d.length (nmAV d) .none),(6,.int .i64 (k:Nat)),(7,.sl nl.length (ints nl) .none),(8,.int .i64 (m:Nat)),(9,.ptr H.length 0),(10,.int .i64 (n:Nat))],H++[.cells (nmC (nv,x.id))],T⟩)
      (fun n=>n≤d.length∧∀j,j<n→nmlt (d.getD j n0) (nv,x.id)=true) (fun n=>d.length-n) 0 ?_ ?_ ?_
     ·exact⟨Nat.zero_le _,fun j hj=>absurd hj (Nat.not_lt_zero _)⟩
     ·refine weak_to [] [] ?_ ?_ ?_ ?_ HO' ?_
      all_goals simp
     ·rintro n ⟨hn1,hn2⟩;have go:(n<d.length→nmlt (d.getD n n0) (nv,x.id)=false)→∀e,envLe (H.length+1) T.length e [(0,.sl L.length (dcAV L) .none),(1,.int .i64 f),(5,.sl d.length (nmAV d) .none),(6,.int .i64 (k:Nat)),(7,.sl nl.length (ints nl) .none),(8,.int .i64 (m:Nat)),(9,.ptr H.length 0),(10,.int .i64 (n:Nat))]→
        K5 ⟨e,H++[.cells (nmC (nv,x.id))],T⟩:=by
       intro hn3 e he;have hins:=insN_at (nv,x.id) d n hn1 hn2 hn3;refine hK5 _ (aw_weak ⟨[(0,.sl L.length (dcAV L) .none),(1,.int .i64 f),(5,.sl d.length (nmAV d) .none),(6,.int .i64 (k:Nat)),(7,.sl nl.length (ints nl) .none),(8,.int .i64 (m:Nat)),(9,.ptr H.length 0),(10,.int .i64 (n:Nat))],H++[.cells (nmC (nv,x.id))],T⟩ (weak_to [] [] (by simp) (by simp) (by simp) (by simp) HO' (by simpa using he)) ?_);have ht:=nmAV_tk d n;have hdr:=nmAV_drop d n;have hlt:(nmAV (d.take n)).length=n*2:=by rw[nmAV_len,List.length_take];omega
       have hld:(nmAV (d.drop n)).length=(d.length-n)*2:=by rw[nmAV_len,List.length_drop]
       have htk:(nmAV (d.drop n)).take ((d.length-n)*2)=nmAV (d.drop n):=by rw[←hld,List.take_length]
       have hres:nmAV (d.take n)++.int .i64 nv::.int .i64 x.id::nmAV (d.drop n)=nmAV (insN (nv,x.id) d):=by rw[hins];simp[nmAV]
       have hlen:n+1+(d.length-n)=(insN (nv,x.id) d).length:=by rw[hins];simp;omega
       refine aw_draw0 [4,7,11] [0,0,0,0,0,0,0,1,0,0,0,2,3] [[],[],[]] drawMixed (by kernel_rfl) (by kernel_rfl) fun K hK=>?_;simp(disch:=omega)[amade_zero,nmAV_len,ht,hdr,hlt,hld,htk];rw[hres,hlen];apply hK;clear hK K;apply hK4;clear hK4;refine aw_reg0 fun K hK=>?_;simp(disch:=omega) ;apply hK;clear hK K;refine⟨m+1,by show m+1≤_;omega,by show nl.length-(m+1)<nl.length-m;omega,?_⟩;simp only[hft3];refine weak_to [.cells (nmC (nv,x.id))] [((insN (nv,x.id) d).length*2,2)] ?_ ?_ ?_ ?_ HO ?_
       all_goals simp
      clear hK5;refine aw_then fun K6 hK6=>?_
      by_cases hn3:n<d.length
      ·have hcut2:=nmAV_cut d n hn3;have hst:nmlt (d.getD n n0) (nv,x.id)=true→∀j,j<n+1→nmlt (d.getD j n0) (nv,x.id)=true:=fun h j hj=>by
        rcases Nat.lt_or_ge j n with h3|h3
        ·exact hn2 j h3
        ·have:j=n:=by omega
         subst this;exact h
       have c:=itemLess_ok (d.getD n n0) (nv,x.id) (H++[.cells (nmC (nv,x.id))]) T;generalize d.getD n n0=y at *;have b4:decide ((n:Int)<d.length)=true:=decide_eq_true (by omega)
       cases ha:nmlt y (nv,x.id) with
       |true=>
        rw[ha] at c;refine aw_draw [] [] [] drawMixed (by kernel_rfl) (by kernel_rfl) fun K hK=>?_;simp(disch:=omega)[b4,hn3,hcut2,nmAV_len];refine dcall_is (c) rfl ?_;simp(disch:=omega) ;apply hK;clear hK K;apply aw_ift rfl;apply aw_skip;simp(disch:=omega) ;apply hK6;clear hK6;apply aw_block;refine aw_reg0 fun K hK=>?_;simp(disch:=omega) ;apply hK;clear hK K;refine⟨n+1,⟨by show n+1≤_;omega,hst ha⟩,by show d.length-(n+1)<d.length-n;omega,?_⟩;refine weak_to [] [] ?_ ?_ ?_ ?_ HO' ?_
        all_goals simp
       |false=>
        rw[ha] at c;refine aw_draw [] [] [] drawMixed (by kernel_rfl) (by kernel_rfl) fun K hK=>?_;simp(disch:=omega)[b4,hn3,hcut2,nmAV_len];refine dcall_is (c) rfl ?_;simp(disch:=omega) ;apply hK;clear hK K;apply aw_iff rfl;apply aw_exit;simp(disch:=omega) ;refine go (fun _=>ha) _ ?_;simp
      ·have b4:decide ((n:Int)<d.length)=false:=decide_eq_false (by omega);refine aw_draw [] [] [] drawMixed (by kernel_rfl) (by kernel_rfl) fun K hK=>?_;simp(disch:=omega)[b4,hn3];apply hK;clear hK K;apply aw_iff rfl;apply aw_exit;simp(disch:=omega) ;refine go (fun h=>absurd h hn3) _ ?_;simp
    ·simp  at hm;have e:m=nl.length:=by omega
     subst e;rw[show il.take nl.length=il by rw[←hil,List.take_length],←hft];apply aw_exit;simp(disch:=omega) ;apply hK3;clear hK3;refine aw_reg0 fun K hK=>?_;simp(disch:=omega) ;apply hK;clear hK K;refine⟨k+1,by show k+1≤_;omega,by show L.length-(k+1)<L.length-k;omega,?_⟩;refine weak_to [] [] ?_ ?_ ?_ ?_ HO ?_
     all_goals simp
  ·simp  at hk;have e:k=L.length:=by omega
   subst e;rw[List.take_length];apply aw_exit;simp(disch:=omega) ;apply hK1;clear hK1;apply aw_reg;intro K h;simp(disch:=omega);apply h;clear h K;apply aw_ret;simp(disch:=omega) 
end Go.Proofs.YtneohapkboaplaaGreat

set_option linter.all false
set_option maxRecDepth 100000
namespace Seg
open Sug Go.Am Go.Proofs.YtneohapkboaplaaGreat
structure Rw where
 k:Ky
 pl:List Ps
 tg:Tag
abbrev rwC (r:Rw):List AV:=[.int .i64 r.k.1,.str r.k.2,.sl r.pl.length (psAV r.pl) r.tg]
def rwAV (l:List Rw):List AV:=l.flatMap rwC
theorem rw_rows:CellsK rwC 3:=fun _=>rfl
theorem rwAV_len (l:List Rw):(rwAV l).length=l.length*3:=rows_len rw_rows l
theorem rw_split (R1 R2:List Rw)(r:Rw)(rest:List AV):rwAV (R1++r::R2)++rest=rwAV R1++(.int .i64 r.k.1::.str r.k.2::.sl r.pl.length (psAV r.pl) r.tg::(rwAV R2++rest)):=by simp[rwAV]
theorem rw_at (R1 R2:List Rw)(r:Rw)(rest:List AV):(rwAV (R1++r::R2)++rest).getD (R1.length*3) .top=.int .i64 r.k.1∧(rwAV (R1++r::R2)++rest).getD (R1.length*3+1) .top=.str r.k.2∧(rwAV (R1++r::R2)++rest).getD (R1.length*3+2) .top=.sl r.pl.length (psAV r.pl) r.tg:=by
 rw[rw_split];have h:=rwAV_len R1;have key:∀(j:Nat)(X:List AV),(rwAV R1++X).getD (R1.length*3+j) .top=X.getD j .top:=fun j X=>by
  rw[List.getD_eq_getElem?_getD,List.getElem?_append_right (by omega),List.getD_eq_getElem?_getD];congr 2;omega
 exact⟨key 0 _,key 1 _,key 2 _⟩
theorem rw_set (R1 R2:List Rw)(r:Rw)(rest:List AV)(pl:List Ps)(tg:Tag):(rwAV (R1++r::R2)++rest).set (R1.length*3+2) (.sl pl.length (psAV pl) tg)=rwAV (R1++⟨r.k,pl,tg⟩::R2)++rest:=by
 rw[rw_split,rw_split,List.set_append_right _ _ (by rw[rwAV_len];omega),rwAV_len]
 congr 1
 rw[show R1.length*3+2-R1.length*3=2 by omega];rfl
def tokR (r:Rw):List (Nat×(Nat×Nat)):=match r.tg with
 |.own tk=>[(tk,(r.pl.length*2,2))]
 |_=>[]
def rowT (R:List Rw):List (Nat×(Nat×Nat)):=R.flatMap tokR
def RwOk (r:Rw):Prop:=(r.tg=.full∧r.pl=[])∨∃tk,r.tg=.own tk
def posR (d:Dc)(k:Ky):List Int:=posZ (wzf d.zs k.1) k.2
def pstR (d:Dc)(k:Ky):List Ps:=if posR d k=[] then [] else [(d.id,posR d k)]
end Seg
namespace Go.Proofs.YtneohapkboaplaaGreat
open Go Go.Am Sug Seg
attribute [-simp] List.getD_eq_getElem?_getD in
set_option maxHeartbeats 8000000 in
theorem row_step (L:List Dc)(i:Nat)(hi:i<L.length)(hs:SzD (L.getD i d0))(hw6:∀z∈(L.getD i d0).zs,z.ws.length≤1000000)(R1 R2:List Rw)(r:Rw)(hr:RwOk r)(hpl:r.pl.length≤1000000)(H:List Blk)(T:Toks)(nb tb b2 b6 td tc it n:Nat)(hn:n=R1.length+1+R2.length)
  (dv cv:AV) (B0:Blk) (rest:List AV) (J:List Blk) (U:Toks) (RU:List (Nat×(Nat×Nat))) (hnb:nb≤J.length) (htb:tb≤U.length) (hit:H.length≤it)
  (hJ:Has J ((b2,B0)::(b6,.cells [dv,.msl it 0 n,cv])::[(it,.cells (rwAV (R1++r::R2)++rest))])) (hU:Has U (RU++rowT (R1++r::R2))) (hPJ:Pre H J) (hPU:Pre T U) (htT:∀tk,r.tg=.own tk→T.length≤tk) (HO:HOk J U) (Q:Exit→St→Prop)
  (go:∀(e:Env)(J':List Blk)(U':Toks)(r':Rw),r'.k=r.k→r'.pl=r.pl++pstR (L.getD i d0) r.k→RwOk r'→(∀tk,r'.tg=.own tk→T.length≤tk)→Has J' ((b2,B0)::(b6,.cells [dv,.msl it 0 n,cv])::[(it,.cells (rwAV (R1++r'::R2)++rest))])→
   Has U' (RU++rowT (R1++r'::R2))→Pre H J'→Pre T U'→J'.length=J.length→U.length≤U'.length→envLe J'.length U'.length e [(0,.sl L.length (dcAV L) .none),(2,.ptr b2 0),(6,.ptr b6 0),(7,.int .i64 (i:Nat)),(8,.int .i64 (R1.length:Nat))]→Q .normal ⟨e,J',U'⟩) :
  AW ⟨Tryz.prog,135,12,nb,tb,[]⟩ (subC [1,1,1,1,1,1,0,1,0,0,1,0,0,1,1,0,0,1,0,0] (Tryz.f14.body.getD .skip)) Q
   ⟨[(0,.sl L.length (dcAV L) .none),(2,.ptr b2 0),(6,.ptr b6 0),(7,.int .i64 (i:Nat)),(8,.int .i64 (R1.length:Nat))],J,U⟩:=by
 conv=>arg 2;whnf
 have hcut:=dcAV_cut L i hi;have hid:=(dcAV_at L i hi).1;have c:=positionsR_ok (L.getD i d0) hs hw6 r.k.1 r.k.2 J U;have hpo:pstR (L.getD i d0) r.k=if posR (L.getD i d0) r.k=[] then [] else [((L.getD i d0).id,posR (L.getD i d0) r.k)]:=rfl
 rw[show posZ (wzf (L.getD i d0).zs r.k.1) r.k.2=posR (L.getD i d0) r.k from rfl] at c;have hpln:(posR (L.getD i d0) r.k).length≤1000000:=by
  unfold posR posZ;rw[List.length_map];refine Nat.le_trans (List.length_filter_le _ _) ?_;have key:∀zs:List Zn,(∀z∈zs,z.ws.length≤1000000)→(wzf zs r.k.1).length≤1000000:=by
   intro zs
   induction zs with
   |nil=>intro _;simp[wzf]
   |cons z q ih=>
    intro h;unfold wzf
    split
    ·exact h z (by simp)
    ·exact ih fun y hy=>h y (by simp[hy])
  exact key _ hw6
 generalize posR (L.getD i d0) r.k=ps at *;generalize pstR (L.getD i d0) r.k=pr at *;generalize L.getD i d0=d at *;have g6:=hJ.get (i:=b6) (b:=.cells [dv,.msl it 0 n,cv]) (by simp);have git:=hJ.get (i:=it) (b:=.cells (rwAV (R1++r::R2)++rest)) (by simp);have l2:=hJ.lt (i:=b2) (b:=B0) (by simp);have e6:=at_of g6;have eit:=at_of git;have l6:=(List.getElem?_eq_some_iff.1 g6).1;have lit:=(List.getElem?_eq_some_iff.1 git).1;obtain⟨v0,v1,v2⟩:=rw_at R1 R2 r rest;have vset:=rw_set R1 R2 r rest;have vlen:R1.length*3+3≤(rwAV (R1++r::R2)++rest).length:=by rw[List.length_append,rwAV_len];simp;omega
 have hin:R1.length<n:=by omega
 generalize hvs:rwAV (R1++r::R2)++rest=vs at *;have d0':R1.length*3<vs.length:=by omega
 have d1':R1.length*3+1<vs.length:=by omega
 have d2':R1.length*3+2<vs.length:=by omega
 have e1:R1.length*3+1=1+R1.length*3:=by omega
 refine aw_draw [] [] [] drawMixed (by kernel_rfl) (by kernel_rfl) fun K hK=>?_;simp(disch:=omega)[e6,l6,eit,lit,hcut,dcAV_len,hi,hin,v0,v1,d0',d1'];refine dcall_is (c) rfl ?_;simp(disch:=omega) ;apply hK;clear hK K;refine aw_weak ⟨[(0,.sl L.length (dcAV L) .none),(2,.ptr b2 0),(6,.ptr b6 0),(7,.int .i64 (i:Nat)),(8,.int .i64 (R1.length:Nat)),(9,.sl ps.length (ints ps) .none)],J,U⟩ (weak_to [] [] (by simp) (by simp) hnb htb HO (by simp[l2,l6])) ?_
 by_cases hps:ps=[]
 ·subst hps;apply aw_reg;intro K h;simp(disch:=omega);apply h;clear h K;apply aw_iff rfl;apply aw_skip;refine go _ J U r rfl (by rw[hpo,if_pos rfl,List.append_nil]) hr htT (by rw[hvs];exact hJ) hU hPJ hPU rfl (Nat.le_refl _) ?_;simp[l2,l6]
 have hpl0:0<ps.length:=by
  rcases Nat.eq_zero_or_pos ps.length with h|h
  ·exact absurd (List.length_eq_zero_iff.1 h) hps
  ·exact h
 have b1:decide ((0:Int)<(ps.length:Int))=true:=decide_eq_true (by omega);rw[if_neg hps] at hpo;refine aw_reg fun K hK=>?_;simp(disch:=omega)[b1,hpl0];apply hK;clear hK K;apply aw_ift rfl;rcases hr with⟨hr1,hr2⟩|⟨tk,hr1⟩
 ·rw[hr1,hr2] at v2;have vs2:=vset [(d.id,ps)] (.own U.length);rw[show psAV [(d.id,ps)]=[.int .i64 d.id,.sl ps.length (ints ps) .none] from rfl,show [(d.id,ps)].length=1 from rfl] at vs2;refine aw_draw0 [17,20] [0,0,0,0,0,0,0,0,0,0,0,0,0,0,0,0,0,0,1,1,1] [[0,1,2],[]] drawMixed (by kernel_rfl) (by kernel_rfl) fun K hK=>?_;simp(disch:=omega)[e6,l6,eit,lit,hid,dcAV_len,hi,hin,v2,d2',psAV_nil];rw[vs2];have hJ2:=Has.set (A:=[(b2,B0),(b6,.cells [dv,.msl it 0 n,cv])]) (B:=[]) (b:=.cells vs) hJ (.cells (rwAV (R1++⟨r.k,[(d.id,ps)],.own U.length⟩::R2)++rest));have hU2:Has (U++[(2,2)]) (RU++rowT (R1++⟨r.k,[(d.id,ps)],.own U.length⟩::R2)):=by
   refine(hU.new (2,2)).perm ?_;have h1:rowT (R1++⟨r.k,[(d.id,ps)],.own U.length⟩::R2)=rowT R1++(U.length,(2,2))::rowT R2:=by simp[rowT,tokR]
   have h2:rowT (R1++r::R2)=rowT R1++rowT R2:=by simp[rowT,tokR,hr1]
   rw[h1,h2];have h3:RU++(rowT R1++(U.length,(2,2))::rowT R2)=(RU++rowT R1)++(U.length,(2,2))::rowT R2:=by simp
   rw[h3];refine List.perm_middle.trans ?_;refine(List.perm_append_singleton _ _).symm.trans ?_;simp
  have hpU:=hPU.le;refine hK _ ?_;refine go _ _ _ ⟨r.k,[(d.id,ps)],.own U.length⟩ rfl (by rw[hr2,hpo];rfl) (.inr ⟨_,rfl⟩) (fun tk h=>by injection h with h;omega) hJ2 hU2 (hPJ.set hit _) (hPU.app _) (by simp) (by simp) ?_;simp[l2,l6]
 ·have gU:=hU.get (i:=tk) (b:=(r.pl.length*2,2)) (by simp[rowT,tokR,hr1]);have eU:=at_of gU;have lU:=(List.getElem?_eq_some_iff.1 gU).1;rw[hr1] at v2;have vs2:=vset (r.pl++[(d.id,ps)]) (.own tk);rw[show psAV (r.pl++[(d.id,ps)])=psAV r.pl++[.int .i64 d.id,.sl ps.length (ints ps) .none] by simp[psAV],show (r.pl++[(d.id,ps)]).length=r.pl.length+1 by simp] at vs2;refine aw_draw0 [17,20] [0,0,0,0,0,0,0,0,0,0,0,0,0,0,0,0,0,0,1,1,1] [[0,1,2],[]] drawMixed (by kernel_rfl) (by kernel_rfl) fun K hK=>?_;simp(disch:=omega)[e6,l6,eit,lit,hid,dcAV_len,hi,hin,v2,d2',psAV_len,eU,lU];rw[vs2];have hJ2:=Has.set (A:=[(b2,B0),(b6,.cells [dv,.msl it 0 n,cv])]) (B:=[]) (b:=.cells vs) hJ (.cells (rwAV (R1++⟨r.k,r.pl++[(d.id,ps)],.own tk⟩::R2)++rest));have hU2:Has (U.set tk ((r.pl.length+1)*2,2)) (RU++rowT (R1++⟨r.k,r.pl++[(d.id,ps)],.own tk⟩::R2)):=by
   have h1:RU++rowT (R1++⟨r.k,r.pl++[(d.id,ps)],.own tk⟩::R2)=(RU++rowT R1)++(tk,((r.pl.length+1)*2,2))::rowT R2:=by simp[rowT,tokR]
   have h2:RU++rowT (R1++r::R2)=(RU++rowT R1)++(tk,(r.pl.length*2,2))::rowT R2:=by simp[rowT,tokR,hr1]
   rw[h1];rw[h2] at hU;exact hU.set _
  have htk:=htT tk hr1;refine hK _ ?_;refine go _ _ _ ⟨r.k,r.pl++[(d.id,ps)],.own tk⟩ rfl (by rw[hpo]) (.inr ⟨_,rfl⟩) (fun tk' h=>by injection h with h;omega) hJ2 hU2 (hPJ.set hit _) (hPU.set htk _) (by simp) (by simp) ?_;simp[l2,l6]
end Go.Proofs.YtneohapkboaplaaGreat

set_option linter.all false
set_option maxRecDepth 100000
namespace Seg
open Sug Go.Am Go.Proofs.YtneohapkboaplaaGreat
def Tb (h0:Nat)(R:List Rw)(tv:AV)(TB:List (Nat×Blk)):Prop:=(R=[]∧tv=.sl 0 [] .none∧TB=[])∨∃it rest,tv=.msl it 0 R.length∧TB=[(it,.cells (rwAV R++rest))]∧h0≤it
structure RI (H:List Blk)(T:Toks)(b2 b6:Nat)(RU:List (Nat×(Nat×Nat)))(dv tv cv:AV)(B0:Blk)(R:List Rw)(J:List Blk)(U:Toks):Prop where
 hJ:∃TB,Tb H.length R tv TB∧Has J ((b2,B0)::(b6,.cells [dv,tv,cv])::TB)
 hU:Has U (RU++rowT R)
 hr:∀r∈R,RwOk r∧∀tk,r.tg=.own tk→T.length≤tk
 pJ:Pre H J
 pU:Pre T U
abbrev rw0:Rw:=⟨k0,[],.full⟩
def kp (R:List Rw):List (Ky×List Ps):=R.map fun r=>(r.k,r.pl)
def stepK (d:Dc)(x:Ky×List Ps):Ky×List Ps:=(x.1,x.2++pstR d x.1)
theorem kp_len (R:List Rw):(kp R).length=R.length:=by simp[kp]
def colN (L:List Dc)(c:Nat):List Cl:=(List.range c).flatMap fun(c:Nat)=>colF L (5+(c:Int))
theorem colN_succ (L:List Dc)(c:Nat):colN L (c+1)=colN L c++colF L (5+(c:Int)):=by unfold colN;rw[List.range_succ,List.flatMap_append];simp
theorem colN_len (L:List Dc):∀c,(colN L c).length≤c
 |0=>by simp[colN]
 |c+1=>by
  have:=colN_len L c;have h2:(colF L (5+(c:Int))).length≤1:=by unfold colF;split<;>simp
  rw[colN_succ,List.length_append];omega
end Seg
namespace Go.Proofs.YtneohapkboaplaaGreat
open Go Go.Am Sug Seg
attribute [-simp] List.getD_eq_getElem?_getD in
set_option maxHeartbeats 8000000 in
theorem rows_loop (L:List Dc)(i:Nat)(hi:i<L.length)(hs:SzD (L.getD i d0))(hw6:∀z∈(L.getD i d0).zs,z.ws.length≤1000000)(H:List Blk)(T:Toks)(nb tb b2 b6 td tc:Nat)(dv tv cv:AV)(B0:Blk)(RU:List (Nat×(Nat×Nat)))(R:List Rw)(J:List Blk)(U:Toks)(hnb:nb≤J.length)(htb:tb≤U.length)
  (hRI:RI H T b2 b6 RU dv tv cv B0 R J U) (hpl:∀x∈kp R,x.2.length≤1000000) (hRl:R.length≤1000000) (HO:HOk J U) (Q:Exit→St→Prop)
  (go:∀(e:Env)(J':List Blk)(U':Toks)(R':List Rw),RI H T b2 b6 RU dv tv cv B0 R' J' U'→kp R'=(kp R).map (stepK (L.getD i d0))→J'.length=J.length→U.length≤U'.length→
   envLe J'.length U'.length e [(0,.sl L.length (dcAV L) .none),(2,.ptr b2 0),(6,.ptr b6 0),(7,.int .i64 (i:Nat))]→Q .normal ⟨e,J',U'⟩) :
  AW ⟨Tryz.prog,135,12,nb,tb,[]⟩ (subC [1,1,1,1,1,1,0,1,0,0,1,0,0,1] (Tryz.f14.body.getD .skip)) Q
   ⟨[(0,.sl L.length (dcAV L) .none),(2,.ptr b2 0),(6,.ptr b6 0),(7,.int .i64 (i:Nat))],J,U⟩:=by
 conv=>arg 2;whnf
 have hb:∀{R' J' U'},RI H T b2 b6 RU dv tv cv B0 R' J' U'→b2<J'.length∧b6<J'.length:=fun h=>by
  obtain⟨TB,_,h2⟩:=h.hJ;exact⟨h2.lt (b:=B0) (by simp),h2.lt (b:=.cells [dv,tv,cv]) (by simp)⟩
 obtain⟨m2,m6⟩:=hb hRI;apply aw_reg;intro K h;simp(disch:=omega);apply h;clear h K;apply aw_block;refine aw_loop (X:=Nat×List Blk×Toks×List Rw) (fun x=>⟨[(0,.sl L.length (dcAV L) .none),(2,.ptr b2 0),(6,.ptr b6 0),(7,.int .i64 (i:Nat)),(8,.int .i64 (x.1:Nat))],x.2.1,x.2.2.1⟩)
  (fun x=>x.1≤R.length∧RI H T b2 b6 RU dv tv cv B0 x.2.2.2 x.2.1 x.2.2.1∧kp x.2.2.2=((kp R).take x.1).map (stepK (L.getD i d0))++(kp R).drop x.1∧x.2.1.length=J.length∧U.length≤x.2.2.1.length∧HOk x.2.1 x.2.2.1) (fun x=>R.length-x.1) (0,J,U,R) ?_ ?_ ?_
 ·exact⟨Nat.zero_le _,hRI,by simp,rfl,Nat.le_refl _,HO⟩
 ·refine weak_to [] [] (by simp) (by simp) hnb htb HO ?_;simp[m2,m6]
 ·rintro⟨kk,J1,U1,R3⟩ ⟨g1,g2,g3,g4,g5,g6⟩;simp only at g1 g2 g3 g4 g5 g6;obtain⟨n2,n6⟩:=hb g2;have hlen:R3.length=R.length:=by
   have:=congrArg List.length g3;rw[kp_len,List.length_append,List.length_map,List.length_take,List.length_drop,kp_len] at this;omega
  obtain⟨TB,hTB,hJ1⟩:=g2.hJ;have e6:=at_of (hJ1.get (i:=b6) (b:=.cells [dv,tv,cv]) (by simp));refine aw_then fun K5 hK5=>?_;rcases hTB with⟨h1,htv,_⟩|⟨it,rest,htv,hTBe,hit⟩
  ·subst htv;have hR0:R.length=0:=by rw[←hlen,h1];rfl
   have hk0:kk=0:=by omega
   subst hk0;refine aw_reg fun K hK=>?_;simp(disch:=omega)[e6,n6];apply hK;clear hK K;apply aw_iff rfl;apply aw_exit;simp(disch:=omega) ;refine go _ J1 U1 R3 g2 (by rw[h1,List.length_eq_zero_iff.1 hR0];rfl) g4 g5 ?_;simp[n2,n6]
  ·rw[hlen] at htv;subst htv;subst hTBe;refine aw_reg fun K hK=>?_;simp(disch:=omega)[e6,n6];apply hK;clear hK K;refine aw_if rfl (fun hk=>?_) (fun hk=>?_)
   ·simp  at hk;obtain⟨R1,r,R2,hR3,hR1⟩:∃R1 r R2,R3=R1++r::R2∧R1.length=kk:=⟨R3.take kk,R3.getD kk rw0,R3.drop (kk+1),by rw[←getD_cons_drop R3 kk rw0 (by omega),List.take_append_drop],by rw[List.length_take];omega⟩
    subst hR1;subst hR3;have hkl:R1.length<(kp R).length:=by rw[kp_len];exact hk
    have hsp:kp R1++(r.k,r.pl)::kp R2=((kp R).take R1.length).map (stepK (L.getD i d0))++(kp R).drop R1.length:=by rw[←g3];simp[kp]
    obtain⟨hA,hB⟩:=List.append_inj hsp (by rw[kp_len,List.length_map,List.length_take];omega);rw[getD_cons_drop (kp R) R1.length (k0,[]) hkl] at hB;obtain⟨hx,hB2⟩:=List.cons.inj hB;have hmem:(r.k,r.pl)∈kp R:=by rw[hx];exact getD_mem (kp R) R1.length (k0,[]) hkl
    have hn:R.length=R1.length+1+R2.length:=by rw[←hlen];simp;omega
    obtain⟨hr1,hr2⟩:=g2.hr r (by simp);apply aw_skip;apply hK5;clear hK5;refine aw_then fun K6 hK6=>?_;apply aw_block;refine aw_weak ⟨[(0,.sl L.length (dcAV L) .none),(2,.ptr b2 0),(6,.ptr b6 0),(7,.int .i64 (i:Nat)),(8,.int .i64 (R1.length:Nat))],J1,U1⟩ (weak_to [] [] (by simp) (by simp) (by show nb≤J1.length;omega) (by show tb≤U1.length;omega) g6 (by simp[n2,n6])) ?_;refine row_step L i hi hs hw6 R1 R2 r hr1 (hpl _ hmem) H T nb tb b2 b6 td tc it R.length hn dv cv B0 rest J1 U1 RU (by omega) (by omega) hit hJ1 g2.hU g2.pJ g2.pU hr2 g6 _ fun e J2 U2 r' q1 q2 q3 q4 q5 q6 q7 q8 q9 q10 he=>?_;have p2:b2<J2.length:=by omega
    have p6:b6<J2.length:=by omega
    refine hK6 _ (aw_hok fun HO2=>?_);refine aw_weak ⟨[(0,.sl L.length (dcAV L) .none),(2,.ptr b2 0),(6,.ptr b6 0),(7,.int .i64 (i:Nat)),(8,.int .i64 (R1.length:Nat))],J2,U2⟩ (weak_to [] [] (by simp) (by simp) (by show nb≤J2.length;omega) (by show tb≤U2.length;omega) HO2 he) ?_;refine aw_reg0 fun K hK=>?_;simp(disch:=omega) ;apply hK;clear hK K;have hlen2:R.length=(R1++r'::R2).length:=by rw[hn];simp;omega
    refine⟨(R1.length+1,J2,U2,R1++r'::R2),⟨by show R1.length+1≤_;omega,⟨⟨_,.inr ⟨it,rest,by rw[←hlen2],rfl,hit⟩,q5⟩,q6,fun x hx2=>?_,q7,q8⟩,?_,by show J2.length=_;omega,by show _≤U2.length;omega,HO2⟩,by show R.length-(R1.length+1)<R.length-R1.length;omega,?_⟩
    ·rcases List.mem_append.1 hx2 with hx2|hx2
     ·exact g2.hr x (by simp[hx2])
     ·rcases List.mem_cons.1 hx2 with rfl|hx2
      ·exact⟨q3,q4⟩
      ·exact g2.hr x (by simp[hx2])
    ·show kp (R1++r'::R2)=((kp R).take (R1.length+1)).map (stepK (L.getD i d0))++(kp R).drop (R1.length+1);rw[take_getD (kp R) R1.length (k0,[]) hkl,List.map_append,←hA,←hB2,←hx];simp[kp,stepK,q1,q2]
    ·refine weak_to [] [] (by simp) (by simp) (by show nb≤J2.length;omega) (by show tb≤U2.length;omega) HO2 ?_;simp[p2,p6]
   ·simp  at hk;have hke:kk=R.length:=by omega
    subst hke;apply aw_exit;simp(disch:=omega) ;refine go _ J1 U1 R3 g2 ?_ g4 g5 ?_
    ·rw[g3,←kp_len R,List.take_length,List.drop_length,List.append_nil]
    ·simp[n2,n6]
end Go.Proofs.YtneohapkboaplaaGreat
namespace Seg
open Sug Go.Am Go.Proofs.YtneohapkboaplaaGreat
theorem pstR_len (k:Ky):∀l:List Dc,(l.flatMap fun d=>pstR d k).length≤l.length
 |[]=>by simp
 |d::l=>by
  have:=pstR_len k l;have h2:(pstR d k).length≤1:=by unfold pstR;split<;>simp
  rw[List.flatMap_cons,List.length_append,List.length_cons];omega
end Seg
namespace Go.Proofs.YtneohapkboaplaaGreat
open Go Go.Am Sug Seg
attribute [-simp] List.getD_eq_getElem?_getD in
set_option maxHeartbeats 8000000 in
theorem docsR_loop (L:List Dc)(hL:L.length≤1000000)(hs:∀d∈L,SzD d)(hw6:∀d∈L,∀z∈d.zs,z.ws.length≤1000000)(H:List Blk)(T:Toks)(nb tb b2 b6 td tc:Nat)(tv cv:AV)(B0:Blk)(ks:List Ky)(R:List Rw)(J:List Blk)(U:Toks)(hnb:nb≤J.length)(htb:tb≤U.length)
  (hRI:RI H T b2 b6 [(td,(0,1)),(tc,(0,2))] (.sl 0 [] (.own td)) tv cv B0 R J U) (hk0:kp R=ks.map fun k=>(k,[])) (hkl:ks.length≤1000000) (hb6:H.length≤b6) (htd:T.length≤td) (HO:HOk J U) (Q:Exit→St→Prop)
  (go:∀(e:Env)(J':List Blk)(U':Toks)(R':List Rw),RI H T b2 b6 [(td,(L.length,1)),(tc,(0,2))] (.sl L.length (ints (L.map (·.id))) (.own td)) tv cv B0 R' J' U'→kp R'=ks.map (fun k=>(k,L.flatMap fun d=>pstR d k))→J'.length=J.length→U.length≤U'.length→
   envLe J'.length U'.length e [(0,.sl L.length (dcAV L) .none),(2,.ptr b2 0),(6,.ptr b6 0)]→Q .normal ⟨e,J',U'⟩) :
  AW ⟨Tryz.prog,135,12,nb,tb,[]⟩ (subC [1,1,1,1,1,1,0] (Tryz.f14.body.getD .skip)) Q
   ⟨[(0,.sl L.length (dcAV L) .none),(2,.ptr b2 0),(6,.ptr b6 0)],J,U⟩:=by
 conv=>arg 2;whnf
 have hb:∀{RU dv R' J' U'},RI H T b2 b6 RU dv tv cv B0 R' J' U'→b2<J'.length∧b6<J'.length:=fun {RU dv R' J' U'} h=>by
  obtain⟨TB,_,h2⟩:=h.hJ;exact⟨h2.lt (b:=B0) (by simp),h2.lt (b:=.cells [dv,tv,cv]) (by simp)⟩
 obtain⟨m2,m6⟩:=hb hRI;apply aw_reg;intro K h;simp(disch:=omega);apply h;clear h K;apply aw_block;refine aw_loop (X:=Nat×List Blk×Toks×List Rw) (fun x=>⟨[(0,.sl L.length (dcAV L) .none),(2,.ptr b2 0),(6,.ptr b6 0),(7,.int .i64 (x.1:Nat))],x.2.1,x.2.2.1⟩)
  (fun x=>x.1≤L.length∧RI H T b2 b6 [(td,(x.1,1)),(tc,(0,2))] (.sl x.1 (ints ((L.take x.1).map (·.id))) (.own td)) tv cv B0 x.2.2.2 x.2.1 x.2.2.1∧kp x.2.2.2=ks.map (fun k=>(k,(L.take x.1).flatMap fun d=>pstR d k))∧x.2.1.length=J.length∧U.length≤x.2.2.1.length∧HOk x.2.1 x.2.2.1) (fun x=>L.length-x.1) (0,J,U,R) ?_ ?_ ?_
 ·exact⟨Nat.zero_le _,by simpa using hRI,by simpa using hk0,rfl,Nat.le_refl _,HO⟩
 ·refine weak_to [] [] (by simp) (by simp) hnb htb HO ?_;simp[m2,m6]
 ·rintro⟨i,J1,U1,R3⟩ ⟨g1,g2,g3,g4,g5,g6⟩;simp only at g1 g2 g3 g4 g5 g6;obtain⟨n2,n6⟩:=hb g2;refine aw_then fun K2 hK2=>?_;apply aw_reg;intro K h;simp(disch:=omega);apply h;clear h K;refine aw_if rfl (fun hk=>?_) (fun hk=>?_)
  ·simp  at hk;have hid:=(dcAV_at L i hk).1;obtain⟨TB,hTB,hJ1⟩:=g2.hJ;have e6:=at_of (hJ1.get (i:=b6) (b:=.cells [.sl i (ints ((L.take i).map (·.id))) (.own td),tv,cv]) (by simp));have gU:=g2.hU.get (i:=td) (b:=(i,1)) (by simp);have eU:=at_of gU;have lU:=(List.getElem?_eq_some_iff.1 gU).1;have htk:ints ((L.take i).map (·.id))++[.int .i64 (L.getD i d0).id]=ints ((L.take (i+1)).map (·.id)):=by rw[take_getD L i d0 hk,List.map_append,ints_snoc];rfl
   have hidl:((L.take i).map (·.id)).length=i:=by rw[List.length_map,List.length_take];omega
   generalize (L.take i).map (·.id)=ids at *;generalize hids2:(L.take (i+1)).map (·.id)=ids2 at *;generalize (L.getD i d0).id=xid at *;have hil:(L.take i).length=i:=by rw[List.length_take];omega
   have hfm:∀k,(L.take (i+1)).flatMap (fun d=>pstR d k)=(L.take i).flatMap (fun d=>pstR d k)++pstR (L.getD i d0) k:=fun k=>by rw[take_getD L i d0 hk,List.flatMap_append];simp
   apply aw_skip;apply hK2;clear hK2;refine aw_then fun K6 hK6=>?_;apply aw_block;refine aw_draw [8,10] [0,0,0,0,0,0,0,0,0,1,1] [[],[]] drawMixed (by kernel_rfl) (by kernel_rfl) fun K hK=>?_;simp(disch:=omega)[e6,n6,hid,dcAV_len,hk,eU,lU,hidl];apply hK;clear hK K;refine aw_hok fun HO2=>?_;simp only at HO2;have hJ2:=Has.set (A:=[(b2,B0)]) (B:=TB) (b:=.cells [.sl i (ints ids) (.own td),tv,cv]) hJ1 (.cells [.sl (i+1) (ints ids2) (.own td),tv,cv]);have hU2:=Has.set (A:=[]) (B:=(tc,(0,2))::rowT R3) (b:=(i,1)) (by simpa using g2.hU) (i+1,1);rw[←htk] at hJ2;have hRI2:RI H T b2 b6 [(td,(i+1,1)),(tc,(0,2))] (.sl (i+1) (ints ids2) (.own td)) tv cv B0 R3 (J1.set b6 (.cells [.sl (i+1) (ints ids++[.int .i64 xid]) (.own td),tv,cv])) (U1.set td (i+1,1)):=⟨⟨TB,hTB,by rw[←htk];exact hJ2⟩,by simpa using hU2,g2.hr,g2.pJ.set hb6 _,g2.pU.set htd _⟩
   have hl2:(J1.set b6 (.cells [.sl (i+1) (ints ids++[.int .i64 xid]) (.own td),tv,cv])).length=J1.length:=by simp
   have hlU:(U1.set td (i+1,1)).length=U1.length:=by simp
   generalize J1.set b6 (.cells [.sl (i+1) (ints ids++[.int .i64 xid]) (.own td),tv,cv])=J2 at *;generalize U1.set td (i+1,1)=U2 at *;have p2:b2<J2.length:=by omega
   have p6:b6<J2.length:=by omega
   refine aw_weak ⟨[(0,.sl L.length (dcAV L) .none),(2,.ptr b2 0),(6,.ptr b6 0),(7,.int .i64 (i:Nat))],J2,U2⟩ (weak_to [] [] (by simp) (by simp) (by show nb≤J2.length;omega) (by show tb≤U2.length;omega) HO2 (by simp[p2,p6])) ?_;refine rows_loop L i hk (hs _ (getD_mem L i d0 hk)) (hw6 _ (getD_mem L i d0 hk)) H T nb tb b2 b6 td tc _ tv cv B0 _ R3 J2 U2 (by omega) (by omega) hRI2 (fun x hx=>?_) (by rw[←kp_len,g3,List.length_map];exact hkl) HO2 _ fun e J3 U3 R4 q1 q2 q3 q4 he=>?_
   ·rw[g3] at hx;obtain⟨k,_,rfl⟩:=List.mem_map.1 hx;have:=pstR_len k (L.take i);simp only;omega
   obtain⟨r2,r6⟩:=hb q1;refine hK6 _ (aw_hok fun HO3=>?_);refine aw_weak ⟨[(0,.sl L.length (dcAV L) .none),(2,.ptr b2 0),(6,.ptr b6 0),(7,.int .i64 (i:Nat))],J3,U3⟩ (weak_to [] [] (by simp) (by simp) (by show nb≤J3.length;omega) (by show tb≤U3.length;omega) HO3 he) ?_;refine aw_reg0 fun K hK=>?_;simp(disch:=omega) ;apply hK;clear hK K;refine⟨(i+1,J3,U3,R4),⟨by show i+1≤_;omega,by simp only[hids2];exact q1,?_,by show J3.length=_;omega,by show _≤U3.length;omega,HO3⟩,by show L.length-(i+1)<L.length-i;omega,?_⟩
   ·show kp R4=_;rw[q2,g3,List.map_map];exact List.map_congr_left fun k _=>by simp only[Function.comp,stepK];rw[hfm]
   ·refine weak_to [] [] (by simp) (by simp) (by show nb≤J3.length;omega) (by show tb≤U3.length;omega) HO3 ?_;simp[r2,r6]
  ·simp  at hk;have hie:i=L.length:=by omega
   subst hie;rw[List.take_length] at g2 g3;apply aw_exit;simp(disch:=omega) ;refine go _ J1 U1 R3 g2 g3 g4 g5 ?_;simp[n2,n6]
attribute [-simp] List.getD_eq_getElem?_getD in
set_option maxHeartbeats 8000000 in
theorem colsR_loop (L:List Dc)(hL:L.length≤1000000)(hs:∀d∈L,SzD d)(hn:∀d∈L,d.ns.length≤1000000)(hi:∀f,(itsF L f).length≤1000000)(H:List Blk)(T:Toks)(nb tb b2 b6 td tc:Nat)(dv tv:AV)(B0:Blk)(R:List Rw)(J:List Blk)(U:Toks)(hnb:nb≤J.length)(htb:tb≤U.length)
  (hRI:RI H T b2 b6 [(td,(L.length,1)),(tc,(0,2))] dv tv (.sl 0 [] (.own tc)) B0 R J U) (hb6:H.length≤b6) (htc:T.length≤tc) (HO:HOk J U) (Q:Exit→St→Prop)
  (go:∀(e:Env)(J':List Blk)(U':Toks),RI H T b2 b6 [(td,(L.length,1)),(tc,((colN L 3).length*2,2))] dv tv (.sl (colN L 3).length (clAV (colN L 3)) (.own tc)) B0 R J' U'→J'.length=J.length→U.length≤U'.length→
   envLe J'.length U'.length e [(2,.ptr b2 0),(6,.ptr b6 0)]→Q .normal ⟨e,J',U'⟩) :
  AW ⟨Tryz.prog,135,12,nb,tb,[]⟩ (subC [1,1,1,1,1,1,1,0] (Tryz.f14.body.getD .skip)) Q
   ⟨[(0,.sl L.length (dcAV L) .none),(2,.ptr b2 0),(6,.ptr b6 0)],J,U⟩:=by
 conv=>arg 2;whnf
 have hb:∀{RU cv J' U'},RI H T b2 b6 RU dv tv cv B0 R J' U'→b2<J'.length∧b6<J'.length:=fun {RU cv J' U'} h=>by
  obtain⟨TB,_,h2⟩:=h.hJ;exact⟨h2.lt (b:=B0) (by simp),h2.lt (b:=.cells [dv,tv,cv]) (by simp)⟩
 obtain⟨m2,m6⟩:=hb hRI;apply aw_reg;intro K h;simp(disch:=omega);apply h;clear h K;apply aw_block;refine aw_loop (X:=Nat×List Blk×Toks) (fun x=>⟨[(0,.sl L.length (dcAV L) .none),(2,.ptr b2 0),(6,.ptr b6 0),(10,.int .i64 (5+(x.1:Nat)))],x.2.1,x.2.2⟩)
  (fun x=>x.1≤3∧RI H T b2 b6 [(td,(L.length,1)),(tc,((colN L x.1).length*2,2))] dv tv (.sl (colN L x.1).length (clAV (colN L x.1)) (.own tc)) B0 R x.2.1 x.2.2∧x.2.1.length=J.length∧U.length≤x.2.2.length∧HOk x.2.1 x.2.2) (fun x=>3-x.1) (0,J,U) ?_ ?_ ?_
 ·exact⟨Nat.zero_le _,by simpa[colN,clAV_nil] using hRI,rfl,Nat.le_refl _,HO⟩
 ·refine weak_to [] [] (by simp) (by simp) hnb htb HO ?_;simp[m2,m6]
 ·rintro⟨c,J1,U1⟩ ⟨g1,g2,g4,g5,g6⟩;simp only at g1 g2 g4 g5 g6;obtain⟨n2,n6⟩:=hb g2;have cc:=fun H T=>columnR_ok L (5+(c:Int)) hL hs hn (hi _) H T .none;have hcs:=colN_succ L c;have hcl:=colN_len L c;have hcf:colF L (5+(c:Int))=if itsF L (5+(c:Int))=[] then [] else [⟨5+(c:Int),isortN (itsF L (5+(c:Int)))⟩]:=rfl
  have hpl:(isortN (itsF L (5+(c:Int)))).length=(itsF L (5+(c:Int))).length:=(isortN_perm _).length_eq;have hi5:=hi (5+(c:Int));have w7:-9223372036854775808≤5+(c:Int)+1∧5+(c:Int)+1≤9223372036854775807:=by omega
  refine aw_then fun K2 hK2=>?_;rcases Nat.lt_or_ge c 3 with h3|h3
  ·have b1:decide (5+(c:Int)≤7)=true:=decide_eq_true (by omega);have n1:5+(c:Int)≤7:=by omega
   refine aw_reg fun K hK=>?_;simp(disch:=omega)[b1,n1];apply hK;clear hK K;apply aw_ift rfl;apply aw_skip;apply hK2;clear hK2;refine aw_then fun K6 hK6=>?_;apply aw_block;refine aw_reg fun K hK=>?_;simp(disch:=omega) ;refine acall_is (cc _ _) ?_;simp(disch:=omega) ;apply hK;clear hK K
   by_cases he:itsF L (5+(c:Int))=[]
   ·rw[if_pos he] at hcf;rw[hcf,List.append_nil] at hcs;have hz:(isortN (itsF L (5+(c:Int)))).length=0:=by rw[hpl,he];rfl
    refine aw_reg fun K hK=>?_;simp(disch:=omega)[hz];apply hK;clear hK K;apply aw_iff rfl;apply aw_skip;apply hK6;clear hK6;refine aw_reg0 fun K hK=>?_;simp(disch:=omega) ;apply hK;clear hK K;refine⟨(c+1,J1,U1),⟨by show c+1≤3;omega,by simp only;rw[hcs];exact g2,g4,g5,g6⟩,by show 3-(c+1)<3-c;omega,?_⟩;refine weak_to [] [] (by simp) (by simp) (by show nb≤J1.length;omega) (by show tb≤U1.length;omega) g6 ?_;simp[n2,n6];omega
   ·rw[if_neg he] at hcf;have hp0:0<(itsF L (5+(c:Int))).length:=by
     rcases Nat.eq_zero_or_pos (itsF L (5+(c:Int))).length with h|h
     ·exact absurd (List.length_eq_zero_iff.1 h) he
     ·exact h
    generalize isortN (itsF L (5+(c:Int)))=il at *;have b2':decide ((0:Int)<(il.length:Int))=true:=decide_eq_true (by omega);have n2':0<il.length:=by omega
    obtain⟨TB,hTB,hJ1⟩:=g2.hJ;have e6:=at_of (hJ1.get (i:=b6) (b:=.cells [dv,tv,.sl (colN L c).length (clAV (colN L c)) (.own tc)]) (by simp));have gU:=g2.hU.get (i:=tc) (b:=((colN L c).length*2,2)) (by simp);have eU:=at_of gU;have lU:=(List.getElem?_eq_some_iff.1 gU).1;have hsn:=clAV_snoc (colN L c) ⟨5+(c:Int),il⟩;rw[hcf] at hcs;simp only at hsn;rw[←hcs] at hsn;have hcl2:(colN L (c+1)).length=(colN L c).length+1:=by rw[hcs];simp
    refine aw_reg fun K hK=>?_;simp(disch:=omega)[b2',n2'];apply hK;clear hK K;apply aw_ift rfl;refine aw_reg0 fun K hK=>?_;simp(disch:=omega)[e6,n6,eU,lU,clAV_len];apply hK;clear hK K;have hJ2:=Has.set (A:=[(b2,B0)]) (B:=TB) (b:=.cells [dv,tv,.sl (colN L c).length (clAV (colN L c)) (.own tc)]) hJ1 (.cells [dv,tv,.sl (colN L (c+1)).length (clAV (colN L (c+1))) (.own tc)]);have hU2:=Has.set (A:=[(td,(L.length,1))]) (B:=rowT R) (b:=((colN L c).length*2,2)) (by simpa using g2.hU) ((colN L (c+1)).length*2,2);rw[←hsn,hcl2] at hJ2;rw[hcl2] at hU2;have hRI2:RI H T b2 b6 [(td,(L.length,1)),(tc,((colN L (c+1)).length*2,2))] dv tv (.sl (colN L (c+1)).length (clAV (colN L (c+1))) (.own tc)) B0 R (J1.set b6 (.cells [dv,tv,.sl ((colN L c).length+1) (clAV (colN L c)++[.int .i64 (5+(c:Int)),.sl il.length (nmAV il) .none]) (.own tc)])) (U1.set tc (((colN L c).length+1)*2,2)):=⟨⟨TB,hTB,by rw[hcl2,←hsn];exact hJ2⟩,by rw[hcl2];simpa using hU2,g2.hr,g2.pJ.set hb6 _,g2.pU.set htc _⟩
    have hl2:(J1.set b6 (.cells [dv,tv,.sl ((colN L c).length+1) (clAV (colN L c)++[.int .i64 (5+(c:Int)),.sl il.length (nmAV il) .none]) (.own tc)])).length=J1.length:=by simp
    have hlU:(U1.set tc (((colN L c).length+1)*2,2)).length=U1.length:=by simp
    refine hK6 _ (aw_hok fun HO2=>?_);simp only at HO2;generalize J1.set b6 (.cells [dv,tv,.sl ((colN L c).length+1) (clAV (colN L c)++[.int .i64 (5+(c:Int)),.sl il.length (nmAV il) .none]) (.own tc)])=J2 at *;generalize U1.set tc (((colN L c).length+1)*2,2)=U2 at *;have p2:b2<J2.length:=by omega
    have p6:b6<J2.length:=by omega
    refine aw_reg0 fun K hK=>?_;simp(disch:=omega) ;apply hK;clear hK K;refine⟨(c+1,J2,U2),⟨by show c+1≤3;omega,hRI2,by show J2.length=_;omega,by show _≤U2.length;omega,HO2⟩,by show 3-(c+1)<3-c;omega,?_⟩;refine weak_to [] [] (by simp) (by simp) (by show nb≤J2.length;omega) (by show tb≤U2.length;omega) HO2 ?_;simp[p2,p6];omega
  ·have hc3:c=3:=by omega
   subst hc3;apply aw_reg;intro K h;simp(disch:=omega);apply h;clear h K;apply aw_iff rfl;apply aw_exit;simp(disch:=omega) ;refine go _ J1 U1 g2 g4 g5 ?_;simp[n2,n6]
end Go.Proofs.YtneohapkboaplaaGreat

set_option linter.all false
set_option maxRecDepth 100000
namespace Seg
open Sug Go.Am Go.Proofs.YtneohapkboaplaaGreat
theorem zn_lt {zs:List Zn}(h:∀k,k<zs.length→okZn zs k=true):∀j i,i<j→j<zs.length→(zs.getD i z0).f<(zs.getD j z0).f
 |0,i,h1,_=>absurd h1 (Nat.not_lt_zero _)
 |j+1,i,h1,h2=>by
  have h3:=(okZn_parts (h (j+1) h2)).1;unfold lastZ at h3;rw[if_neg (by omega),Nat.add_sub_cancel] at h3;rcases Nat.lt_or_ge i j with h4|h4
  ·have:=zn_lt h j i h4 (by omega);omega
  ·have:i=j:=by omega
   subst this;exact h3
theorem posD_none (k:Ky):∀zs:List Zn,(∀z∈zs,z.f≠k.1)→(dwds zs).filter (fun w=>w.1==k)=[]
 |[],_=>rfl
 |z::r,h=>by
  have e:dwds (z::r)=zwds z.f z.ws++dwds r:=by simp[dwds]
  rw[e,List.filter_append,posD_none k r fun y hy=>h y (by simp[hy]),List.append_nil,List.filter_eq_nil_iff];intro w hw;obtain⟨x,_,rfl⟩:=List.mem_map.1 hw;have:=h z (by simp);simp only[beq_iff_eq];intro e;exact this (by rw[←e])
theorem zwds_pos (f:Int)(ws:List Wd)(w:Bs):((zwds f ws).filter fun x=>x.1==(f,w)).map (·.2)=posZ ws w:=by
 unfold zwds posZ;rw[List.filter_map,List.map_map]
 congr 1
 apply List.filter_congr;intro x _;rw[Bool.eq_iff_iff];simp
theorem posD_wzf (k:Ky):∀zs:List Zn,(zs.Pairwise fun x y=>x.f≠y.f)→((dwds zs).filter fun w=>w.1==k).map (·.2)=posZ (wzf zs k.1) k.2
 |[],_=>rfl
 |z::r,h=>by
  have ⟨h1,h2⟩:=List.pairwise_cons.1 h;have e:dwds (z::r)=zwds z.f z.ws++dwds r:=by simp[dwds]
  rw[e,List.filter_append,List.map_append];unfold wzf
  by_cases hz:z.f=k.1
  ·rw[if_pos hz,posD_none k r fun y hy e=>h1 y hy (by rw[hz,e]),List.map_nil,List.append_nil];have:=zwds_pos z.f z.ws k.2;rw[hz] at this ⊢;exact this
  ·rw[if_neg hz,←posD_wzf k r h2];have:(zwds z.f z.ws).filter (fun w=>w.1==k)=[]:=by
    rw[List.filter_eq_nil_iff];intro w hw;obtain⟨x,_,rfl⟩:=List.mem_map.1 hw;simp only[beq_iff_eq];intro e;exact hz (by rw[←e])
   rw[this];rfl
theorem posR_posD {d:Dc}(h:validD d=true)(k:Ky):posR d k=posD d k:=by
 have h1:=(validD_parts h).2.1;refine(posD_wzf k d.zs ?_).symm;rw[List.pairwise_iff_getElem];intro i j hi hj hij;have:=zn_lt h1 j i hij hj;rw[List.getD_eq_getElem?_getD,List.getD_eq_getElem?_getD,List.getElem?_eq_getElem hi,List.getElem?_eq_getElem hj] at this;simp only[Option.getD_some] at this;omega
theorem pstR_pst {d:Dc}(h:validD d=true)(k:Ky):pstR d k=pst d k:=by unfold pstR pst;rw[posR_posD h]
theorem postF_R {L:List Dc}(h:∀d∈L,validD d=true)(k:Ky):(L.flatMap fun d=>pstR d k)=postF L k:=by
 unfold postF
 induction L with
 |nil=>rfl
 |cons d r ih=>rw[List.flatMap_cons,List.flatMap_cons,pstR_pst (h d (by simp)),ih fun x hx=>h x (by simp[hx])]
theorem colN_F (L:List Dc):colN L 3=colsF L:=by
 unfold colsF;rw[colN_succ,colN_succ,colN_succ];simp[colN]
theorem flat_part {α β:Type}(f:α→List β){l:List α}{x:α}(h:x∈l):(f x).length≤(l.flatMap f).length:=by
 obtain⟨A,B,rfl⟩:=List.append_of_mem h;rw[List.flatMap_append,List.flatMap_cons,List.length_append,List.length_append];omega
theorem flat_le {α β γ:Type}(f:α→List β)(g:α→List γ)(h:∀x,(f x).length≤(g x).length):∀l:List α,(l.flatMap f).length≤(l.flatMap g).length
 |[]=>by simp
 |x::r=>by
  have h1:=flat_le f g h r;have h2:=h x;rw[List.flatMap_cons,List.flatMap_cons,List.length_append,List.length_append];omega
theorem flat_perm {α β:Type}(f:α→List β){l m:List α}(h:l.Perm m):(l.flatMap f).length=(m.flatMap f).length:=(h.flatMap_right f).length_eq
theorem flat_len {α β:Type}(f:α→List β)(n:Nat):∀l:List α,(∀x∈l,(f x).length≤n)→(l.flatMap f).length≤l.length*n
 |[],_=>by simp
 |x::r,h=>by
  have h1:=flat_len f n r fun y hy=>h y (by simp[hy]);have h2:=h x (by simp);rw[List.flatMap_cons,List.length_append,List.length_cons,Nat.add_mul];omega
end Seg
namespace Go.Proofs.YtneohapkboaplaaGreat
open Go Go.Am Sug Seg
theorem frz_rowsR {n0 t0:Nat}{J:List Blk}{R:List Rw}{tv:AV}{TB:List (Nat×Blk)}(h:Tb n0 R tv TB)(hJ:∀p∈TB,J[p.1]?=some p.2):Frz n0 t0 J tv (.sl R.length (tmAV (R.map fun r=>(⟨r.k.1,r.k.2,r.pl⟩:Tm))) .none):=by
 rcases h with⟨rfl,rfl,_⟩|⟨it,rest,rfl,rfl,hit⟩
 ·exact .keep (.inr rfl) (by simp[tmAV_nil])
 ·have hH:=hJ _ (List.mem_singleton.2 rfl);have h2:tmAV (R.map fun r=>(⟨r.k.1,r.k.2,r.pl⟩:Tm))=R.flatMap fun r=>tmC ⟨r.k.1,r.k.2,r.pl⟩:=by simp[tmAV,List.flatMap_map]
  rw[h2];refine .msl hit hH ?_ fun j hj=>?_
  ·rw[List.length_append,rows_len (f:=fun r:Rw=>tmC ⟨r.k.1,r.k.2,r.pl⟩) (k:=3) (fun _=>rfl),rwAV_len];omega
  ·rw[Nat.zero_add];refine frz_rows (fa:=rwC) (fb:=fun r=>tmC ⟨r.k.1,r.k.2,r.pl⟩) (k:=3) rw_rows (fun _=>rfl) R (fun r _ j hj=>?_) rest j hj
   match j,hj with
   |0,_=>exact .keep (.inl rfl) (.int _ _)
   |1,_=>exact .keep (.inl rfl) (.str _)
   |2,_=>exact .keep (.inr rfl) (by simp)
attribute [-simp] List.getD_eq_getElem?_getD in
set_option maxHeartbeats 8000000 in
theorem buildR_main (L:List Dc)(hL:L.length≤2000)(hs:∀d∈L,SzD d)(hv:∀d∈L,validD d=true)(hdk:(L.flatMap dkeys).length≤1000000)(hnt:(L.flatMap fun d=>d.ns).length≤1000000)(H:List Blk)(T:Toks)
  (HO:HOk (H++[.cells [.sl 0 [] .full,.sl 0 [] .full,.sl 0 [] .full]]) T) :
  AW ⟨Tryz.prog,135,12,H.length,T.length,[]⟩ (subC [1,1,1,1,1] (Tryz.f14.body.getD .skip)) (RetQ Tryz.prog Tryz.f14.results.toList (BQ H T (.tup [sgAV ⟨L.map (·.id),termsF L,colsF L⟩,.int .i64 0])))
   ⟨[(0,.sl L.length (dcAV L) .none),(2,.ptr H.length 0)],H++[.cells [.sl 0 [] .full,.sl 0 [] .full,.sl 0 [] .full]],T⟩:=by
 conv=>arg 2;whnf
 have hn:∀d∈L,d.ns.length≤1000000:=fun d hd=>Nat.le_trans (flat_part (fun d:Dc=>d.ns) hd) hnt;have hw:∀d∈L,∀z∈d.zs,z.ws.length≤1000000:=fun d hd z hz=>by
  have h1:=flat_part dkeys hd;have h2:=flat_part zkeys hz;have h3:(zkeys z).length=z.ws.length:=by simp[zkeys]
  unfold dkeys at h1 hdk;omega
 have hit:∀f,(itsF L f).length≤1000000:=fun f=>Nat.le_trans (flat_le _ _ (fun d:Dc=>by
  rw[List.length_map];exact List.length_filter_le _ _) L) hnt
 have hkl:(keysF L).length≤1000000:=by
  rw[keysF_all];have:=insAll_len (L.flatMap dkeys) [];rw[List.length_nil,Nat.zero_add] at this;omega
 have key:∀(G:List Blk)(tv:AV),((keysF L=[]∧tv=.sl 0 [] .none)∨∃it rest,tv=.msl it 0 (keysF L).length∧(H++[Blk.cells [.sl 0 [] .full,.sl 0 [] .full,.sl 0 [] .full]]).length≤it∧(H++[Blk.cells [.sl 0 [] .full,.sl 0 [] .full,.sl 0 [] .full]]++G)[it]?=some (.cells (krAV (keysF L)++rest))∧0<(keysF L).length)→
   AW ⟨Tryz.prog,135,12,H.length,T.length,[]⟩ (subC [1,1,1,1,1,1] (Tryz.f14.body.getD .skip)) (RetQ Tryz.prog Tryz.f14.results.toList (BQ H T (.tup [sgAV ⟨L.map (·.id),termsF L,colsF L⟩,.int .i64 0])))
    ⟨[(0,.sl L.length (dcAV L) .none),(2,.ptr H.length 0),(6,.ptr (H.length+(G.length+1)) 0)],(H++.cells [.sl 0 [] .full,.sl 0 [] .full,.sl 0 [] .full]::G)++[.cells [.sl 0 [] .full,tv,.sl 0 [] .full]],T⟩:=by
  intro G tv htv
  conv=>arg 2;whnf
  refine aw_ownC 1 0 (H++.cells [.sl 0 [] .full,.sl 0 [] .full,.sl 0 [] .full]::G) [.sl 0 [] .full,tv,.sl 0 [] .full] 0 [] (by omega) rfl (by simp) ?_;refine aw_ownC 2 2 (H++.cells [.sl 0 [] .full,.sl 0 [] .full,.sl 0 [] .full]::G) [.sl 0 [] (.own T.length),tv,.sl 0 [] .full] 0 [] (by omega) rfl (by simp) ?_;refine aw_hok fun HO4=>?_;simp only[List.length_append,List.length_cons,List.length_nil,List.set_cons_zero,List.set_cons_succ,Nat.zero_add] at HO4 ⊢;have hRI:∃R,kp R=(keysF L).map (fun k=>(k,[]))∧RI H T H.length (H.length+(G.length+1)) [(T.length,(0,1)),(T.length+1,(0,2))] (.sl 0 [] (.own T.length)) tv (.sl 0 [] (.own (T.length+1))) (.cells [.sl 0 [] .full,.sl 0 [] .full,.sl 0 [] .full]) R
    (H++.cells [.sl 0 [] .full,.sl 0 [] .full,.sl 0 [] .full]::G++[.cells [.sl 0 [] (.own T.length),tv,.sl 0 [] (.own (T.length+1))]]) (T++[(0,1)]++[(0,2)]):=by
   have hb2:∀X:List Blk,(H++Blk.cells [.sl 0 [] .full,.sl 0 [] .full,.sl 0 [] .full]::G++X)[H.length]?=some (.cells [.sl 0 [] .full,.sl 0 [] .full,.sl 0 [] .full]):=fun X=>by simp
   have hb6:(H++Blk.cells [.sl 0 [] .full,.sl 0 [] .full,.sl 0 [] .full]::G++[Blk.cells [.sl 0 [] (.own T.length),tv,.sl 0 [] (.own (T.length+1))]])[H.length+(G.length+1)]?=some (.cells [.sl 0 [] (.own T.length),tv,.sl 0 [] (.own (T.length+1))]):=by
    rw[List.getElem?_append_right (by simp)];simp
   refine⟨(keysF L).map fun k=>⟨k,[],.full⟩,by simp[kp,List.map_map,Function.comp_def],?_⟩;have hrow:rowT ((keysF L).map fun k=>(⟨k,[],.full⟩:Rw))=[]:=by
    unfold rowT;rw[List.flatMap_map];simp[tokR]
   have hkr:rwAV ((keysF L).map fun k=>(⟨k,[],.full⟩:Rw))=krAV (keysF L):=by unfold rwAV krAV;rw[List.flatMap_map];rfl
   refine⟨?_,?_,fun x hx=>?_,⟨_,by rw[List.append_assoc]⟩,⟨_,by rw[List.append_assoc]⟩⟩
   ·rcases htv with⟨h1,h2⟩|⟨it,rest,h1,h2,h3,h4⟩
    ·refine⟨[],.inl ⟨by rw[h1];rfl,h2,rfl⟩,⟨by simp,fun p hp=>?_⟩⟩;simp at hp;rcases hp with rfl|rfl
     ·exact hb2 _
     ·exact hb6
    ·have hlt:=(List.getElem?_eq_some_iff.1 h3).1;have hne2:it≠H.length:=fun e=>by
      rw[e] at h3;rw[show (H++[Blk.cells [.sl 0 [] .full,.sl 0 [] .full,.sl 0 [] .full]]++G)[H.length]?=some (.cells [.sl 0 [] .full,.sl 0 [] .full,.sl 0 [] .full]) by simp] at h3
      injection h3 with h3
      injection h3 with h3
      have hh:=congrArg (fun l=>l.getD 0 .top) h3;have h5:(krAV (keysF L)++rest).getD 0 .top=.int .i64 ((keysF L).getD 0 k0).1:=by
       have:=krAV_cut (keysF L) rest 0 h4;rw[Nat.zero_mul,List.drop_zero] at this;have h6:=congrArg (fun l=>l.getD 0 .top) this;simpa[List.getD_eq_getElem?_getD] using h6
      rw[h5] at hh;simp at hh
     refine⟨[(it,.cells (rwAV ((keysF L).map fun k=>(⟨k,[],.full⟩:Rw))++rest))],.inr ⟨it,rest,by rw[List.length_map];exact h1,rfl,by simp at h2;omega⟩,⟨?_,fun p hp=>?_⟩⟩
     ·simp at hlt ⊢;omega
     ·simp only[List.mem_cons,List.not_mem_nil,or_false] at hp;rcases hp with rfl|rfl|rfl
      ·exact hb2 _
      ·exact hb6
      ·rw[hkr];rw[List.getElem?_append_left (by simp at hlt ⊢;omega)];rw[←h3];congr 1;simp
   ·rw[hrow];refine⟨by simp,fun p hp=>?_⟩;simp at hp;rcases hp with rfl|rfl<;>simp
   ·obtain⟨k,_,rfl⟩:=List.mem_map.1 hx;exact⟨.inl ⟨rfl,rfl⟩,fun tk h=>by cases h⟩
  obtain⟨R,hkp,hRI⟩:=hRI;have hl0:(H++Blk.cells [.sl 0 [] .full,.sl 0 [] .full,.sl 0 [] .full]::G++[Blk.cells [.sl 0 [] (.own T.length),tv,.sl 0 [] (.own (T.length+1))]]).length=H.length+(G.length+1)+1:=by simp;omega
  have hu0:(T++[((0:Nat),(1:Nat))]++[(0,2)]).length=T.length+2:=by simp
  generalize hJ0:H++Blk.cells [.sl 0 [] .full,.sl 0 [] .full,.sl 0 [] .full]::G++[Blk.cells [.sl 0 [] (.own T.length),tv,.sl 0 [] (.own (T.length+1))]]=J0 at *;generalize hU0:T++[((0:Nat),(1:Nat))]++[(0,2)]=U0 at *;obtain⟨b6,hb6⟩:∃b,b=H.length+(G.length+1):=⟨_,rfl⟩
  rw[←hb6] at hRI hl0;simp only[←hb6];clear hJ0 hU0;refine aw_then fun K2 hK2=>?_;refine docsR_loop L (by omega) hs hw H T H.length T.length H.length b6 T.length (T.length+1) tv _ _ (keysF L) R J0 U0 (by omega) (by omega) hRI hkp hkl (by omega) (Nat.le_refl _) HO4 _ fun e J1 U1 R1 q1 q2 q3 q4 he=>?_;refine hK2 _ (aw_hok fun HO5=>?_);simp only at HO5;refine aw_weak ⟨[(0,.sl L.length (dcAV L) .none),(2,.ptr H.length 0),(6,.ptr b6 0)],J1,U1⟩ (weak_to [] [] (by simp) (by simp) (by show H.length≤J1.length;omega) (by show T.length≤U1.length;omega) HO5 he) ?_;clear hK2 he;refine aw_then fun K3 hK3=>?_;refine colsR_loop L (by omega) hs hn hit H T H.length T.length H.length b6 T.length (T.length+1) _ tv _ R1 J1 U1 (by omega) (by omega) q1 (by omega) (by omega) HO5 _ fun e J2 U2 p1 p2 p3 he=>?_;refine hK3 _ (aw_hok fun HO6=>?_);simp only at HO6;refine aw_weak ⟨[(2,.ptr H.length 0),(6,.ptr b6 0)],J2,U2⟩ (weak_to [] [] (by simp) (by simp) (by show H.length≤J2.length;omega) (by show T.length≤U2.length;omega) HO6 he) ?_;clear hK3 he;rw[←colN_F];have hte:termsF L=R1.map fun r=>(⟨r.k.1,r.k.2,r.pl⟩:Tm):=by
   have h1:(R1.map fun r=>(⟨r.k.1,r.k.2,r.pl⟩:Tm))=(kp R1).map fun x=>⟨x.1.1,x.1.2,x.2⟩:=by simp[kp,List.map_map,Function.comp_def]
   rw[h1,q2,List.map_map];exact List.map_congr_left fun k _=>by simp only[Function.comp];rw[postF_R hv]
  obtain⟨TB,hTB,hJ2⟩:=p1.hJ;generalize colN L 3=cs at *;have hidl:(L.map (·.id)).length=L.length:=by simp
  have g2:=hJ2.get (i:=H.length) (b:=.cells [.sl 0 [] .full,.sl 0 [] .full,.sl 0 [] .full]) (by simp);have g6:=hJ2.get (i:=b6) (b:=.cells [.sl L.length (ints (L.map (·.id))) (.own T.length),tv,.sl cs.length (clAV cs) (.own (T.length+1))]) (by simp);have e6:=at_of g6;have l6:=(List.getElem?_eq_some_iff.1 g6).1;have l2:=(List.getElem?_eq_some_iff.1 g2).1;have e2:=at_of g2;have hJ3:=Has.set (A:=[]) (B:=(b6,.cells [.sl L.length (ints (L.map (·.id))) (.own T.length),tv,.sl cs.length (clAV cs) (.own (T.length+1))])::TB) (b:=.cells [.sl 0 [] .full,.sl 0 [] .full,.sl 0 [] .full]) (by simpa using hJ2) (.cells [.sl L.length (ints (L.map (·.id))) (.own T.length),tv,.sl cs.length (clAV cs) (.own (T.length+1))]);have hP2:=p1.pJ.set (Nat.le_refl _) (.cells [.sl L.length (ints (L.map (·.id))) (.own T.length),tv,.sl cs.length (clAV cs) (.own (T.length+1))]);generalize hids:L.map (·.id)=ids at *;refine aw_reg fun K hK=>?_;simp(disch:=omega)[e6,l6,e2,l2];apply hK;clear hK K;apply aw_ret;simp(disch:=omega) ;refine⟨hP2,p1.pU,?_⟩;have hsg:sgAV ⟨ids,termsF L,cs⟩=.agg [.sl L.length (ints ids) .none,.sl R1.length (tmAV (R1.map fun r=>(⟨r.k.1,r.k.2,r.pl⟩:Tm))) .none,.sl cs.length (clAV cs) .none]:=by
   rw[hte];show AV.agg [.sl ids.length (ints ids) .none,.sl (R1.map fun r=>(⟨r.k.1,r.k.2,r.pl⟩:Tm)).length _ .none,_]=_;rw[hidl,List.length_map]
  rw[hsg];have hrw:=frz_rowsR (t0:=T.length) hTB fun p hp=>hJ3.2 p (by simp[hp]);refine Frz.pair (.agg rfl fun j hj=>?_) (.keep (.inl rfl) (.int _ _))
  match j,hj with
  |0,_=>exact .keep (.inr rfl) (by simp)
  |1,_=>exact hrw
  |2,_=>exact .keep (.inr rfl) (by simp)
 refine aw_reg fun K hK=>?_;simp(disch:=omega) ;refine⟨_,terms39_ok L (by omega) hdk (fun d hd=>by have:=valid_zs (validD_parts (hv d hd)).2.1;omega) _ _ .none,?_⟩;rintro r H' T' ⟨⟨G,rfl⟩,hT2,hTR⟩;subst T';rcases hTR with⟨h1,rfl⟩|⟨it,rest,rfl,h2,h3,h4⟩
 ·simp(disch:=omega) ;apply hK;clear hK K;refine aw_hok fun HO4=>?_;refine aw_weak ⟨[(0,.sl L.length (dcAV L) .none),(2,.ptr H.length 0),(6,.ptr (H.length+(G.length+1)) 0)],(H++Blk.cells [.sl 0 [] .full,.sl 0 [] .full,.sl 0 [] .full]::G)++[Blk.cells [.sl 0 [] .full,.sl 0 [] .none,.sl 0 [] .full]],T⟩ (weak_to [] [] (by simp) (by simp) (by simp) (Nat.le_refl _) (by simpa using HO4) (by simp)) ?_;exact key G _ (.inl ⟨h1,rfl⟩)
 ·simp(disch:=omega) ;apply hK;clear hK K;refine aw_hok fun HO4=>?_;refine aw_weak ⟨[(0,.sl L.length (dcAV L) .none),(2,.ptr H.length 0),(6,.ptr (H.length+(G.length+1)) 0)],(H++Blk.cells [.sl 0 [] .full,.sl 0 [] .full,.sl 0 [] .full]::G)++[Blk.cells [.sl 0 [] .full,.msl it 0 (keysF L).length,.sl 0 [] .full]],T⟩ (weak_to [] [] (by simp) (by simp) (by simp) (Nat.le_refl _) (by simpa using HO4) (by simp)) ?_;exact key G _ (.inr ⟨it,rest,rfl,h2,h3,h4⟩)
attribute [-simp] List.getD_eq_getElem?_getD in
set_option maxHeartbeats 8000000 in
theorem buildR_ok (l:List Dc)(hl:l.length≤1000000)(hs:∀d∈l,SzD d)(hdk:(∀d∈l,validD d=true)→(l.flatMap dkeys).length≤1000000)(hnt:(l.flatMap fun d=>d.ns).length≤1000000)(H:List Blk)(T:Toks)(tg:Tag) :
  ACall Tryz.prog 14 [.sl l.length (dcAV l) tg] H T (Is (.tup [sgAV (buildF l).1,.int .i64 (buildF l).2]) H T):=by
 refine ACall.untag1 ?_;refine ACall.frz ?_;show ACall Tryz.prog _ _ H T (BQ H T _);have hl':l.length≤9223372036854775807:=by omega
 refine acall_enter 12 [] Tryz.ntmps14 Tryz.func14 rfl (fun _ _=>Tryz.call14 _ _) (by simp) (fun HO=>?_);have HO1:HOk (H++[.cells [.sl 0 [] .full,.sl 0 [] .full,.sl 0 [] .full]]) T:=HO.snoc (by simp);apply aw_reg;intro K h;simp(disch:=omega);apply h;clear h K;refine aw_then fun K1 hK1=>?_
 by_cases hb0:2000<l.length
 ·have b0:decide ((2000:Int)<l.length)=true:=decide_eq_true (by omega);refine aw_reg fun K hK=>?_;simp(disch:=omega)[b0,hb0];apply hK;clear hK K;apply aw_ift rfl;apply aw_reg;intro K h;simp(disch:=omega);apply h;clear h K;apply aw_ret;simp(disch:=omega) ;have hF:buildF l=(noSeg,3):=by unfold buildF;rw[if_pos hb0]
  rw[hF];exact⟨⟨_,rfl⟩,⟨[],by simp⟩,frz_none 3⟩
 have b0:decide ((2000:Int)<l.length)=false:=decide_eq_false (by omega);have n0:¬(2000:Int)<l.length:=by omega
 refine aw_reg fun K hK=>?_;simp(disch:=omega)[b0,n0];apply hK;clear hK K;apply aw_iff rfl;apply aw_skip;apply hK1;clear hK1;refine aw_then fun K1 hK1=>?_;apply aw_reg;intro K h;simp(disch:=omega);apply h;clear h K;apply aw_block;refine aw_loop (X:=Nat) (fun i=>⟨[(0,.sl l.length (dcAV l) .none),(2,.ptr H.length 0),(4,.int .i64 (i:Nat))],H++[.cells [.sl 0 [] .full,.sl 0 [] .full,.sl 0 [] .full]],T⟩)
  (fun i=>i≤l.length∧∀j,j<i→validD (l.getD j d0)=true) (fun i=>l.length-i) 0 ?_ ?_ ?_
 ·exact⟨Nat.zero_le _,fun j hj=>absurd hj (Nat.not_lt_zero _)⟩
 ·refine weak_to [] [] (by simp) (by simp) (by simp) (by simp) HO1 ?_;simp
 ·rintro i ⟨g1,g2⟩;refine aw_then fun K2 hK2=>?_;apply aw_reg;intro K h;simp(disch:=omega);apply h;clear h K;refine aw_if rfl (fun hk=>?_) (fun hk=>?_)
  ·simp  at hk;have hcut:=dcAV_cut l i hk;have c:=fun H=>valid37R_ok (l.getD i d0) (hs _ (getD_mem l i d0 hk)) H T;have hmem:=getD_mem l i d0 hk;have hadd:validD (l.getD i d0)=true→∀j,j<i+1→validD (l.getD j d0)=true:=fun h j hj=>by
    rcases Nat.lt_or_ge j i with h1|h1
    ·exact g2 j h1
    ·have:j=i:=by omega
     subst this;exact h
   have hbad:validD (l.getD i d0)=false→buildF l=(noSeg,1):=fun h=>by
    unfold buildF;rw[if_neg hb0,if_pos];rw[List.any_eq_true];exact⟨_,hmem,by rw[h];rfl⟩
   generalize l.getD i d0=d at *;apply aw_skip;apply hK2;clear hK2;refine aw_then fun K3 hK3=>?_;apply aw_block
   cases hv:validD d with
   |false=>
    rw[hv] at c;refine aw_reg fun K hK=>?_;simp(disch:=omega)[hcut,dcAV_len,hk];refine acall_is (c _) ?_;simp(disch:=omega) ;apply hK;clear hK K;apply aw_ift rfl;apply aw_reg;intro K h;simp(disch:=omega);apply h;clear h K;apply aw_ret;simp(disch:=omega) ;rw[hbad hv];exact⟨⟨_,rfl⟩,⟨[],by simp⟩,frz_none 1⟩
   |true=>
    rw[hv] at c;refine aw_reg fun K hK=>?_;simp(disch:=omega)[hcut,dcAV_len,hk];refine acall_is (c _) ?_;simp(disch:=omega) ;apply hK;clear hK K;apply aw_iff rfl;apply aw_skip;apply hK3;clear hK3;refine aw_reg0 fun K hK=>?_;simp(disch:=omega) ;apply hK;clear hK K;refine⟨i+1,⟨by show i+1≤_;omega,hadd hv⟩,by show l.length-(i+1)<l.length-i;omega,?_⟩;refine weak_to [] [] (by simp) (by simp) (by simp) (by simp) HO1 ?_;simp
  ·simp  at hk;have hval:∀d∈l,validD d=true:=fun d hd=>by
    obtain⟨j,hj,e⟩:=mem_getD d0 hd;rw[←e];exact g2 j (by omega)
   have hva:l.any (fun d=>!validD d)=false:=by
    rw[List.any_eq_false];intro d hd;rw[hval d hd];simp
   apply aw_exit;simp(disch:=omega) ;apply hK1;clear hK1;have cs:=fun H=>sorted39_ok l (by omega) H T .none;have hperm:=(sortD_inOrd l).perm;have hord:=(sortD_inOrd l).ord;have hLl:(sortD l).length=l.length:=sortD_len l;have hsL:∀d∈sortD l,d∈l:=fun d hd=>hperm.mem_iff.1 hd;have hFl:(((sortD l).map (·.id)).Nodup→buildF l=(⟨(sortD l).map (·.id),termsF (sortD l),colsF (sortD l)⟩,0))∧(¬((sortD l).map (·.id)).Nodup→buildF l=(noSeg,10)):=by
    refine⟨fun h=>?_,fun h=>?_⟩
    ·unfold buildF;rw[if_neg hb0,if_neg (by rw[hva];simp),if_neg (fun hh=>hh ((hperm.map _).nodup_iff.1 h))]
    ·unfold buildF;rw[if_neg hb0,if_neg (by rw[hva];simp),if_pos (fun hh=>h ((hperm.map _).nodup_iff.2 hh))]
   refine aw_reg fun K hK=>?_;simp(disch:=omega) ;refine acall_is (cs _) ?_;simp(disch:=omega) ;apply hK;clear hK K;generalize sortD l=L at *;refine aw_then fun K1 hK1=>?_;apply aw_reg;intro K h;simp(disch:=omega);apply h;clear h K;apply aw_block;refine aw_loop (X:=Nat) (fun i=>⟨[(0,.sl L.length (dcAV L) .none),(2,.ptr H.length 0),(5,.int .i64 (i:Nat))],H++[.cells [.sl 0 [] .full,.sl 0 [] .full,.sl 0 [] .full]],T⟩)
    (fun i=>1≤i∧i≤L.length+1∧∀j,0<j→j<i→j<L.length→(L.getD (j-1) d0).id≠(L.getD j d0).id) (fun i=>L.length+1-i) 1 ?_ ?_ ?_
   ·exact⟨Nat.le_refl _,by omega,fun j h1 h2=>by omega⟩
   ·refine weak_to [] [] (by simp) (by simp) (by simp) (by simp) HO1 ?_;simp
   ·rintro m ⟨m1,m2,m3⟩;refine aw_then fun K2 hK2=>?_;apply aw_reg;intro K h;simp(disch:=omega);apply h;clear h K;refine aw_if rfl (fun hm=>?_) (fun hm=>?_)
    ·simp  at hm;have hat:=(dcAV_at L m hm).1;have hat1:=(dcAV_at L (m-1) (by omega)).1;have e6:((m:Int)-1)=((m-1:Nat):Int):=by omega
     have hm1:m-1<L.length:=by omega
     have hdup:=fun h=>adj_dup (L:=L) (i:=m) (by omega) hm h;have hadd:(L.getD (m-1) d0).id≠(L.getD m d0).id→∀j,0<j→j<m+1→j<L.length→(L.getD (j-1) d0).id≠(L.getD j d0).id:=fun h j h0 hj hjl=>by
      rcases Nat.lt_or_ge j m with h1|h1
      ·exact m3 j h0 h1 hjl
      ·have:j=m:=by omega
       subst this;exact h
     generalize (L.getD m d0).id=x at *;generalize (L.getD (m-1) d0).id=y at *;apply aw_skip;apply hK2;clear hK2;refine aw_then fun K3 hK3=>?_;apply aw_block
     by_cases hxy:y=x
     ·have b1:(y==x)=true:=by simpa using hxy
      refine aw_draw [] [] [] drawMixed (by kernel_rfl) (by kernel_rfl) fun K hK=>?_;simp(disch:=omega)[e6,hat,hat1,dcAV_len,hm,hm1,b1,hxy];apply hK;clear hK K;apply aw_ift rfl;apply aw_reg;intro K h;simp(disch:=omega);apply h;clear h K;apply aw_ret;simp(disch:=omega) ;rw[hFl.2 (hdup hxy)];exact⟨⟨_,rfl⟩,⟨[],by simp⟩,frz_none 10⟩
     ·have b1:(y==x)=false:=by simpa using hxy
      refine aw_draw [] [] [] drawMixed (by kernel_rfl) (by kernel_rfl) fun K hK=>?_;simp(disch:=omega)[e6,hat,hat1,dcAV_len,hm,hm1,b1,hxy];apply hK;clear hK K;apply aw_iff rfl;apply aw_skip;apply hK3;clear hK3;refine aw_reg0 fun K hK=>?_;simp(disch:=omega) ;apply hK;clear hK K;refine⟨m+1,⟨by show 1≤m+1;omega,by show m+1≤_;omega,hadd hxy⟩,by show L.length+1-(m+1)<L.length+1-m;omega,?_⟩;refine weak_to [] [] (by simp) (by simp) (by simp) (by simp) HO1 ?_;simp
    ·simp  at hm;have hlt:=adj_nodup hord fun j h0 hj=>m3 j h0 (by omega) hj;have hnd:=lt_nodup hlt;apply aw_exit;simp(disch:=omega) ;apply hK1;clear hK1;refine aw_weak ⟨[(0,.sl L.length (dcAV L) .none),(2,.ptr H.length 0)],H++[.cells [.sl 0 [] .full,.sl 0 [] .full,.sl 0 [] .full]],T⟩ (weak_to [] [] (by simp) (by simp) (by simp) (by simp) HO1 (by simp)) ?_;rw[hFl.1 hnd];exact buildR_main L (by omega) (fun d hd=>hs d (hsL d hd)) (fun d hd=>hval d (hsL d hd)) (by rw[flat_perm dkeys hperm];exact hdk hval) (by rw[flat_perm (fun d:Dc=>d.ns) hperm];exact hnt) H T HO1
end Go.Proofs.YtneohapkboaplaaGreat
