/- Small documents (layers 37, 39): the reference's Small and Few.
  Conditions: lengths that memory holds. -/
import Derived.Test.YtneohapkboaplaaGreatGBC
set_option linter.all false
set_option maxRecDepth 100000
namespace Go.Proofs.YtneohapkboaplaaGreat
open Go Go.Am Sug Seg
def wsI (zs:List Zn):Int:=zs.foldl (fun n z=>IntKind.i64.wrap (n+IntKind.i64.wrap (1+(z.ws.length:Int)))) 0
def smR (d:Dc):Bool:=decide (wsI d.zs≤60)&&decide (d.ns.length≤20)
def fewR (l:List Dc):Bool:=(List.range l.length).all (fun i=>smR (l.getD i d0))&&decide (l.length≤8)
theorem wsI_take (zs:List Zn)(k:Nat)(h:k<zs.length):wsI (zs.take (k+1))=IntKind.i64.wrap (wsI (zs.take k)+IntKind.i64.wrap (1+((zs.getD k z0).ws.length:Int))):=by
 unfold wsI;rw[take_getD zs k z0 h,List.foldl_append];rfl
attribute [-simp] List.getD_eq_getElem?_getD in
set_option maxHeartbeats 4000000 in
theorem smR_ok (d:Dc)(hs:SzD d)(H:List Blk)(T:Toks):ACall Tryz.prog 54 [.agg (dcC d)] H T (Is (.bool (smR d)) H T):=by
 refine ACall.drop' ?_ (by simp);have hml:maxLen≤9223372036854775807:=by decide
 obtain⟨id,zs,ns⟩:=d;obtain⟨hz,hw,hn⟩:=hs;simp only at hz hw hn ⊢;have hz':=Nat.le_trans hz hml;have hn':=Nat.le_trans hn hml;generalize hq:smR ⟨id,zs,ns⟩=q;unfold smR at hq;simp only at hq;refine acall_enter 6 [] Tryz.ntmps54 Tryz.func54 rfl (fun _ _=>Tryz.call54 _ _) (by simp) (fun HO=>?_);apply aw_reg;intro K h;simp(disch:=omega);apply h;clear h K;have HO1:HOk (H++[.cells (dcC ⟨id,zs,ns⟩)]) T:=HO.snoc (by simp);apply aw_reg;intro K h;simp(disch:=omega);apply h;clear h K;refine aw_then fun K1 hK1=>?_;apply aw_reg;intro K h;simp(disch:=omega);apply h;clear h K;apply aw_block;refine aw_loop (X:=Nat) (fun i=>⟨[(1,.ptr H.length 0),(3,.int .i64 (wsI (zs.take i))),(4,.int .i64 (i:Nat))],H++[.cells (dcC ⟨id,zs,ns⟩)],T⟩)
  (fun i=>i≤zs.length) (fun i=>zs.length-i) 0 ?_ ?_ ?_
 ·exact Nat.zero_le _
 ·refine weak_to [] [] ?_ ?_ ?_ ?_ HO1 ?_
  all_goals simp[wsI]
 ·intro i g1;refine aw_then fun K2 hK2=>?_;apply aw_reg;intro K h;simp(disch:=omega);apply h;clear h K;refine aw_if rfl (fun hk=>?_) (fun hk=>?_)
  ·simp  at hk;obtain⟨_,a2⟩:=znAV_at zs i hk;have hwl:=Nat.le_trans (hw _ (getD_mem zs i z0 hk)).1 hml;have htk:=wsI_take zs i hk;generalize (zs.getD i z0).ws=ws at *;generalize wsI (zs.take i)=n at *;apply aw_skip;simp(disch:=omega) ;apply hK2;clear hK2;refine aw_then fun K3 hK3=>?_;apply aw_block;refine aw_reg0 fun K hK=>?_;simp(disch:=omega)[a2,znAV_len,hk];apply hK;clear hK K;apply hK3;clear hK3;refine aw_reg0 fun K hK=>?_;simp(disch:=omega) ;apply hK;clear hK K;refine⟨i+1,by show i+1≤_;omega,by show zs.length-(i+1)<zs.length-i;omega,?_⟩;refine weak_to [] [] ?_ ?_ ?_ ?_ HO1 ?_
   all_goals simp[htk]
  ·simp  at hk;have hie:i=zs.length:=by omega
   subst hie;rw[List.take_length];apply aw_exit;simp(disch:=omega) ;apply hK1;clear hK1;generalize wsI zs=n at *
   by_cases h1:n≤60
   ·have b1:decide (n≤60)=true:=decide_eq_true h1
    by_cases h2:ns.length≤20
    ·have b2:decide ((ns.length:Int)≤20)=true:=decide_eq_true (by omega);refine aw_reg fun K hK=>?_;simp(disch:=omega)[b1,h1,b2,h2];apply hK;clear hK K;apply aw_ret;simp(disch:=omega) ;rw[←hq,b1,decide_eq_true h2];rfl
    ·have b2:decide ((ns.length:Int)≤20)=false:=decide_eq_false (by omega);refine aw_reg fun K hK=>?_;simp(disch:=omega)[b1,h1,b2,h2];apply hK;clear hK K;apply aw_ret;simp(disch:=omega) ;rw[←hq,b1,decide_eq_false h2];rfl
   ·have b1:decide (n≤60)=false:=decide_eq_false h1;refine aw_reg fun K hK=>?_;simp(disch:=omega)[b1,h1];apply hK;clear hK K;apply aw_ret;simp(disch:=omega) ;rw[←hq,b1];rfl
attribute [-simp] List.getD_eq_getElem?_getD in
set_option maxHeartbeats 4000000 in
theorem fewR_ok (l:List Dc)(hl:l.length≤maxLen)(hs:∀d∈l,SzD d)(H:List Blk)(T:Toks)(tg:Tag):ACall Tryz.prog 12 [.sl l.length (dcAV l) tg] H T (Is (.bool (fewR l)) H T):=by
 refine ACall.untag1 ?_;have hml:maxLen≤9223372036854775807:=by decide
 have hl':=Nat.le_trans hl hml;have bad:∀i,i<l.length→smR (l.getD i d0)=false→fewR l=false:=fun i hi h=>by unfold fewR;rw[all_bad hi h];rfl
 have good:(∀i,i<l.length→smR (l.getD i d0)=true)→fewR l=decide (l.length≤8):=fun h=>by unfold fewR;rw[all_good h];rfl
 refine acall_enter 4 [] Tryz.ntmps12 Tryz.func12 rfl (fun _ _=>Tryz.call12 _ _) (by simp) (fun HO=>?_);apply aw_reg;intro K h;simp(disch:=omega);apply h;clear h K;refine aw_then fun K1 hK1=>?_;apply aw_reg;intro K h;simp(disch:=omega);apply h;clear h K;apply aw_block;refine aw_loop (X:=Nat) (fun i=>⟨[(0,.sl l.length (dcAV l) .none),(3,.int .i64 (i:Nat))],H,T⟩)
  (fun i=>i≤l.length∧∀j,j<i→smR (l.getD j d0)=true) (fun i=>l.length-i) 0 ?_ ?_ ?_
 ·exact⟨Nat.zero_le _,fun j hj=>absurd hj (Nat.not_lt_zero _)⟩
 ·refine weak_to [] [] ?_ ?_ ?_ ?_ HO ?_
  all_goals simp
 ·rintro i ⟨g1,g2⟩;refine aw_then fun K2 hK2=>?_;apply aw_reg;intro K h;simp(disch:=omega);apply h;clear h K;refine aw_if rfl (fun hk=>?_) (fun hk=>?_)
  ·simp  at hk;have hcut:=dcAV_cut l i hk;have c:=smR_ok (l.getD i d0) (hs _ (getD_mem l i d0 hk)) H T;replace bad:=bad i hk;have hadd:smR (l.getD i d0)=true→∀j,j<i+1→smR (l.getD j d0)=true:=fun h j hj=>by
    rcases Nat.lt_or_ge j i with h1|h1
    ·exact g2 j h1
    ·have:j=i:=by omega
     subst this;exact h
   generalize smR (l.getD i d0)=b at *;apply aw_skip;simp(disch:=omega) ;apply hK2;clear hK2;refine aw_then fun K3 hK3=>?_;apply aw_block
   cases b with
   |false=>
    refine aw_reg fun K hK=>?_;simp(disch:=omega)[hcut,dcAV_len,hk];refine acall_is (c) ?_;simp(disch:=omega) ;apply hK;clear hK K;apply aw_ift rfl;apply aw_reg;intro K h;simp(disch:=omega);apply h;clear h K;apply aw_ret;simp(disch:=omega) ;rw[bad rfl];exact⟨rfl,rfl,rfl⟩
   |true=>
    refine aw_reg fun K hK=>?_;simp(disch:=omega)[hcut,dcAV_len,hk];refine acall_is (c) ?_;simp(disch:=omega) ;apply hK;clear hK K;apply aw_iff rfl;apply aw_skip;simp(disch:=omega) ;apply hK3;clear hK3;refine aw_reg0 fun K hK=>?_;simp(disch:=omega) ;apply hK;clear hK K;refine⟨i+1,⟨by show i+1≤_;omega,hadd rfl⟩,by show l.length-(i+1)<l.length-i;omega,?_⟩;refine weak_to [] [] ?_ ?_ ?_ ?_ HO ?_
    all_goals simp
  ·simp  at hk;apply aw_exit;simp(disch:=omega) ;apply hK1;clear hK1;rw[good fun j hj=>g2 j (by omega)]
   by_cases h8:l.length≤8
   ·have b8:decide ((l.length:Int)≤8)=true:=decide_eq_true (by omega);refine aw_reg fun K hK=>?_;simp(disch:=omega)[b8,h8];apply hK;clear hK K;apply aw_ret;simp(disch:=omega) ;exact⟨by rw[decide_eq_true h8],rfl,rfl⟩
   ·have b8:decide ((l.length:Int)≤8)=false:=decide_eq_false (by omega);refine aw_reg fun K hK=>?_;simp(disch:=omega)[b8,h8];apply hK;clear hK K;apply aw_ret;simp(disch:=omega) ;exact⟨by rw[decide_eq_false h8],rfl,rfl⟩
end Go.Proofs.YtneohapkboaplaaGreat
