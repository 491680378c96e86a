/- The reference's test of documents (layer 37).
  Conditions: lengths that memory holds. -/
import Derived.Test.YtneohapkboaplaaGreatGTa
import Derived.Test.YtneohapkboaplaaGreatGRA
set_option linter.all false
set_option maxRecDepth 100000
namespace Go.Proofs.YtneohapkboaplaaGreat
open Go Go.Am Sug Seg
attribute [-simp] List.getD_eq_getElem?_getD in
theorem numLess_ok (x y:Nm)(H:List Blk)(T:Toks):ACall Tryz.prog 146 [.agg [.int .i64 x.1,.int .i64 x.2],.agg [.int .i64 y.1,.int .i64 y.2]] H T (Is (.bool (nmlt x y)) H T):=by
 refine ACall.drop' ?_ (by simp)
 generalize hq:nmlt x y=q
 unfold nmlt at hq
 obtain⟨x1,x2⟩:=x
 obtain⟨y1,y2⟩:=y
 simp only at hq
 refine acall_enter 5 [] Tryz.ntmps146 Tryz.func146 rfl (fun _ _=>Tryz.call146 _ _) (by simp) (fun HO=>?_)
 refine aw_reg fun K hK=>?_;simp(disch:=omega) ;refine hK _ ?_;clear hK K
 by_cases h1:x1<y1
 ·have b1:decide (x1<y1)=true:=decide_eq_true h1
  rw[b1] at hq
  refine aw_reg fun K hK=>?_;simp(disch:=omega)[b1,h1];refine hK _ ?_;clear hK K
  refine aw_ret ?_;simp(disch:=omega) 
  rw[←hq];rfl
 ·have b1:decide (x1<y1)=false:=decide_eq_false h1
  by_cases h2:x1=y1
  ·have b2:(x1==y1)=true:=by simpa using h2
   rw[b1,decide_eq_true h2,Bool.true_and,Bool.false_or] at hq
   refine aw_reg fun K hK=>?_;simp(disch:=omega)[b1,h1,b2,h2];refine hK _ ?_;clear hK K
   refine aw_ret ?_;simp(disch:=omega) 
   exact hq
  ·have b2:(x1==y1)=false:=by simpa using h2
   rw[b1,decide_eq_false h2,Bool.false_and,Bool.false_or] at hq
   refine aw_reg fun K hK=>?_;simp(disch:=omega)[b1,h1,b2,h2];refine hK _ ?_;clear hK K
   refine aw_ret ?_;simp(disch:=omega) 
   exact hq.symm
end Go.Proofs.YtneohapkboaplaaGreat
namespace Seg
theorem lastW_ge (ws:List Wd):∀k,(∀j,j<k→okWd ws j=true)→-1≤lastW ws k
 |0,_=>by simp[lastW]
 |k+1,h=>by
  have h1:=lastW_ge ws k fun j hj=>h j (by omega)
  have h2:=h k (by omega)
  unfold okWd at h2
  simp only[Bool.and_eq_true,decide_eq_true_eq] at h2
  have h3:=h2.2.1
  have h4:lastW ws (k+1)=(ws.getD k w0).2:=by simp[lastW]
  rw[h4];omega
theorem lastZ_ge (zs:List Zn):∀k,(∀j,j<k→okZn zs j=true)→0≤lastZ zs k
 |0,_=>by simp[lastZ]
 |k+1,h=>by
  have h1:=lastZ_ge zs k fun j hj=>h j (by omega)
  have h2:=h k (by omega)
  unfold okZn at h2
  simp only[Bool.and_eq_true,decide_eq_true_eq] at h2
  have h3:=h2.1.1
  have h4:lastZ zs (k+1)=(zs.getD k z0).f:=by simp[lastZ]
  rw[h4];omega
end Seg
namespace Go.Proofs.YtneohapkboaplaaGreat
open Go Go.Am Sug Seg
attribute [-simp] List.getD_eq_getElem?_getD in
set_option maxHeartbeats 4000000 in
theorem wds37_loop (id:Int)(zs:List Zn)(ns:List Nm)(f:Int)(ws:List Wd)(i:Nat)(hwl:ws.length≤maxLen)(hwt:∀w∈ws,w.1.length≤maxLen)(H:List Blk)(T:Toks)(HO2:HOk (H++[.cells (dcC ⟨id,zs,ns⟩),.cells (znC ⟨f,ws⟩)]) T)
  (Q:Exit→St→Prop) (bad:∀k,k<ws.length→okWd ws k=false→∀(e:Env)(rH:List Blk)(rT:Toks),eget e 2=.bool false→Q .ret ⟨e,H++rH,T++rT⟩)
  (go:(∀k,k<ws.length→okWd ws k=true)→∀e:Env,envLe (H.length+2) T.length e [(1,.ptr H.length 0),(3,.int .i64 (i:Nat))]→Q .normal ⟨e,H++[.cells (dcC ⟨id,zs,ns⟩),.cells (znC ⟨f,ws⟩)],T⟩) :
  AW ⟨Tryz.prog,146,9,H.length,T.length,[]⟩ (subC [1,0,1,0,0,1,0,0,1,1] (Tryz.f66.body.getD .skip)) Q ⟨[(1,.ptr H.length 0),(3,.int .i64 (i:Nat)),(4,.ptr (H.length+1) 0)],H++[.cells (dcC ⟨id,zs,ns⟩),.cells (znC ⟨f,ws⟩)],T⟩:=by
 conv=>arg 2;whnf
 have hml:maxLen≤9223372036854775807:=by decide
 have hwl':=Nat.le_trans hwl hml
 refine aw_reg fun K hK=>?_;simp(disch:=omega) ;refine hK _ ?_;clear hK K
 refine aw_block ?_
 refine aw_loop (X:=Nat) (fun k=>⟨[(1,.ptr H.length 0),(3,.int .i64 (i:Nat)),(4,.ptr (H.length+1) 0),(5,.int .i64 (k:Nat))],H++[.cells (dcC ⟨id,zs,ns⟩),.cells (znC ⟨f,ws⟩)],T⟩)
  (fun k=>k≤ws.length∧∀j,j<k→okWd ws j=true) (fun k=>ws.length-k) 0 ?_ ?_ ?_
 ·exact⟨Nat.zero_le _,fun j hj=>absurd hj (Nat.not_lt_zero _)⟩
 ·refine weak_to [] [] ?_ ?_ ?_ ?_ HO2 ?_
  all_goals simp
 ·rintro m ⟨m1,m2⟩
  refine aw_then fun K5 hK5=>?_
  refine aw_reg fun K hK=>?_;simp(disch:=omega) ;refine hK _ ?_;clear hK K
  refine aw_if rfl (fun hk2=>?_) (fun hk2=>?_)
  ·simp  at hk2
   have hcn:=wdAV_cut ws m hk2
   have hge:=lastW_ge ws m m2
   have eok2:okWd ws m=(okW (ws.getD m w0).1&&(decide (lastW ws m<(ws.getD m w0).2)&&decide ((ws.getD m w0).2≤1000000))):=rfl
   have hlast:0<m→lastW ws m=(ws.getD (m-1) w0).2:=fun h=>by unfold lastW;rw[if_neg (by omega)]
   have hlast0:m=0→lastW ws m=-1:=fun h=>by unfold lastW;rw[if_pos h]
   have hcp:=fun h=>(wdAV_at ws (m-1) h).2
   have hxl:=hwt _ (getD_mem ws m w0 hk2)
   generalize lastW ws m=la at *
   generalize (ws.getD (m-1) w0).2=py at *
   generalize hnn:ws.getD m w0=z at *
   obtain⟨x1,x2⟩:=z
   simp only at hcn hcp eok2 hxl
   refine aw_skip ?_;simp(disch:=omega) 
   refine hK5 _ ?_;clear hK5
   refine aw_then fun K6 hK6=>?_
   refine aw_block ?_
   refine aw_reg fun K hK=>?_;simp(disch:=omega)[hcn,wdAV_len];refine hK _ ?_;clear hK K
   have HO3:HOk (H++[.cells (dcC ⟨id,zs,ns⟩),.cells (znC ⟨f,ws⟩),.cells [.str x1,.int .i64 x2]]) T:=by
    have:=HOk.snoc (vs:=[.str x1,.int .i64 x2]) HO2 (by simp)
    simpa using this
   have cw:=wordR_ok x1 hxl (H++[.cells (dcC ⟨id,zs,ns⟩),.cells (znC ⟨f,ws⟩),.cells [.str x1,.int .i64 x2]]) T
   refine aw_draw [] [] [] drawMixed (by kernel_rfl) (by kernel_rfl) fun K hK=>?_
   have key2:∀e b,b=okWd ws m→envLe (H.length+3) T.length e [(1,.ptr H.length 0),(3,.int .i64 (i:Nat)),(4,.ptr (H.length+1) 0),(5,.int .i64 (m:Nat)),(92,.bool (!b))]→K ⟨e,H++[.cells (dcC ⟨id,zs,ns⟩),.cells (znC ⟨f,ws⟩),.cells [.str x1,.int .i64 x2]],T⟩:=by
    intro e b2 hb2 he2
    refine hK _ (aw_weak ⟨[(1,.ptr H.length 0),(3,.int .i64 (i:Nat)),(4,.ptr (H.length+1) 0),(5,.int .i64 (m:Nat)),(92,.bool (!b2))],H++[.cells (dcC ⟨id,zs,ns⟩),.cells (znC ⟨f,ws⟩)],T⟩ (weak_to [.cells [.str x1,.int .i64 x2]] [] (by simp) (by simp) (by simp) (by simp) HO2 (by simpa using he2)) ?_)
    cases b2 with
    |false=>
     refine aw_ift rfl ?_
     refine aw_reg fun K hK=>?_;simp(disch:=omega) ;refine hK _ ?_;clear hK K
     refine aw_ret ?_
     rw[←List.append_nil T]
     exact bad m hk2 hb2.symm _ _ _ rfl
    |true=>
     refine aw_iff rfl ?_
     refine aw_skip ?_;simp(disch:=omega) 
     refine hK6 _ ?_;clear hK6
     refine aw_reg0 fun K hK=>?_;simp(disch:=omega) 
     refine hK _ ?_;clear hK K
     refine⟨m+1,⟨by show m+1≤_;omega,fun j hj=>?_⟩,by show ws.length-(m+1)<ws.length-m;omega,?_⟩
     ·rcases Nat.lt_or_ge j m with h|h
      ·exact m2 j h
      ·have:j=m:=by omega
       subst this;exact hb2.symm
     ·refine weak_to [] [] ?_ ?_ ?_ ?_ HO2 ?_
      all_goals simp
   clear hK
   cases hw:okW x1 with
   |false=>
    rw[hw] at cw eok2
    simp(disch:=omega) 
    refine dcall_is (cw) rfl ?_;simp(disch:=omega) 
    refine key2 _ false (by rw[eok2];rfl) (by simp)
   |true=>
   rw[hw] at cw eok2
   rw[Bool.true_and] at eok2
   by_cases v3:x2<0
   ·have w3:decide (x2<0)=true:=decide_eq_true v3
    simp(disch:=omega) 
    refine dcall_is (cw) rfl ?_;simp(disch:=omega)[w3,v3]
    refine key2 _ false (by rw[eok2,decide_eq_false (by omega:¬la<x2)];rfl) (by simp)
   have w3:decide (x2<0)=false:=decide_eq_false v3
   by_cases v4:1000000<x2
   ·have w4:decide (1000000<x2)=true:=decide_eq_true v4
    simp(disch:=omega) 
    refine dcall_is (cw) rfl ?_;simp(disch:=omega)[w3,v3,w4,v4]
    refine key2 _ false (by rw[eok2,decide_eq_false (by omega:¬x2≤1000000)];simp) (by simp)
   have w4:decide (1000000<x2)=false:=decide_eq_false v4
   rw[decide_eq_true (by omega:x2≤1000000),Bool.and_true] at eok2
   rcases Nat.eq_zero_or_pos m with h5|h5
   ·have hl0:=hlast0 h5
    subst h5
    simp(disch:=omega) 
    refine dcall_is (cw) rfl ?_;simp(disch:=omega)[w3,v3,w4,v4]
    refine key2 _ true (by rw[eok2,decide_eq_true (by omega:la<x2)]) (by simp)
   ·have e6:((m:Int)-1)=((m-1:Nat):Int):=by omega
    have b5:decide ((0:Int)<(m:Int))=true:=decide_eq_true (by omega)
    have hcp':=hcp (by omega)
    have hl0:=hlast h5
    by_cases v5:x2≤py
    ·have w5:decide (x2≤py)=true:=decide_eq_true v5
     simp(disch:=omega) 
     refine dcall_is (cw) rfl ?_;simp(disch:=omega)[w3,v3,w4,v4,b5,h5,e6,hcp',wdAV_len,w5,v5]
     refine key2 _ false (by rw[eok2,decide_eq_false (by omega:¬la<x2)]) (by simp)
    ·have w5:decide (x2≤py)=false:=decide_eq_false v5
     simp(disch:=omega) 
     refine dcall_is (cw) rfl ?_;simp(disch:=omega)[w3,v3,w4,v4,b5,h5,e6,hcp',wdAV_len,w5,v5]
     refine key2 _ true (by rw[eok2,decide_eq_true (by omega:la<x2)]) (by simp)
  ·simp  at hk2
   refine aw_exit ?_;simp(disch:=omega) 
   exact go (fun k h=>m2 k (by omega)) _ (by simp)
attribute [-simp] List.getD_eq_getElem?_getD in
set_option maxHeartbeats 4000000 in
theorem nms37_tail (d:Dc)(hs:SzD d)(hz:∀i,i<d.zs.length→okZn d.zs i=true)(H:List Blk)(T:Toks)(HO:HOk (H++[.cells (dcC d)]) T) :
  AW ⟨Tryz.prog,146,9,H.length,T.length,[]⟩ (subC [1,1] (Tryz.f66.body.getD .skip)) (RetQ Tryz.prog Tryz.f66.results.toList fun r H' T'=>(∃rH,H'=H++rH)∧(∃rT,T'=T++rT)∧(r=.bool (validD d)∨untag r=.bool (validD d))) ⟨[(1,.ptr H.length 0)],H++[.cells (dcC d)],T⟩:=by
 conv=>arg 2;whnf
 have hml:maxLen≤9223372036854775807:=by decide
 have badn:=fun i h=>validD_n (d:=d) (i:=i) h
 have badi:=validD_id (d:=d)
 have good:=fun h1 h3=>validD_good (d:=d) h1 hz h3
 obtain⟨id,zs,ns⟩:=d
 obtain⟨_,_,hn⟩:=hs
 simp only at hn badn badi good
 have hn':=Nat.le_trans hn hml
 generalize hq:validD ⟨id,zs,ns⟩=q at *
 refine aw_then fun K1 hK1=>?_
 refine aw_reg fun K hK=>?_;simp(disch:=omega) ;refine hK _ ?_;clear hK K
 refine aw_block ?_
 refine aw_loop (X:=Nat) (fun i=>⟨[(1,.ptr H.length 0),(7,.int .i64 (i:Nat))],H++[.cells (dcC ⟨id,zs,ns⟩)],T⟩)
  (fun i=>i≤ns.length∧∀j,j<i→okNm ns j=true) (fun i=>ns.length-i) 0 ?_ ?_ ?_
 ·exact⟨Nat.zero_le _,fun j hj=>absurd hj (Nat.not_lt_zero _)⟩
 ·refine weak_to [] [] ?_ ?_ ?_ ?_ HO ?_
  all_goals simp
 ·rintro m ⟨m1,m2⟩
  refine aw_then fun K5 hK5=>?_
  refine aw_reg fun K hK=>?_;simp(disch:=omega) ;refine hK _ ?_;clear hK K
  refine aw_if rfl (fun hk2=>?_) (fun hk2=>?_)
  ·simp  at hk2
   have hcn:=nmAV_cut ns m hk2
   have eok2:okNm ns m=(okNv (ns.getD m n0)&&(decide (m=0)||nmlt (ns.getD (m-1) n0) (ns.getD m n0))):=rfl
   have cn:=fun H T=>numLess_ok (ns.getD (m-1) n0) (ns.getD m n0) H T
   replace badn:=badn m hk2
   generalize nmlt (ns.getD (m-1) n0) (ns.getD m n0)=cq at *
   have hcp:=fun h=>nmAV_cut ns (m-1) h
   generalize ns.getD (m-1) n0=y at *
   generalize hnn:ns.getD m n0=z at *
   obtain⟨x1,x2⟩:=z
   obtain⟨y1,y2⟩:=y
   simp only at hcn hcp eok2
   unfold okNv at eok2
   simp only at eok2
   refine aw_skip ?_;simp(disch:=omega) 
   refine hK5 _ ?_;clear hK5
   refine aw_then fun K6 hK6=>?_
   refine aw_block ?_
   refine aw_reg fun K hK=>?_;simp(disch:=omega)[hcn,nmAV_len];refine hK _ ?_;clear hK K
   have c:=cn (H++[.cells (dcC ⟨id,zs,ns⟩),.cells [.int .i64 x1,.int .i64 x2]]) T
   refine aw_draw [] [] [] drawMixed (by kernel_rfl) (by kernel_rfl) fun K hK=>?_
   have key2:∀e b,b=okNm ns m→envLe (H.length+2) T.length e [(1,.ptr H.length 0),(7,.int .i64 (m:Nat)),(137,.bool (!b))]→K ⟨e,H++[.cells (dcC ⟨id,zs,ns⟩),.cells [.int .i64 x1,.int .i64 x2]],T⟩:=by
    intro e b2 hb2 he2
    refine hK _ (aw_weak ⟨[(1,.ptr H.length 0),(7,.int .i64 (m:Nat)),(137,.bool (!b2))],H++[.cells (dcC ⟨id,zs,ns⟩)],T⟩ (weak_to [.cells [.int .i64 x1,.int .i64 x2]] [] (by simp) (by simp) (by simp) (by simp) HO (by simpa using he2)) ?_)
    cases b2 with
    |false=>
     refine aw_ift rfl ?_
     refine aw_reg fun K hK=>?_;simp(disch:=omega) ;refine hK _ ?_;clear hK K
     refine aw_ret ?_;simp(disch:=omega) 
     exact badn hb2.symm
    |true=>
     refine aw_iff rfl ?_
     refine aw_skip ?_;simp(disch:=omega) 
     refine hK6 _ ?_;clear hK6
     refine aw_reg0 fun K hK=>?_;simp(disch:=omega) 
     refine hK _ ?_;clear hK K
     refine⟨m+1,⟨by show m+1≤_;omega,fun j hj=>?_⟩,by show ns.length-(m+1)<ns.length-m;omega,?_⟩
     ·rcases Nat.lt_or_ge j m with h|h
      ·exact m2 j h
      ·have:j=m:=by omega
       subst this;exact hb2.symm
     ·refine weak_to [] [] ?_ ?_ ?_ ?_ HO ?_
      all_goals simp
   clear hK
   by_cases v1:x1<5
   ·have w1:decide (x1<5)=true:=decide_eq_true v1
    simp(disch:=omega)[w1,v1]
    refine key2 _ false (by rw[eok2,decide_eq_false (by omega:¬(5≤x1∧x1≤7))];rfl) (by simp)
   have w1:decide (x1<5)=false:=decide_eq_false v1
   by_cases v2:7<x1
   ·have w2:decide (7<x1)=true:=decide_eq_true v2
    simp(disch:=omega)[w1,v1,w2,v2]
    refine key2 _ false (by rw[eok2,decide_eq_false (by omega:¬(5≤x1∧x1≤7))];rfl) (by simp)
   have w2:decide (7<x1)=false:=decide_eq_false v2
   rw[decide_eq_true (by omega:5≤x1∧x1≤7),Bool.true_and] at eok2
   by_cases v3:x2<0
   ·have w3:decide (x2<0)=true:=decide_eq_true v3
    simp(disch:=omega)[w1,v1,w2,v2,w3,v3]
    refine key2 _ false (by rw[eok2,decide_eq_false (by omega:¬(0≤x2∧x2≤1000000000000))];rfl) (by simp)
   have w3:decide (x2<0)=false:=decide_eq_false v3
   by_cases v4:1000000000000<x2
   ·have w4:decide (1000000000000<x2)=true:=decide_eq_true v4
    simp(disch:=omega)[w1,v1,w2,v2,w3,v3,w4,v4]
    refine key2 _ false (by rw[eok2,decide_eq_false (by omega:¬(0≤x2∧x2≤1000000000000))];rfl) (by simp)
   have w4:decide (1000000000000<x2)=false:=decide_eq_false v4
   rw[decide_eq_true (by omega:0≤x2∧x2≤1000000000000),Bool.true_and] at eok2
   rcases Nat.eq_zero_or_pos m with h5|h5
   ·subst h5
    simp(disch:=omega)[w1,v1,w2,v2,w3,v3,w4,v4]
    refine key2 _ true (by rw[eok2];rfl) (by simp)
   ·have e6:((m:Int)-1)=((m-1:Nat):Int):=by omega
    have b5:decide ((0:Int)<(m:Int))=true:=decide_eq_true (by omega)
    have hcp':=hcp (by omega)
    rw[decide_eq_false (by omega:¬m=0),Bool.false_or] at eok2
    simp(disch:=omega)[w1,v1,w2,v2,w3,v3,w4,v4,b5,h5,e6,hcp',nmAV_len]
    refine dcall_is (c) rfl ?_;simp(disch:=omega) 
    refine key2 _ cq eok2.symm (by simp)
  ·simp  at hk2
   refine aw_exit ?_;simp(disch:=omega) 
   refine hK1 _ ?_;clear hK1
   by_cases h1:1≤id
   ·have b1:decide (1≤id)=true:=decide_eq_true h1
    by_cases h2:id≤1000000000
    ·have b2:decide (id≤1000000000)=true:=decide_eq_true h2
     refine aw_reg fun K hK=>?_;simp(disch:=omega)[b1,h1,b2,h2];refine hK _ ?_;clear hK K
     refine aw_ret ?_;simp(disch:=omega) 
     exact good ⟨h1,h2⟩ (fun j hj=>m2 j (by omega))
    ·have b2:decide (id≤1000000000)=false:=decide_eq_false h2
     refine aw_reg fun K hK=>?_;simp(disch:=omega)[b1,h1,b2,h2];refine hK _ ?_;clear hK K
     refine aw_ret ?_;simp(disch:=omega) 
     exact badi (by omega)
   ·have b1:decide (1≤id)=false:=decide_eq_false h1
    refine aw_reg fun K hK=>?_;simp(disch:=omega)[b1,h1];refine hK _ ?_;clear hK K
    refine aw_ret ?_;simp(disch:=omega) 
    exact badi (by omega)
attribute [-simp] List.getD_eq_getElem?_getD in
set_option maxHeartbeats 4000000 in
theorem valid37R_ok (d:Dc)(hs:SzD d)(H:List Blk)(T:Toks):ACall Tryz.prog 66 [.agg (dcC d)] H T (Is (.bool (validD d)) H T):=by
 refine ACall.drop' ?_ (by simp)
 have hml:maxLen≤9223372036854775807:=by decide
 have badz:=fun i h=>validD_z (d:=d) (i:=i) h
 have tail:=fun hz=>nms37_tail d hs hz H T
 obtain⟨id,zs,ns⟩:=d
 obtain⟨hz,hw,hn⟩:=hs
 simp only at hz hw hn badz tail
 have hz':=Nat.le_trans hz hml
 generalize hq:validD ⟨id,zs,ns⟩=q at *
 refine acall_enter 9 [] Tryz.ntmps66 Tryz.func66 rfl (fun _ _=>Tryz.call66 _ _) (by simp) (fun HO=>?_)
 refine aw_reg fun K hK=>?_;simp(disch:=omega) ;refine hK _ ?_;clear hK K
 have HO1:HOk (H++[.cells (dcC ⟨id,zs,ns⟩)]) T:=HO.snoc (by simp)
 replace tail:=fun hz=>tail hz HO1
 refine aw_then fun K1 hK1=>?_
 refine aw_reg fun K hK=>?_;simp(disch:=omega) ;refine hK _ ?_;clear hK K
 refine aw_block ?_
 refine aw_loop (X:=Nat) (fun i=>⟨[(1,.ptr H.length 0),(3,.int .i64 (i:Nat))],H++[.cells (dcC ⟨id,zs,ns⟩)],T⟩)
  (fun i=>i≤zs.length∧∀j,j<i→okZn zs j=true) (fun i=>zs.length-i) 0 ?_ ?_ ?_
 ·exact⟨Nat.zero_le _,fun j hj=>absurd hj (Nat.not_lt_zero _)⟩
 ·refine weak_to [] [] ?_ ?_ ?_ ?_ HO1 ?_
  all_goals simp
 ·rintro i ⟨g1,g2⟩
  refine aw_then fun K2 hK2=>?_
  refine aw_reg fun K hK=>?_;simp(disch:=omega) ;refine hK _ ?_;clear hK K
  refine aw_if rfl (fun hk=>?_) (fun hk=>?_)
  ·simp  at hk
   have hcut:=znAV_cut zs i hk
   obtain⟨hwl,hwt⟩:=hw _ (getD_mem zs i z0 hk)
   have hge:=lastZ_ge zs i g2
   have ebad:=okZn_bad (zs:=zs) (i:=i)
   have ewd:=fun k=>okZn_w (zs:=zs) (i:=i) (k:=k)
   have egood:=okZn_good (zs:=zs) (i:=i)
   replace badz:=badz i hk
   have hlast:0<i→lastZ zs i=(zs.getD (i-1) z0).f:=fun h=>by unfold lastZ;rw[if_neg (by omega)]
   have hlast0:i=0→lastZ zs i=0:=fun h=>by unfold lastZ;rw[if_pos h]
   have hat:=fun h=>(znAV_at zs (i-1) h).1
   generalize lastZ zs i=la at *
   generalize (zs.getD (i-1) z0).f=fp at *
   generalize zs.getD i z0=z at *
   obtain⟨f,ws⟩:=z
   simp only at hcut hwl hwt ebad ewd egood
   have hwl':=Nat.le_trans hwl hml
   refine aw_skip ?_;simp(disch:=omega) 
   refine hK2 _ ?_;clear hK2
   refine aw_then fun K3 hK3=>?_
   refine aw_block ?_
   refine aw_reg fun K hK=>?_;simp(disch:=omega)[hcut,znAV_len];refine hK _ ?_;clear hK K
   have HO2:HOk (H++[.cells (dcC ⟨id,zs,ns⟩),.cells (znC ⟨f,ws⟩)]) T:=by
    have:=HOk.snoc (vs:=znC ⟨f,ws⟩) HO1 (by simp)
    simpa using this
   refine aw_then fun K4 hK4=>?_
   refine aw_draw [] [] [] drawMixed (by kernel_rfl) (by kernel_rfl) fun K hK=>?_
   have key:∀e b,(b=true→la<f∧f≤4∧ws.length≠0)→(b=false→okZn zs i=false)→envLe (H.length+2) T.length e [(1,.ptr H.length 0),(3,.int .i64 (i:Nat)),(4,.ptr (H.length+1) 0),(50,.bool (!b))]→K ⟨e,H++[.cells (dcC ⟨id,zs,ns⟩),.cells (znC ⟨f,ws⟩)],T⟩:=by
    intro e b hb hb' he
    refine hK _ (aw_weak ⟨[(1,.ptr H.length 0),(3,.int .i64 (i:Nat)),(4,.ptr (H.length+1) 0),(50,.bool (!b))],H++[.cells (dcC ⟨id,zs,ns⟩),.cells (znC ⟨f,ws⟩)],T⟩ (weak_to [] [] (by simp) (by simp) (by simp) (by simp) HO2 (by simpa using he)) ?_)
    cases b with
    |false=>
     refine aw_ift rfl ?_
     refine aw_reg fun K hK=>?_;simp(disch:=omega) ;refine hK _ ?_;clear hK K
     refine aw_ret ?_;simp(disch:=omega) 
     exact badz (hb' rfl)
    |true=>
    obtain⟨b1,b2,b3⟩:=hb rfl
    refine aw_iff rfl ?_
    refine aw_skip ?_;simp(disch:=omega) 
    refine hK4 _ ?_;clear hK4
    refine aw_weak ⟨[(1,.ptr H.length 0),(3,.int .i64 (i:Nat)),(4,.ptr (H.length+1) 0)],H++[.cells (dcC ⟨id,zs,ns⟩),.cells (znC ⟨f,ws⟩)],T⟩ (weak_to [] [] (by simp) (by simp) (by simp) (by simp) HO2 (by simp)) ?_
    refine wds37_loop id zs ns f ws i hwl hwt H T HO2 _ (fun k hk3 hb3 e rH rT he=>?_) fun hg e he=>?_
    ·show RetQ Tryz.prog Tryz.f66.results.toList (fun r H' T'=>(∃rH,H'=H++rH)∧(∃rT,T'=T++rT)∧(r=.bool q∨untag r=.bool q)) .ret _
     simp[he,badz (ewd k hk3 hb3)]
    ·refine hK3 _ (aw_weak ⟨[(1,.ptr H.length 0),(3,.int .i64 (i:Nat))],H++[.cells (dcC ⟨id,zs,ns⟩)],T⟩ (weak_to [.cells (znC ⟨f,ws⟩)] [] (by simp) (by simp) (by simp) (by simp) HO1 (by simpa using he)) ?_)
     refine aw_reg0 fun K hK=>?_;simp(disch:=omega) 
     refine hK _ ?_;clear hK K
     refine⟨i+1,⟨by show i+1≤_;omega,fun j hj=>?_⟩,by show zs.length-(i+1)<zs.length-i;omega,?_⟩
     ·rcases Nat.lt_or_ge j i with h|h
      ·exact g2 j h
      ·have:j=i:=by omega
       subst this
       exact egood b1 b2 b3 hg
     ·refine weak_to [] [] ?_ ?_ ?_ ?_ HO1 ?_
      all_goals simp
   clear hK
   by_cases v1:f<1
   ·have w1:decide (f<1)=true:=decide_eq_true v1
    simp(disch:=omega)[w1,v1]
    refine key _ false (fun h=>by cases h) (fun _=>ebad (by omega)) (by simp)
   have w1:decide (f<1)=false:=decide_eq_false v1
   by_cases v2:4<f
   ·have w2:decide (4<f)=true:=decide_eq_true v2
    simp(disch:=omega)[w1,v1,w2,v2]
    refine key _ false (fun h=>by cases h) (fun _=>ebad (by omega)) (by simp)
   have w2:decide (4<f)=false:=decide_eq_false v2
   by_cases v3:ws.length=0
   ·have e3:ws=[]:=List.length_eq_zero_iff.1 v3
    subst e3
    rcases Nat.eq_zero_or_pos i with h5|h5
    ·subst h5
     simp(disch:=omega)[w1,v1,w2,v2]
     refine key _ false (fun h=>by cases h) (fun _=>ebad (by simp)) (by simp)
    ·have e6:((i:Int)-1)=((i-1:Nat):Int):=by omega
     have b5:decide ((0:Int)<(i:Int))=true:=decide_eq_true (by omega)
     have hat':=hat (by omega)
     by_cases v4:f≤fp
     ·have w4:decide (f≤fp)=true:=decide_eq_true v4
      simp(disch:=omega)[w1,v1,w2,v2,b5,h5,e6,hat',znAV_len,w4,v4]
      refine key _ false (fun h=>by cases h) (fun _=>ebad (by simp)) (by simp)
     ·have w4:decide (f≤fp)=false:=decide_eq_false v4
      simp(disch:=omega)[w1,v1,w2,v2,b5,h5,e6,hat',znAV_len,w4,v4]
      refine key _ false (fun h=>by cases h) (fun _=>ebad (by simp)) (by simp)
   have w3:((ws.length:Int)==0)=false:=beq_eq_false_iff_ne.2 (by omega)
   have n3:ws≠[]:=fun e=>v3 (by rw[e];rfl)
   rcases Nat.eq_zero_or_pos i with h5|h5
   ·have hl0:=hlast0 h5
    subst h5
    simp(disch:=omega)[w1,v1,w2,v2,w3,n3]
    refine key _ true (fun _=>⟨by omega,by omega,v3⟩) (fun h=>by cases h) (by simp)
   ·have e6:((i:Int)-1)=((i-1:Nat):Int):=by omega
    have b5:decide ((0:Int)<(i:Int))=true:=decide_eq_true (by omega)
    have hat':=hat (by omega)
    have hl0:=hlast h5
    by_cases v4:f≤fp
    ·have w4:decide (f≤fp)=true:=decide_eq_true v4
     simp(disch:=omega)[w1,v1,w2,v2,w3,n3,b5,h5,e6,hat',znAV_len,w4,v4]
     refine key _ false (fun h=>by cases h) (fun _=>ebad (by omega)) (by simp)
    ·have w4:decide (f≤fp)=false:=decide_eq_false v4
     simp(disch:=omega)[w1,v1,w2,v2,w3,n3,b5,h5,e6,hat',znAV_len,w4,v4]
     refine key _ true (fun _=>⟨by omega,by omega,v3⟩) (fun h=>by cases h) (by simp)
  ·simp  at hk
   refine aw_exit ?_;simp(disch:=omega) 
   refine hK1 _ ?_;clear hK1
   refine aw_weak ⟨[(1,.ptr H.length 0)],H++[.cells (dcC ⟨id,zs,ns⟩)],T⟩ (weak_to [] [] (by simp) (by simp) (by simp) (by simp) HO1 (by simp)) ?_
   exact tail fun j hj=>g2 j (by omega)
end Go.Proofs.YtneohapkboaplaaGreat
