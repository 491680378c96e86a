/- What the law's bookplatelaw39.Own returns (layer 39): the segment.
  Conditions: as the theorems say. -/
import Derived.Test.YtoejlmpbebjemaaGreatGV
import Derived.Test.YtoejlmpbebjemaaGreatGBC
set_option linter.all false
set_option maxRecDepth 100000
set_option maxHeartbeats 16000000
namespace Go.Proofs.YtoejlmpbebjemaaGreat
open Go Go.Am Sug Seg Post
abbrev coC (x:Cl×Nat):List AV:=[.int .i64 x.1.f,.sl x.1.x.length (nmAV x.1.x) (.own x.2)]
def coAV (l:List (Cl×Nat)):List AV:=l.flatMap coC
theorem co_rows:CellsK coC 2:=fun _=>rfl
theorem coAV_len (l:List (Cl×Nat)):(coAV l).length=l.length*2:=rows_len co_rows l
theorem coAV_snoc (l:List (Cl×Nat))(x:Cl×Nat):coAV l++[.int .i64 x.1.f,.sl x.1.x.length (nmAV x.1.x) (.own x.2)]=coAV (l++[x]):=rows_snoc (f:=coC) l x
theorem below_co {n t:Nat}{l:List (Cl×Nat)}(h:∀x∈l,x.2<t):BelowAll n t (coAV l):=by
 intro v hv;obtain⟨x,hx,hv⟩:=List.mem_flatMap.1 hv;simp only[coC,List.mem_cons,List.not_mem_nil,or_false] at hv;rcases hv with rfl|rfl
 ·exact .int _ _
 ·simp[h x hx]
theorem frz_co {n0 t0 n:Nat}{H:List Blk}{l:List (Cl×Nat)}{tg:Tag}:Frz n0 t0 H (.sl n (coAV l) tg) (.sl n (clAV (l.map (·.1))) .none):=by
 have h1:coAV l=l.flatMap coC++[]:=by simp[coAV]
 have h2:clAV (l.map (·.1))=l.flatMap fun e=>clC e.1:=by simp[clAV,List.flatMap_map]
 rw[h2];refine .sl ?_ fun j hj=>?_
 ·rw[coAV_len,rows_len (f:=fun e:Cl×Nat=>clC e.1) (k:=2) (fun _=>rfl)]
 ·rw[h1];refine frz_rows (fa:=coC) (fb:=fun e=>clC e.1) co_rows (fun _=>rfl) l (fun e hel j hj=>?_) [] j hj
  match j,hj with
  |0,_=>exact .keep (.inl rfl) (.int _ _)
  |1,_=>exact .keep (.inr rfl) (by simp)
attribute [-simp] List.getD_eq_getElem?_getD in
theorem own_ok (s:Sg)(hs:SzS s)(H:List Blk)(T:Toks):ACall Tryz.prog 74 [sgAV s] H T (Is (sgAV s) H T):=by
 refine ACall.frz ?_;show ACall Tryz.prog _ _ H T (BQ H T _);have htl:=hs.t;have hw:=hs.w;have hcl:=hs.c;have hx:=hs.x;obtain⟨docs,tms,cols⟩:=s;simp only at htl hw hcl hx;have htl':tms.length≤9223372036854775807:=by omega
 have hcl':cols.length≤9223372036854775807:=by omega
 refine acall_enter 10 [] Tryz.ntmps74 Tryz.func74 rfl (fun _ _=>Tryz.call74 _ _) (by simp) (fun HO=>?_);apply aw_reg;intro K h;simp(disch:=omega);apply h;clear h K;apply aw_reg;intro K h;simp(disch:=omega);apply h;clear h K;refine aw_ownC 3 1 (H++[.cells (sgC ⟨docs,tms,cols⟩),.cells [.sl 0 [] .full,.sl 0 [] .full,.sl 0 [] .full]]) [.sl docs.length (ints docs) .none,.sl 0 [] .full,.sl 0 [] .full] 0 [] (by omega) rfl (by simp) ?_;refine aw_ownC 2 2 (H++[.cells (sgC ⟨docs,tms,cols⟩),.cells [.sl 0 [] .full,.sl 0 [] .full,.sl 0 [] .full]]) [.sl docs.length (ints docs) .none,.sl 0 [] (.own T.length),.sl 0 [] .full] 0 [] (by omega) rfl (by simp) ?_;simp(disch:=omega) ;have HOi:∀i j:Nat,∀cs ds:List AV,∀U:Toks,T.length+2≤U.length→BelowAll (H.length+3) U.length cs→BelowAll (H.length+3) U.length ds→HOk (H++[.cells (sgC ⟨docs,tms,cols⟩),.cells [.sl 0 [] .full,.sl 0 [] .full,.sl 0 [] .full],.cells [.sl docs.length (ints docs) .none,.sl i cs (.own T.length),.sl j ds (.own (T.length+1))]]) U:=by
  intro i j cs ds U hU hc hd;have h1:=((HO.snoc (vs:=sgC ⟨docs,tms,cols⟩) (by simp)).snoc (vs:=[.sl 0 [] .full,.sl 0 [] .full,.sl 0 [] .full]) (by simp)).toks (T':=U) (by omega);have h2:=h1.snoc (vs:=[.sl docs.length (ints docs) .none,.sl i cs (.own T.length),.sl j ds (.own (T.length+1))]) (by simp[hc,hd];omega);simpa using h2
 refine aw_then fun K1 hK1=>?_;apply aw_reg;intro K h;simp(disch:=omega);apply h;clear h K;apply aw_block;refine aw_loop (X:=Nat) (fun i=>⟨[(1,.ptr H.length 0),(2,.ptr (H.length+1) 0),(3,.ptr (H.length+2) 0),(4,.int .i64 (i:Nat))],H++[.cells (sgC ⟨docs,tms,cols⟩),.cells [.sl 0 [] .full,.sl 0 [] .full,.sl 0 [] .full],.cells [.sl docs.length (ints docs) .none,.sl i (tmAV (tms.take i)) (.own T.length),.sl 0 [] (.own (T.length+1))]],T++[(i*3,3),(0,2)]⟩)
  (fun i=>i≤tms.length) (fun i=>tms.length-i) 0 ?_ ?_ ?_
 ·exact Nat.zero_le _
 ·refine weak_to [] [] ?_ ?_ ?_ ?_ (HOi 0 0 _ _ _ (by simp) (by simp) (by simp)) ?_
  all_goals simp[tmAV]
 ·intro i g1;have htkl:(tmAV (tms.take i)).length=i*3:=by rw[tmAV_len,List.length_take];omega
  refine aw_then fun K2 hK2=>?_;apply aw_reg;intro K h;simp(disch:=omega);apply h;clear h K;refine aw_if rfl (fun hk=>?_) (fun hk=>?_)
  ·simp  at hk;have hcut:=tmAV_cut tms i hk;have htk:=tmAV_take tms i hk;obtain⟨q1,q2,q3⟩:=hw _ (getD_mem tms i t0 hk);generalize tms.getD i t0=t at *;obtain⟨f,w,l⟩:=t;simp only at hcut htk q1 q2 q3;have hHO:=HOi (i+1) 0 (tmAV (tms.take (i+1))) [] (T++[((i+1)*3,3),(0,2)]) (by simp) (by simp) (by simp);have hbt:∀n t:Nat,BelowAll n t (tmAV (tms.take i)):=fun n t=>by simp
   have co:=fun H T=>ownP_ok l (by omega) H T .none;generalize tmAV (tms.take i)=out at *;apply aw_skip;simp(disch:=omega) ;apply hK2;clear hK2;refine aw_then fun K3 hK3=>?_;apply aw_block;refine aw_reg fun K hK=>?_;simp(disch:=omega)[hcut,tmAV_len];apply hK;clear hK K;refine aw_draw0 [11,13] [0,0,0,0,0,0,0,0,0,0,0,0,1,1] [[],[]] drawMixed (by kernel_rfl) (by kernel_rfl) fun K hK=>?_;simp(disch:=omega)[htkl];refine dcall_is (co _ _) rfl ?_;simp(disch:=omega)[htk];apply hK;clear hK K;apply hK3;clear hK3;refine aw_reg0 fun K hK=>?_;simp(disch:=omega) ;apply hK;clear hK K;refine⟨i+1,by show i+1≤_;omega,by show tms.length-(i+1)<tms.length-i;omega,?_⟩;refine weak_to [.cells (tmC ⟨f,w,l⟩)] [] ?_ ?_ ?_ ?_ hHO ?_
   all_goals simp
  ·simp  at hk;have hie:i=tms.length:=by omega
   subst hie;rw[List.take_length] at htkl ⊢;apply aw_exit;simp(disch:=omega) ;apply hK1;clear hK1;have hTL:(T++[(tms.length*3,3),(0,2)]).length=T.length+2:=by simp
   have hPU:Pre T (T++[(tms.length*3,3),(0,2)]):=⟨_,rfl⟩
   have hU1:(T++[(tms.length*3,3),(0,2)])[T.length+1]?=some (0,2):=by simp
   generalize T++[(tms.length*3,3),(0,2)]=U0 at *;have hTL2:T.length+2≤U0.length:=Nat.le_of_eq hTL.symm;refine aw_then fun K1 hK1=>?_;apply aw_reg;intro K h;simp(disch:=omega);apply h;clear h K;apply aw_block;refine aw_loop (X:=Nat×List (Cl×Nat)×Toks) (fun x=>⟨[(1,.ptr H.length 0),(2,.ptr (H.length+1) 0),(3,.ptr (H.length+2) 0),(6,.int .i64 (x.1:Nat))],H++[.cells (sgC ⟨docs,tms,cols⟩),.cells [.sl 0 [] .full,.sl 0 [] .full,.sl 0 [] .full],.cells [.sl docs.length (ints docs) .none,.sl tms.length (tmAV tms) (.own T.length),.sl x.1 (coAV x.2.1) (.own (T.length+1))]],x.2.2⟩)
    (fun x=>x.1≤cols.length∧x.2.1.map (·.1)=cols.take x.1∧(∀c∈x.2.1,c.2<x.2.2.length)∧T.length+2≤x.2.2.length∧Pre T x.2.2∧x.2.2[T.length+1]?=some (x.1*2,2)) (fun x=>cols.length-x.1) (0,[],U0) ?_ ?_ ?_
   ·exact⟨Nat.zero_le _,rfl,by simp,by omega,hPU,hU1⟩
   ·refine weak_to [] [] ?_ ?_ ?_ ?_ (HOi tms.length 0 (tmAV tms) [] U0 hTL2 (by simp) (by simp)) ?_
    all_goals simp[coAV]
    all_goals omega
   ·rintro⟨i,P,U⟩ ⟨g1,g2,g3,g4,g5,g6⟩;simp only at g1 g2 g3 g4 g5 g6;have hPl:P.length=i:=by
     have:=congrArg List.length g2;rw[List.length_map,List.length_take] at this;omega
    have hbco:BelowAll (H.length+3) U.length (coAV P):=below_co g3;have lT:=g5.le;refine aw_then fun K4 hK4=>?_;apply aw_reg;intro K h;simp(disch:=omega);apply h;clear h K;refine aw_if rfl (fun hk=>?_) (fun hk=>?_)
    ·simp  at hk;obtain⟨a1,a2⟩:=clAV_at cols i hk;have hxl:=hx _ (getD_mem cols i c0 hk);have htk:=take_getD cols i c0 hk;generalize cols.getD i c0=c at *;obtain⟨f,x⟩:=c;simp only at a1 a2 hxl;have hxl':x.length≤9223372036854775807:=by omega
     apply aw_skip;simp(disch:=omega) ;apply hK4;clear hK4;refine aw_then fun K5 hK5=>?_;apply aw_block;refine aw_reg fun K hK=>?_;simp(disch:=omega)[a1,a2,clAV_len,hk];apply hK;clear hK K;refine aw_ownC 2 1 (H++[.cells (sgC ⟨docs,tms,cols⟩),.cells [.sl 0 [] .full,.sl 0 [] .full,.sl 0 [] .full],.cells [.sl docs.length (ints docs) .none,.sl tms.length (tmAV tms) (.own T.length),.sl i (coAV P) (.own (T.length+1))]]) [.int .i64 f,.sl 0 [] .full] 0 [] (by omega) rfl (by simp) ?_;simp(disch:=omega) ;have HOk2:∀k:Nat,∀cs:List AV,∀V:Toks,U.length+1≤V.length→BelowAll (H.length+4) V.length cs→HOk (H++[.cells (sgC ⟨docs,tms,cols⟩),.cells [.sl 0 [] .full,.sl 0 [] .full,.sl 0 [] .full],.cells [.sl docs.length (ints docs) .none,.sl tms.length (tmAV tms) (.own T.length),.sl i (coAV P) (.own (T.length+1))],.cells [.int .i64 f,.sl k cs (.own U.length)]]) V:=by
      intro k cs V hV hc;have h1:=HOi tms.length i (tmAV tms) (coAV P) V (by omega) (by simp) (fun v hv=>(hbco v hv).more (Nat.le_refl _) (by omega));have h2:=h1.snoc (vs:=[.int .i64 f,.sl k cs (.own U.length)]) (by simp[hc];omega);simpa using h2
     refine aw_then fun K6 hK6=>?_;apply aw_reg;intro K h;simp(disch:=omega);apply h;clear h K;apply aw_block;refine aw_loop (X:=Nat) (fun k=>⟨[(1,.ptr H.length 0),(2,.ptr (H.length+1) 0),(3,.ptr (H.length+2) 0),(6,.int .i64 (i:Nat)),(7,.ptr (H.length+3) 0),(8,.int .i64 (k:Nat))],H++[.cells (sgC ⟨docs,tms,cols⟩),.cells [.sl 0 [] .full,.sl 0 [] .full,.sl 0 [] .full],.cells [.sl docs.length (ints docs) .none,.sl tms.length (tmAV tms) (.own T.length),.sl i (coAV P) (.own (T.length+1))],.cells [.int .i64 f,.sl k (nmAV (x.take k)) (.own U.length)]],U++[(k*2,2)]⟩)
      (fun k=>k≤x.length) (fun k=>x.length-k) 0 ?_ ?_ ?_
     ·exact Nat.zero_le _
     ·refine weak_to [] [] ?_ ?_ ?_ ?_ (HOk2 0 (nmAV (x.take 0)) (U++[(0*2,2)]) (by simp) (by simp)) ?_
      all_goals simp[nmAV]
      all_goals omega
     ·intro k k1;have hnl:(nmAV (x.take k)).length=k*2:=by rw[nmAV_len,List.length_take];omega
      refine aw_then fun K7 hK7=>?_;refine aw_reg fun K hK=>?_;simp(disch:=omega)[a1,a2,clAV_len,hk];apply hK;clear hK K;refine aw_if rfl (fun hk2=>?_) (fun hk2=>?_)
      ·simp  at hk2;have hcn:=nmAV_cut x k hk2;have hnt:=nmAV_take x k hk2;have hHO:=HOk2 (k+1) (nmAV (x.take (k+1))) (U++[((k+1)*2,2)]) (by simp) (by simp);have hbt:∀n t:Nat,BelowAll n t (nmAV (x.take k)):=fun n t=>by simp
       generalize nmAV (x.take k)=out at *;generalize x.getD k n0=y at *;obtain⟨y1,y2⟩:=y;simp only at hcn hnt;apply aw_skip;simp(disch:=omega) ;apply hK7;clear hK7;refine aw_then fun K8 hK8=>?_;apply aw_block;refine aw_draw0 [12,14] [0,0,0,0,0,0,0,0,0,0,0,0,0,1,1] [[],[]] drawMixed (by kernel_rfl) (by kernel_rfl) fun K hK=>?_;simp(disch:=omega)[a1,a2,clAV_len,hk,hcn,nmAV_len,hk2,hnl,hnt];apply hK;clear hK K;apply hK8;clear hK8;refine aw_reg0 fun K hK=>?_;simp(disch:=omega) ;apply hK;clear hK K;refine⟨k+1,by show k+1≤_;omega,by show x.length-(k+1)<x.length-k;omega,?_⟩;refine weak_to [] [] ?_ ?_ ?_ ?_ hHO ?_
       all_goals simp
       all_goals omega
      ·simp  at hk2;have hke:k=x.length:=by omega
       subst hke;rw[List.take_length] at hnl ⊢;apply aw_exit;simp(disch:=omega) ;apply hK6;clear hK6;have hU2:(U++[(x.length*2,2)])[T.length+1]?=some (i*2,2):=by rw[List.getElem?_append_left (by omega)];exact g6
       have hP2:Pre T (U++[(x.length*2,2)]):=g5.app _;have hL2:(U++[(x.length*2,2)]).length=U.length+1:=by simp
       have hO2:=HOi tms.length (i+1) (tmAV tms);have hHO4:=HOk2 x.length (nmAV x) (U++[(x.length*2,2)]) (by simp) (by simp);have hcol:(coAV P).length=i*2:=by rw[coAV_len,hPl]
       have hsn:=coAV_snoc P (⟨f,x⟩,U.length);simp only at hsn;have hP3:(P++[((⟨f,x⟩:Cl),U.length)]).map (·.1)=cols.take (i+1):=by rw[htk,List.map_append,g2];rfl
       have hP4:∀c∈P++[((⟨f,x⟩:Cl),U.length)],c.2<U.length+1:=fun c hc=>by
        rcases List.mem_append.1 hc with h|h
        ·have:=g3 c h;omega
        ·rw[List.mem_singleton.1 h];exact Nat.lt_succ_self _
       have hbd:BelowAll (H.length+3) (U.length+1) (coAV (P++[((⟨f,x⟩:Cl),U.length)])):=below_co hP4;generalize hPP:P++[((⟨f,x⟩:Cl),U.length)]=P2 at *;clear HOk2;have hg3:=g3;generalize coAV P=ca at *;have lU:T.length+1<(U++[(x.length*2,2)]).length:=by omega
       obtain⟨u,hu⟩:∃u,u=U.length:=⟨_,rfl⟩
       rw[←hu] at hsn hbd hP4 hL2 hHO4;simp only[←hu];clear hg3;generalize hUU:U++[(x.length*2,2)]=U2 at *;have eU:=at_of hU2;refine aw_weak ⟨[(1,.ptr H.length 0),(2,.ptr (H.length+1) 0),(3,.ptr (H.length+2) 0),(6,.int .i64 (i:Nat)),(7,.ptr (H.length+3) 0)],H++[.cells (sgC ⟨docs,tms,cols⟩),.cells [.sl 0 [] .full,.sl 0 [] .full,.sl 0 [] .full],.cells [.sl docs.length (ints docs) .none,.sl tms.length (tmAV tms) (.own T.length),.sl i ca (.own (T.length+1))],.cells [.int .i64 f,.sl x.length (nmAV x) (.own u)]],U2⟩ (weak_to [] [] (by simp) (by simp) (by simp) (by simp;omega) hHO4 (by simp)) ?_;refine aw_reg0 fun K hK=>?_;simp(disch:=omega)[eU,hcol,hsn];apply hK;clear hK K;have hO5:=hO2 (coAV P2) (U2.set (T.length+1) ((i+1)*2,2)) (by simp;omega) (by simp) (by simp[hL2,hbd]);apply hK5;clear hK5;refine aw_reg0 fun K hK=>?_;simp(disch:=omega) ;apply hK;clear hK K;refine⟨(i+1,P2,U2.set (T.length+1) ((i+1)*2,2)),⟨by show i+1≤_;omega,hP3,fun c hc=>by have:=hP4 c hc;simp only[List.length_set];omega,by simp only[List.length_set];omega,hP2.set (by omega) _,List.getElem?_set_self (by omega)⟩,by show cols.length-(i+1)<cols.length-i;omega,?_⟩;refine weak_to [.cells [.int .i64 f,.sl x.length (nmAV x) (.own u)]] [] ?_ ?_ ?_ ?_ hO5 ?_
       all_goals simp
       all_goals omega
    ·simp  at hk;have hie:i=cols.length:=by omega
     subst hie;rw[List.take_length] at g2;apply aw_exit;simp(disch:=omega) ;apply hK1;clear hK1;apply aw_reg;intro K h;simp(disch:=omega);apply h;clear h K;apply aw_ret;simp(disch:=omega) ;refine⟨⟨_,rfl⟩,g5,.agg rfl fun j hj=>?_⟩
     match j,hj with
     |0,_=>exact .keep (.inl rfl) (by simp)
     |1,_=>exact .keep (.inr rfl) (by simp)
     |2,_=>
      have hc:clAV cols=clAV (P.map (·.1)):=by rw[g2]
      show Frz H.length T.length _ (.sl cols.length (coAV P) (.own (T.length+1))) (.sl cols.length (clAV cols) .none);rw[hc];exact frz_co
end Go.Proofs.YtoejlmpbebjemaaGreat
