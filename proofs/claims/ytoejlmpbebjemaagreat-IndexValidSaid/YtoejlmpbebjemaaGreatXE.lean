/- index.tidy (layer 40).
  Conditions: sizes, as the theorems say. -/
import Derived.Test.YtoejlmpbebjemaaGreatXZb
import Derived.Test.YtoejlmpbebjemaaGreatGZy
import Derived.Test.YtoejlmpbebjemaaGreatAmC
set_option linter.all false
set_option maxRecDepth 100000
set_option maxHeartbeats 16000000
namespace Go.Proofs.YtoejlmpbebjemaaGreat
open Go Go.Am Sug Post Seg
attribute [-simp] List.getD_eq_getElem?_getD in
theorem tidy_ok {m:Nat}{x0:List Sd}(hb0:BX m x0)(hl0:x0.length≤400)(H:List Blk)(T:Toks) :
  ACall Tryz.prog 69 [xAV x0] H T (Is (xAV (tidyX (sizeX x0) x0)) H T):=by
 refine ACall.drop' ?_ (by simp);have HOx:∀S D,HOk H T→HOk (H++[.cells (ixC S D),.cells [.sl 0 [] .full,.sl 0 [] .full]]) T:=fun S D HO=>by
  have:=(HO.snoc (vs:=ixC S D) (by simp)).snoc (vs:=[.sl 0 [] .full,.sl 0 [] .full]) (by simp);simpa using this
 refine acall_enter 14 [] Tryz.ntmps69 Tryz.func69 rfl (fun _ _=>Tryz.call69 _ _) (by simp) (fun HO=>?_);have HOx:=fun S D=>HOx S D HO;apply aw_reg;intro K h;simp(disch:=omega);apply h;clear h K;refine aw_scope (X:=List Sd) (fun x=>⟨[(1,.ptr H.length 0),(2,.ptr (H.length+1) 0)],H++[.cells (ixC (segS x) (segD x)),.cells [.sl 0 [] .full,.sl 0 [] .full]],T⟩)
  (fun x=>BX m x∧x.length≤400∧tidyX (sizeX x) x=tidyX (sizeX x0) x0) sizeX x0 ⟨hb0,hl0,rfl⟩ ?_ ?_
 ·refine weak_to [] [] ?_ ?_ ?_ ?_ (HOx _ _) ?_
  all_goals simp
 ·rintro x ⟨hb,hl,he⟩;have hg:=hb.g;have hz:=hb.szx hl;have hxl:=segS_len x;have hdl:=segD_len x;have HO1:=HOx (segS x) (segD x);have cr:=fun i j L (h1:i≤j) (h2:j≤(segS x).length) (h3:(sgF L).docs.length≤1000) H T=>replaced_ok (segS x) (segD x) i j (sgF L) hz (by omega) h1 h2 h3 H T;refine aw_then fun K1 hK1=>?_;apply aw_reg;intro K h;simp(disch:=omega);apply h;clear h K;apply aw_block;refine aw_loop (X:=Nat) (fun i=>⟨[(1,.ptr H.length 0),(2,.ptr (H.length+1) 0),(11,.sl (segS x).length (ssAV (segS x)) .none),(12,.int .i64 ((segS x).length:Nat)),(13,.int .i64 (i:Nat))],H++[.cells (ixC (segS x) (segD x)),.cells [.sl 0 [] .full,.sl 0 [] .full]],T⟩)
   (fun i=>i≤x.length∧∀j,j<i→badX x j=false) (fun i=>x.length-i) 0 ?_ ?_ ?_
  ·exact⟨Nat.zero_le _,fun j hj=>absurd hj (Nat.not_lt_zero _)⟩
  ·refine weak_to [] [] ?_ ?_ ?_ ?_ HO1 ?_
   all_goals simp
  ·rintro i ⟨g1,g2⟩;apply aw_reg;intro K h;simp(disch:=omega);apply h;clear h K;refine aw_then fun K2 hK2=>?_;refine aw_if rfl (fun hk=>?_) (fun hk=>?_)
   ·simp  at hk;have hi:i<x.length:=by omega
    have hiD:i<(segD x).length:=by omega
    have hp:=getX hi;have hcut:=ssAV_cut (segS x) i hk;have d1:=ddAV_at (segD x) i hiD;rw[segS_get hi] at hcut;rw[segD_get hi] at d1;have hsz:=hb.sz hp;have hdocs:(sgF (x.getD i e0).1).docs.length=(x.getD i e0).1.length:=by show ((x.getD i e0).1.map (·.id)).length=_;rw[List.length_map]
    have hdeadl:(x.getD i e0).2.length≤maxLen:=by
     have h1:=lvD_dead (hg.da _ hp) (hg.dd _ hp);have h2:=(hb.b _ hp).1;exact Nat.le_trans (by omega:_≤40) (by decide)
    have cd:=fun H T=>dropSP_ok (sgF (x.getD i e0).1) hsz (fun _=>by rw[hdocs];exact(hb.b _ hp).1) (x.getD i e0).2 hdeadl H T .none;rw[(hg.vd _ hp).drop] at cd;have hlv:lvD (x.getD i e0)=(x.getD i e0).1.filter fun d=>!decide (d.id∈(x.getD i e0).2):=rfl;rw[←hlv] at cd;have hrl:(sgF (lvD (x.getD i e0))).docs.length≤1000:=(hb.lv hp).d;have cr:=fun H T=>cr i (i+1) (lvD (x.getD i e0)) (by omega) (by omega) hrl H T;rw[←segS_repl,←segD_repl] at cr;rw[show ((i+1:Nat):Int)=(i:Int)+1 by omega] at cr;have hstep:=fun h=>step_bad hi h g2;have ebad:badX x i=decide ((x.getD i e0).1.length<2*(x.getD i e0).2.length):=rfl;rw[←hdocs] at ebad;have hr:=repl_len (lvD (x.getD i e0)) (show i<i+1 by omega) hi;have hs40:(x.getD i e0).1.length≤40:=(hb.b _ hp).1;rw[←hdocs] at hs40;have hd40:(x.getD i e0).2.length≤40:=by
     have h1:=lvD_dead (hg.da _ hp) (hg.dd _ hp);have h2:=(hb.b _ hp).1;omega
    generalize replX x i (i+1) (lvD (x.getD i e0))=y at *;generalize sgF (lvD (x.getD i e0))=r at *;generalize sgF (x.getD i e0).1=s at *;generalize (x.getD i e0).2=d at *;have HO2:HOk (H++[.cells (ixC (segS x) (segD x)),.cells [.sl 0 [] .full,.sl 0 [] .full],.cells (sgC s)]) T:=by
     have:=HO1.snoc (vs:=sgC s) (by simp);simpa using this
    apply aw_skip;simp(disch:=omega) ;apply hK2;clear hK2;refine aw_then fun K3 hK3=>?_;apply aw_block;refine aw_reg fun K hK=>?_;simp(disch:=omega)[hcut,hk,ssAV_len];apply hK;clear hK K
    by_cases hbd:s.docs.length<2*d.length
    ·have b1:decide ((s.docs.length:Int)<2*(d.length:Int))=true:=decide_eq_true (by omega);have hs:=hstep (by rw[ebad];exact decide_eq_true hbd);refine aw_draw [] [0,0,0,0,0,0,0,0,0,0,0] [] drawMixed (by kernel_rfl) (by kernel_rfl) fun K hK=>?_;simp(disch:=omega)[d1,hiD,ddAV_len,b1,hbd];apply hK;clear hK K;apply aw_ift rfl;refine aw_draw [12] [0,0,0,0,0,0,0,0,0,0,0,0,0] [[]] drawMixed (by kernel_rfl) (by kernel_rfl) fun K hK=>?_;simp(disch:=omega)[d1,hiD,ddAV_len];refine dcall_is (cd _ _) rfl ?_;simp(disch:=omega)[d1,hiD,ddAV_len];refine dcall_is (cr _ _) rfl ?_;simp(disch:=omega) ;apply hK;clear hK K;refine aw_goto ?_;show 0=0∧_;refine⟨rfl,y,⟨hb.step hs,by omega,(tidy_step hg hs).trans he⟩,(step_good hg hs).2.2,?_⟩;refine weak_to [.cells (sgC s)] [] ?_ ?_ ?_ ?_ (HOx _ _) ?_
     all_goals simp
    ·have b1:decide ((s.docs.length:Int)<2*(d.length:Int))=false:=decide_eq_false (by omega);have hnb:badX x i=false:=by rw[ebad];exact decide_eq_false hbd
     refine aw_draw [] [0,0,0,0,0,0,0,0,0,0,0] [] drawMixed (by kernel_rfl) (by kernel_rfl) fun K hK=>?_;simp(disch:=omega)[d1,hiD,ddAV_len,b1,hbd];apply hK;clear hK K;apply aw_iff rfl;apply aw_skip;apply hK3;clear hK3;refine aw_reg0 fun K hK=>?_;simp(disch:=omega) ;apply hK;clear hK K;refine⟨i+1,⟨by show i+1≤_;omega,fun j hj=>?_⟩,by show x.length-(i+1)<x.length-i;omega,?_⟩
     ·rcases Nat.lt_or_ge j i with h1|h1
      ·exact g2 j h1
      ·have:j=i:=by omega
       subst this;exact hnb
     ·refine weak_to [.cells (sgC s)] [] ?_ ?_ ?_ ?_ HO1 ?_
      all_goals simp
   ·simp  at hk;have:i=x.length:=by omega
    subst this;apply aw_exit;simp(disch:=omega) ;apply hK1;clear hK1;refine aw_then fun K1 hK1=>?_;apply aw_reg;intro K h;simp(disch:=omega);apply h;clear h K;apply aw_block;refine aw_loop (X:=Int) (fun t=>⟨[(1,.ptr H.length 0),(2,.ptr (H.length+1) 0),(5,.int .i64 t)],H++[.cells (ixC (segS x) (segD x)),.cells [.sl 0 [] .full,.sl 0 [] .full]],T⟩)
     (fun t=>-2≤t∧t≤(x.length:Int)-2∧∀j:Nat,t<(j:Int)→j+1<x.length→nearX x j=false) (fun t=>(t+2).toNat) ((x.length:Int)-2) ?_ ?_ ?_
    ·exact⟨by omega,by omega,fun j h1 h2=>by omega⟩
    ·refine weak_to [] [] ?_ ?_ ?_ ?_ HO1 ?_
     all_goals simp[hxl]
    ·rintro t ⟨t1,t2,t3⟩;refine aw_then fun K2 hK2=>?_
     by_cases ht:0≤t
     ·have b1:decide ((0:Int)≤t)=true:=decide_eq_true ht;refine aw_reg fun K hK=>?_;simp(disch:=omega)[b1,ht];apply hK;clear hK K;apply aw_ift rfl;obtain⟨i,rfl⟩:∃i:Nat,t=i:=⟨t.toNat,by omega⟩
      have hi:i<x.length:=by omega
      have hi1:i+1<x.length:=by omega
      have hiS:i<(segS x).length:=by omega
      have hiS1:i+1<(segS x).length:=by omega
      have hiD:i<(segD x).length:=by omega
      have hiD1:i+1<(segD x).length:=by omega
      have hp:=getX hi;have hp1:=getX hi1;have hcut:=ssAV_cut (segS x) i hiS;have hcut1:=ssAV_cut (segS x) (i+1) hiS1;have d1:=ddAV_at (segD x) i hiD;have d2:=ddAV_at (segD x) (i+1) hiD1;rw[segS_get hi] at hcut;rw[segS_get hi1] at hcut1;rw[segD_get hi] at d1;rw[segD_get hi1] at d2;apply aw_skip;apply hK2;clear hK2;refine aw_then fun K3 hK3=>?_;apply aw_block;refine aw_draw2 11 12 [11,12,13,14] [0,0,0,0,0,0,0,0,0,0,0,0,1,2,3] [[0,1,2,3,4,5,6,7,8,9,10],[0,1,2,3,4,5,6,7,8,9,10],[5,6,7,8,9,10],[]] [11,12,13,14] [0,0,0,0,0,0,0,0,0,0,0,0,1,2,3] [[0,1,2,3,4,5,6,7,8,9,10],[0,1,2,3,4,5,6,7,8,9,10],[5,6,7,8,9,10],[]] drawMixed (by kernel_rfl) (by kernel_rfl) (by kernel_rfl) (by kernel_rfl) (by kernel_rfl) fun K hK=>?_;have hsa:=hb.sz hp;have hsb:=hb.sz hp1;have hda:(sgF (x.getD i e0).1).docs.length=(x.getD i e0).1.length:=by show ((x.getD i e0).1.map (·.id)).length=_;rw[List.length_map]
      have hdb:(sgF (x.getD (i+1) e0).1).docs.length=(x.getD (i+1) e0).1.length:=by show ((x.getD (i+1) e0).1.map (·.id)).length=_;rw[List.length_map]
      have hle:∀p∈x,p.2.length≤maxLen:=fun p hp=>by
       have h1:=lvD_dead (hg.da _ hp) (hg.dd _ hp);have h2:=(hb.b _ hp).1;exact Nat.le_trans (by omega:_≤40) (by decide)
      have ca:=fun H T=>dropSP_ok (sgF (x.getD i e0).1) hsa (fun _=>by rw[hda];exact(hb.b _ hp).1) (x.getD i e0).2 (hle _ hp) H T .none;have cb:=fun H T=>dropSP_ok (sgF (x.getD (i+1) e0).1) hsb (fun _=>by rw[hdb];exact(hb.b _ hp1).1) (x.getD (i+1) e0).2 (hle _ hp1) H T .none;rw[(hg.vd _ hp).drop] at ca;rw[(hg.vd _ hp1).drop] at cb;have hlva:lvD (x.getD i e0)=(x.getD i e0).1.filter fun d=>!decide (d.id∈(x.getD i e0).2):=rfl;have hlvb:lvD (x.getD (i+1) e0)=(x.getD (i+1) e0).1.filter fun d=>!decide (d.id∈(x.getD (i+1) e0).2):=rfl;rw[←hlva] at ca;rw[←hlvb] at cb;have cm:=fun H T=>mergeSP_ok (sgF (lvD (x.getD i e0))) (sgF (lvD (x.getD (i+1) e0))) (hb.lv hp) (hb.lv hp1) (fun _ _=>by
       have h1:=both_len hi1;unfold both at h1;rw[sortD_len,List.length_append] at h1;have h2:=hb.a;show ((lvD (x.getD i e0)).map (·.id)).length+((lvD (x.getD (i+1) e0)).map (·.id)).length≤40;rw[List.length_map,List.length_map];omega) H T
      rw[merge_x hg hi1] at cm;have hrl:(sgF (both x i)).docs.length≤1000:=(hb.both hi1).d;have cr:=fun H T=>cr i (i+2) (both x i) (by omega) (by omega) hrl H T;rw[←segS_repl,←segD_repl] at cr;rw[show ((i+2:Nat):Int)=(i:Int)+2 by omega] at cr;have hstep:=fun h=>step_near g2 hi1 h fun j h1 h2=>t3 j (by omega) h2;have enear:nearX x i=decide ((x.getD i e0).1.length<2*(x.getD (i+1) e0).1.length):=rfl;rw[←hda,←hdb] at enear;have hr:=repl_len (both x i) (show i<i+2 by omega) hi1;have ha40:(x.getD i e0).1.length≤40:=(hb.b _ hp).1;have hb40:(x.getD (i+1) e0).1.length≤40:=(hb.b _ hp1).1;rw[←hda] at ha40;rw[←hdb] at hb40;generalize replX x i (i+2) (both x i)=y at *;generalize sgF (both x i)=r at *;generalize sgF (lvD (x.getD i e0))=ra at *;generalize sgF (lvD (x.getD (i+1) e0))=rb at *;generalize sgF (x.getD i e0).1=a at *;generalize (x.getD i e0).2=da at *;generalize sgF (x.getD (i+1) e0).1=b at *;generalize (x.getD (i+1) e0).2=db at *;have key:∀(e:Env)(G:List Blk)(pa pb:Nat)(X:List Blk),G=H++.cells (ixC (segS x) (segD x))::.cells [.sl 0 [] .full,.sl 0 [] .full]::X→G[pa]?=some (.cells (sgC a))→G[pb]?=some (.cells (sgC b))→
        envLe G.length T.length e [(1,.ptr H.length 0),(2,.ptr (H.length+1) 0),(5,.int .i64 (i:Nat)),(6,.ptr pa 0),(7,.ptr pb 0)]→K ⟨e,G,T⟩:=by
       intro e G pa pb X hG ga gb he;refine hK _ (aw_hok fun ho=>aw_weak ⟨[(1,.ptr H.length 0),(2,.ptr (H.length+1) 0),(5,.int .i64 (i:Nat)),(6,.ptr pa 0),(7,.ptr pb 0)],G,T⟩ (weak_to [] [] (by simp) (by simp) (by rw[hG];simp) (by simp) ho he) ?_);clear hK he;have gx:G[H.length]?=some (.cells (ixC (segS x) (segD x))):=by rw[hG];simp
       have la:=(List.getElem?_eq_some_iff.1 ga).1;have lb:=(List.getElem?_eq_some_iff.1 gb).1;have lx:=(List.getElem?_eq_some_iff.1 gx).1;have ea:=at_of ga;have eb:=at_of gb;have ex:=at_of gx;refine aw_then fun K4 hK4=>?_
       by_cases hnr:a.docs.length<2*b.docs.length
       ·have b1:decide (2*(b.docs.length:Int)≤(a.docs.length:Int))=false:=decide_eq_false (by omega);have b2:¬2*b.docs.length≤a.docs.length:=by omega
        have hs:=hstep (by rw[enear];exact decide_eq_true hnr);refine aw_reg fun K hK=>?_;simp(disch:=omega)[ea,eb,la,lb,b1,b2];apply hK;clear hK K;apply aw_iff rfl;apply aw_skip;apply hK4;clear hK4;have ga2:∀z,(G++[z])[pa]?=some (.cells (sgC a)):=fun z=>by rw[List.getElem?_append_left la];exact ga
        have gb2:∀z,(G++[z])[pb]?=some (.cells (sgC b)):=fun z=>by rw[List.getElem?_append_left lb];exact gb
        have gx2:∀z,(G++[z])[H.length]?=some (.cells (ixC (segS x) (segD x))):=fun z=>by rw[List.getElem?_append_left lx];exact gx
        refine aw_draw [19,20] [0,0,0,0,0,0,0,0,0,0,0,0,0,0,0,0,0,0,0,0,1,2] [[0,1,2,3,4,5,6,7,8,9,10,11,12,13,14,15,16,17,18],[18]] drawMixed (by kernel_rfl) (by kernel_rfl) fun K hK=>?_;simp(disch:=omega)[ea,eb,ex,la,lb,lx,ga2,gb2,gx2,d1,d2,hiD,hiD1,ddAV_len];refine dcall_is (ca _ _) rfl ?_;simp(disch:=omega)[ea,eb,ex,la,lb,lx,ga2,gb2,gx2,d1,d2,hiD,hiD1,ddAV_len];refine dcall_is (cb _ _) rfl ?_;simp(disch:=omega)[ea,eb,ex,la,lb,lx,ga2,gb2,gx2,d1,d2,hiD,hiD1,ddAV_len];refine dcall_is (cm _ _) rfl ?_;simp(disch:=omega)[ea,eb,ex,la,lb,lx,ga2,gb2,gx2,d1,d2,hiD,hiD1,ddAV_len];refine⟨⟨ca _ _,cb _ _,cm _ _⟩,hK _ ?_⟩;clear hK K;refine aw_then fun K4 hK4=>?_;apply aw_reg;intro K h;simp(disch:=omega);apply h;clear h K;apply aw_iff rfl;apply aw_skip;apply hK4;clear hK4;refine aw_reg fun K hK=>?_;simp(disch:=omega)[gx2,lx,ex];refine acall_is (cr _ _) ?_;simp(disch:=omega)[gx2,ex,lx];apply hK;clear hK K;refine aw_goto ?_;show 0=0∧_;refine⟨rfl,y,⟨hb.step hs,by omega,(tidy_step hg hs).trans he⟩,(step_good hg hs).2.2,?_⟩;refine weak_to (X++[.cells (sgC r)]) [] ?_ ?_ ?_ ?_ (HOx _ _) ?_
        all_goals simp[hG]
       ·have b1:decide (2*(b.docs.length:Int)≤(a.docs.length:Int))=true:=decide_eq_true (by omega);have b2:2*b.docs.length≤a.docs.length:=by omega
        have hnn:nearX x i=false:=by rw[enear];exact decide_eq_false hnr
        refine aw_reg fun K hK=>?_;simp(disch:=omega)[ea,eb,la,lb,b1,b2];apply hK;clear hK K;apply aw_ift rfl;apply aw_exit;simp(disch:=omega) ;apply hK3;clear hK3;refine aw_reg0 fun K hK=>?_;simp(disch:=omega) ;apply hK;clear hK K;refine⟨(i:Int)-1,⟨by omega,by omega,fun j h1 h2=>?_⟩,by show ((i:Int)-1+2).toNat<((i:Int)+2).toNat;omega,?_⟩
        ·by_cases hji:j=i
         ·subst hji;exact hnn
         ·exact t3 j (by omega) h2
        ·refine weak_to X [] ?_ ?_ ?_ ?_ HO1 ?_
         all_goals simp[hG]
      refine⟨?_,?_⟩
      ·simp(disch:=omega)[addE,hcut,hcut1,hiS,hiS1,ssAV_len];refine key _ _ (H.length+2) (H.length+3) _ rfl ?_ ?_ ?_
       all_goals simp
      ·simp(disch:=omega)[addE,swapE,relO,sw,hcut,hcut1,hiS,hiS1,ssAV_len];refine key _ _ (H.length+3) (H.length+2) _ rfl ?_ ?_ ?_
       all_goals simp
     ·have b1:decide ((0:Int)≤t)=false:=decide_eq_false ht;have hs:=step_stop g2 fun j hj=>t3 j (by omega) hj;rw[tidy_stop hs] at he;refine aw_reg fun K hK=>?_;simp(disch:=omega)[b1,ht];apply hK;clear hK K;apply aw_iff rfl;apply aw_exit;simp(disch:=omega) ;apply hK1;clear hK1;apply aw_reg;intro K h;simp(disch:=omega);apply h;clear h K;apply aw_ret;simp(disch:=omega) ;rw[←he];exact⟨⟨rfl,rfl⟩,rfl,rfl⟩
end Go.Proofs.YtoejlmpbebjemaaGreat
