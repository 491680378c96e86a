/- Merge, of the program and of the reference (layer 39). slices.Contains of numbers; slices.DeleteFunc of documents in a box (layer 39). slices.DeleteFunc of documents in a box; Drop (layer 39). Drop, of the program and of the reference (layer 39). Sizes of what is merged of small segments (layer 39, plain).
  Conditions: as the theorems say. -/
import Derived.Test.YtoejlmpbebjemaaGreatGZx
import Derived.Test.YtoejlmpbebjemaaGreatGLA
set_option linter.all false
set_option maxRecDepth 100000
set_option maxHeartbeats 8000000
namespace Go.Proofs.YtoejlmpbebjemaaGreat
open Go Go.Am Sug Post Seg
theorem mergeF_bad1 {s t:Sg}(h:validS s=false):mergeF s t=(noSeg,1):=by unfold mergeF;rw[if_neg fun x=>by rw[x.1] at h;cases h]
theorem mergeF_bad2 {s t:Sg}(h:validS t=false):mergeF s t=(noSeg,1):=by unfold mergeF;rw[if_neg fun x=>by rw[x.2] at h;cases h]
theorem mergeF_and {s t:Sg}(h1:validS s=true)(h2:validS t=true)(h:comb (fun p q=>p&&q) s.docs t.docs≠[]):mergeF s t=(noSeg,10):=by unfold mergeF;rw[if_pos ⟨h1,h2⟩,if_neg h]
theorem mergeF_ok {s t:Sg}(h1:validS s=true)(h2:validS t=true)(h:comb (fun p q=>p&&q) s.docs t.docs=[]):mergeF s t=buildF (docsP s++docsP t):=by unfold mergeF;rw[if_pos ⟨h1,h2⟩,if_pos h]
theorem docsP_ns {s:Sg}(hs:SzS s):∀d∈docsP s,d.ns.length≤1000000:=by
 intro d hd;unfold docsP at hd
 split at hd
 ·rename_i hv;exact(docsF_sz hv hs.t (fun t ht=>⟨(hs.w t ht).1,(hs.w t ht).2.2⟩) hs.c hs.x d hd).2.2
 ·simp at hd
theorem docsP_n {s:Sg}(hv:validS s=true):(docsP s).length=s.docs.length:=by unfold docsP;rw[if_pos hv];simp[docsF]
attribute [-simp] List.getD_eq_getElem?_getD in
theorem mergeSP_ok (s t:Sg)(hs:SzS s)(ht:SzS t)(hl:validS s=true→validS t=true→s.docs.length+t.docs.length≤40)(H:List Blk)(T:Toks) :
  ACall Tryz.prog 130 [sgAV s,sgAV t] H T (Is (.tup [sgAV (mergeF s t).1,.int .i64 (mergeF s t).2]) H T):=by
 refine ACall.frz ?_;show ACall Tryz.prog _ _ H T (BQ H T _);have cs:=fun H T=>validS_ok s hs H T;have ct:=fun H T=>validS_ok t ht H T;have ca:=fun H T=>and_ok s.docs t.docs hs.d ht.d H T .none .none;have cd:=fun H T=>documentsP_full s hs H T;have ce:=fun H T=>documentsP_ok t ht H T;have z1:=docsP_len hs;have z2:=docsP_len ht;have y1:=docsP_szd hs;have y2:=docsP_szd ht;have x1:=docsP_ns hs;have x2:=docsP_ns ht;refine acall_enter 6 [] Tryz.ntmps130 Tryz.func130 rfl (fun _ _=>Tryz.call130 _ _) (by simp) (fun HO=>?_);apply aw_reg;intro K h;simp(disch:=omega);apply h;clear h K;refine aw_then fun K1 hK1=>?_
 cases hv:validS s with
 |false=>
  rw[mergeF_bad1 hv];rw[hv] at cs;refine aw_reg fun K hK=>?_;simp(disch:=omega) ;refine acall_is (cs _ _) ?_;simp(disch:=omega) ;apply hK;clear hK K;apply aw_ift rfl;apply aw_reg;intro K h;simp(disch:=omega);apply h;clear h K;apply aw_ret;simp(disch:=omega) ;exact⟨⟨_,rfl⟩,⟨[],by simp⟩,frz_none _⟩
 |true=>
 rw[hv] at cs
 cases hv2:validS t with
 |false=>
  rw[mergeF_bad2 hv2];rw[hv2] at ct;refine aw_reg fun K hK=>?_;simp(disch:=omega) ;refine acall_is (cs _ _) ?_;simp(disch:=omega) ;refine acall_is (ct _ _) ?_;simp(disch:=omega) ;apply hK;clear hK K;apply aw_ift rfl;apply aw_reg;intro K h;simp(disch:=omega);apply h;clear h K;apply aw_ret;simp(disch:=omega) ;exact⟨⟨_,rfl⟩,⟨[],by simp⟩,frz_none _⟩
 |true=>
 rw[hv2] at ct;have hlen:=hl hv hv2;rw[←docsP_n hv,←docsP_n hv2] at hlen;refine aw_reg fun K hK=>?_;simp(disch:=omega) ;refine acall_is (cs _ _) ?_;simp(disch:=omega) ;refine acall_is (ct _ _) ?_;simp(disch:=omega) ;apply hK;clear hK K;apply aw_iff rfl;apply aw_skip;simp(disch:=omega) ;apply hK1;clear hK1;refine aw_then fun K1 hK1=>?_
 by_cases hc:comb (fun p q=>p&&q) s.docs t.docs=[]
 rotate_left
 ·rw[mergeF_and hv hv2 hc];have hc1:(0:Int)<((comb (fun p q=>p&&q) s.docs t.docs).length:Nat):=by
   have:=List.length_pos_iff.2 hc;omega
  have hc2:decide ((0:Int)<((comb (fun p q=>p&&q) s.docs t.docs).length:Nat))=true:=decide_eq_true hc1;generalize comb (fun p q=>p&&q) s.docs t.docs=c at *;refine aw_reg fun K hK=>?_;simp(disch:=omega) ;refine acall_is (ca _ _) ?_;simp(disch:=omega)[hc2,hc];apply hK;clear hK K;refine aw_if rfl (fun h=>?_) (fun h=>absurd h (by simp[hc]));apply aw_reg;intro K h;simp(disch:=omega);apply h;clear h K;apply aw_ret;simp(disch:=omega) ;exact⟨⟨_,rfl⟩,⟨[],by simp⟩,frz_none _⟩
 have hM:=mergeF_ok hv hv2 hc;rw[hc] at ca;refine aw_reg fun K hK=>?_;simp(disch:=omega) ;refine acall_is (ca _ _) ?_;simp(disch:=omega) ;apply hK;clear hK K;apply aw_iff rfl;apply aw_skip;simp(disch:=omega) ;apply hK1;clear hK1;have cb:=fun H T tg=>buildP_ok (docsP s++docsP t) (by rw[List.length_append];omega) (fun d hd=>(List.mem_append.1 hd).elim (y1 d) (y2 d)) (fun d hd=>(List.mem_append.1 hd).elim (x1 d) (x2 d)) H T tg;rw[List.length_append,←dcAV_app] at cb;generalize docsP s=ds at *;generalize docsP t=dt at *;generalize buildF (ds++dt)=r at *;refine aw_draw [4,8] [0,0,0,0,0,1,1,1,1,2] [[],[]] drawMixed (by kernel_rfl) (by kernel_rfl) fun K hK=>?_;simp(disch:=omega)[dcAV_len];refine dcall_is (cd _ _) rfl ?_;simp(disch:=omega) ;refine dcall_is (ce _ _) rfl ?_;simp(disch:=omega)[dcAV_len];refine dcall_is (cb _ _ _) rfl ?_;simp(disch:=omega) ;apply hK;clear hK K;apply aw_ret;simp(disch:=omega) ;rw[hM];refine⟨⟨_,rfl⟩,⟨_,rfl⟩,.same ?_⟩;simp
def idxI (l:List Int)(n:Int):Int:=if n∈l then (l.findIdx (·==n):Nat) else -1
theorem idxI_no {l:List Int}{n:Int}(h:∀j,j<l.length→l.getD j 0≠n):idxI l n=-1:=by
 unfold idxI;rw[if_neg];intro hm;obtain⟨i,hi,e⟩:=List.mem_iff_getElem.1 hm;exact h i hi (by rw[List.getD_eq_getElem?_getD,List.getElem?_eq_getElem hi];exact e)
theorem idxI_at {l:List Int}{n:Int}{k:Nat}(hk:k<l.length)(h:∀j,j<k→l.getD j 0≠n)(e:l.getD k 0=n):idxI l n=k:=by
 have ek:l[k]=n:=by rw[List.getD_eq_getElem?_getD,List.getElem?_eq_getElem hk] at e;exact e
 unfold idxI;rw[if_pos (by rw[←ek];exact List.getElem_mem hk)];have:l.findIdx (·==n)=k:=by
  rw[List.findIdx_eq hk];refine⟨by simpa using ek,fun j hj=>?_⟩;have:=h j hj;rw[List.getD_eq_getElem?_getD,List.getElem?_eq_getElem (by omega)] at this;simpa using this
 rw[this]
theorem idxI_mem (l:List Int)(n:Int):decide (0≤idxI l n)=decide (n∈l):=by
 unfold idxI
 by_cases h:n∈l
 ·rw[if_pos h,decide_eq_true h];exact decide_eq_true (by omega)
 ·rw[if_neg h,decide_eq_false h];exact decide_eq_false (by omega)
attribute [-simp] List.getD_eq_getElem?_getD in
theorem indexInts_ok (l:List Int)(n:Int)(hl:l.length≤maxLen)(H:List Blk)(T:Toks):ACall Tryz.prog 155 [.sl l.length (ints l) .none,.int .i64 n] H T (Is (.int .i64 (idxI l n)) H T):=by
 have hl':l.length≤9223372036854775807:=Nat.le_trans hl (by decide);refine ACall.drop' ?_ (by simp);refine acall_enter 9 [] Tryz.ntmps155 Tryz.func155 rfl (fun _ _=>Tryz.call155 _ _) (by simp) (fun HO=>?_);apply aw_reg;intro K h;simp(disch:=omega);apply h;clear h K;refine aw_then fun K1 hK1=>?_;apply aw_reg;intro K h;simp(disch:=omega);apply h;clear h K;apply aw_block;refine aw_loop (X:=Nat) (fun k=>⟨[(0,.sl l.length (ints l) .none),(1,.int .i64 n),(7,.int .i64 (l.length:Nat)),(8,.int .i64 (k:Nat))],H,T⟩) (fun k=>k≤l.length∧∀j,j<k→l.getD j 0≠n) (fun k=>l.length-k) 0 ?_ ?_ ?_
 ·exact⟨Nat.zero_le _,fun j hj=>absurd hj (Nat.not_lt_zero _)⟩
 ·refine weak_to [] [] ?_ ?_ ?_ ?_ HO ?_
  all_goals simp
 ·rintro k ⟨h1,h2⟩;apply aw_reg;intro K h;simp(disch:=omega);apply h;clear h K;refine aw_then fun K2 hK2=>?_;refine aw_if rfl (fun hk=>?_) (fun hk=>?_)
  ·simp  at hk;have hat:=getD_ints hk;have hkl:k<(ints l).length:=by simpa using hk
   apply aw_skip;simp(disch:=omega) ;apply hK2;clear hK2;refine aw_then fun K3 hK3=>?_;apply aw_block;apply aw_reg;intro K h;simp(disch:=omega);apply h;clear h K
   by_cases he:l.getD k 0=n
   ·have hi:=idxI_at hk h2 he;have b1:(n==l.getD k 0)=true:=by simpa using he.symm
    refine aw_reg fun K hK=>?_;simp(disch:=omega)[hat,hkl,hk,b1,he];apply hK;clear hK K;apply aw_ift rfl;apply aw_reg;intro K h;simp(disch:=omega);apply h;clear h K;apply aw_ret;simp(disch:=omega) ;rw[hi]
   ·have b1:(n==l.getD k 0)=false:=by simpa using fun e=>he e.symm
    have st:∀j,j<k+1→l.getD j 0≠n:=fun j hj=>by
     rcases Nat.lt_or_ge j k with h3|h3
     ·exact h2 j h3
     ·have:j=k:=by omega
      subst this;exact he
    generalize l.getD k 0=x at *;refine aw_reg fun K hK=>?_;simp(disch:=omega)[hat,hkl,hk,b1];apply hK;clear hK K;apply aw_iff rfl;apply aw_skip;simp(disch:=omega) ;apply hK3;clear hK3;refine aw_reg0 fun K hK=>?_;simp(disch:=omega) ;apply hK;clear hK K;refine⟨k+1,⟨by omega,st⟩,by omega,?_⟩;refine weak_to [] [] ?_ ?_ ?_ ?_ HO ?_
    all_goals simp
  ·simp  at hk;have e:k=l.length:=by omega
   subst e;apply aw_exit;simp(disch:=omega) ;apply hK1;clear hK1;apply aw_reg;intro K h;simp(disch:=omega);apply h;clear h K;apply aw_ret;simp(disch:=omega) ;rw[idxI_no h2]
attribute [-simp] List.getD_eq_getElem?_getD in
theorem contInts_ok (l:List Int)(n:Int)(hl:l.length≤maxLen)(H:List Blk)(T:Toks)(tg:Tag):ACall Tryz.prog 89 [.sl l.length (ints l) tg,.int .i64 n] H T (Is (.bool (decide (n∈l))) H T):=by
 refine ACall.untag1 ?_;refine ACall.drop' ?_ (by simp);have c:=fun H T=>indexInts_ok l n hl H T;rw[←idxI_mem];generalize idxI l n=v at *;refine acall_enter 5 [] Tryz.ntmps89 Tryz.func89 rfl (fun _ _=>Tryz.call89 _ _) (by simp) (fun HO=>?_);apply aw_reg;intro K h;simp(disch:=omega);apply h;clear h K;refine aw_reg fun K hK=>?_;simp(disch:=omega) ;refine acall_is (c _ _) ?_;simp(disch:=omega) ;apply hK;clear hK K;apply aw_ret;simp(disch:=omega) 
theorem dcAV_cons (x:Dc)(u:List Dc):dcAV (x::u)=.int .i64 x.id::.sl x.zs.length (znAV x.zs) .none::.sl x.ns.length (nmAV x.ns) .none::dcAV u:=rfl
theorem dcAV_set3:∀(u:List Dc)(i:Nat)(x:Dc),i<u.length→(((dcAV u).set (i*3) (.int .i64 x.id)).set (i*3+1) (.sl x.zs.length (znAV x.zs) .none)).set (i*3+1+1) (.sl x.ns.length (nmAV x.ns) .none)=dcAV (u.set i x):=by
 intro u
 induction u with
 |nil=>intro i x h;simp at h
 |cons p u ih=>
  intro i x h
  cases i with
  |zero=>
   rw[dcAV_cons];show _=dcAV (x::u);rw[dcAV_cons];rfl
  |succ i=>
   have:=ih i x (by simpa using h);rw[dcAV_cons,List.set_cons_succ,dcAV_cons,show (i+1)*3=i*3+1+1+1 by omega,←this];rfl
def idxD (p:Dc→Bool)(l:List Dc):Int:=if l.any p=true then (l.findIdx p:Nat) else -1
theorem idxD_no {p:Dc→Bool}{l:List Dc}(h:∀j,j<l.length→p (l.getD j d0)=false):idxD p l=-1:=by
 unfold idxD;rw[if_neg];rw[List.any_eq_true];rintro⟨x,hx,hp⟩;obtain⟨i,hi,rfl⟩:=mem_getD d0 hx;rw[h i hi] at hp;cases hp
theorem idxD_at {p:Dc→Bool}{l:List Dc}{k:Nat}(hk:k<l.length)(h:∀j,j<k→p (l.getD j d0)=false)(e:p (l.getD k d0)=true):idxD p l=k:=by
 have g:∀j (hj:j<l.length),l.getD j d0=l[j]:=fun j hj=>by rw[List.getD_eq_getElem?_getD,List.getElem?_eq_getElem hj];rfl
 rw[g k hk] at e;unfold idxD;rw[if_pos (List.any_eq_true.2 ⟨_,List.getElem_mem hk,e⟩)];have:l.findIdx p=k:=by
  rw[List.findIdx_eq hk];refine⟨e,fun j hj=>?_⟩;have:=h j hj;rw[g j (by omega)] at this;exact this
 rw[this]
theorem idxD_inv (p:Dc→Bool)(l:List Dc):(idxD p l=-1∧∀d∈l,p d=false)∨∃k,k<l.length∧idxD p l=(k:Nat)∧(∀j,j<k→p (l.getD j d0)=false)∧p (l.getD k d0)=true:=by
 unfold idxD
 by_cases h:l.any p=true
 ·right
  rw[if_pos h];obtain⟨x,hx,hp⟩:=List.any_eq_true.1 h;have hlt:l.findIdx p<l.length:=List.findIdx_lt_length.2 ⟨x,hx,hp⟩;have g:∀j (hj:j<l.length),l.getD j d0=l[j]:=fun j hj=>by rw[List.getD_eq_getElem?_getD,List.getElem?_eq_getElem hj];rfl
  refine⟨_,hlt,rfl,fun j hj=>?_,?_⟩
  ·rw[g j (by omega)];have:=List.not_of_lt_findIdx hj;simpa using this
  ·rw[g _ hlt];exact List.findIdx_getElem
 ·left
  rw[if_neg h];refine⟨rfl,fun d hd=>?_⟩;have:=List.any_eq_false.1 (by simpa using h:l.any p=false) d hd;simpa using this
attribute [-simp] List.getD_eq_getElem?_getD in
theorem indexFD_ok (p:Dc→Bool)(l:List Dc)(hl:l.length≤1000000)(g:FuncId)(caps:List AV)(Hx:List Blk)(T:Toks)(hbc:BelowAll Hx.length T.length caps)
  (hc:∀d∈l,∀X,ACall Tryz.prog g ([.agg (dcC d)]++caps) (Hx++X) T (Is (.bool (p d)) (Hx++X) T)) :
  ACall Tryz.prog 175 [.msl Hx.length 0 l.length,.fn g [] caps] (Hx++[.cells (dcAV l)]) T (Is (.int .i64 (idxD p l)) (Hx++[.cells (dcAV l)]) T):=by
 have hl':l.length≤9223372036854775807:=by omega
 refine acall_enter 9 [] Tryz.ntmps175 Tryz.func175 rfl (fun _ _=>Tryz.call175 _ _) (by simp) (fun HO=>?_);have hbc1:BelowAll (Hx.length+1) T.length caps:=fun v hv=>(hbc v hv).more (by omega) (Nat.le_refl _);apply aw_reg;intro K h;simp(disch:=omega);apply h;clear h K;refine aw_then fun K1 hK1=>?_;apply aw_reg;intro K h;simp(disch:=omega);apply h;clear h K;apply aw_block;refine aw_loop (X:=Nat) (fun k=>⟨[(0,.msl Hx.length 0 l.length),(1,.fn g [] caps),(7,.int .i64 (l.length:Nat)),(8,.int .i64 (k:Nat))],Hx++[.cells (dcAV l)],T⟩) (fun k=>k≤l.length∧∀j,j<k→p (l.getD j d0)=false) (fun k=>l.length-k) 0 ?_ ?_ ?_
 ·exact⟨Nat.zero_le _,fun j hj=>absurd hj (Nat.not_lt_zero _)⟩
 ·refine weak_to [] [] ?_ ?_ ?_ ?_ HO ?_
  all_goals simp
  all_goals exact hbc1
 ·rintro k ⟨h1,h2⟩;apply aw_reg;intro K h;simp(disch:=omega);apply h;clear h K;refine aw_then fun K2 hK2=>?_;refine aw_if rfl (fun hk=>?_) (fun hk=>?_)
  ·simp  at hk;have hcut:=dcAV_cut l k hk;have c:=fun X=>hc _ (getD_mem l k d0 hk) X;have hat:=fun h e=>idxD_at hk h e (p:=p);have st:p (l.getD k d0)=false→∀j,j<k+1→p (l.getD j d0)=false:=fun e j hj=>by
    rcases Nat.lt_or_ge j k with h3|h3
    ·exact h2 j h3
    ·have:j=k:=by omega
     subst this;exact e
   have hlen:=dcAV_len l;apply aw_skip;simp(disch:=omega) ;apply hK2;clear hK2;refine aw_then fun K3 hK3=>?_;apply aw_block;apply aw_reg;intro K h;simp(disch:=omega);apply h;clear h K
   cases hp:p (l.getD k d0) with
   |true=>
    have hi:=hat h2 hp;rw[hp] at c;generalize l.getD k d0=x at *;refine aw_reg fun K hK=>?_;simp(disch:=omega)[hcut,hlen,hk];refine acall_is (c _) ?_;simp(disch:=omega) ;apply hK;clear hK K;apply aw_ift rfl;apply aw_reg;intro K h;simp(disch:=omega);apply h;clear h K;apply aw_ret;simp(disch:=omega) ;rw[hi];exact⟨rfl,rfl,rfl⟩
   |false=>
    have st2:=st hp;rw[hp] at c;generalize l.getD k d0=x at *;refine aw_reg fun K hK=>?_;simp(disch:=omega)[hcut,hlen,hk];refine acall_is (c _) ?_;simp(disch:=omega) ;apply hK;clear hK K;apply aw_iff rfl;apply aw_skip;simp(disch:=omega) ;apply hK3;clear hK3;refine aw_reg0 fun K hK=>?_;simp(disch:=omega) ;apply hK;clear hK K;refine⟨k+1,⟨by omega,st2⟩,by omega,?_⟩;refine weak_to [] [] ?_ ?_ ?_ ?_ HO ?_
    all_goals simp
    all_goals exact hbc1
  ·simp  at hk;have e:k=l.length:=by omega
   subst e;apply aw_exit;simp(disch:=omega) ;apply hK1;clear hK1;apply aw_reg;intro K h;simp(disch:=omega);apply h;clear h K;apply aw_ret;simp(disch:=omega) ;rw[idxD_no h2];exact⟨rfl,rfl,rfl⟩
def kpt (p:Dc→Bool)(l:List Dc)(j:Nat):List Dc:=(l.take j).filter fun d=>!p d
theorem kpt_le (p:Dc→Bool)(l:List Dc)(j:Nat):(kpt p l j).length≤j:=by
 unfold kpt;have:=List.length_filter_le (fun d=>!p d) (l.take j);rw[List.length_take] at this;omega
def wvD (p:Dc→Bool)(l:List Dc)(j:Nat):List Dc:=kpt p l j++l.drop (kpt p l j).length
theorem wvD_len (p:Dc→Bool)(l:List Dc){j:Nat}(hj:j≤l.length):(wvD p l j).length=l.length:=by
 have:=kpt_le p l j;rw[wvD,List.length_append,List.length_drop];omega
theorem wvD_get {p:Dc→Bool}{l:List Dc}{j:Nat}:(wvD p l j).getD j d0=l.getD j d0:=by
 have:=kpt_le p l j;rw[wvD,List.getD_eq_getElem?_getD,List.getElem?_append_right this,List.getElem?_drop,show (kpt p l j).length+(j-(kpt p l j).length)=j by omega,←List.getD_eq_getElem?_getD]
theorem kpt_yes {p:Dc→Bool}{l:List Dc}{j:Nat}(hj:j<l.length)(h:p (l.getD j d0)=true):kpt p l (j+1)=kpt p l j:=by
 unfold kpt;rw[take_getD l j d0 hj,List.filter_append];simp[h,-List.getD_eq_getElem?_getD]
theorem kpt_no {p:Dc→Bool}{l:List Dc}{j:Nat}(hj:j<l.length)(h:p (l.getD j d0)=false):kpt p l (j+1)=kpt p l j++[l.getD j d0]:=by
 unfold kpt;rw[take_getD l j d0 hj,List.filter_append];simp[h,-List.getD_eq_getElem?_getD]
theorem wvD_yes {p:Dc→Bool}{l:List Dc}{j:Nat}(hj:j<l.length)(h:p (l.getD j d0)=true):wvD p l (j+1)=wvD p l j:=by
 rw[wvD,wvD,kpt_yes hj h]
theorem wvD_no {p:Dc→Bool}{l:List Dc}{j:Nat}(hj:j<l.length)(h:p (l.getD j d0)=false):wvD p l (j+1)=(wvD p l j).set (kpt p l j).length (l.getD j d0):=by
 have hl:=kpt_le p l j;rw[wvD,wvD,kpt_no hj h,List.set_append_right _ _ (Nat.le_refl _),Nat.sub_self,List.length_append,List.append_assoc]
 congr 1
 rw[List.drop_eq_getElem_cons (by omega:(kpt p l j).length<l.length)];rfl
theorem kpt_first {p:Dc→Bool}{l:List Dc}{k:Nat}(hk:k≤l.length)(h:∀j,j<k→p (l.getD j d0)=false):kpt p l k=l.take k:=by
 unfold kpt;rw[List.filter_eq_self];intro d hd;obtain⟨i,hi,e⟩:=mem_getD d0 hd;rw[List.length_take] at hi;have h2:=h i (by omega);have e2:(l.take k).getD i d0=l.getD i d0:=by rw[List.getD_eq_getElem?_getD,List.getD_eq_getElem?_getD,List.getElem?_take,if_pos (by omega)]
 rw[e2] at e;rw[←e,h2];rfl
theorem kpt_all (p:Dc→Bool)(l:List Dc):kpt p l l.length=l.filter fun d=>!p d:=by unfold kpt;rw[List.take_length]
theorem HOk.resetD {H:List Blk}{T:Toks}{b:Blk}{vs:List AV}(h:HOk (H++[b]) T)(hv:BelowAll (H.length+1) T.length vs):HOk (H++[.cells vs]) T:=by
 have:=h.set (k:=H.length) (vs:=vs) (by rw[List.length_append];exact hv);simpa using this
theorem setMany_appD (a:List AV):∀(xs b:List AV)(o:Nat),setMany (a++b) (a.length+o) xs=a++setMany b o xs:=by
 intro xs
 induction xs with
 |nil=>intro b o;rfl
 |cons x r ih=>
  intro b o;rw[setMany,setMany,List.set_append_right _ _ (by omega),Nat.add_sub_cancel_left,Nat.add_assoc,ih]
attribute [-simp] List.getD_eq_getElem?_getD in
theorem deleteD_ok (p:Dc→Bool)(l:List Dc)(hl:l.length≤1000000)(g:FuncId)(caps:List AV)(Hx:List Blk)(T:Toks)(hbc:BelowAll Hx.length T.length caps)
  (hc:∀d∈l,∀X,ACall Tryz.prog g ([.agg (dcC d)]++caps) (Hx++X) T (Is (.bool (p d)) (Hx++X) T)) :
  ACall Tryz.prog 178 [.msl Hx.length 0 l.length,.fn g [] caps] (Hx++[.cells (dcAV l)]) T
   (fun r H' T'=>r=.msl Hx.length 0 (l.filter fun d=>!p d).length∧T'=T∧∃rest X,H'=Hx++(.cells (dcAV (l.filter fun d=>!p d)++rest)::X)):=by
 have hl':l.length≤9223372036854775807:=by omega
 have ci:=indexFD_ok p l hl g caps Hx T hbc hc;refine acall_enter 10 [] Tryz.ntmps178 Tryz.func178 rfl (fun _ _=>Tryz.call178 _ _) (by simp) (fun HO=>?_);have hbc1:∀n,Hx.length≤n→BelowAll n T.length caps:=fun n hn v hv=>(hbc v hv).more hn (Nat.le_refl _);apply aw_reg;intro K h;simp(disch:=omega);apply h;clear h K;rcases idxD_inv p l with⟨e,hno⟩|⟨k,hk,e,hlt,hyes⟩
 ·rw[e] at ci;have hf:l.filter (fun d=>!p d)=l:=by
   rw[List.filter_eq_self];intro d hd;rw[hno d hd];rfl
  refine aw_reg fun K hK=>?_;simp(disch:=omega) ;refine acall_is (ci) ?_;simp(disch:=omega) ;apply hK;clear hK K;refine aw_then fun K1 hK1=>?_;apply aw_reg;intro K h;simp(disch:=omega);apply h;clear h K;apply aw_ift rfl;apply aw_reg;intro K h;simp(disch:=omega);apply h;clear h K;apply aw_ret;simp(disch:=omega) ;rw[hf];exact⟨rfl,[],by simp⟩
 rw[e] at ci;have hkn:((k:Nat):Int)≠-1:=by omega
 have bk:(((k:Nat):Int)==-1)=false:=by simp
 refine aw_reg fun K hK=>?_;simp(disch:=omega) ;refine acall_is (ci) ?_;simp(disch:=omega) ;apply hK;clear hK K;refine aw_then fun K1 hK1=>?_;refine aw_reg fun K hK=>?_;simp(disch:=omega)[bk,hkn];apply hK;clear hK K;apply aw_iff rfl;apply aw_skip;simp(disch:=omega) ;apply hK1;clear hK1;refine aw_then fun K1 hK1=>?_;have hk1:kpt p l k=l.take k:=kpt_first (by omega) hlt;have hk2:kpt p l (k+1)=l.take k:=by rw[kpt_yes hk hyes,hk1]
 have hk3:(kpt p l (k+1)).length=k:=by rw[hk2,List.length_take];omega
 have hk4:wvD p l (k+1)=l:=by rw[wvD,hk3,hk2,List.take_append_drop]
 have hOK:∀i,HOk (Hx++[.cells (dcAV (wvD p l i))]) T:=fun i=>HOk.resetD HO (below_dc _ _ _);apply aw_reg;intro K h;simp(disch:=omega);apply h;clear h K;apply aw_block;refine aw_loop (X:=Nat) (fun j=>⟨[(0,.msl Hx.length 0 l.length),(1,.fn g [] caps),(5,.int .i64 ((kpt p l (k+1+j)).length:Nat)),(6,.int .i64 ((k+1+j:Nat):Int))],Hx++[.cells (dcAV (wvD p l (k+1+j)))],T⟩)
  (fun j=>k+1+j≤l.length∧(kpt p l (k+1+j)).length<k+1+j) (fun j=>l.length-(k+1+j)) 0 ?_ ?_ ?_
 ·exact⟨hk,by rw[Nat.add_zero,hk3];omega⟩
 ·refine weak_to [] [] ?_ ?_ ?_ ?_ (hOK _) ?_
  all_goals simp[hk3,hk4]
  all_goals exact hbc1 _ (by omega)
 ·rintro j ⟨h1,h2⟩;obtain⟨i,hi⟩:∃i,i=k+1+j:=⟨_,rfl⟩
  have hstep:∀P:Nat→Prop,P (i+1)→P (k+1+(j+1)):=fun P h=>by rw[hi] at h;exact h
  rw[←hi] at h1 h2 ⊢;have hwl:=wvD_len p l h1;have hlen:(dcAV (wvD p l i)).length=l.length*3:=by rw[dcAV_len,hwl]
  refine aw_then fun K2 hK2=>?_;apply aw_reg;intro K h;simp(disch:=omega);apply h;clear h K;refine aw_if rfl (fun hj=>?_) (fun hj=>?_)
  ·simp  at hj;have hcut:=dcAV_cut (wvD p l i) i (by omega);rw[wvD_get] at hcut;have c:=fun X=>hc _ (getD_mem l i d0 hj) X;have hOi:=hOK i;apply aw_skip;simp(disch:=omega) ;apply hK2;clear hK2;refine aw_then fun K3 hK3=>?_;apply aw_block;have out:∀(i':Nat) e,i'=i+1→(kpt p l i').length<i'→envLe (Hx.length+1) T.length e [(0,.msl Hx.length 0 l.length),(1,.fn g [] caps),(5,.int .i64 ((kpt p l i').length:Nat)),(6,.int .i64 ((i:Nat):Int))]→∀X,K3 ⟨e,Hx++.cells (dcAV (wvD p l i'))::X,T⟩:=by
    intro i' e hi' hlt' he X;refine hK3 _ (aw_weak ⟨[(0,.msl Hx.length 0 l.length),(1,.fn g [] caps),(5,.int .i64 ((kpt p l i').length:Nat)),(6,.int .i64 ((i:Nat):Int))],Hx++[.cells (dcAV (wvD p l i'))],T⟩ (weak_to X [] (by simp) (by simp) (by simp) (by simp) (hOK _) (by simpa using he)) ?_);refine aw_reg0 fun K hK=>?_;simp(disch:=omega) ;apply hK;clear hK K;refine⟨j+1,⟨by show k+1+(j+1)≤_;omega,?_⟩,by show l.length-(k+1+(j+1))<l.length-i;omega,?_⟩
    ·refine hstep (fun x=>(kpt p l x).length<x) ?_;rw[←hi'];exact hlt'
    ·have e1:k+1+(j+1)=i':=by omega
     have e2:((i':Nat):Int)=(i:Nat)+1:=by omega
     simp only[e1];refine weak_to [] [] ?_ ?_ ?_ ?_ (hOK _) ?_
     all_goals simp[e2]
     all_goals exact hbc1 _ (by omega)
   clear hK3;refine aw_reg fun K hK=>?_;simp(disch:=omega)[hcut,hlen,hj];apply hK;clear hK K;have hOd:HOk (Hx++[.cells (dcAV (wvD p l i)),.cells (dcC (l.getD i d0))]) T:=by
    have:=hOi.snoc (vs:=dcC (l.getD i d0)) (by simp);simpa using this
   cases hp:p (l.getD i d0) with
   |true=>
    rw[hp] at c;have e1:=kpt_yes hj hp;have e2:=wvD_yes hj hp;have out:=fun e=>out (i+1) e rfl (by rw[e1];omega);rw[e1,e2] at out;generalize l.getD i d0=x at *;refine aw_reg fun K hK=>?_;simp(disch:=omega) ;refine acall_is (c _) ?_;simp(disch:=omega) ;apply hK;clear hK K;apply aw_iff rfl;apply aw_skip;simp(disch:=omega) ;refine out _ ?_ _;simp;exact hbc1 _ (by omega)
   |false=>
    rw[hp] at c;have e1:=kpt_no hj hp;have e2:=wvD_no hj hp;have e3:(kpt p l (i+1)).length=(kpt p l i).length+1:=by rw[e1];simp
    have hset:=dcAV_set3 (wvD p l i) (kpt p l i).length (l.getD i d0) (by omega);have out:=fun e=>out (i+1) e rfl (by rw[e3];omega);rw[e3,e2,←hset] at out;have hlt3:(kpt p l i).length<l.length:=by omega
    generalize l.getD i d0=x at *;generalize (kpt p l i).length=m at *;generalize dcAV (wvD p l i)=B at *;refine aw_reg fun K hK=>?_;simp(disch:=omega) ;refine acall_is (c _) ?_;simp(disch:=omega) ;apply hK;clear hK K;apply aw_ift rfl;refine aw_reg fun K hK=>?_;simp(disch:=omega)[hlt3,hlen];apply hK;clear hK K;refine aw_reg0 fun K hK=>?_;simp(disch:=omega) ;apply hK;clear hK K;refine out _ ?_ _;simp;exact hbc1 _ (by omega)
  ·simp  at hj;have e:i=l.length:=by omega
   have hw:wvD p l i=kpt p l i++l.drop (kpt p l i).length:=rfl;have hka:kpt p l i=l.filter fun d=>!p d:=by rw[e,kpt_all]
   rw[hw,←dcAV_app] at hlen ⊢;have hcm:=dcAV_len (kpt p l i);have hset:=fun xs=>setMany_appD (dcAV (kpt p l i)) xs (dcAV (l.drop (kpt p l i).length)) 0;rw[hcm,Nat.add_zero] at hset;generalize kpt p l i=c at hlen hcm hset h2 hka ⊢;generalize dcAV (l.drop c.length)=R at hlen hset ⊢;apply aw_exit;simp(disch:=omega) ;apply hK1;clear hK1;have hle:c.length≤l.length:=by omega
   have hcl:c.length<l.length:=by omega
   refine aw_reg fun K hK=>?_;simp(disch:=omega)[hcl,hlen];apply hK;clear hK K;rw[hset];refine aw_reg fun K hK=>?_;simp(disch:=omega)[hle];apply hK;clear hK K;apply aw_ret;simp(disch:=omega) ;rw[hka];exact⟨rfl,_,rfl⟩
attribute [-simp] List.getD_eq_getElem?_getD in
theorem dropCall_ok (ids:List Int)(hi:ids.length≤maxLen)(d:Dc)(b:Nat)(H:List Blk)(T:Toks)(hb:H[b]?=some (.cells [.sl ids.length (ints ids) .none])) :
  ACall Tryz.prog 179 ([.agg (dcC d)]++[.ptr b 0]) H T (Is (.bool (decide (d.id∈ids))) H T):=by
 refine ACall.drop' ?_ (by simp);have c:=fun H T=>contInts_ok ids d.id hi H T .none;obtain⟨id,zs,ns⟩:=d;simp only at c;have hbl:=(List.getElem?_eq_some_iff.1 hb).1;have hat:=at_of hb;generalize decide (id∈ids)=q at *;refine acall_enter 5 [] Tryz.ntmps179 Tryz.func179 rfl (fun _ _=>Tryz.call179 _ _) (by simp) (fun HO=>?_);apply aw_reg;intro K h;simp(disch:=omega);apply h;clear h K;refine aw_reg fun K hK=>?_;simp(disch:=omega)[List.getElem?_append_left,List.getElem_append_left,hb,hbl,hat];refine acall_is (c _ _) ?_;simp(disch:=omega) ;apply hK;clear hK K;apply aw_ret;simp(disch:=omega) 
attribute [-simp] List.getD_eq_getElem?_getD in
theorem indexNil_ok (g:FuncId)(caps:List AV)(H:List Blk)(T:Toks)(hbc:BelowAll H.length T.length caps) :
  ACall Tryz.prog 175 [.sl 0 [] .none,.fn g [] caps] H T (Is (.int .i64 (-1)) H T):=by
 refine ACall.drop' ?_ (by simp);refine acall_enter 9 [] Tryz.ntmps175 Tryz.func175 rfl (fun _ _=>Tryz.call175 _ _) (by simp) (fun HO=>?_);apply aw_reg;intro K h;simp(disch:=omega);apply h;clear h K;refine aw_then fun K1 hK1=>?_;apply aw_reg;intro K h;simp(disch:=omega);apply h;clear h K;apply aw_block;refine aw_loop (X:=Nat) (fun k=>⟨[(7,.int .i64 0),(8,.int .i64 0)],H,T⟩) (fun k=>True) (fun k=>0) 0 trivial ?_ ?_
 ·refine weak_to [] [] ?_ ?_ ?_ ?_ HO ?_
  all_goals simp
 ·intro k _;apply aw_reg;intro K h;simp(disch:=omega);apply h;clear h K;refine aw_then fun K2 hK2=>?_;refine aw_if rfl (fun hk=>?_) (fun hk=>?_)
  ·simp at hk
  ·apply aw_exit;simp(disch:=omega) ;apply hK1;clear hK1;apply aw_reg;intro K h;simp(disch:=omega);apply h;clear h K;apply aw_ret;simp(disch:=omega) 
attribute [-simp] List.getD_eq_getElem?_getD in
theorem deleteNil_ok (g:FuncId)(caps:List AV)(H:List Blk)(T:Toks)(hbc:BelowAll H.length T.length caps) :
  ACall Tryz.prog 178 [.sl 0 [] .none,.fn g [] caps] H T (Is (.sl 0 [] .none) H T):=by
 refine ACall.drop' ?_ (by simp);have ci:=indexNil_ok g caps H T hbc;refine acall_enter 10 [] Tryz.ntmps178 Tryz.func178 rfl (fun _ _=>Tryz.call178 _ _) (by simp) (fun HO=>?_);apply aw_reg;intro K h;simp(disch:=omega);apply h;clear h K;refine aw_reg fun K hK=>?_;simp(disch:=omega) ;refine acall_is (ci) ?_;simp(disch:=omega) ;apply hK;clear hK K;refine aw_then fun K1 hK1=>?_;apply aw_reg;intro K h;simp(disch:=omega);apply h;clear h K;apply aw_ift rfl;apply aw_reg;intro K h;simp(disch:=omega);apply h;clear h K;apply aw_ret;simp(disch:=omega) 
theorem leftF_sub {s:Sg}{ids:List Int}{d:Dc}(h:d∈leftF s ids):d∈docsP s:=(List.mem_filter.1 h).1
theorem leftF_len (s:Sg)(ids:List Int):(leftF s ids).length≤(docsP s).length:=List.length_filter_le _ _
theorem leftF_bad {s:Sg}{ids:List Int}(h:validS s=false):leftF s ids=[]:=by
 unfold leftF docsP;rw[if_neg (by rw[h];decide)];rfl
attribute [-simp] List.getD_eq_getElem?_getD in
theorem dropSP_ok (s:Sg)(hs:SzS s)(hl:validS s=true→s.docs.length≤40)(ids:List Int)(hi:ids.length≤maxLen)(H:List Blk)(T:Toks)(tg:Tag) :
  ACall Tryz.prog 129 [sgAV s,.sl ids.length (ints ids) tg] H T (Is (sgAV (dropF s ids)) H T):=by
 refine ACall.untag2 ?_;refine ACall.drop' ?_ (by simp);have y1:=docsP_szd hs;have x1:=docsP_ns hs;have z1:=docsP_len hs;have HOx:HOk H T→HOk (H++[.cells (sgC s),.cells [.sl ids.length (ints ids) .none],.cells [.sl 0 [] .full,.sl 0 [] .full,.sl 0 [] .full]]) T:=fun HO=>by
  have:=((HO.snoc (vs:=sgC s) (by simp)).snoc (vs:=[.sl ids.length (ints ids) .none]) (by simp)).snoc (vs:=[.sl 0 [] .full,.sl 0 [] .full,.sl 0 [] .full]) (by simp);simpa using this
 have cb:=fun hv H T=>buildP_ok (leftF s ids) (by have h1:=leftF_len s ids;have h2:=hl hv;rw[docsP_n hv] at h1;omega) (fun d hd=>y1 d (leftF_sub hd)) (fun d hd=>x1 d (leftF_sub hd)) H T .none;unfold dropF
 cases hv:validS s with
 |false=>
  have cd:=fun H T=>documentsP_nil s hs hv H T;have ce:=fun(H:List Blk) (T:Toks) (b:Nat) hb=>ACall.untag1 (deleteNil_ok 179 [.ptr b 0] H T hb) (a:=.sl 0 [] .full);have cb0:∀H T,ACall Tryz.prog 68 [.sl 0 [] .none] H T (Is (.tup [sgAV (buildF []).1,.int .i64 (buildF []).2]) H T):=fun H T=>buildP_ok [] (by simp) (fun d hd=>by simp at hd) (fun d hd=>by simp at hd) H T .none;rw[leftF_bad hv];generalize buildF []=r at *;refine acall_enter 8 [] Tryz.ntmps129 Tryz.func129 rfl (fun _ _=>Tryz.call129 _ _) (by simp) (fun HO=>?_);apply aw_reg;intro K h;simp(disch:=omega);apply h;clear h K;refine aw_reg fun K hK=>?_;simp(disch:=omega) ;refine acall_is (cd _ _) ?_;simp(disch:=omega) ;refine acall_is (ce _ _ _ (by simp)) ?_;simp(disch:=omega) ;apply hK;clear hK K;refine aw_reg fun K hK=>?_;simp(disch:=omega) ;refine acall_is (cb0 _ _) ?_;simp(disch:=omega) ;apply hK;clear hK K;apply aw_reg;intro K h;simp(disch:=omega);apply h;clear h K;apply aw_ret;simp(disch:=omega) 
 |true=>
  have cb:=cb hv;have cd:=fun H T=>documentsP_box s hs hv H T;have hP:docsP s=docsF s:=by unfold docsP;rw[if_pos hv]
  have hn:s.docs.length=(docsF s).length:=by rw[←hP,docsP_n hv]
  have hleft:leftF s ids=(docsF s).filter fun d=>!decide (d.id∈ids):=by unfold leftF;rw[hP]
  have hdl:(docsF s).length≤1000000:=by have:=hl hv;omega
  have cdel:=deleteD_ok (fun d=>decide (d.id∈ids)) (docsF s) hdl 179 [.ptr (H.length+1) 0] (H++[.cells (sgC s),.cells [.sl ids.length (ints ids) .none],.cells [.sl 0 [] .full,.sl 0 [] .full,.sl 0 [] .full],.cells (sgC s)]) T (by simp) (fun d hd X=>dropCall_ok ids hi d (H.length+1) _ T (by simp));have cdel:=ACall.untag1 (a:=.csl (H++[Blk.cells (sgC s),Blk.cells [.sl ids.length (ints ids) .none],Blk.cells [.sl 0 [] .full,.sl 0 [] .full,.sl 0 [] .full],Blk.cells (sgC s)]).length (docsF s).length (docsF s).length) cdel;rw[←hleft,←hn] at cdel;rw[hn] at cd;rw[hn] at cdel;simp only[List.append_assoc,List.cons_append,List.nil_append,List.length_append,List.length_cons,List.length_nil] at cdel;generalize docsF s=ds at *;generalize leftF s ids=lf at *;generalize buildF lf=r at *;refine acall_enter 8 [] Tryz.ntmps129 Tryz.func129 rfl (fun _ _=>Tryz.call129 _ _) (by simp) (fun HO=>?_);have HOx:=HOx HO;apply aw_reg;intro K h;simp(disch:=omega);apply h;clear h K;refine aw_reg fun K hK=>?_;simp(disch:=omega) ;refine acall_is (cd _ _) ?_;simp(disch:=omega) ;refine⟨_,cdel,?_⟩;rintro r' H' T' ⟨rfl,rfl,rest,X,rfl⟩;simp(disch:=omega) ;apply hK;clear hK K;have hG:H++Blk.cells (sgC s)::Blk.cells [AV.sl ids.length (ints ids) Tag.none]::Blk.cells [AV.sl 0 [] Tag.full,AV.sl 0 [] Tag.full,AV.sl 0 [] Tag.full]::Blk.cells (sgC s)::Blk.cells (dcAV lf++rest)::X
    = (H++[.cells (sgC s),.cells [.sl ids.length (ints ids) .none],.cells [.sl 0 [] .full,.sl 0 [] .full,.sl 0 [] .full]])++Blk.cells (sgC s)::Blk.cells (dcAV lf++rest)::X:=by simp
  rw[hG,←List.append_nil T'];refine aw_frz (H:=H++[.cells (sgC s),.cells [.sl ids.length (ints ids) .none],.cells [.sl 0 [] .full,.sl 0 [] .full,.sl 0 [] .full]]) (T:=T') (e':=[(2,.ptr H.length 0),(4,.ptr (H.length+2) 0),(5,.sl lf.length (dcAV lf) .none)]) ?_ ?_ HOx ?_ ?_
  ·simp
  ·simp
  ·refine⟨Frz.same (by simp),Frz.same (by simp),Frz.msl0 (rest:=rest) (by simp) ?_ (by simp),trivial⟩;rw[←hG];simp
  refine aw_reg fun K hK=>?_;simp(disch:=omega) ;refine acall_is (cb _ _) ?_;simp(disch:=omega) ;apply hK;clear hK K;apply aw_reg;intro K h;simp(disch:=omega);apply h;clear h K;apply aw_ret;simp(disch:=omega) 
structure Sm (s:Sg):Prop where
 d:s.docs.length≤20
 t:s.tms.length≤60
 w:∀t∈s.tms,t.w.length≤maxLen∧t.l.length≤30∧∀p∈t.l,p.2.length≤30
 c:s.cols.length≤6
 x:∀c∈s.cols,c.x.length≤30
theorem Sm.sz {s:Sg}(h:Sm s):SzS s:=⟨by have:=h.d;omega,by have:=h.t;omega,fun t ht=>⟨(h.w t ht).1,by have:=(h.w t ht).2.1;omega,fun p hp=>by have:=(h.w t ht).2.2 p hp;omega⟩,by have:=h.c;omega,fun c hc=>by have:=h.x c hc;omega⟩
end Go.Proofs.YtoejlmpbebjemaaGreat
