/- Searching among terms (layer 39). segment.Find (layer 39): what it answers; strings.HasPrefix. segment.Words (layer 39).
  Conditions: lengths below 1000 or 1000, as each theorem says. -/
import Derived.Test.YtoejlmpbebjemaaGreatGV
import Derived.Test.YtoejlmpbebjemaaGreatPZ
set_option linter.all false
set_option maxRecDepth 100000
set_option maxHeartbeats 4000000
namespace Go.Am
open Go
theorem ACall.dropR {P:Program}{f:FuncId}{args:List AV}{H:List Blk}{T:Toks}{R:AV→Prop}(hb:∀r,R r→Below H.length T.length r)
  (h:ACall P f args H T (fun r H' T'=>(∃rH,H'=H++rH)∧(∃rT,T'=T++rT)∧R r)):ACall P f args H T (fun r H' T'=>H'=H∧T'=T∧R r):=by
 refine⟨h.1,fun L w ca hc hl' hr=>(h.2 L w ca hc hl' hr).mono ?_⟩;rintro e w' ⟨r',H',T',L',cv,⟨⟨rH,e1⟩,⟨rT,e2⟩,e3⟩,rfl,hcon,hrep,hev⟩;subst e1;subst e2;refine⟨_,H,T,L',cv,⟨rfl,rfl,e3⟩,rfl,Con.front P hcon hc.hok,?_,hev.front (Nat.le_refl _) (Nat.le_refl _)⟩;have:=hrep.drop (hb _ e3);simpa using this
end Go.Am
namespace Go.Proofs.YtoejlmpbebjemaaGreat
open Go Go.Am Sug Seg Post
def OrdT (l:List Tm):Prop:=∀i j,i<j→j<l.length→kylt (l.getD i t0).k (l.getD j t0).k=true
theorem ordT_adj {l:List Tm}(h:∀i,0<i→i<l.length→kylt (l.getD (i-1) t0).k (l.getD i t0).k=true):OrdT l:=by
 intro i j hij hj
 induction j with
 |zero=>omega
 |succ j ih=>
  have h1:=h (j+1) (by omega) hj;rw[show j+1-1=j by omega] at h1;rcases Nat.lt_or_ge i j with h2|h2
  ·exact kylt_trans (ih h2 (by omega)) h1
  ·have:i=j:=by omega
   subst this;exact h1
def FindR (l:List Tm)(k:Ky)(r:AV):Prop:=∃(i:Nat) (b:Bool),r=.tup [.int .i64 (i:Nat),.bool b]∧i≤l.length∧
 (b=true→i<l.length∧(l.getD i t0).k=k)∧(b=false→OrdT l→∀j,j<l.length→(l.getD j t0).k≠k)∧(OrdT l→(∀j,j<i→kylt (l.getD j t0).k k=true)∧∀j,i≤j→j<l.length→kylt (l.getD j t0).k k=false)
def FindT (l:List Tm)(k:Ky)(H:List Blk)(T:Toks):AV→List Blk→Toks→Prop:=fun r H' T'=>H'=H∧T'=T∧FindR l k r
theorem kylt_ne {a b:Ky}(h:kylt a b=true):a≠b:=fun e=>by rw[e,kylt_irrefl] at h;cases h
attribute [-simp] List.getD_eq_getElem?_getD in
theorem bsearchT_ok (l:List Tm)(k:Ky)(u:AV)(hl:l.length≤1000)(H:List Blk)(T:Toks)(tg:Tag)(hu:Below H.length T.length u) :
  ACall Tryz.prog 149 [.sl l.length (tmAV l) tg,.agg [.int .i64 k.1,.str k.2,u],.fn 111 [] []] H T (FindT l k H T):=by
 refine ACall.untag1 ?_;have hR:∀r,FindR l k r→Below H.length T.length r:=by
  rintro r ⟨i,b,rfl,_⟩;simp
 refine ACall.dropR hR ?_;refine acall_enter 12 [] Tryz.ntmps149 Tryz.func149 rfl (fun _ _=>Tryz.call149 _ _) (by simp) (fun HO=>?_);apply aw_reg;intro K h;simp(disch:=omega);apply h;clear h K;have HO1:HOk (H++[.cells [.int .i64 k.1,.str k.2,u]]) T:=HO.snoc (by simp;exact hu.more (by omega) (by omega));apply aw_reg;intro K h;simp(disch:=omega);apply h;clear h K;apply aw_reg;intro K h;simp(disch:=omega);apply h;clear h K;refine aw_then fun K1 hK1=>?_;apply aw_block;refine aw_loop (X:=Nat×Nat) (fun x=>⟨[(0,.sl l.length (tmAV l) .none),(2,.fn 111 [] []),(4,.ptr H.length 0),(8,.int .i64 (l.length:Nat)),(9,.int .i64 (x.1:Nat)),(10,.int .i64 (x.2:Nat))],H++[.cells [.int .i64 k.1,.str k.2,u]],T⟩)
  (fun x=>x.1≤x.2∧x.2≤l.length∧(OrdT l→(∀j,j<x.1→kylt (l.getD j t0).k k=true)∧(∀j,x.2≤j→j<l.length→kylt (l.getD j t0).k k=false))) (fun x=>x.2-x.1) (0,l.length) ?_ ?_ ?_
 ·exact⟨Nat.zero_le _,Nat.le_refl _,fun _=>⟨fun j hj=>absurd hj (Nat.not_lt_zero _),fun j h1 h2=>absurd h2 (Nat.not_lt.2 h1)⟩⟩
 ·refine weak_to [] [] ?_ ?_ ?_ ?_ HO1 ?_
  all_goals simp
 ·rintro⟨lo,hi⟩ ⟨h1,h2,h3⟩;simp only at h1 h2 h3;refine aw_then fun K2 hK2=>?_;apply aw_reg;intro K h;simp(disch:=omega);apply h;clear h K;refine aw_if rfl (fun hk=>?_) (fun hk=>?_)
  ·simp  at hk;have hm:(lo+hi) / 2<l.length:=by omega
   have hcut:=tmAV_cut l ((lo+hi) / 2) hm;apply aw_skip;simp(disch:=omega) ;apply hK2;clear hK2;apply aw_block;apply aw_reg;intro K h;simp(disch:=omega);apply h;clear h K;rw[show ((lo:Int)+hi) / 2=(((lo+hi) / 2:Nat):Int) by omega];have hge:lo≤(lo+hi) / 2:=by omega
   have hlt:(lo+hi) / 2<hi:=by omega
   generalize (lo+hi) / 2=m at *;have c:=byWord_ok (l.getD m t0).k k (.sl (l.getD m t0).l.length (psAV (l.getD m t0).l) .none) u (H++[.cells [.int .i64 k.1,.str k.2,u]]) T
   by_cases hc:kylt (l.getD m t0).k k=true
   ·have hneg:=(cmpK_neg (l.getD m t0).k k).2 hc;generalize cmpK (l.getD m t0).k k=q at *;have bq:decide (q<0)=true:=decide_eq_true hneg;refine aw_draw [] [] [] drawMixed (by kernel_rfl) (by kernel_rfl) fun K hK=>?_;simp(disch:=omega)[hcut,tmAV_len];refine dcall_is (c) rfl ?_;simp(disch:=omega)[bq,hneg];apply hK;clear hK K;apply aw_ift rfl;refine aw_reg0 fun K hK=>?_;simp(disch:=omega) ;apply hK;clear hK K;refine⟨(m+1,hi),⟨by show m+1≤hi;omega,h2,fun hv=>⟨fun j hj=>?_,(h3 hv).2⟩⟩,by show hi-(m+1)<hi-lo;omega,?_⟩
    ·rcases Nat.lt_or_ge j m with h5|h5
     ·exact kylt_trans (hv _ _ h5 hm) hc
     ·have:j=m:=by omega
      subst this;exact hc
    ·refine weak_to [] [] ?_ ?_ ?_ ?_ HO1 ?_
     all_goals simp
   ·have hneg:¬cmpK (l.getD m t0).k k<0:=fun h=>hc ((cmpK_neg _ _).1 h);generalize cmpK (l.getD m t0).k k=q at *;have bq:decide (q<0)=false:=decide_eq_false hneg;refine aw_draw [] [] [] drawMixed (by kernel_rfl) (by kernel_rfl) fun K hK=>?_;simp(disch:=omega)[hcut,tmAV_len];refine dcall_is (c) rfl ?_;simp(disch:=omega)[bq,hneg];apply hK;clear hK K;apply aw_iff rfl;refine aw_reg0 fun K hK=>?_;simp(disch:=omega) ;apply hK;clear hK K;refine⟨(lo,m),⟨hge,by show m≤l.length;omega,fun hv=>⟨(h3 hv).1,fun j hj hj2=>?_⟩⟩,by show m-lo<hi-lo;omega,?_⟩
    ·rcases Nat.lt_or_ge m j with h5|h5
     ·cases hs:kylt (l.getD j t0).k k with
      |false=>rfl
      |true=>exact absurd (kylt_trans (hv _ _ h5 hj2) hs) hc
     ·have:j=m:=by omega
      subst this;simpa using hc
    ·refine weak_to [] [] ?_ ?_ ?_ ?_ HO1 ?_
     all_goals simp
  ·simp  at hk;have e:hi=lo:=by omega
   subst e;apply aw_exit;simp(disch:=omega) ;apply hK1;clear hK1
   by_cases hn:hi<l.length
   ·have hcut:=tmAV_cut l hi hn;have c:=byWord_ok (l.getD hi t0).k k (.sl (l.getD hi t0).l.length (psAV (l.getD hi t0).l) .none) u (H++[.cells [.int .i64 k.1,.str k.2,u]]) T
    by_cases he:(l.getD hi t0).k=k
    ·rw[(cmpK_zero _ _).2 he] at c;refine aw_draw [] [] [] drawMixed (by kernel_rfl) (by kernel_rfl) fun K hK=>?_;simp(disch:=omega)[hcut,tmAV_len,hn];refine dcall_is (c) rfl ?_;simp(disch:=omega) ;apply hK;clear hK K;apply aw_ret;simp(disch:=omega) ;exact⟨hi,true,rfl,by omega,fun _=>⟨hn,he⟩,fun h=>(by cases h),h3⟩
    ·have hz:¬cmpK (l.getD hi t0).k k=0:=fun h=>he ((cmpK_zero _ _).1 h);generalize cmpK (l.getD hi t0).k k=q at *;have bq:(q==0)=false:=by simpa using hz
     refine aw_draw [] [] [] drawMixed (by kernel_rfl) (by kernel_rfl) fun K hK=>?_;simp(disch:=omega)[hcut,tmAV_len,hn];refine dcall_is (c) rfl ?_;simp(disch:=omega)[bq,hz];apply hK;clear hK K;apply aw_ret;simp(disch:=omega) ;refine⟨hi,false,rfl,by omega,fun h=>(by cases h),fun _ hv j hj hje=>?_,h3⟩;rcases Nat.lt_trichotomy j hi with h5|h5|h5
     ·exact kylt_ne ((h3 hv).1 j h5) hje
     ·subst h5;exact he hje
     ·have h6:=(h3 hv).2 hi (Nat.le_refl _) hn;have h7:=hv _ _ h5 hj;rw[hje,h6] at h7
      cases h7
   ·have bn:decide ((hi:Int)<l.length)=false:=by simp;omega
    refine aw_draw [] [] [] drawMixed (by kernel_rfl) (by kernel_rfl) fun K hK=>?_;simp(disch:=omega)[bn,hn];apply hK;clear hK K;apply aw_ret;simp(disch:=omega) ;refine⟨hi,false,rfl,by omega,fun h=>(by cases h),fun _ hv j hj hje=>?_,h3⟩;exact kylt_ne ((h3 hv).1 j (by omega)) hje
def postS (l:List Tm)(k:Ky):List Ps:=((l.find? fun t=>decide (t.k=k)).map (·.l)).getD []
def findS (s:Sg)(k:Ky):List Ps:=if validS s=true then postS s.tms k else []
theorem postS_none {l:List Tm}{k:Ky}(h:∀j,j<l.length→(l.getD j t0).k≠k):postS l k=[]:=by
 unfold postS;rw[List.find?_eq_none.2]
 ·rfl
 ·intro t ht;obtain⟨j,hj,rfl⟩:=mem_getD t0 ht;simpa using h j hj
theorem ordT_inj {l:List Tm}(h:OrdT l){i j:Nat}(hi:i<l.length)(hj:j<l.length)(he:(l.getD i t0).k=(l.getD j t0).k):i=j:=by
 rcases Nat.lt_trichotomy i j with h1|h1|h1
 ·exact absurd he (kylt_ne (h i j h1 hj))
 ·exact h1
 ·exact absurd he.symm (kylt_ne (h j i h1 hi))
theorem postS_at {l:List Tm}{k:Ky}{i:Nat}(h:OrdT l)(hi:i<l.length)(hk:(l.getD i t0).k=k):postS l k=(l.getD i t0).l:=by
 unfold postS
 cases hf:l.find? fun t=>decide (t.k=k) with
 |none=>exact absurd hk (by simpa using List.find?_eq_none.1 hf _ (getD_mem l i t0 hi))
 |some t=>
  have h1:=List.find?_some hf;obtain⟨j,hj,rfl⟩:=mem_getD t0 (List.mem_of_find?_eq_some hf);have h2:(l.getD j t0).k=k:=by simpa using h1
  have:i=j:=ordT_inj h hi hj (hk.trans h2.symm);subst this;rfl
theorem validS_ord {s:Sg}(h:validS s=true):OrdT s.tms:=by
 obtain⟨_,⟨h1,_⟩,_⟩:=validS_parts h;refine ordT_adj fun i h0 hi=>?_;have:=(h1 i hi).1;unfold okTm at this;simp only[Bool.and_eq_true,Bool.or_eq_true,decide_eq_true_eq] at this;rcases this.2 with h2|h2
 ·omega
 ·exact h2
theorem validS_l_at {s:Sg}(h:validS s=true){i:Nat}(hi:i<s.tms.length):validL (s.tms.getD i t0).l=true:=by
 obtain⟨_,⟨h1,_⟩,_⟩:=validS_parts h;have:=(h1 i hi).2;unfold okL at this;simp only[Bool.and_eq_true] at this;exact this.1.2
theorem posOf_nil (d:Int):posOf [] d=[]:=rfl
theorem union_nil {l:List Ps}(h:validL l=true):unionL l []=l:=by
 have h0:VL ([]:PL):=by unfold VL;rfl
 refine vext (un_V h h0) h fun d z=>?_;rw[un_mem h h0,posOf_nil];simp
attribute [-simp] List.getD_eq_getElem?_getD in
theorem findS_ok (s:Sg)(hs:SzS s)(f:Int)(w:Bs)(H:List Blk)(T:Toks):ACall Tryz.prog 82 [sgAV s,.int .i64 f,.str w] H T (Is (.sl (findS s (f,w)).length (psAV (findS s (f,w))) .none) H T):=by
 refine ACall.drop' ?_ (by simp);have hu:=hs.w;have cv:=fun H=>validS_ok s hs H T;have cb:=bsearchT_ok s.tms (f,w) (.sl 0 [] .full) hs.t (H++[.cells (sgC s)]) T .none (by simp);have hord:=fun h=>validS_ord (s:=s) h;have hvl:=fun h i=>validS_l_at (s:=s) h (i:=i);refine acall_enter 12 [] Tryz.ntmps82 Tryz.func82 rfl (fun _ _=>Tryz.call82 _ _) (by simp) (fun HO=>?_);apply aw_reg;intro K h;simp(disch:=omega);apply h;clear h K;refine aw_reg fun K hK=>?_;simp(disch:=omega) ;refine⟨_,cb,?_⟩;rintro r H' T' ⟨rfl,rfl,i,b,rfl,hi,h1,h2,h3⟩;simp(disch:=omega) ;apply hK;clear hK K;refine aw_then fun K1 hK1=>?_
 cases b with
 |false=>
  have hf:findS s (f,w)=[]:=by
   unfold findS
   split
   ·rename_i hv;exact postS_none (h2 rfl (hord hv))
   ·rfl
  apply aw_reg;intro K h;simp(disch:=omega);apply h;clear h K;apply aw_ift rfl;apply aw_reg;intro K h;simp(disch:=omega);apply h;clear h K;apply aw_ret;simp(disch:=omega) ;simp[hf];rfl
 |true=>
  obtain⟨hil,hik⟩:=h1 rfl
  cases hv:validS s with
  |false=>
   rw[hv] at cv;have hf:findS s (f,w)=[]:=by unfold findS;rw[hv];rfl
   refine aw_reg fun K hK=>?_;simp(disch:=omega) ;refine acall_is (cv _) ?_;simp(disch:=omega) ;apply hK;clear hK K;apply aw_ift rfl;apply aw_reg;intro K h;simp(disch:=omega);apply h;clear h K;apply aw_ret;simp(disch:=omega) ;simp[hf];rfl
  |true=>
   rw[hv] at cv;have hl:=hvl hv i hil;have hf:findS s (f,w)=(s.tms.getD i t0).l:=by unfold findS;rw[if_pos hv,postS_at (hord hv) hil hik]
   have hat:=(tmAV_at s.tms i hil).2.2;obtain⟨_,q2,q3⟩:=hu _ (getD_mem s.tms i t0 hil);have cu:=fun H=>union_ok (s.tms.getD i t0).l [] q2 (by simp) q3 (by simp) H T' .none .full;rw[union_nil hl] at cu;refine aw_reg fun K hK=>?_;simp(disch:=omega) ;refine acall_is (cv _) ?_;simp(disch:=omega) ;apply hK;clear hK K;apply aw_iff rfl;apply aw_skip;simp(disch:=omega) ;apply hK1;clear hK1;refine aw_reg fun K hK=>?_;simp(disch:=omega)[hat,tmAV_len,hil];refine acall_is (cu _) ?_;simp(disch:=omega) ;apply hK;clear hK K;apply aw_ret;simp(disch:=omega) ;exact⟨by rw[hf],by rw[hf]⟩
end Go.Proofs.YtoejlmpbebjemaaGreat
namespace Sug
end Sug
namespace Go.Proofs.YtoejlmpbebjemaaGreat
open Go Go.Am Sug Seg Post
end Go.Proofs.YtoejlmpbebjemaaGreat
