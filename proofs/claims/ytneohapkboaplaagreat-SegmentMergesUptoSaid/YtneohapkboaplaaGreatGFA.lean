/- Searching among terms (layer 39). segment.Find (layer 39): what it answers; strings.HasPrefix. segment.Words (layer 39).
  Conditions: lengths below 400 or 1000, as each theorem says. -/
import Derived.Test.YtneohapkboaplaaGreatGV
import Derived.Test.YtneohapkboaplaaGreatPZ
set_option linter.all false
set_option maxRecDepth 100000
namespace Go.Am
open Go
theorem ACall.dropR {P:Program}{f:FuncId}{args:List AV}{H:List Blk}{T:Toks}{R:AV→Prop}(hb:∀r,R r→Below H.length T.length r)
  (h:ACall P f args H T (fun r H' T'=>(∃rH,H'=H++rH)∧(∃rT,T'=T++rT)∧R r)):ACall P f args H T (fun r H' T'=>H'=H∧T'=T∧R r):=by
 refine⟨h.1,fun L w ca hc hl' hr=>(h.2 L w ca hc hl' hr).mono ?_⟩;rintro e w' ⟨r',H',T',L',cv,⟨⟨rH,e1⟩,⟨rT,e2⟩,e3⟩,rfl,hcon,hrep,hev⟩;subst e1;subst e2;refine⟨_,H,T,L',cv,⟨rfl,rfl,e3⟩,rfl,Con.front P hcon hc.hok,?_,hev.front (Nat.le_refl _) (Nat.le_refl _)⟩;have:=hrep.drop (hb _ e3);simpa using this
end Go.Am
namespace Go.Proofs.YtneohapkboaplaaGreat
open Go Go.Am Sug Seg Post
def OrdT (l:List Tm):Prop:=∀i j,i<j→j<l.length→kylt (l.getD i t0).k (l.getD j t0).k=true
theorem ordT_adj {l:List Tm}(h:∀i,0<i→i<l.length→kylt (l.getD (i-1) t0).k (l.getD i t0).k=true):OrdT l:=by
 intro i j hij hj
 induction j with
 |zero=>omega
 |succ j ih=>
  have h1:=h (j+1) (by omega) hj;rw[show j+1-1=j by omega] at h1;rcases Nat.lt_or_ge i j with h2|h2
  ·exact kylt_trans (ih h2 (by omega)) h1
  ·have:i=j:=by omega
   subst this;exact h1
def FindR (l:List Tm)(k:Ky)(r:AV):Prop:=∃(i:Nat) (b:Bool),r=.tup [.int .i64 (i:Nat),.bool b]∧i≤l.length∧
 (b=true→i<l.length∧(l.getD i t0).k=k)∧(b=false→OrdT l→∀j,j<l.length→(l.getD j t0).k≠k)∧(OrdT l→(∀j,j<i→kylt (l.getD j t0).k k=true)∧∀j,i≤j→j<l.length→kylt (l.getD j t0).k k=false)
def FindT (l:List Tm)(k:Ky)(H:List Blk)(T:Toks):AV→List Blk→Toks→Prop:=fun r H' T'=>H'=H∧T'=T∧FindR l k r
theorem kylt_ne {a b:Ky}(h:kylt a b=true):a≠b:=fun e=>by rw[e,kylt_irrefl] at h;cases h
attribute [-simp] List.getD_eq_getElem?_getD in
set_option maxRecDepth 100000 in
set_option maxHeartbeats 4000000 in
theorem bsearchT_ok (l:List Tm)(k:Ky)(u:AV)(hl:l.length≤1000)(H:List Blk)(T:Toks)(tg:Tag)(hu:Below H.length T.length u) :
  ACall Tryz.prog 80 [.sl l.length (tmAV l) tg,.agg [.int .i64 k.1,.str k.2,u],.fn 63 [] []] H T (FindT l k H T):=by
 refine ACall.untag1 ?_;have hR:∀r,FindR l k r→Below H.length T.length r:=by
  rintro r ⟨i,b,rfl,_⟩;simp
 refine ACall.dropR hR ?_;refine acall_enter 12 [] Tryz.ntmps80 Tryz.func80 rfl (fun _ _=>Tryz.call80 _ _) (by simp) (fun HO=>?_);apply aw_reg;intro K h;simp(disch:=omega);apply h;clear h K;have HO1:HOk (H++[.cells [.int .i64 k.1,.str k.2,u]]) T:=HO.snoc (by simp;exact hu.more (by omega) (by omega));apply aw_reg;intro K h;simp(disch:=omega);apply h;clear h K;apply aw_reg;intro K h;simp(disch:=omega);apply h;clear h K;refine aw_then fun K1 hK1=>?_;apply aw_block;refine aw_loop (X:=Nat×Nat) (fun x=>⟨[(0,.sl l.length (tmAV l) .none),(2,.fn 63 [] []),(4,.ptr H.length 0),(8,.int .i64 (l.length:Nat)),(9,.int .i64 (x.1:Nat)),(10,.int .i64 (x.2:Nat))],H++[.cells [.int .i64 k.1,.str k.2,u]],T⟩)
  (fun x=>x.1≤x.2∧x.2≤l.length∧(OrdT l→(∀j,j<x.1→kylt (l.getD j t0).k k=true)∧(∀j,x.2≤j→j<l.length→kylt (l.getD j t0).k k=false))) (fun x=>x.2-x.1) (0,l.length) ?_ ?_ ?_
 ·exact⟨Nat.zero_le _,Nat.le_refl _,fun _=>⟨fun j hj=>absurd hj (Nat.not_lt_zero _),fun j h1 h2=>absurd h2 (Nat.not_lt.2 h1)⟩⟩
 ·refine weak_to [] [] ?_ ?_ ?_ ?_ HO1 ?_
  all_goals simp
 ·rintro⟨lo,hi⟩ ⟨h1,h2,h3⟩;simp only at h1 h2 h3;refine aw_then fun K2 hK2=>?_;apply aw_reg;intro K h;simp(disch:=omega);apply h;clear h K;refine aw_if rfl (fun hk=>?_) (fun hk=>?_)
  ·simp  at hk;have hm:(lo+hi) / 2<l.length:=by omega
   have hcut:=tmAV_cut l ((lo+hi) / 2) hm;apply aw_skip;simp(disch:=omega) ;apply hK2;clear hK2;apply aw_block;apply aw_reg;intro K h;simp(disch:=omega);apply h;clear h K;rw[show ((lo:Int)+hi) / 2=(((lo+hi) / 2:Nat):Int) by omega];have hge:lo≤(lo+hi) / 2:=by omega
   have hlt:(lo+hi) / 2<hi:=by omega
   generalize (lo+hi) / 2=m at *;have c:=byWord_ok (l.getD m t0).k k (.sl (l.getD m t0).l.length (psAV (l.getD m t0).l) .none) u (H++[.cells [.int .i64 k.1,.str k.2,u]]) T
   by_cases hc:kylt (l.getD m t0).k k=true
   ·have hneg:=(cmpK_neg (l.getD m t0).k k).2 hc;generalize cmpK (l.getD m t0).k k=q at *;have bq:decide (q<0)=true:=decide_eq_true hneg;refine aw_draw [] [] [] drawMixed (by kernel_rfl) (by kernel_rfl) fun K hK=>?_;simp(disch:=omega)[hcut,tmAV_len];refine dcall_is (c) rfl ?_;simp(disch:=omega)[bq,hneg];apply hK;clear hK K;apply aw_ift rfl;refine aw_reg0 fun K hK=>?_;simp(disch:=omega) ;apply hK;clear hK K;refine⟨(m+1,hi),⟨by show m+1≤hi;omega,h2,fun hv=>⟨fun j hj=>?_,(h3 hv).2⟩⟩,by show hi-(m+1)<hi-lo;omega,?_⟩
    ·rcases Nat.lt_or_ge j m with h5|h5
     ·exact kylt_trans (hv _ _ h5 hm) hc
     ·have:j=m:=by omega
      subst this;exact hc
    ·refine weak_to [] [] ?_ ?_ ?_ ?_ HO1 ?_
     all_goals simp
   ·have hneg:¬cmpK (l.getD m t0).k k<0:=fun h=>hc ((cmpK_neg _ _).1 h);generalize cmpK (l.getD m t0).k k=q at *;have bq:decide (q<0)=false:=decide_eq_false hneg;refine aw_draw [] [] [] drawMixed (by kernel_rfl) (by kernel_rfl) fun K hK=>?_;simp(disch:=omega)[hcut,tmAV_len];refine dcall_is (c) rfl ?_;simp(disch:=omega)[bq,hneg];apply hK;clear hK K;apply aw_iff rfl;refine aw_reg0 fun K hK=>?_;simp(disch:=omega) ;apply hK;clear hK K;refine⟨(lo,m),⟨hge,by show m≤l.length;omega,fun hv=>⟨(h3 hv).1,fun j hj hj2=>?_⟩⟩,by show m-lo<hi-lo;omega,?_⟩
    ·rcases Nat.lt_or_ge m j with h5|h5
     ·cases hs:kylt (l.getD j t0).k k with
      |false=>rfl
      |true=>exact absurd (kylt_trans (hv _ _ h5 hj2) hs) hc
     ·have:j=m:=by omega
      subst this;simpa using hc
    ·refine weak_to [] [] ?_ ?_ ?_ ?_ HO1 ?_
     all_goals simp
  ·simp  at hk;have e:hi=lo:=by omega
   subst e;apply aw_exit;simp(disch:=omega) ;apply hK1;clear hK1
   by_cases hn:hi<l.length
   ·have hcut:=tmAV_cut l hi hn;have c:=byWord_ok (l.getD hi t0).k k (.sl (l.getD hi t0).l.length (psAV (l.getD hi t0).l) .none) u (H++[.cells [.int .i64 k.1,.str k.2,u]]) T
    by_cases he:(l.getD hi t0).k=k
    ·rw[(cmpK_zero _ _).2 he] at c;refine aw_draw [] [] [] drawMixed (by kernel_rfl) (by kernel_rfl) fun K hK=>?_;simp(disch:=omega)[hcut,tmAV_len,hn];refine dcall_is (c) rfl ?_;simp(disch:=omega) ;apply hK;clear hK K;apply aw_ret;simp(disch:=omega) ;exact⟨hi,true,rfl,by omega,fun _=>⟨hn,he⟩,fun h=>(by cases h),h3⟩
    ·have hz:¬cmpK (l.getD hi t0).k k=0:=fun h=>he ((cmpK_zero _ _).1 h);generalize cmpK (l.getD hi t0).k k=q at *;have bq:(q==0)=false:=by simpa using hz
     refine aw_draw [] [] [] drawMixed (by kernel_rfl) (by kernel_rfl) fun K hK=>?_;simp(disch:=omega)[hcut,tmAV_len,hn];refine dcall_is (c) rfl ?_;simp(disch:=omega)[bq,hz];apply hK;clear hK K;apply aw_ret;simp(disch:=omega) ;refine⟨hi,false,rfl,by omega,fun h=>(by cases h),fun _ hv j hj hje=>?_,h3⟩;rcases Nat.lt_trichotomy j hi with h5|h5|h5
     ·exact kylt_ne ((h3 hv).1 j h5) hje
     ·subst h5;exact he hje
     ·have h6:=(h3 hv).2 hi (Nat.le_refl _) hn;have h7:=hv _ _ h5 hj;rw[hje,h6] at h7
      cases h7
   ·have bn:decide ((hi:Int)<l.length)=false:=by simp;omega
    refine aw_draw [] [] [] drawMixed (by kernel_rfl) (by kernel_rfl) fun K hK=>?_;simp(disch:=omega)[bn,hn];apply hK;clear hK K;apply aw_ret;simp(disch:=omega) ;refine⟨hi,false,rfl,by omega,fun h=>(by cases h),fun _ hv j hj hje=>?_,h3⟩;exact kylt_ne ((h3 hv).1 j (by omega)) hje
def postS (l:List Tm)(k:Ky):List Ps:=((l.find? fun t=>decide (t.k=k)).map (·.l)).getD []
def findS (s:Sg)(k:Ky):List Ps:=if validS s=true then postS s.tms k else []
theorem postS_none {l:List Tm}{k:Ky}(h:∀j,j<l.length→(l.getD j t0).k≠k):postS l k=[]:=by
 unfold postS;rw[List.find?_eq_none.2]
 ·rfl
 ·intro t ht;obtain⟨j,hj,rfl⟩:=mem_getD t0 ht;simpa using h j hj
theorem ordT_inj {l:List Tm}(h:OrdT l){i j:Nat}(hi:i<l.length)(hj:j<l.length)(he:(l.getD i t0).k=(l.getD j t0).k):i=j:=by
 rcases Nat.lt_trichotomy i j with h1|h1|h1
 ·exact absurd he (kylt_ne (h i j h1 hj))
 ·exact h1
 ·exact absurd he.symm (kylt_ne (h j i h1 hi))
theorem postS_at {l:List Tm}{k:Ky}{i:Nat}(h:OrdT l)(hi:i<l.length)(hk:(l.getD i t0).k=k):postS l k=(l.getD i t0).l:=by
 unfold postS
 cases hf:l.find? fun t=>decide (t.k=k) with
 |none=>exact absurd hk (by simpa using List.find?_eq_none.1 hf _ (getD_mem l i t0 hi))
 |some t=>
  have h1:=List.find?_some hf;obtain⟨j,hj,rfl⟩:=mem_getD t0 (List.mem_of_find?_eq_some hf);have h2:(l.getD j t0).k=k:=by simpa using h1
  have:i=j:=ordT_inj h hi hj (hk.trans h2.symm);subst this;rfl
theorem validS_ord {s:Sg}(h:validS s=true):OrdT s.tms:=by
 obtain⟨_,⟨h1,_⟩,_⟩:=validS_parts h;refine ordT_adj fun i h0 hi=>?_;have:=(h1 i hi).1;unfold okTm at this;simp only[Bool.and_eq_true,Bool.or_eq_true,decide_eq_true_eq] at this;rcases this.2 with h2|h2
 ·omega
 ·exact h2
theorem validS_l_at {s:Sg}(h:validS s=true){i:Nat}(hi:i<s.tms.length):validL (s.tms.getD i t0).l=true:=by
 obtain⟨_,⟨h1,_⟩,_⟩:=validS_parts h;have:=(h1 i hi).2;unfold okL at this;simp only[Bool.and_eq_true] at this;exact this.1.2
theorem posOf_nil (d:Int):posOf [] d=[]:=rfl
theorem union_nil {l:List Ps}(h:validL l=true):unionL l []=l:=by
 have h0:VL ([]:PL):=by unfold VL;rfl
 refine vext (un_V h h0) h fun d z=>?_;rw[un_mem h h0,posOf_nil];simp
attribute [-simp] List.getD_eq_getElem?_getD in
set_option maxHeartbeats 4000000 in
theorem findS_ok (s:Sg)(hs:SzS s)(f:Int)(w:Bs)(H:List Blk)(T:Toks):ACall Tryz.prog 20 [sgAV s,.int .i64 f,.str w] H T (Is (.sl (findS s (f,w)).length (psAV (findS s (f,w))) .none) H T):=by
 refine ACall.drop' ?_ (by simp);have hu:=hs.w;have cv:=fun H=>validS_ok s hs H T;have cb:=bsearchT_ok s.tms (f,w) (.sl 0 [] .full) hs.t (H++[.cells (sgC s)]) T .none (by simp);have hord:=fun h=>validS_ord (s:=s) h;have hvl:=fun h i=>validS_l_at (s:=s) h (i:=i);refine acall_enter 12 [] Tryz.ntmps20 Tryz.func20 rfl (fun _ _=>Tryz.call20 _ _) (by simp) (fun HO=>?_);apply aw_reg;intro K h;simp(disch:=omega);apply h;clear h K;refine aw_reg fun K hK=>?_;simp(disch:=omega) ;refine⟨_,cb,?_⟩;rintro r H' T' ⟨rfl,rfl,i,b,rfl,hi,h1,h2,h3⟩;simp(disch:=omega) ;apply hK;clear hK K;refine aw_then fun K1 hK1=>?_
 cases b with
 |false=>
  have hf:findS s (f,w)=[]:=by
   unfold findS
   split
   ·rename_i hv;exact postS_none (h2 rfl (hord hv))
   ·rfl
  apply aw_reg;intro K h;simp(disch:=omega);apply h;clear h K;apply aw_ift rfl;apply aw_reg;intro K h;simp(disch:=omega);apply h;clear h K;apply aw_ret;simp(disch:=omega) ;simp[hf];rfl
 |true=>
  obtain⟨hil,hik⟩:=h1 rfl
  cases hv:validS s with
  |false=>
   rw[hv] at cv;have hf:findS s (f,w)=[]:=by unfold findS;rw[hv];rfl
   refine aw_reg fun K hK=>?_;simp(disch:=omega) ;refine acall_is (cv _) ?_;simp(disch:=omega) ;apply hK;clear hK K;apply aw_ift rfl;apply aw_reg;intro K h;simp(disch:=omega);apply h;clear h K;apply aw_ret;simp(disch:=omega) ;simp[hf];rfl
  |true=>
   rw[hv] at cv;have hl:=hvl hv i hil;have hf:findS s (f,w)=(s.tms.getD i t0).l:=by unfold findS;rw[if_pos hv,postS_at (hord hv) hil hik]
   have hat:=(tmAV_at s.tms i hil).2.2;obtain⟨_,q2,q3⟩:=hu _ (getD_mem s.tms i t0 hil);have cu:=fun H=>union_ok (s.tms.getD i t0).l [] q2 (by simp) q3 (by simp) H T' .none .full;rw[union_nil hl] at cu;refine aw_reg fun K hK=>?_;simp(disch:=omega) ;refine acall_is (cv _) ?_;simp(disch:=omega) ;apply hK;clear hK K;apply aw_iff rfl;apply aw_skip;simp(disch:=omega) ;apply hK1;clear hK1;refine aw_reg fun K hK=>?_;simp(disch:=omega)[hat,tmAV_len,hil];refine acall_is (cu _) ?_;simp(disch:=omega) ;apply hK;clear hK K;apply aw_ret;simp(disch:=omega) ;exact⟨by rw[hf],by rw[hf]⟩
def hasP (p w:Bs):Bool:=decide (p.length≤w.length)&&(w.take p.length==p)
attribute [-simp] List.getD_eq_getElem?_getD in
theorem hasP_ok (w p:Bs)(hw:w.length≤maxLen)(hp:p.length≤maxLen)(H:List Blk)(T:Toks):ACall Tryz.prog 81 [.str w,.str p] H T (Is (.bool (hasP p w)) H T):=by
 have hml:maxLen≤9223372036854775807:=by decide
 have c:ACall Tryz.prog 154 [.str w,.str p] H T (Is (.bool (hasP p w)) H T):=by
  generalize hq:hasP p w=q;unfold hasP at hq;refine acall_enter 5 [] Tryz.ntmps154 Tryz.func154 rfl (fun _ _=>Tryz.call154 _ _) (by simp) (fun HO=>?_);apply aw_reg;intro K h;simp(disch:=omega);apply h;clear h K
  by_cases h:p.length≤w.length
  ·have b:decide ((p.length:Int)≤w.length)=true:=decide_eq_true (by omega);rw[decide_eq_true h,Bool.true_and] at hq;refine aw_reg fun K hK=>?_;simp(disch:=omega)[b,h];apply hK;clear hK K;apply aw_ret;simp(disch:=omega) ;rw[←hq];exact⟨rfl,rfl,rfl⟩
  ·have b:decide ((p.length:Int)≤w.length)=false:=decide_eq_false (by omega);rw[decide_eq_false h,Bool.false_and] at hq;refine aw_reg fun K hK=>?_;simp(disch:=omega)[b,h];apply hK;clear hK K;apply aw_ret;simp(disch:=omega) ;rw[←hq];exact⟨rfl,rfl,rfl⟩
 generalize hasP p w=q at *;refine acall_enter 5 [] Tryz.ntmps81 Tryz.func81 rfl (fun _ _=>Tryz.call81 _ _) (by simp) (fun HO=>?_);apply aw_reg;intro K h;simp(disch:=omega);apply h;clear h K;refine aw_reg fun K hK=>?_;simp(disch:=omega) ;refine acall_is (c) ?_;simp(disch:=omega) ;apply hK;clear hK K;apply aw_ret;simp(disch:=omega) ;exact⟨rfl,rfl,rfl⟩
end Go.Proofs.YtneohapkboaplaaGreat
namespace Sug
theorem hasP_nil (w:Str):Go.Proofs.YtneohapkboaplaaGreat.hasP [] w=true:=by simp[Go.Proofs.YtneohapkboaplaaGreat.hasP]
theorem hasP_cons (x y:UInt8)(p w:Str):Go.Proofs.YtneohapkboaplaaGreat.hasP (x::p) (y::w)=(x==y&&Go.Proofs.YtneohapkboaplaaGreat.hasP p w):=by
 unfold Go.Proofs.YtneohapkboaplaaGreat.hasP;rw[Bool.eq_iff_iff];simp only[List.length_cons,List.take_succ_cons,Bool.and_eq_true,decide_eq_true_eq,beq_iff_eq,List.cons.injEq,Nat.add_le_add_iff_right]
 constructor
 ·rintro⟨h1,h2,h3⟩;exact⟨h2.symm,h1,h3⟩
 ·rintro⟨h1,h2,h3⟩;exact⟨h2,h1.symm,h3⟩
theorem slt_cons (x y:UInt8)(p w:Str):slt (x::p) (y::w)=(decide (x<y)||(x==y&&slt p w)):=rfl
theorem slt_nil (p:Str):slt p []=false:=by cases p<;>rfl
theorem slt_nilc (x:UInt8)(p:Str):slt [] (x::p)=true:=rfl
theorem hasP_slt:∀(p w:Str),slt w p=true→Go.Proofs.YtneohapkboaplaaGreat.hasP p w=false
 |[],w,h=>by rw[slt_nil] at h;cases h
 |x::p,[],h=>by simp[Go.Proofs.YtneohapkboaplaaGreat.hasP]
 |x::p,y::w,h=>by
  rw[slt_cons] at h;rw[hasP_cons];simp only[Bool.or_eq_true,decide_eq_true_eq,Bool.and_eq_true,beq_iff_eq] at h;rcases h with h|⟨_,h⟩
  ·have:(x==y)=false:=by
    rw[beq_eq_false_iff_ne];rintro rfl;exact absurd h (UInt8.lt_irrefl _)
   rw[this];rfl
  ·rw[hasP_slt p w h,Bool.and_false]
theorem hasP_between:∀(p w v:Str),slt w p=false→slt w v=true→Go.Proofs.YtneohapkboaplaaGreat.hasP p v=true→Go.Proofs.YtneohapkboaplaaGreat.hasP p w=true
 |[],w,v,_,_,_=>hasP_nil w
 |x::p,[],v,h,_,_=>by rw[slt_nilc] at h;cases h
 |x::p,y::w,[],_,_,h=>by simp[Go.Proofs.YtneohapkboaplaaGreat.hasP] at h
 |x::p,y::w,z::v,h1,h2,h3=>by
  rw[slt_cons] at h1 h2;rw[hasP_cons] at h3 ⊢;simp only[Bool.or_eq_false_iff,decide_eq_false_iff_not,Bool.and_eq_false_iff,beq_eq_false_iff_ne,Bool.or_eq_true,decide_eq_true_eq,Bool.and_eq_true,beq_iff_eq] at h1 h2 h3 ⊢;obtain⟨rfl,h3⟩:=h3;rcases h2 with h2|⟨rfl,h2⟩
  ·exact absurd h2 h1.1
  ·refine⟨rfl,hasP_between p w v ?_ h2 h3⟩;rcases h1.2 with h|h
   ·exact absurd rfl h
   ·simpa using h
end Sug
namespace Go.Proofs.YtneohapkboaplaaGreat
open Go Go.Am Sug Seg Post
def matchT (f:Int)(p:Bs)(t:Tm):Bool:=decide (t.f=f)&&hasP p t.w
def wordsL (l:List Tm)(f:Int)(p:Bs):List Bs:=(l.filter (matchT f p)).map (·.w)
def wordsS (s:Sg)(f:Int)(p:Bs):List Bs:=if validS s=true then wordsL s.tms f p else []
theorem match_below {f:Int}{p:Bs}{t:Tm}(h:kylt t.k (f,p)=true):matchT f p t=false:=by
 unfold matchT;unfold kylt at h;simp only[Bool.or_eq_true,decide_eq_true_eq,Bool.and_eq_true] at h;rcases h with h|⟨h1,h2⟩
 ·rw[decide_eq_false (by omega)];rfl
 ·rw[hasP_slt _ _ h2,Bool.and_false]
theorem match_between {f:Int}{p:Bs}{t u:Tm}(h1:kylt t.k (f,p)=false)(h2:kylt t.k u.k=true)(h3:matchT f p u=true):matchT f p t=true:=by
 unfold matchT at h3 ⊢;unfold kylt at h1 h2;simp only[Bool.or_eq_true,decide_eq_true_eq,Bool.and_eq_true,Bool.or_eq_false_iff,decide_eq_false_iff_not,Bool.and_eq_false_iff] at h1 h2 h3 ⊢;obtain⟨e,h3⟩:=h3;rcases h2 with h2|⟨h2,h4⟩
 ·omega
 ·refine⟨by omega,hasP_between p t.w u.w ?_ h4 h3⟩;rcases h1.2 with h|h
  ·omega
  ·simpa using h
theorem filter_take {l:List Tm}{M:Tm→Bool}{i j:Nat}(hij:i+j≤l.length)(h1:∀m,m<i→M (l.getD m t0)=false)(h2:∀m,m<j→M (l.getD (i+m) t0)=true)(h3:∀m,i+j≤m→m<l.length→M (l.getD m t0)=false) :
  l.filter M=(l.drop i).take j:=by
 have e:l=l.take i++((l.drop i).take j++l.drop (i+j)):=by
  rw[←List.drop_drop,List.take_append_drop,List.take_append_drop]
 conv=>lhs;rw[e]
 rw[List.filter_append,List.filter_append];have a1:(l.take i).filter M=[]:=by
  rw[List.filter_eq_nil_iff];intro x hx;obtain⟨k,hk,rfl⟩:=mem_getD t0 hx;rw[List.length_take] at hk;have:(l.take i).getD k t0=l.getD k t0:=by simp[List.getD_eq_getElem?_getD,List.getElem?_take,show k<i by omega]
  rw[this,h1 k (by omega)];simp
 have a2:(l.drop (i+j)).filter M=[]:=by
  rw[List.filter_eq_nil_iff];intro x hx;obtain⟨k,hk,rfl⟩:=mem_getD t0 hx;rw[List.length_drop] at hk;have:(l.drop (i+j)).getD k t0=l.getD (i+j+k) t0:=by simp[List.getD_eq_getElem?_getD,List.getElem?_drop]
  rw[this,h3 _ (by omega) (by omega)];simp
 have a3:((l.drop i).take j).filter M=(l.drop i).take j:=by
  rw[List.filter_eq_self];intro x hx;obtain⟨k,hk,rfl⟩:=mem_getD t0 hx;rw[List.length_take,List.length_drop] at hk;have:((l.drop i).take j).getD k t0=l.getD (i+k) t0:=by simp[List.getD_eq_getElem?_getD,List.getElem?_take,List.getElem?_drop,show k<j by omega]
  rw[this,h2 _ (by omega)]
 rw[a1,a2,a3];simp
theorem words_stop {l:List Tm}{f:Int}{p:Bs}{i j:Nat}(ho:OrdT l)(hij:i+j≤l.length)(h1:∀m,m<i→kylt (l.getD m t0).k (f,p)=true)(h2:∀m,i≤m→m<l.length→kylt (l.getD m t0).k (f,p)=false)
  (h3:∀m,m<j→matchT f p (l.getD (i+m) t0)=true) (h4:i+j<l.length→matchT f p (l.getD (i+j) t0)=false):wordsL l f p=((l.drop i).take j).map (·.w):=by
 unfold wordsL;rw[filter_take hij (fun m hm=>match_below (h1 m hm)) h3];intro m hm1 hm2;rcases Nat.lt_or_ge (i+j) m with h|h
 ·cases hc:matchT f p (l.getD m t0) with
  |false=>rfl
  |true=>
   have:=match_between (h2 (i+j) (by omega) (by omega)) (ho (i+j) m h hm2) hc;rw[h4 (by omega)] at this
   cases this
 ·have:m=i+j:=by omega
  subst this;exact h4 hm2
set_option maxHeartbeats 8000000 in
theorem wordsS_ok (s : Sg) (hs : SzS s) (f : Int) (p : Bs) (hp : p.length ≤ maxLen) (H : List Blk) (T : Toks) : ACall Tryz.prog 23 [sgAV s, .int .i64 f, .str p] H T (Is (.sl (wordsS s f p).length (strs (wordsS s f p)) .none) H T) := by
  refine ACall.drop' ?_ (by simp);have cv := fun H => validS_ok s hs H T;have cb := bsearchT_ok s.tms (f, p) (.sl 0 [] .full) hs.t (H ++ [.cells (sgC s)]) T .none (by simp);have hord := fun h => validS_ord (s := s) h;have hw := hs.w;have htl := hs.t;refine acall_enter 31 [] Tryz.ntmps23 Tryz.func23 rfl (fun _ _ => Tryz.call23 _ _) (by simp) (fun HO => ?_);refine aw_reg fun K hK => ?_; simp (maxSteps := 1000000) (disch := omega) [-List.getD_eq_getElem?_getD]; refine hK _ ?_; clear hK K;refine aw_reg fun K hK => ?_; simp (maxSteps := 1000000) (disch := omega) [-List.getD_eq_getElem?_getD]; refine hK _ ?_; clear hK K;refine aw_then fun K1 hK1 => ?_;have HO1 : HOk (H ++ [.cells (sgC s)]) T := HO.snoc (by simp)
  cases hv : validS s with
  | false =>
    rw [hv] at cv;have hf : wordsS s f p = [] := by unfold wordsS; rw [hv]; rfl
    refine aw_reg fun K hK => ?_; simp (maxSteps := 1000000) (disch := omega) [-List.getD_eq_getElem?_getD];refine acall_is (cv _) ?_; simp (maxSteps := 1000000) (disch := omega) [-List.getD_eq_getElem?_getD];refine hK _ ?_; clear hK K;refine aw_if rfl (fun h => ?_) (fun h => absurd h (by simp));refine aw_reg fun K hK => ?_; simp (maxSteps := 1000000) (disch := omega) [-List.getD_eq_getElem?_getD]; refine hK _ ?_; clear hK K;apply aw_ret; simp (maxSteps := 1000000) (disch := omega) [-List.getD_eq_getElem?_getD];simp [hf]
  | true =>
  rw [hv] at cv;have hf : wordsS s f p = wordsL s.tms f p := by unfold wordsS; rw [if_pos hv]
  have ho := hord hv;refine aw_reg fun K hK => ?_; simp (maxSteps := 1000000) (disch := omega) [-List.getD_eq_getElem?_getD];refine acall_is (cv _) ?_; simp (maxSteps := 1000000) (disch := omega) [-List.getD_eq_getElem?_getD];refine hK _ ?_; clear hK K;refine aw_if rfl (fun h => absurd h (by simp)) (fun h => ?_);apply aw_skip; simp (maxSteps := 1000000) (disch := omega) [-List.getD_eq_getElem?_getD];refine hK1 _ ?_; clear hK1;refine aw_reg fun K hK => ?_; simp (maxSteps := 1000000) (disch := omega) [-List.getD_eq_getElem?_getD];refine ⟨_, cb, ?_⟩;rintro r H' T' ⟨rfl, rfl, i, b, rfl, hi, h1, h2, h3⟩;simp (maxSteps := 1000000) (disch := omega) [-List.getD_eq_getElem?_getD];refine hK _ ?_; clear hK K;refine aw_then fun K1 hK1 => ?_;obtain ⟨h4, h5⟩ := h3 ho;have hdr := tmAV_drop s.tms i;have hDl : (s.tms.drop i).length = s.tms.length - i := List.length_drop;have htk : List.take ((s.tms.length - i) * 3) (tmAV (s.tms.drop i)) = tmAV (s.tms.drop i) := List.take_of_length_le (by rw [tmAV_len, hDl]; omega);have hDg : ∀ m, (s.tms.drop i).getD m t0 = s.tms.getD (i + m) t0 := fun m => by simp [List.getD_eq_getElem?_getD, List.getElem?_drop]
  refine aw_reg fun K hK => ?_; simp (maxSteps := 1000000) (disch := omega) [-List.getD_eq_getElem?_getD, hdr, tmAV_len, hi, htk]; refine hK _ ?_; clear hK K;rw [← hDl];have hgoal : ∀ j, j ≤ (s.tms.drop i).length → (∀ m, m < j → matchT f p (s.tms.getD (i + m) t0) = true) → (j < (s.tms.drop i).length → matchT f p (s.tms.getD (i + j) t0) = false) → wordsS s f p = ((s.tms.drop i).take j).map (·.w) := fun j j1 j2 j3 => by
    rw [hf];exact words_stop ho (by omega) h4 h5 j2 (fun h => j3 (by omega))
  have hwd : ∀ m, m < (s.tms.drop i).length → (s.tms.getD (i + m) t0).w.length ≤ maxLen := fun m hm => (hw _ (getD_mem _ _ _ (by omega))).1;have hDl2 : (s.tms.drop i).length ≤ 1000 := by omega
  clear hf cv cb hord hw htl h1 h2 h3 h4 h5 hdr htk;generalize hD : s.tms.drop i = D at *;generalize wordsS s f p = res at *;apply aw_block;refine aw_own 7 0 1 [] (by omega) (by simp) ?_;refine aw_loop (X := Nat) (fun j => ⟨[(1, .int .i64 f), (2, .str p), (7, .sl j (strs ((D.map (·.w)).take j)) (.own T'.length)), (28, .sl D.length (tmAV D) .none), (29, .int .i64 (D.length : Nat)), (30, .int .i64 (j : Nat))], H ++ [.cells (sgC s)], T' ++ [(j, 1)]⟩)
    (fun j => j ≤ D.length ∧ ∀ m, m < j → matchT f p (s.tms.getD (i + m) t0) = true) (fun j => D.length - j) 0 ?_ ?_ ?_
  · exact ⟨Nat.zero_le _, fun j hj => absurd hj (Nat.not_lt_zero _)⟩
  · refine weak_to [] [] ?_ ?_ ?_ ?_ (HO1.toks (by simp)) ?_
    all_goals simp
  · rintro j ⟨g1, g2⟩;have hne2 : ∀ m, m < j + 1 → m < j ∨ m = j := fun m hm => by omega
    refine aw_reg fun K hK => ?_; simp (maxSteps := 1000000) (disch := omega) [-List.getD_eq_getElem?_getD]; refine hK _ ?_; clear hK K;refine aw_then fun K2 hK2 => ?_;refine aw_if rfl (fun hk => ?_) (fun hk => ?_)
    · simp [-List.getD_eq_getElem?_getD] at hk;have hcut := tmAV_cut D j hk;have htl : (strs ((D.map (·.w)).take j)).length = j := by simp; omega
      have htk : strs ((D.map (·.w)).take j) ++ [.str (D.getD j t0).w] = strs ((D.map (·.w)).take (j + 1)) := by rw [strs_snoc, ← List.map_take, ← List.map_take, take_getD D j t0 hk]; simp
      have hwl := hwd j hk;rw [← hDg j] at hwl;have hm : matchT f p (s.tms.getD (i + j) t0) = (decide ((D.getD j t0).f = f) && hasP p (D.getD j t0).w) := by rw [← hDg j]; rfl
      generalize D.getD j t0 = t at *;obtain ⟨tf, tw, tl⟩ := t;simp only at hcut htk hwl hm;have hout : ∀ r, res = r → r = (D.take j).map (·.w) → j = res.length ∧ strs ((D.map (·.w)).take j) = strs res := fun r e1 e2 => by rw [e1, e2, List.map_take]; exact ⟨by simp; omega, rfl⟩
      have hbel : BelowAll (H.length + 2) (T'.length + 1) (strs ((D.map (·.w)).take j)) := by simp
      generalize strs ((D.map (·.w)).take j) = out at *;apply aw_skip; simp (maxSteps := 1000000) (disch := omega) [-List.getD_eq_getElem?_getD];refine hK2 _ ?_; clear hK2;refine aw_then fun K3 hK3 => ?_;apply aw_block;refine aw_reg fun K hK => ?_; simp (maxSteps := 1000000) (disch := omega) [-List.getD_eq_getElem?_getD, hcut, tmAV_len]; refine hK _ ?_; clear hK K;have HO2 : HOk (H ++ [.cells (sgC s), .cells (tmC ⟨tf, tw, tl⟩)]) (T' ++ [(j, 1)]) := by
        have := (HOk.snoc (vs := tmC ⟨tf, tw, tl⟩) HO1 (by simp)).toks (T' := T' ++ [(j, 1)]) (by simp);simpa using this
      refine aw_then fun K4 hK4 => ?_;have c := hasP_ok tw p hwl hp (H ++ [.cells (sgC s), .cells (tmC ⟨tf, tw, tl⟩)]) (T' ++ [(j, 1)]);have stop : ∀ e, matchT f p (s.tms.getD (i + j) t0) = false → envLe (H.length + 2) (T'.length + 1) e [(7, .sl j out (.own T'.length))] → K1 ⟨e, H ++ [.cells (sgC s), .cells (tmC ⟨tf, tw, tl⟩)], T' ++ [(j, 1)]⟩ := by
        intro e hmf he;have hr := hgoal j g1 g2 (fun _ => hmf);refine hK1 _ (aw_weak ⟨[(7, .sl j out (.own T'.length))], H ++ [.cells (sgC s), .cells (tmC ⟨tf, tw, tl⟩)], T' ++ [(j, 1)]⟩ (weak_to [] [] (by simp) (by simp) (by simp) (by simp) HO2 (by simpa using he)) ?_);refine aw_reg fun K hK => ?_; simp (maxSteps := 1000000) (disch := omega) [-List.getD_eq_getElem?_getD]; refine hK _ ?_; clear hK K;apply aw_ret; simp (maxSteps := 1000000) (disch := omega) [-List.getD_eq_getElem?_getD];exact hout _ rfl hr
      by_cases hf : tf = f
      · subst hf;rw [decide_eq_true rfl, Bool.true_and] at hm
        cases hpp : hasP p tw with
        | false =>
          rw [hpp] at c hm;refine aw_reg fun K hK => ?_; simp (maxSteps := 1000000) (disch := omega) [-List.getD_eq_getElem?_getD];refine acall_is (c) ?_; simp (maxSteps := 1000000) (disch := omega) [-List.getD_eq_getElem?_getD];refine hK _ ?_; clear hK K;refine aw_if rfl (fun h => ?_) (fun h => absurd h (by simp));apply aw_exit; simp (maxSteps := 1000000) (disch := omega) [-List.getD_eq_getElem?_getD];refine stop _ hm ?_;simp [hbel]
        | true =>
          rw [hpp] at c hm;refine aw_reg fun K hK => ?_; simp (maxSteps := 1000000) (disch := omega) [-List.getD_eq_getElem?_getD];refine acall_is (c) ?_; simp (maxSteps := 1000000) (disch := omega) [-List.getD_eq_getElem?_getD];refine hK _ ?_; clear hK K;refine aw_if rfl (fun h => absurd h (by simp)) (fun h => ?_);apply aw_skip; simp (maxSteps := 1000000) (disch := omega) [-List.getD_eq_getElem?_getD];refine hK4 _ ?_; clear hK4;refine aw_reg0 fun K hK => ?_; simp (maxSteps := 1000000) (disch := omega) [-List.getD_eq_getElem?_getD, htl, htk];refine hK _ ?_; clear hK K;refine hK3 _ ?_; clear hK3;refine aw_reg0 fun K hK => ?_; simp (maxSteps := 1000000) (disch := omega) [-List.getD_eq_getElem?_getD];refine hK _ ?_; clear hK K;refine ⟨j + 1, ⟨by show j + 1 ≤ _; omega, fun m hm2 => ?_⟩, by show D.length - (j + 1) < D.length - j; omega, ?_⟩
          · rcases hne2 m hm2 with h | rfl
            · exact g2 m h
            · exact hm
          · refine weak_to [.cells (tmC ⟨tf, tw, tl⟩)] [] ?_ ?_ ?_ ?_ (HO1.toks (by simp)) ?_
            all_goals simp
      · have b1 : (tf != f) = true := by simp [hf]
        rw [decide_eq_false hf, Bool.false_and] at hm;refine aw_reg fun K hK => ?_; simp (maxSteps := 1000000) (disch := omega) [-List.getD_eq_getElem?_getD, b1, hf];refine hK _ ?_; clear hK K;refine aw_if rfl (fun h => ?_) (fun h => absurd h (by simp));apply aw_exit; simp (maxSteps := 1000000) (disch := omega) [-List.getD_eq_getElem?_getD];refine stop _ hm ?_;simp [hbel]
    · simp [-List.getD_eq_getElem?_getD] at hk;have hj : j = D.length := by omega
      have hr := hgoal j g1 g2 (fun h => by omega);apply aw_exit; simp (maxSteps := 1000000) (disch := omega) [-List.getD_eq_getElem?_getD];refine hK1 _ ?_; clear hK1;refine aw_reg fun K hK => ?_; simp (maxSteps := 1000000) (disch := omega) [-List.getD_eq_getElem?_getD]; refine hK _ ?_; clear hK K;apply aw_ret; simp (maxSteps := 1000000) (disch := omega) [-List.getD_eq_getElem?_getD];rw [hr, List.map_take];exact ⟨by simp; omega, rfl⟩
end Go.Proofs.YtneohapkboaplaaGreat
