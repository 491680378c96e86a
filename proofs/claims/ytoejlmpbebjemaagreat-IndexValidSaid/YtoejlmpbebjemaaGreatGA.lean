/- Lists of rows as cells: lengths, rows, beginnings, one row changed. Documents and segments (layers 37, 39) as cells. Words of documents (layer 37).
  Conditions: lengths below 400 or 1000, as each theorem says. -/
import Derived.Test.YtoejlmpbebjemaaGreatAmFacts
import Derived.Test.YtoejlmpbebjemaaGreatAmC
import Derived.Test.YtoejlmpbebjemaaGreatPB
import Derived.Test.YtoejlmpbebjemaaGreatSPl
set_option linter.all false
set_option maxRecDepth 100000
namespace Go.Am
open Go
def subC:List Nat→Code→Code
 |[],c=>c
 |0::p,.seq x _=>subC p x
 |1::p,.seq _ y=>subC p y
 |0::p,.cond _ x _=>subC p x
 |1::p,.cond _ _ y=>subC p y
 |0::p,.block _ x=>subC p x
 |0::p,.loop x=>subC p x
 |_,c=>c
def CellsK {α:Type}(f:α→List AV)(k:Nat):Prop:=∀x,(f x).length=k
section
variable {α : Type} {f : α → List AV} {k : Nat}
theorem rows_len (h:CellsK f k):∀l:List α,(l.flatMap f).length=l.length*k
 |[]=>by simp
 |x::r=>by rw[List.flatMap_cons,List.length_append,rows_len h r,h x,List.length_cons,Nat.add_mul,Nat.one_mul];omega
theorem rows_drop (h:CellsK f k):∀(l:List α)(i:Nat),(l.flatMap f).drop (i*k)=(l.drop i).flatMap f
 |l,0=>by simp
 |[],i+1=>by simp
 |x::r,i+1=>by
  rw[List.drop_succ_cons,←rows_drop h r i,List.flatMap_cons,Nat.add_mul,Nat.one_mul,List.drop_append,h x,List.drop_of_length_le (by rw[h x];omega),List.nil_append]
  congr 1;omega
theorem rows_take (h:CellsK f k):∀(l:List α)(i:Nat),(l.flatMap f).take (i*k)=(l.take i).flatMap f
 |l,0=>by simp
 |[],i+1=>by simp
 |x::r,i+1=>by
  rw[List.take_succ_cons,List.flatMap_cons,List.flatMap_cons,←rows_take h r i,Nat.add_mul,Nat.one_mul,List.take_append,h x,List.take_of_length_le (by rw[h x];omega)]
  congr 2;omega
theorem getD_cons_drop {β:Type}(l:List β)(i:Nat)(d:β)(hi:i<l.length):l.drop i=l.getD i d::l.drop (i+1):=by
 rw[List.drop_eq_getElem_cons hi,List.getD_eq_getElem?_getD,List.getElem?_eq_getElem hi];rfl
theorem rows_cut (h:CellsK f k)(l:List α)(i:Nat)(d:α)(hi:i<l.length):((l.flatMap f).drop (i*k)).take k=f (l.getD i d):=by
 rw[rows_drop h,getD_cons_drop l i d hi,List.flatMap_cons,List.take_append,h,Nat.sub_self,List.take_of_length_le (by rw[h];omega),List.take_zero,List.append_nil]
theorem rows_at (h:CellsK f k)(l:List α)(i j:Nat)(d:α)(hi:i<l.length)(hj:j<k):(l.flatMap f).getD (i*k+j) .top=(f (l.getD i d)).getD j .top:=by
 have e:=rows_cut h l i d hi;rw[←e,List.getD_eq_getElem?_getD,List.getD_eq_getElem?_getD,List.getElem?_take,if_pos hj,List.getElem?_drop]
theorem rows_snoc (l:List α)(x:α):l.flatMap f++f x=(l++[x]).flatMap f:=by simp
theorem take_getD {β:Type}(l:List β)(i:Nat)(d:β)(hi:i<l.length):l.take (i+1)=l.take i++[l.getD i d]:=by
 rw[List.take_succ_eq_append_getElem hi,List.getD_eq_getElem?_getD,List.getElem?_eq_getElem hi];rfl
theorem rows_next (l:List α)(i:Nat)(d:α)(hi:i<l.length):(l.take i).flatMap f++f (l.getD i d)=(l.take (i+1)).flatMap f:=by
 rw[take_getD l i d hi,rows_snoc]
theorem rows_below {n t:Nat}(h:∀x,BelowAll n t (f x))(l:List α):BelowAll n t (l.flatMap f):=by
 intro v hv;obtain⟨x,_,hv⟩:=List.mem_flatMap.1 hv;exact h x v hv
end
theorem amade_zero (zs:List AV):amade zs 0=[]:=rfl
theorem getD_mem {β:Type}(l:List β)(i:Nat)(d:β)(hi:i<l.length):l.getD i d∈l:=by
 rw[List.getD_eq_getElem?_getD,List.getElem?_eq_getElem hi];exact List.getElem_mem hi
theorem mem_getD {β:Type}{l:List β}{x:β}(d:β)(h:x∈l):∃i,i<l.length∧l.getD i d=x:=by
 obtain⟨i,hi,e⟩:=List.mem_iff_getElem.1 h;exact⟨i,hi,by rw[List.getD_eq_getElem?_getD,List.getElem?_eq_getElem hi];exact e⟩
end Go.Am
namespace Seg
abbrev Bs:=List UInt8
abbrev Wd:=Bs×Int
abbrev Nm:=Int×Int
abbrev Ps:=Int×List Int
structure Zn where
 f:Int
 ws:List Wd
 deriving DecidableEq
structure Dc where
 id:Int
 zs:List Zn
 ns:List Nm
 deriving DecidableEq
structure Tm where
 f:Int
 w:Bs
 l:List Ps
 deriving DecidableEq
structure Cl where
 f:Int
 x:List Nm
 deriving DecidableEq
structure Sg where
 docs:List Int
 tms:List Tm
 cols:List Cl
 deriving DecidableEq
abbrev w0:Wd:=([],0)
abbrev n0:Nm:=(0,0)
abbrev p0:Ps:=(0,[])
abbrev z0:Zn:=⟨0,[]⟩
abbrev d0:Dc:=⟨0,[],[]⟩
abbrev t0:Tm:=⟨0,[],[]⟩
abbrev c0:Cl:=⟨0,[]⟩
def noSeg:Sg:=⟨[],[],[]⟩
end Seg
namespace Go.Proofs.YtoejlmpbebjemaaGreat
open Go Go.Am Seg
abbrev wdC (x:Wd):List AV:=[.str x.1,.int .i64 x.2]
def wdAV (l:List Wd):List AV:=l.flatMap fun x=>[.str x.1,.int .i64 x.2]
theorem wd_rows:CellsK wdC 2:=fun _=>rfl
theorem wdAV_nil:wdAV []=[]:=rfl
theorem wdAV_len (l:List Wd):(wdAV l).length=l.length*2:=rows_len wd_rows l
theorem wdAV_cut (l:List Wd)(i:Nat)(h:i<l.length):((wdAV l).drop (i*2)).take 2=[.str (l.getD i w0).1,.int .i64 (l.getD i w0).2]:=rows_cut wd_rows l i w0 h
theorem wdAV_snoc (l:List Wd)(x:Wd):wdAV l++[.str x.1,.int .i64 x.2]=wdAV (l++[x]):=rows_snoc (f:=wdC) l x
@[simp] theorem below_wd (n t:Nat) (l:List Wd):BelowAll n t (wdAV l):=rows_below (f:=wdC) (fun x=>by simp) l
abbrev nmC (x:Nm):List AV:=[.int .i64 x.1,.int .i64 x.2]
def nmAV (l:List Nm):List AV:=l.flatMap fun x=>[.int .i64 x.1,.int .i64 x.2]
theorem nm_rows:CellsK nmC 2:=fun _=>rfl
theorem nmAV_nil:nmAV []=[]:=rfl
theorem nmAV_len (l:List Nm):(nmAV l).length=l.length*2:=rows_len nm_rows l
theorem nmAV_cut (l:List Nm)(i:Nat)(h:i<l.length):((nmAV l).drop (i*2)).take 2=[.int .i64 (l.getD i n0).1,.int .i64 (l.getD i n0).2]:=rows_cut nm_rows l i n0 h
theorem nmAV_snoc (l:List Nm)(x:Nm):nmAV l++[.int .i64 x.1,.int .i64 x.2]=nmAV (l++[x]):=rows_snoc (f:=nmC) l x
theorem nmAV_take (l:List Nm)(i:Nat)(h:i<l.length):nmAV (l.take i)++[.int .i64 (l.getD i n0).1,.int .i64 (l.getD i n0).2]=nmAV (l.take (i+1)):=rows_next (f:=nmC) l i n0 h
@[simp] theorem below_nm (n t:Nat) (l:List Nm):BelowAll n t (nmAV l):=rows_below (f:=nmC) (fun x=>by simp) l
abbrev psC (x:Ps):List AV:=[.int .i64 x.1,.sl x.2.length (ints x.2) .none]
abbrev znC (x:Zn):List AV:=[.int .i64 x.f,.sl x.ws.length (wdAV x.ws) .none]
def znAV (l:List Zn):List AV:=l.flatMap fun x=>[.int .i64 x.f,.sl x.ws.length (wdAV x.ws) .none]
theorem zn_rows:CellsK znC 2:=fun _=>rfl
theorem znAV_nil:znAV []=[]:=rfl
theorem znAV_len (l:List Zn):(znAV l).length=l.length*2:=rows_len zn_rows l
theorem znAV_cut (l:List Zn)(i:Nat)(h:i<l.length):((znAV l).drop (i*2)).take 2=[.int .i64 (l.getD i z0).f,.sl (l.getD i z0).ws.length (wdAV (l.getD i z0).ws) .none]:=rows_cut zn_rows l i z0 h
@[simp] theorem below_zn (n t:Nat) (l:List Zn):BelowAll n t (znAV l):=rows_below (f:=znC) (fun x=>by simp) l
abbrev dcC (x:Dc):List AV:=[.int .i64 x.id,.sl x.zs.length (znAV x.zs) .none,.sl x.ns.length (nmAV x.ns) .none]
def dcAV (l:List Dc):List AV:=l.flatMap fun x=>[.int .i64 x.id,.sl x.zs.length (znAV x.zs) .none,.sl x.ns.length (nmAV x.ns) .none]
theorem dc_rows:CellsK dcC 3:=fun _=>rfl
theorem dcAV_nil:dcAV []=[]:=rfl
theorem dcAV_len (l:List Dc):(dcAV l).length=l.length*3:=rows_len dc_rows l
theorem dcAV_at (l:List Dc)(i:Nat)(h:i<l.length):(dcAV l).getD (i*3) .top=.int .i64 (l.getD i d0).id∧(dcAV l).getD (i*3+1) .top=.sl (l.getD i d0).zs.length (znAV (l.getD i d0).zs) .none∧(dcAV l).getD (i*3+2) .top=.sl (l.getD i d0).ns.length (nmAV (l.getD i d0).ns) .none:=
 ⟨rows_at dc_rows l i 0 d0 h (by omega),rows_at dc_rows l i 1 d0 h (by omega),rows_at dc_rows l i 2 d0 h (by omega)⟩
theorem dcAV_cut (l:List Dc)(i:Nat)(h:i<l.length):((dcAV l).drop (i*3)).take 3=[.int .i64 (l.getD i d0).id,.sl (l.getD i d0).zs.length (znAV (l.getD i d0).zs) .none,.sl (l.getD i d0).ns.length (nmAV (l.getD i d0).ns) .none]:=rows_cut dc_rows l i d0 h
theorem dcAV_app (a b:List Dc):dcAV a++dcAV b=dcAV (a++b):=by simp[dcAV]
@[simp] theorem below_dc (n t:Nat) (l:List Dc):BelowAll n t (dcAV l):=rows_below (f:=dcC) (fun x=>by simp) l
abbrev tmC (x:Tm):List AV:=[.int .i64 x.f,.str x.w,.sl x.l.length (psAV x.l) .none]
def tmAV (l:List Tm):List AV:=l.flatMap fun x=>[.int .i64 x.f,.str x.w,.sl x.l.length (psAV x.l) .none]
theorem tm_rows:CellsK tmC 3:=fun _=>rfl
theorem tmAV_nil:tmAV []=[]:=rfl
theorem tmAV_len (l:List Tm):(tmAV l).length=l.length*3:=rows_len tm_rows l
theorem tmAV_at (l:List Tm)(i:Nat)(h:i<l.length):(tmAV l).getD (i*3) .top=.int .i64 (l.getD i t0).f∧(tmAV l).getD (i*3+1) .top=.str (l.getD i t0).w∧(tmAV l).getD (i*3+2) .top=.sl (l.getD i t0).l.length (psAV (l.getD i t0).l) .none:=
 ⟨rows_at tm_rows l i 0 t0 h (by omega),rows_at tm_rows l i 1 t0 h (by omega),rows_at tm_rows l i 2 t0 h (by omega)⟩
theorem tmAV_cut (l:List Tm)(i:Nat)(h:i<l.length):((tmAV l).drop (i*3)).take 3=[.int .i64 (l.getD i t0).f,.str (l.getD i t0).w,.sl (l.getD i t0).l.length (psAV (l.getD i t0).l) .none]:=rows_cut tm_rows l i t0 h
theorem tmAV_take (l:List Tm)(i:Nat)(h:i<l.length):tmAV (l.take i)++[.int .i64 (l.getD i t0).f,.str (l.getD i t0).w,.sl (l.getD i t0).l.length (psAV (l.getD i t0).l) .none]=tmAV (l.take (i+1)):=rows_next (f:=tmC) l i t0 h
@[simp] theorem below_tm (n t:Nat) (l:List Tm):BelowAll n t (tmAV l):=rows_below (f:=tmC) (fun x=>by simp) l
abbrev clC (x:Cl):List AV:=[.int .i64 x.f,.sl x.x.length (nmAV x.x) .none]
def clAV (l:List Cl):List AV:=l.flatMap fun x=>[.int .i64 x.f,.sl x.x.length (nmAV x.x) .none]
theorem cl_rows:CellsK clC 2:=fun _=>rfl
theorem clAV_nil:clAV []=[]:=rfl
theorem clAV_len (l:List Cl):(clAV l).length=l.length*2:=rows_len cl_rows l
theorem clAV_at (l:List Cl)(i:Nat)(h:i<l.length):(clAV l).getD (i*2) .top=.int .i64 (l.getD i c0).f∧(clAV l).getD (i*2+1) .top=.sl (l.getD i c0).x.length (nmAV (l.getD i c0).x) .none:=
 ⟨rows_at cl_rows l i 0 c0 h (by omega),rows_at cl_rows l i 1 c0 h (by omega)⟩
theorem clAV_cut (l:List Cl)(i:Nat)(h:i<l.length):((clAV l).drop (i*2)).take 2=[.int .i64 (l.getD i c0).f,.sl (l.getD i c0).x.length (nmAV (l.getD i c0).x) .none]:=rows_cut cl_rows l i c0 h
@[simp] theorem below_cl (n t:Nat) (l:List Cl):BelowAll n t (clAV l):=rows_below (f:=clC) (fun x=>by simp) l
abbrev sgAV (s:Sg):AV:=.agg [.sl s.docs.length (ints s.docs) .none,.sl s.tms.length (tmAV s.tms) .none,.sl s.cols.length (clAV s.cols) .none]
open Sug
theorem okW_bad {s:Str}{k:Nat}(hk:k<s.length)(h:(s.getD k 0).toNat≤32):okW s=false:=by
 have hm:=memD s k 0 hk;have:s.all (fun c=>decide (32<c.toNat))=false:=by
  rw[List.all_eq_false];exact⟨_,hm,by simp only[decide_eq_true_eq];omega⟩
 simp only[okW,this,Bool.false_and]
theorem okW_good {s:Str}(h:∀j,j<s.length→32<(s.getD j 0).toNat):okW s=decide (1≤s.length∧s.length≤100):=by
 have:s.all (fun c=>decide (32<c.toNat))=true:=by
  rw[List.all_eq_true];intro c hc;obtain⟨j,hj,e⟩:=memD_inv 0 hc;have:=h j hj;rw[e] at this;simpa using this
 simp only[okW,this,Bool.true_and]
attribute [-simp] List.getD_eq_getElem?_getD in
theorem wordP_ok (s:Str)(hs:s.length≤maxLen)(H:List Blk)(T:Toks):ACall Tryz.prog 110 [.str s] H T (Is (.bool (okW s)) H T):=by
 have hml:maxLen≤9223372036854775807:=by decide
 have hs':=Nat.le_trans hs hml;generalize hq:okW s=q;refine acall_enter 7 [] Tryz.ntmps110 Tryz.func110 rfl (fun _ _=>Tryz.call110 _ _) (by simp) (fun HO=>?_);apply aw_reg;intro K h;simp(disch:=omega);apply h;clear h K;refine aw_then fun K1 hK1=>?_;apply aw_reg;intro K h;simp(disch:=omega);apply h;clear h K;apply aw_block;refine aw_loop (X:=Nat) (fun k=>⟨[(0,.str s),(5,.int .i64 (s.length:Nat)),(6,.int .i64 (k:Nat))],H,T⟩) (fun k=>k≤s.length∧∀j,j<k→32<(s.getD j 0).toNat) (fun k=>s.length-k) 0 ?_ ?_ ?_
 ·exact⟨Nat.zero_le _,fun j hj=>absurd hj (Nat.not_lt_zero _)⟩
 ·refine weak_to [] [] ?_ ?_ ?_ ?_ HO ?_
  all_goals simp
 ·rintro k ⟨h1,h2⟩;apply aw_reg;intro K h;simp(disch:=omega);apply h;clear h K;refine aw_then fun K2 hK2=>?_;refine aw_if rfl (fun hk=>?_) (fun hk=>?_)
  ·simp  at hk;apply aw_skip;simp(disch:=omega) ;apply hK2;clear hK2;refine aw_then fun K3 hK3=>?_;apply aw_block;apply aw_reg;intro K h;simp(disch:=omega);apply h;clear h K
   by_cases hc:(s.getD k 0).toNat≤32
   ·have b:decide (((s.getD k 0).toNat:Int)≤32)=true:=by simp ;omega
    refine aw_reg fun K hK=>?_;simp(disch:=omega)[b,hc,hk];apply hK;clear hK K;apply aw_ift rfl;apply aw_reg;intro K h;simp(disch:=omega);apply h;clear h K;apply aw_ret;simp(disch:=omega) ;rw[←hq,okW_bad hk hc];exact⟨rfl,rfl,rfl⟩
   ·have b:decide (((s.getD k 0).toNat:Int)≤32)=false:=by simp ;omega
    refine aw_reg fun K hK=>?_;simp(disch:=omega)[b,hc,hk];apply hK;clear hK K;apply aw_iff rfl;apply aw_skip;simp(disch:=omega) ;apply hK3;clear hK3;refine aw_reg0 fun K hK=>?_;simp(disch:=omega) ;apply hK;clear hK K;refine⟨k+1,⟨by show k+1≤_;omega,fun j hj=>?_⟩,by show s.length-(k+1)<s.length-k;omega,?_⟩
    ·rcases Nat.lt_or_ge j k with h3|h3
     ·exact h2 j h3
     ·have:j=k:=by omega
      subst this;omega
    ·refine weak_to [] [] ?_ ?_ ?_ ?_ HO ?_
     all_goals simp
  ·simp  at hk;have hn:=okW_good (s:=s) (fun j hj=>h2 j (by omega));rw[hq] at hn;subst hn;apply aw_exit;simp(disch:=omega) ;apply hK1;clear hK1
   by_cases h3:1≤s.length
   ·have b3:decide ((1:Int)≤s.length)=true:=by simp;omega
    by_cases h4:s.length≤100
    ·have b4:decide ((s.length:Int)≤100)=true:=by simp;omega
     refine aw_reg fun K hK=>?_;simp(disch:=omega)[b3,b4,h3,h4];apply hK;clear hK K;apply aw_ret;simp(disch:=omega) ;exact⟨by simp[h3,h4],rfl,rfl⟩
    ·have b4:decide ((s.length:Int)≤100)=false:=by simp;omega
     refine aw_reg fun K hK=>?_;simp(disch:=omega)[b3,b4,h3,h4];apply hK;clear hK K;apply aw_ret;simp(disch:=omega) ;exact⟨by simp[h3,h4],rfl,rfl⟩
   ·have b3:decide ((1:Int)≤s.length)=false:=by simp;omega
    refine aw_reg fun K hK=>?_;simp(disch:=omega)[b3,h3];apply hK;clear hK K;apply aw_ret;simp(disch:=omega) ;exact⟨by simp[h3],rfl,rfl⟩
attribute [-simp] List.getD_eq_getElem?_getD in
theorem wordR_ok (s:Str)(hs:s.length≤maxLen)(H:List Blk)(T:Toks):ACall Tryz.prog 134 [.str s] H T (Is (.bool (okW s)) H T):=by
 have hml:maxLen≤9223372036854775807:=by decide
 have hs':=Nat.le_trans hs hml;generalize hq:okW s=q;refine acall_enter 7 [] Tryz.ntmps134 Tryz.func134 rfl (fun _ _=>Tryz.call134 _ _) (by simp) (fun HO=>?_);apply aw_reg;intro K h;simp(disch:=omega);apply h;clear h K;refine aw_then fun K1 hK1=>?_;apply aw_reg;intro K h;simp(disch:=omega);apply h;clear h K;apply aw_block;refine aw_loop (X:=Nat) (fun k=>⟨[(0,.str s),(3,.int .i64 (k:Nat))],H,T⟩) (fun k=>k≤s.length∧∀j,j<k→32<(s.getD j 0).toNat) (fun k=>s.length-k) 0 ?_ ?_ ?_
 ·exact⟨Nat.zero_le _,fun j hj=>absurd hj (Nat.not_lt_zero _)⟩
 ·refine weak_to [] [] ?_ ?_ ?_ ?_ HO ?_
  all_goals simp
 ·rintro k ⟨h1,h2⟩;refine aw_then fun K2 hK2=>?_;apply aw_reg;intro K h;simp(disch:=omega);apply h;clear h K;refine aw_if rfl (fun hk=>?_) (fun hk=>?_)
  ·simp  at hk;apply aw_skip;simp(disch:=omega) ;apply hK2;clear hK2;refine aw_then fun K3 hK3=>?_;apply aw_block
   by_cases hc:(s.getD k 0).toNat≤32
   ·have b:decide (((s.getD k 0).toNat:Int)≤32)=true:=by simp ;omega
    refine aw_reg fun K hK=>?_;simp(disch:=omega)[b,hc,hk];apply hK;clear hK K;apply aw_ift rfl;apply aw_reg;intro K h;simp(disch:=omega);apply h;clear h K;apply aw_ret;simp(disch:=omega) ;rw[←hq,okW_bad hk hc];exact⟨rfl,rfl,rfl⟩
   ·have b:decide (((s.getD k 0).toNat:Int)≤32)=false:=by simp ;omega
    refine aw_reg fun K hK=>?_;simp(disch:=omega)[b,hc,hk];apply hK;clear hK K;apply aw_iff rfl;apply aw_skip;simp(disch:=omega) ;apply hK3;clear hK3;refine aw_reg0 fun K hK=>?_;simp(disch:=omega) ;apply hK;clear hK K;refine⟨k+1,⟨by show k+1≤_;omega,fun j hj=>?_⟩,by show s.length-(k+1)<s.length-k;omega,?_⟩
    ·rcases Nat.lt_or_ge j k with h3|h3
     ·exact h2 j h3
     ·have:j=k:=by omega
      subst this;omega
    ·refine weak_to [] [] ?_ ?_ ?_ ?_ HO ?_
     all_goals simp
  ·simp  at hk;have hn:=okW_good (s:=s) (fun j hj=>h2 j (by omega));rw[hq] at hn;subst hn;apply aw_exit;simp(disch:=omega) ;apply hK1;clear hK1
   by_cases h3:1≤s.length
   ·have b3:decide ((1:Int)≤s.length)=true:=by simp;omega
    by_cases h4:s.length≤100
    ·have b4:decide ((s.length:Int)≤100)=true:=by simp;omega
     refine aw_reg fun K hK=>?_;simp(disch:=omega)[b3,b4,h3,h4];apply hK;clear hK K;apply aw_ret;simp(disch:=omega) ;exact⟨by simp[h3,h4],rfl,rfl⟩
    ·have b4:decide ((s.length:Int)≤100)=false:=by simp;omega
     refine aw_reg fun K hK=>?_;simp(disch:=omega)[b3,b4,h3,h4];apply hK;clear hK K;apply aw_ret;simp(disch:=omega) ;exact⟨by simp[h3,h4],rfl,rfl⟩
   ·have b3:decide ((1:Int)≤s.length)=false:=by simp;omega
    refine aw_reg fun K hK=>?_;simp(disch:=omega)[b3,h3];apply hK;clear hK K;apply aw_ret;simp(disch:=omega) ;exact⟨by simp[h3],rfl,rfl⟩
end Go.Proofs.YtoejlmpbebjemaaGreat
