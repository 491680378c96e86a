/- Segments (layer 39): what a valid one is; places as the keys of a map. segment.Valid (layer 39): the places of a term. segment.Valid (layer 39): the columns. segment.Valid (layer 39).
  Conditions: lengths below 1000 or 1000, as each theorem says. -/
import Derived.Test.YtoejlmpbebjemaaGreatGBC
import Derived.Test.YtoejlmpbebjemaaGreatPZ
set_option linter.all false
set_option maxRecDepth 100000
set_option maxHeartbeats 16000000
namespace Seg
open Sug
abbrev Pl:=Int×Int×Int
def plsP (f:Int)(p:Ps):List Pl:=p.2.map fun a=>(f,p.1,a)
def plsT (t:Tm):List Pl:=t.l.flatMap (plsP t.f)
def pls (l:List Tm):List Pl:=l.flatMap plsT
abbrev Tm.k (t:Tm):Ky:=(t.f,t.w)
end Seg
namespace Go.Proofs.YtoejlmpbebjemaaGreat
open Go Go.Am Sug Seg
abbrev sgC (s:Sg):List AV:=[.sl s.docs.length (ints s.docs) .none,.sl s.tms.length (tmAV s.tms) .none,.sl s.cols.length (clAV s.cols) .none]
def okL (docs:List Int)(l:List Ps):Bool:=(decide (l≠[])&&validL l)&&decide (∀p∈l,p.1∈docs)
def okTm (l:List Tm)(i:Nat):Bool:=(decide (1≤(l.getD i t0).f∧(l.getD i t0).f≤4)&&okW (l.getD i t0).w)&&(decide (i=0)||kylt (l.getD (i-1) t0).k (l.getD i t0).k)
def okT (docs:List Int)(l:List Tm)(i:Nat):Bool:=okTm l i&&okL docs (l.getD i t0).l
def okIt (docs:List Int)(x:List Nm)(k:Nat):Bool:=(decide ((x.getD k n0).2∈docs)&&decide (0≤(x.getD k n0).1∧(x.getD k n0).1≤1000000000000))&&(decide (k=0)||nmlt (x.getD (k-1) n0) (x.getD k n0))
def okIts (docs:List Int)(x:List Nm):Bool:=(List.range x.length).all (okIt docs x)
def okCm (l:List Cl)(i:Nat):Bool:=(decide (5≤(l.getD i c0).f∧(l.getD i c0).f≤7)&&decide ((l.getD i c0).x≠[]))&&(decide (i=0)||decide ((l.getD (i-1) c0).f<(l.getD i c0).f))
def okC (docs:List Int)(l:List Cl)(i:Nat):Bool:=okCm l i&&okIts docs (l.getD i c0).x
def okTs (s:Sg):Bool:=(List.range s.tms.length).all (okT s.docs s.tms)&&decide (pls s.tms).Nodup
def okCs (s:Sg):Bool:=(List.range s.cols.length).all (okC s.docs s.cols)
def validS (s:Sg):Bool:=(asc s.docs 1 1000000000&&decide (s.docs.length≤2000))&&(okTs s&&okCs s)
structure SzS (s:Sg):Prop where
 d:s.docs.length≤1000
 t:s.tms.length≤1000
 w:∀t∈s.tms,t.w.length≤maxLen∧t.l.length≤1000∧∀p∈t.l,p.2.length≤1000
 c:s.cols.length≤1000
 x:∀c∈s.cols,c.x.length≤1000
theorem validS_docs {s:Sg}(h:asc s.docs 1 1000000000=false):validS s=false:=by unfold validS;rw[h];rfl
theorem validS_t {s:Sg}{i:Nat}(hi:i<s.tms.length)(h:okT s.docs s.tms i=false):validS s=false:=by
 unfold validS okTs;rw[all_bad hi h];simp
theorem validS_tm {s:Sg}{i:Nat}(hi:i<s.tms.length)(h:okTm s.tms i=false):validS s=false:=validS_t hi (by unfold okT;rw[h];rfl)
theorem validS_l {s:Sg}{i:Nat}(hi:i<s.tms.length)(h:okL s.docs (s.tms.getD i t0).l=false):validS s=false:=validS_t hi (by unfold okT;rw[h];simp)
theorem validS_nd {s:Sg}(h:¬(pls s.tms).Nodup):validS s=false:=by
 unfold validS okTs;rw[decide_eq_false h];simp
theorem validS_c {s:Sg}{i:Nat}(hi:i<s.cols.length)(h:okC s.docs s.cols i=false):validS s=false:=by
 unfold validS okCs;rw[all_bad hi h];simp
theorem validS_cm {s:Sg}{i:Nat}(hi:i<s.cols.length)(h:okCm s.cols i=false):validS s=false:=validS_c hi (by unfold okC;rw[h];rfl)
theorem validS_i {s:Sg}{i k:Nat}(hi:i<s.cols.length)(hk:k<(s.cols.getD i c0).x.length)(h:okIt s.docs (s.cols.getD i c0).x k=false):validS s=false:=validS_c hi (by unfold okC okIts;rw[all_bad hk h];simp)
theorem validS_good {s:Sg}(h1:asc s.docs 1 1000000000=true)(h2:s.docs.length≤2000)(h3:∀i,i<s.tms.length→okTm s.tms i=true∧okL s.docs (s.tms.getD i t0).l=true)(h4:(pls s.tms).Nodup)
  (h5:∀i,i<s.cols.length→okCm s.cols i=true∧∀k,k<(s.cols.getD i c0).x.length→okIt s.docs (s.cols.getD i c0).x k=true):validS s=true:=by
 unfold validS okTs okCs;rw[h1,decide_eq_true h2,decide_eq_true h4,all_good (fun i hi=>by unfold okT;rw[(h3 i hi).1,(h3 i hi).2];rfl),all_good (fun i hi=>by unfold okC okIts;rw[(h5 i hi).1,all_good (h5 i hi).2];rfl)];rfl
theorem validS_parts {s:Sg}(h:validS s=true):(asc s.docs 1 1000000000=true∧s.docs.length≤2000)∧((∀i,i<s.tms.length→okTm s.tms i=true∧okL s.docs (s.tms.getD i t0).l=true)∧(pls s.tms).Nodup)∧
  (∀i,i<s.cols.length→okCm s.cols i=true∧∀k,k<(s.cols.getD i c0).x.length→okIt s.docs (s.cols.getD i c0).x k=true):=by
 unfold validS okTs okCs at h;simp only[Bool.and_eq_true,decide_eq_true_eq] at h;obtain⟨⟨a,b⟩,⟨c,d⟩,e⟩:=h;refine⟨⟨a,b⟩,⟨fun i hi=>?_,d⟩,fun i hi=>?_⟩
 ·have:=all_at c hi;unfold okT at this;simpa[Bool.and_eq_true] using this
 ·have:=all_at e hi;unfold okC okIts at this;rw[Bool.and_eq_true] at this;exact⟨this.1,fun k hk=>all_at this.2 hk⟩
def keyP (k:Pl):MKey:=.agg [.int .i64 k.1,.int .i64 k.2.1,.int .i64 k.2.2]
def plE (l:List Pl):List (MKey×AV):=l.map fun k=>(keyP k,.bool true)
theorem keyP_inj {a b:Pl}:keyP a=keyP b↔a=b:=by
 obtain⟨a1,a2,a3⟩:=a;obtain⟨b1,b2,b3⟩:=b;simp[keyP]
theorem plE_get (l:List Pl)(k:Pl):lookV (plE l) (keyP k) (.bool false) false=.bool (decide (k∈l)):=by
 unfold lookV;simp only[Bool.false_eq_true,if_false]
 induction l with
 |nil=>rfl
 |cons x r ih=>
  simp only[plE,List.map_cons,mget,keyP_inj] at ih ⊢
  by_cases h:x=k
  ·rw[if_pos h];simp[h]
  ·rw[if_neg h,ih];simp[Ne.symm h]
theorem plE_put {l:List Pl}{k:Pl}(h:k∉l):mput (plE l) (keyP k) (.bool true)=plE (l++[k]):=by
 rw[mput_none (fun x hx=>?_)]
 ·simp[plE]
 ·obtain⟨e,he,rfl⟩:=List.mem_map.1 hx;exact fun hh=>h (keyP_inj.1 hh▸he)
@[simp] theorem below_plE (n t:Nat) (l:List Pl):BelowAll n t ((plE l).map (·.2)):=by
 intro v hv;simp only[plE,List.map_map,List.mem_map,Function.comp] at hv;obtain⟨x,_,rfl⟩:=hv;exact .bool _
def PlR (k:Pl):Prop:=(-9223372036854775808≤k.1∧k.1≤9223372036854775807)∧(-9223372036854775808≤k.2.1∧k.2.1≤9223372036854775807)∧(-9223372036854775808≤k.2.2∧k.2.2≤9223372036854775807)
theorem fitP (k:Pl)(h:PlR k):fitsB Tryz.prog 179 (keyP k)=true:=by
 have hu:=Tryz.underlying179;have h3:Tryz.prog.underlying 3=some (.int .i64):=by kernel_rfl
 have c3:Tryz.prog.cellsOf 3=1:=by kernel_rfl
 have hkt:Tryz.prog.keyType 179=true:=by kernel_rfl
 have hsz:Tryz.prog.types.size=315:=by kernel_rfl
 have e1:∀x:Int,-9223372036854775808≤x∧x≤9223372036854775807→Tryz.prog.keyLits 315 3 [.int .i64 x]=some [.int .i64 x]:=fun x hx=>by
  have hwf:(Lit.int .i64 x).wf=true:=by
   simp only[Lit.wf,Bool.and_eq_true,decide_eq_true_eq];exact hx
  show Tryz.prog.keyLits (314+1) 3 _=_;unfold Program.keyLits;rw[h3];simp only[hwf,and_self,if_true]
 obtain⟨f,d,p⟩:=k;obtain⟨h1,h2,h4⟩:=h;simp only at h1 h2 h4;have hl:Tryz.prog.keyLits (315+1) 179 [.int .i64 f,.int .i64 d,.int .i64 p]=some [.int .i64 f,.int .i64 d,.int .i64 p]:=by
  unfold Program.keyLits;rw[hu];simp[cells179,c3,e1 f h1,e1 d h2,e1 p h4]
 unfold fitsB keyOf;rw[hu];have hf:(MKey.val (keyP (f,d,p))).formed Tryz.prog 179=true:=by
  simp[keyP,MKey.val,KC.val,Value.formed,hu,cells179]
 simp only[hkt,hf,Bool.and_self,if_true,hsz];have:(MKey.val (keyP (f,d,p))).cells.toList=[.int .i64 f,.int .i64 d,.int .i64 p]:=rfl;rw[this,hl];rfl
theorem fitPs {l:List Pl}(h:∀k∈l,PlR k):keysFit Tryz.prog 179 (plE l)=true:=by
 unfold keysFit;rw[List.all_eq_true];intro x hx;obtain⟨k,hk,rfl⟩:=List.mem_map.1 hx;exact fitP k (h k hk)
open Post
theorem plsP_take (f:Int)(p:Ps)(k:Nat)(h:k<p.2.length):plsP f (p.1,p.2.take (k+1))=plsP f (p.1,p.2.take k)++[(f,p.1,p.2.getD k 0)]:=by
 unfold plsP;simp only;rw[take_getD p.2 k 0 h];simp
theorem flat_take {α β:Type}(l:List α)(f:α→List β)(d:α)(k:Nat)(h:k<l.length):(l.take (k+1)).flatMap f=(l.take k).flatMap f++f (l.getD k d):=by
 rw[take_getD l k d h];simp
attribute [-simp] List.getD_eq_getElem?_getD in
theorem vpos_loop (s:Sg)(t:Tm)(i:Nat)(hl:t.l.length≤1000)(hp:∀p∈t.l,p.2.length≤1000)(hf:1≤t.f∧t.f≤4)(hv:validL t.l=true)(seen:List Pl)(hs:∀k∈seen,PlR k)(hn:seen.Nodup)
  (H:List Blk) (T:Toks) (HO:HOk (H++[.cells (sgC s),.map (plE seen),.cells (tmC t)]) T) (Q:Exit→St→Prop)
  (bad:¬(seen++plsT t).Nodup→∀(e:Env)(rH:List Blk)(rT:Toks),eget e 2=.bool false→Q .ret ⟨e,H++rH,T++rT⟩)
  (go:(seen++plsT t).Nodup→(∀k∈seen++plsT t,PlR k)→HOk (H++[.cells (sgC s),.map (plE (seen++plsT t)),.cells (tmC t)]) T→∀e:Env,envLe (H.length+3) T.length e [(1,.ptr H.length 0),(3,.mref (H.length+1)),(29,.sl s.tms.length (tmAV s.tms) .none),(30,.int .i64 (s.tms.length:Nat)),(31,.int .i64 (i:Nat))]→Q .normal ⟨e,H++[.cells (sgC s),.map (plE (seen++plsT t)),.cells (tmC t)],T⟩) :
  AW ⟨Tryz.prog,195,154,H.length,T.length,[]⟩ (subC [1,1,1,0,1,0,0,1,1,0,0,1,1,1] (Tryz.f60.body.getD .skip)) Q ⟨[(1,.ptr H.length 0),(3,.mref (H.length+1)),(5,.ptr (H.length+2) 0),(29,.sl s.tms.length (tmAV s.tms) .none),(30,.int .i64 (s.tms.length:Nat)),(31,.int .i64 (i:Nat))],H++[.cells (sgC s),.map (plE seen),.cells (tmC t)],T⟩:=by
 conv=>arg 2;whnf
 obtain⟨v1,v2,v3⟩:=validL_iff hv;obtain⟨f,w,l⟩:=t;simp only at hl hp hf hv v1 v2 v3;have hl':l.length≤9223372036854775807:=by omega
 apply aw_reg;intro K h;simp(disch:=omega);apply h;clear h K;apply aw_block;refine aw_loop (X:=Nat) (fun j=>⟨[(1,.ptr H.length 0),(3,.mref (H.length+1)),(5,.ptr (H.length+2) 0),(29,.sl s.tms.length (tmAV s.tms) .none),(30,.int .i64 (s.tms.length:Nat)),(31,.int .i64 (i:Nat)),(85,.sl l.length (psAV l) .none),(86,.int .i64 (l.length:Nat)),(87,.int .i64 (j:Nat))],H++[.cells (sgC s),.map (plE (seen++(l.take j).flatMap (plsP f))),.cells (tmC ⟨f,w,l⟩)],T⟩)
  (fun j=>j≤l.length∧(seen++(l.take j).flatMap (plsP f)).Nodup∧(∀k∈seen++(l.take j).flatMap (plsP f),PlR k)∧HOk (H++[.cells (sgC s),.map (plE (seen++(l.take j).flatMap (plsP f))),.cells (tmC ⟨f,w,l⟩)]) T) (fun j=>l.length-j) 0 ?_ ?_ ?_
 ·refine⟨Nat.zero_le _,?_⟩;simp only[List.take_zero,List.flatMap_nil,List.append_nil];exact⟨hn,hs,HO⟩
 ·have e0:seen++(l.take 0).flatMap (plsP f)=seen:=by simp
  refine weak_to [] [] ?_ ?_ ?_ ?_ (by rw[e0];exact HO) ?_
  all_goals simp
  all_goals (try omega)
 ·rintro j ⟨j1,j2,j3,j4⟩;have hle:∀k∈seen++(l.take j).flatMap (plsP f),PlR k:=j3;have hfl:=fun h=>flat_take l (plsP f) p0 j h;have hall:seen++plsT ⟨f,w,l⟩=(seen++(l.take j).flatMap (plsP f))++(l.drop j).flatMap (plsP f):=by
   rw[List.append_assoc,←List.flatMap_append,List.take_append_drop];rfl
  generalize hg:seen++(l.take j).flatMap (plsP f)=sj at *;apply aw_reg;intro K h;simp(disch:=omega);apply h;clear h K;refine aw_then fun K1 hK1=>?_;refine aw_if rfl (fun hk=>?_) (fun hk=>?_)
  ·simp  at hk;have hcut:=psAV_cut l j hk;have hpm:=getD_mem l j p0 hk;obtain⟨w1,w2,w3⟩:=v3 _ hpm;have w0:=v2 _ hpm;have hpl:=hp _ hpm;have hdr:l.drop j=l.getD j p0::l.drop (j+1):=getD_cons_drop l j p0 hk;rw[hdr,List.flatMap_cons] at hall;replace hfl:=hfl hk;have hfl2:seen++(l.take (j+1)).flatMap (plsP f)=sj++plsP f (l.getD j p0):=by rw[hfl,←List.append_assoc,hg]
   generalize l.getD j p0=p at *;obtain⟨d,ps⟩:=p;simp only at hcut w0 w1 w2 w3 hpl;have hpl':ps.length≤9223372036854775807:=by omega
   apply aw_skip;simp(disch:=omega) ;apply hK1;clear hK1;refine aw_then fun K2 hK2=>?_;apply aw_block;refine aw_reg fun K hK=>?_;simp(disch:=omega)[hcut,psAV_len];apply hK;clear hK K;have HO2:HOk (H++[.cells (sgC s),.map (plE sj),.cells (tmC ⟨f,w,l⟩),.cells [.int .i64 d,.sl ps.length (ints ps) .none]]) T:=by
    have:=HOk.snoc (vs:=[.int .i64 d,.sl ps.length (ints ps) .none]) j4 (by simp);simpa using this
   apply aw_reg;intro K h;simp(disch:=omega);apply h;clear h K;apply aw_block;refine aw_loop (X:=Nat) (fun k=>⟨[(1,.ptr H.length 0),(3,.mref (H.length+1)),(5,.ptr (H.length+2) 0),(7,.ptr (H.length+3) 0),(29,.sl s.tms.length (tmAV s.tms) .none),(30,.int .i64 (s.tms.length:Nat)),(31,.int .i64 (i:Nat)),(85,.sl l.length (psAV l) .none),(86,.int .i64 (l.length:Nat)),(87,.int .i64 (j:Nat)),(92,.sl ps.length (ints ps) .none),(93,.int .i64 (ps.length:Nat)),(94,.int .i64 (k:Nat))],H++[.cells (sgC s),.map (plE (sj++plsP f (d,ps.take k))),.cells (tmC ⟨f,w,l⟩),.cells [.int .i64 d,.sl ps.length (ints ps) .none]],T⟩)
    (fun k=>k≤ps.length∧(sj++plsP f (d,ps.take k)).Nodup∧(∀x∈sj++plsP f (d,ps.take k),PlR x)∧HOk (H++[.cells (sgC s),.map (plE (sj++plsP f (d,ps.take k))),.cells (tmC ⟨f,w,l⟩),.cells [.int .i64 d,.sl ps.length (ints ps) .none]]) T) (fun k=>ps.length-k) 0 ?_ ?_ ?_
   ·refine⟨Nat.zero_le _,?_⟩;simp only[List.take_zero,plsP,List.map_nil,List.append_nil];exact⟨j2,j3,HO2⟩
   ·have e0:sj++plsP f (d,ps.take 0)=sj:=by simp[plsP]
    refine weak_to [] [] ?_ ?_ ?_ ?_ (by rw[e0];exact HO2) ?_
    all_goals simp[plsP]
    all_goals (try omega)
   ·rintro k ⟨k1,k2,k3,k4⟩;have htk:=plsP_take f (d,ps) k;simp only at htk;have hall2:plsP f (d,ps)=plsP f (d,ps.take k)++plsP f (d,ps.drop k):=by
     unfold plsP;simp only;rw[←List.map_append,List.take_append_drop]
    have hdr2:=getD_cons_drop ps k 0;have htk2:∀h,sj++plsP f (d,ps.take (k+1))=(sj++plsP f (d,ps.take k))++[(f,d,ps.getD k 0)]:=fun h=>by rw[htk h,List.append_assoc]
    have hdr3:∀h:k<ps.length,plsP f (d,ps.drop k)=(f,d,ps.getD k 0)::plsP f (d,ps.drop (k+1)):=fun h=>by unfold plsP;simp only;rw[hdr2 h];rfl
    have hfin:k=ps.length→sj++plsP f (d,ps.take k)=sj++plsP f (d,ps):=fun h=>by rw[h,List.take_length]
    rw[hall2,List.append_assoc,←List.append_assoc] at hall;generalize hgk:sj++plsP f (d,ps.take k)=sk at *;apply aw_reg;intro K h;simp(disch:=omega);apply h;clear h K;refine aw_then fun K3 hK3=>?_;refine aw_if rfl (fun hk3=>?_) (fun hk3=>?_)
    ·simp  at hk3;have hgi:=getD_ints (xs:=ps) (k:=k) hk3;have hpr:=w3 _ (getD_mem ps k 0 hk3);replace htk2:=htk2 hk3;replace hdr3:=hdr3 hk3;generalize ps.getD k 0=x at *;have hR:PlR (f,d,x):=⟨by simp only;omega,by simp only;omega,by simp only;omega⟩
     have hfk:fitsB Tryz.prog 179 (.agg [.int .i64 f,.int .i64 d,.int .i64 x])=true:=fitP (f,d,x) hR;have hft:=fitPs k3;have hlook:=plE_get sk (f,d,x);unfold keyP at hlook;simp only at hlook;apply aw_skip;simp(disch:=omega) ;apply hK3;clear hK3;refine aw_then fun K4 hK4=>?_;apply aw_block;refine aw_reg fun K hK=>?_;simp(disch:=omega)[hgi];apply hK;clear hK K;apply aw_reg;intro K h;simp(disch:=omega);apply h;clear h K;refine aw_then fun K5 hK5=>?_
     by_cases hm:(f,d,x)∈sk
     ·rw[decide_eq_true hm] at hlook;refine aw_reg fun K hK=>?_;simp(disch:=omega)[mapT176,zeroV176,hfk,hft,hlook];apply hK;clear hK K;apply aw_ift rfl;apply aw_reg;intro K h;simp(disch:=omega);apply h;clear h K;apply aw_ret;simp(disch:=omega) ;rw[←List.append_nil T];refine bad (fun hnd=>?_) _ _ _ rfl;rw[hall,hdr3] at hnd;exact(List.nodup_append.1 hnd).2.2 _ hm (f,d,x) (by simp) rfl
     ·rw[decide_eq_false hm] at hlook;have hput:=plE_put hm;unfold keyP at hput;simp only at hput;refine aw_reg fun K hK=>?_;simp(disch:=omega)[mapT176,zeroV176,hfk,hft,hlook];apply hK;clear hK K;apply aw_iff rfl;apply aw_skip;simp(disch:=omega) ;apply hK5;clear hK5;refine aw_reg0 fun K hK=>?_;simp(disch:=omega)[mapT176,hfk,hft,hput];apply hK;clear hK K;have hR2:∀y∈sk++[(f,d,x)],PlR y:=fun y hy=>by
       rcases List.mem_append.1 hy with h1|h1
       ·exact k3 y h1
       ·rw[List.mem_singleton.1 h1];exact hR
      have hnd2:(sk++[(f,d,x)]).Nodup:=List.nodup_append.2 ⟨k2,by simp,fun a ha b hb=>by rw[List.mem_singleton.1 hb];exact fun e=>hm (e▸ha)⟩;have HO3:HOk (H++[.cells (sgC s),.map (plE (sk++[(f,d,x)])),.cells (tmC ⟨f,w,l⟩),.cells [.int .i64 d,.sl ps.length (ints ps) .none]]) T:=by
       have:=HOk.setMap (k:=H.length+1) (es:=plE (sk++[(f,d,x)])) k4 (by simp);simpa using this
      apply hK4;clear hK4;refine aw_reg0 fun K hK=>?_;simp(disch:=omega) ;apply hK;clear hK K;refine⟨k+1,⟨by show k+1≤_;omega,?_,?_,?_⟩,by show ps.length-(k+1)<ps.length-k;omega,?_⟩
      ·rw[htk2];exact hnd2
      ·rw[htk2];exact hR2
      ·rw[htk2];exact HO3
      ·refine weak_to [.cells [.int .i64 f,.int .i64 d,.int .i64 x]] [] ?_ ?_ ?_ ?_ (by rw[htk2];exact HO3) ?_
       all_goals simp[htk2]
       all_goals (try omega)
    ·simp  at hk3;have hke:k=ps.length:=by omega
     have hsk:=hfin hke;apply aw_exit;simp(disch:=omega) ;apply hK2;clear hK2;refine aw_reg0 fun K hK=>?_;simp(disch:=omega) ;apply hK;clear hK K;rw[hsk,←hfl2] at k2 k3;have HO4:HOk (H++[.cells (sgC s),.map (plE (seen++(l.take (j+1)).flatMap (plsP f))),.cells (tmC ⟨f,w,l⟩)]) T:=by
      have:=HOk.setMap (k:=H.length+1) (es:=plE (seen++(l.take (j+1)).flatMap (plsP f))) j4 (by simp);simpa using this
     refine⟨j+1,⟨by show j+1≤_;omega,k2,k3,HO4⟩,by show l.length-(j+1)<l.length-j;omega,?_⟩;refine weak_to [.cells [.int .i64 d,.sl ps.length (ints ps) .none]] [] ?_ ?_ ?_ ?_ HO4 ?_
     all_goals simp[hsk,hfl2]
     all_goals (try omega)
  ·simp  at hk;have hje:j=l.length:=by omega
   have hs2:seen++plsT ⟨f,w,l⟩=sj:=by rw[hall,hje,List.drop_length];simp
   apply aw_exit;simp(disch:=omega) ;rw[←hs2] at j2 j3 j4 ⊢;exact go j2 j3 j4 _ (by simp;try omega)
attribute [-simp] List.getD_eq_getElem?_getD in
theorem vits_loop (docs:List Int)(tms:List Tm)(cols:List Cl)(f:Int)(x:List Nm)(i:Nat)(hAsc:Asc docs)(hdl:docs.length≤1000)(hxl:x.length≤1000)(es:List (MKey×AV))(H:List Blk)(T:Toks)
  (HO2:HOk (H++[.cells (sgC ⟨docs,tms,cols⟩),.map es,.cells (clC ⟨f,x⟩)]) T) (Q:Exit→St→Prop)
  (bad:∀k,k<x.length→okIt docs x k=false→∀(e:Env)(rH:List Blk)(rT:Toks),eget e 2=.bool false→Q .ret ⟨e,H++rH,T++rT⟩)
  (go:(∀k,k<x.length→okIt docs x k=true)→∀e:Env,envLe (H.length+3) T.length e [(1,.ptr H.length 0),(113,.sl cols.length (clAV cols) .none),(114,.int .i64 (cols.length:Nat)),(115,.int .i64 (i:Nat))]→Q .normal ⟨e,H++[.cells (sgC ⟨docs,tms,cols⟩),.map es,.cells (clC ⟨f,x⟩)],T⟩) :
  AW ⟨Tryz.prog,195,154,H.length,T.length,[]⟩ (subC [1,1,1,1,0,1,0,0,1,1,0,0,1,1] (Tryz.f60.body.getD .skip)) Q ⟨[(1,.ptr H.length 0),(12,.ptr (H.length+2) 0),(113,.sl cols.length (clAV cols) .none),(114,.int .i64 (cols.length:Nat)),(115,.int .i64 (i:Nat))],H++[.cells (sgC ⟨docs,tms,cols⟩),.map es,.cells (clC ⟨f,x⟩)],T⟩:=by
 conv=>arg 2;whnf
 have hxl':x.length≤9223372036854775807:=by omega
 apply aw_reg;intro K h;simp(disch:=omega);apply h;clear h K;apply aw_block;refine aw_loop (X:=Nat) (fun k=>⟨[(1,.ptr H.length 0),(12,.ptr (H.length+2) 0),(113,.sl cols.length (clAV cols) .none),(114,.int .i64 (cols.length:Nat)),(115,.int .i64 (i:Nat)),(151,.sl x.length (nmAV x) .none),(152,.int .i64 (x.length:Nat)),(153,.int .i64 (k:Nat))],H++[.cells (sgC ⟨docs,tms,cols⟩),.map es,.cells (clC ⟨f,x⟩)],T⟩)
  (fun k=>k≤x.length∧∀j,j<k→okIt docs x j=true) (fun k=>x.length-k) 0 ?_ ?_ ?_
 ·exact⟨Nat.zero_le _,fun j hj=>absurd hj (Nat.not_lt_zero _)⟩
 ·refine weak_to [] [] ?_ ?_ ?_ ?_ HO2 ?_
  all_goals simp
 ·rintro m ⟨m1,m2⟩;apply aw_reg;intro K h;simp(disch:=omega);apply h;clear h K;refine aw_then fun K5 hK5=>?_;refine aw_if rfl (fun hk2=>?_) (fun hk2=>?_)
  ·simp  at hk2;have hcn:=nmAV_cut x m hk2;have eok2:okIt docs x m=((decide ((x.getD m n0).2∈docs)&&decide (0≤(x.getD m n0).1∧(x.getD m n0).1≤1000000000000))&&(decide (m=0)||nmlt (x.getD (m-1) n0) (x.getD m n0))):=rfl;have cn:=fun H T=>byNumber_ok (x.getD (m-1) n0) (x.getD m n0) H T;have hge:=cmpN_ge (x.getD (m-1) n0) (x.getD m n0);generalize cmpN (x.getD (m-1) n0) (x.getD m n0)=cq at *;have hcp:=fun h=>nmAV_cut x (m-1) h;generalize x.getD (m-1) n0=y at *;generalize hnn:x.getD m n0=z at *;obtain⟨x1,x2⟩:=z;obtain⟨y1,y2⟩:=y;simp only at hcn hcp eok2;apply aw_skip;simp(disch:=omega) ;apply hK5;clear hK5;refine aw_then fun K6 hK6=>?_;apply aw_block;refine aw_reg fun K hK=>?_;simp(disch:=omega)[hcn,nmAV_len];apply hK;clear hK K;have HO3:HOk (H++[.cells (sgC ⟨docs,tms,cols⟩),.map es,.cells (clC ⟨f,x⟩),.cells [.int .i64 x1,.int .i64 x2]]) T:=by
    have:=HOk.snoc (vs:=[.int .i64 x1,.int .i64 x2]) HO2 (by simp);simpa using this
   have cb:=bsearch_ok docs x2 hAsc (by omega) (H++[.cells (sgC ⟨docs,tms,cols⟩),.map es,.cells (clC ⟨f,x⟩),.cells [.int .i64 x1,.int .i64 x2]]) T .none;have c:=cn (H++[.cells (sgC ⟨docs,tms,cols⟩),.map es,.cells (clC ⟨f,x⟩),.cells [.int .i64 x1,.int .i64 x2]]) T;refine aw_reg fun K hK=>?_;simp(disch:=omega) ;refine⟨_,cb,?_⟩;rintro r H' T' ⟨rfl,rfl,ii,rfl⟩;simp(disch:=omega) ;apply hK;clear hK K;clear cb;refine aw_draw [] [] [] drawMixed (by kernel_rfl) (by kernel_rfl) fun K hK=>?_;have key2:∀e b,b=okIt docs x m→envLe (H.length+4) T'.length e [(1,.ptr H.length 0),(12,.ptr (H.length+2) 0),(113,.sl cols.length (clAV cols) .none),(114,.int .i64 (cols.length:Nat)),(115,.int .i64 (i:Nat)),(151,.sl x.length (nmAV x) .none),(152,.int .i64 (x.length:Nat)),(153,.int .i64 (m:Nat)),(192,.bool (!b))]→K ⟨e,H++[.cells (sgC ⟨docs,tms,cols⟩),.map es,.cells (clC ⟨f,x⟩),.cells [.int .i64 x1,.int .i64 x2]],T'⟩:=by
    intro e b2 hb2 he2;refine hK _ (aw_weak ⟨[(1,.ptr H.length 0),(12,.ptr (H.length+2) 0),(113,.sl cols.length (clAV cols) .none),(114,.int .i64 (cols.length:Nat)),(115,.int .i64 (i:Nat)),(151,.sl x.length (nmAV x) .none),(152,.int .i64 (x.length:Nat)),(153,.int .i64 (m:Nat)),(192,.bool (!b2))],H++[.cells (sgC ⟨docs,tms,cols⟩),.map es,.cells (clC ⟨f,x⟩)],T'⟩ (weak_to [.cells [.int .i64 x1,.int .i64 x2]] [] (by simp) (by simp) (by simp) (by simp) HO2 (by simpa using he2)) ?_)
    cases b2 with
    |false=>
     apply aw_ift rfl;apply aw_reg;intro K h;simp(disch:=omega);apply h;clear h K;apply aw_ret;rw[←List.append_nil T'];exact bad m hk2 hb2.symm _ _ _ rfl
    |true=>
     apply aw_iff rfl;apply aw_skip;simp(disch:=omega) ;apply hK6;clear hK6;refine aw_reg0 fun K hK=>?_;simp(disch:=omega) ;apply hK;clear hK K;refine⟨m+1,⟨by show m+1≤_;omega,fun j hj=>?_⟩,by show x.length-(m+1)<x.length-m;omega,?_⟩
     ·rcases Nat.lt_or_ge j m with h|h
      ·exact m2 j h
      ·have:j=m:=by omega
       subst this;exact hb2.symm
     ·refine weak_to [] [] ?_ ?_ ?_ ?_ HO2 ?_
      all_goals simp
   clear hK
   by_cases v0:x2∈docs
   rotate_left
   ·simp(disch:=omega)[v0];refine key2 _ false (by rw[eok2,decide_eq_false v0];rfl) (by simp)
   rw[decide_eq_true v0,Bool.true_and] at eok2
   by_cases v3:x1<0
   ·have w3:decide (x1<0)=true:=decide_eq_true v3;simp(disch:=omega)[v0,w3,v3];refine key2 _ false (by rw[eok2,decide_eq_false (by omega:¬(0≤x1∧x1≤1000000000000))];rfl) (by simp)
   have w3:decide (x1<0)=false:=decide_eq_false v3
   by_cases v4:1000000000000<x1
   ·have w4:decide (1000000000000<x1)=true:=decide_eq_true v4;simp(disch:=omega)[v0,w3,v3,w4,v4];refine key2 _ false (by rw[eok2,decide_eq_false (by omega:¬(0≤x1∧x1≤1000000000000))];rfl) (by simp)
   have w4:decide (1000000000000<x1)=false:=decide_eq_false v4;rw[decide_eq_true (by omega:0≤x1∧x1≤1000000000000),Bool.true_and] at eok2;rcases Nat.eq_zero_or_pos m with h5|h5
   ·subst h5;simp(disch:=omega)[v0,w3,v3,w4,v4];refine key2 _ true (by rw[eok2];rfl) (by simp)
   ·have e6:((m:Int)-1)=((m-1:Nat):Int):=by omega
    have b5:decide ((0:Int)<(m:Int))=true:=decide_eq_true (by omega);have hcp':=hcp (by omega);rw[decide_eq_false (by omega:¬m=0),Bool.false_or] at eok2
    cases hlt:nmlt (y1,y2) (x1,x2) with
    |false=>
     have b7:decide (0≤cq)=true:=decide_eq_true (hge.2 hlt);have n7:=hge.2 hlt;rw[hlt] at eok2;simp(disch:=omega)[v0,w3,v3,w4,v4,b5,h5,e6,hcp',nmAV_len];refine dcall_is (c) rfl ?_;simp(disch:=omega)[b7,n7];refine key2 _ false eok2.symm (by simp)
    |true=>
     have n7:¬0≤cq:=fun e=>by rw[hge.1 e] at hlt;cases hlt
     have b7:decide (0≤cq)=false:=decide_eq_false n7;rw[hlt] at eok2;simp(disch:=omega)[v0,w3,v3,w4,v4,b5,h5,e6,hcp',nmAV_len];refine dcall_is (c) rfl ?_;simp(disch:=omega)[b7,n7];refine key2 _ true eok2.symm (by simp)
  ·simp  at hk2;apply aw_exit;simp(disch:=omega) ;exact go (fun k h=>m2 k (by omega)) _ (by simp)
attribute [-simp] List.getD_eq_getElem?_getD in
theorem vcol_tail (s:Sg)(hs:SzS s)(hd:asc s.docs 1 1000000000=true)(h2000:s.docs.length≤2000)(ht:(∀i,i<s.tms.length→okTm s.tms i=true∧okL s.docs (s.tms.getD i t0).l=true)∧(pls s.tms).Nodup)(es:List (MKey×AV))
  (H:List Blk) (T:Toks) (HO:HOk (H++[.cells (sgC s),.map es]) T) :
  AW ⟨Tryz.prog,195,154,H.length,T.length,[]⟩ (subC [1,1,1,1] (Tryz.f60.body.getD .skip)) (RetQ Tryz.prog Tryz.f60.results.toList fun r H' T'=>(∃rH,H'=H++rH)∧(∃rT,T'=T++rT)∧(r=.bool (validS s)∨untag r=.bool (validS s))) ⟨[(1,.ptr H.length 0),(3,.mref (H.length+1))],H++[.cells (sgC s),.map es],T⟩:=by
 conv=>arg 2;whnf
 have hAsc:=asc_pair hd;have hdl:s.docs.length≤1000:=Nat.le_trans hs.d (by omega);have hcl:=hs.c;have hx:=hs.x;have bad:=fun i h=>validS_cm (s:=s) (i:=i) h;have badi:=fun i k h=>validS_i (s:=s) (i:=i) (k:=k) h;have good:=validS_good hd h2000 ht.1 ht.2;obtain⟨docs,tms,cols⟩:=s;simp only at hAsc hdl hcl hx bad badi good;generalize hq:validS ⟨docs,tms,cols⟩=q at *;have hcl':cols.length≤9223372036854775807:=by omega
 refine aw_then fun K1 hK1=>?_;apply aw_reg;intro K h;simp(disch:=omega);apply h;clear h K;apply aw_block;refine aw_loop (X:=Nat) (fun i=>⟨[(1,.ptr H.length 0),(113,.sl cols.length (clAV cols) .none),(114,.int .i64 (cols.length:Nat)),(115,.int .i64 (i:Nat))],H++[.cells (sgC ⟨docs,tms,cols⟩),.map es],T⟩)
  (fun i=>i≤cols.length∧∀j,j<i→okCm cols j=true∧∀k,k<(cols.getD j c0).x.length→okIt docs (cols.getD j c0).x k=true) (fun i=>cols.length-i) 0 ?_ ?_ ?_
 ·exact⟨Nat.zero_le _,fun j hj=>absurd hj (Nat.not_lt_zero _)⟩
 ·refine weak_to [] [] ?_ ?_ ?_ ?_ HO ?_
  all_goals simp
 ·rintro i ⟨g1,g2⟩;apply aw_reg;intro K h;simp(disch:=omega);apply h;clear h K;refine aw_then fun K2 hK2=>?_;refine aw_if rfl (fun hk=>?_) (fun hk=>?_)
  ·simp  at hk;have hcut:=clAV_cut cols i hk;have hxl:=hx _ (getD_mem cols i c0 hk);have eok:okCm cols i=((decide (5≤(cols.getD i c0).f∧(cols.getD i c0).f≤7)&&decide ((cols.getD i c0).x≠[]))&&(decide (i=0)||decide ((cols.getD (i-1) c0).f<(cols.getD i c0).f))):=rfl;have hat:=fun h=>(clAV_at cols (i-1) h).1;generalize (cols.getD (i-1) c0).f=fp at *;replace badi:=fun k=>badi i k hk;have hadd:(∀k,k<(cols.getD i c0).x.length→okIt docs (cols.getD i c0).x k=true)→okCm cols i=true→∀j,j<i+1→okCm cols j=true∧∀k,k<(cols.getD j c0).x.length→okIt docs (cols.getD j c0).x k=true:=fun h1 h2 j hj=>by
    rcases Nat.lt_or_ge j i with h|h
    ·exact g2 j h
    ·have:j=i:=by omega
     subst this;exact⟨h2,h1⟩
   generalize cols.getD i c0=c at *;obtain⟨f,x⟩:=c;simp only at hcut hxl eok badi hadd;have hxl':x.length≤9223372036854775807:=by omega
   apply aw_skip;simp(disch:=omega) ;apply hK2;clear hK2;refine aw_then fun K3 hK3=>?_;apply aw_block;refine aw_reg fun K hK=>?_;simp(disch:=omega)[hcut,clAV_len];apply hK;clear hK K;have HO2:HOk (H++[.cells (sgC ⟨docs,tms,cols⟩),.map es,.cells (clC ⟨f,x⟩)]) T:=by
    have:=HOk.snoc (vs:=clC ⟨f,x⟩) HO (by simp);simpa using this
   refine aw_then fun K4 hK4=>?_;refine aw_draw [] [] [] drawMixed (by kernel_rfl) (by kernel_rfl) fun K hK=>?_;have key:∀e b,b=okCm cols i→envLe (H.length+3) T.length e [(1,.ptr H.length 0),(12,.ptr (H.length+2) 0),(113,.sl cols.length (clAV cols) .none),(114,.int .i64 (cols.length:Nat)),(115,.int .i64 (i:Nat)),(149,.bool (!b))]→K ⟨e,H++[.cells (sgC ⟨docs,tms,cols⟩),.map es,.cells (clC ⟨f,x⟩)],T⟩:=by
    intro e b hb he;refine hK _ (aw_weak ⟨[(1,.ptr H.length 0),(12,.ptr (H.length+2) 0),(113,.sl cols.length (clAV cols) .none),(114,.int .i64 (cols.length:Nat)),(115,.int .i64 (i:Nat)),(149,.bool (!b))],H++[.cells (sgC ⟨docs,tms,cols⟩),.map es,.cells (clC ⟨f,x⟩)],T⟩ (weak_to [] [] (by simp) (by simp) (by simp) (by simp) HO2 (by simpa using he)) ?_)
    cases b with
    |false=>
     apply aw_ift rfl;apply aw_reg;intro K h;simp(disch:=omega);apply h;clear h K;apply aw_ret;simp(disch:=omega) ;rw[bad i hk hb.symm]
    |true=>
    apply aw_iff rfl;apply aw_skip;simp(disch:=omega) ;apply hK4;clear hK4;refine aw_weak ⟨[(1,.ptr H.length 0),(12,.ptr (H.length+2) 0),(113,.sl cols.length (clAV cols) .none),(114,.int .i64 (cols.length:Nat)),(115,.int .i64 (i:Nat))],H++[.cells (sgC ⟨docs,tms,cols⟩),.map es,.cells (clC ⟨f,x⟩)],T⟩ (weak_to [] [] (by simp) (by simp) (by simp) (by simp) HO2 (by simp)) ?_;refine vits_loop docs tms cols f x i hAsc hdl hxl es H T HO2 _ (fun k hk3 hb3 e rH rT he=>?_) fun hg e he=>?_
    ·show RetQ Tryz.prog Tryz.f60.results.toList (fun r H' T'=>(∃rH,H'=H++rH)∧(∃rT,T'=T++rT)∧(r=.bool q∨untag r=.bool q)) .ret _;simp[he,badi k hk3 hb3]
    ·refine hK3 _ (aw_weak ⟨[(1,.ptr H.length 0),(113,.sl cols.length (clAV cols) .none),(114,.int .i64 (cols.length:Nat)),(115,.int .i64 (i:Nat))],H++[.cells (sgC ⟨docs,tms,cols⟩),.map es],T⟩ (weak_to [.cells (clC ⟨f,x⟩)] [] (by simp) (by simp) (by simp) (by simp) HO (by simpa using he)) ?_);refine aw_reg0 fun K hK=>?_;simp(disch:=omega) ;apply hK;clear hK K;refine⟨i+1,⟨by show i+1≤_;omega,hadd hg hb.symm⟩,by show cols.length-(i+1)<cols.length-i;omega,?_⟩;refine weak_to [] [] ?_ ?_ ?_ ?_ HO ?_
     all_goals simp
   by_cases v1:f<5
   ·have w1:decide (f<5)=true:=decide_eq_true v1;simp(disch:=omega)[w1,v1];refine key _ false (by rw[eok,decide_eq_false (by omega:¬(5≤f∧f≤7))];rfl) (by simp)
   have w1:decide (f<5)=false:=decide_eq_false v1
   by_cases v2:7<f
   ·have w2:decide (7<f)=true:=decide_eq_true v2;simp(disch:=omega)[w1,v1,w2,v2];refine key _ false (by rw[eok,decide_eq_false (by omega:¬(5≤f∧f≤7))];rfl) (by simp)
   have w2:decide (7<f)=false:=decide_eq_false v2;rw[decide_eq_true (by omega:5≤f∧f≤7),Bool.true_and] at eok
   by_cases v3:x.length=0
   ·have e3:x=[]:=List.length_eq_zero_iff.1 v3;subst e3;simp(disch:=omega)[w1,v1,w2,v2];refine key _ false (by rw[eok];rfl) (by simp)
   have w3:((x.length:Int)==0)=false:=beq_eq_false_iff_ne.2 (by omega);have n3:x≠[]:=fun e=>v3 (by rw[e];rfl);rw[decide_eq_true n3,Bool.true_and] at eok;rcases Nat.eq_zero_or_pos i with h5|h5
   ·subst h5;simp(disch:=omega)[w1,v1,w2,v2,w3,n3];refine key _ true (by rw[eok];rfl) (by simp)
   ·have e6:((i:Int)-1)=((i-1:Nat):Int):=by omega
    have b5:decide ((0:Int)<(i:Int))=true:=decide_eq_true (by omega);have hat':=hat (by omega);rw[decide_eq_false (by omega:¬i=0),Bool.false_or] at eok
    by_cases v4:f≤fp
    ·have w4:decide (f≤fp)=true:=decide_eq_true v4;simp(disch:=omega)[w1,v1,w2,v2,w3,n3,b5,h5,e6,hat',clAV_len,w4,v4];refine key _ false (by rw[eok,decide_eq_false (by omega:¬fp<f)]) (by simp)
    ·have w4:decide (f≤fp)=false:=decide_eq_false v4;simp(disch:=omega)[v1,v2,w3,h5,e6,hat',clAV_len,v4];refine key _ true (by rw[eok,decide_eq_true (by omega:fp<f)]) (by simp)
  ·simp  at hk;apply aw_exit;simp(disch:=omega) ;apply hK1;clear hK1;apply aw_reg;intro K h;simp(disch:=omega);apply h;clear h K;apply aw_ret;simp(disch:=omega) ;rw[good (fun j hj=>g2 j (by omega))]
theorem wo_nil {a b:List Int}(ha:asc a 1 1000000000=true)(hb:asc b 1 1000000000=true):(comb (fun _ q=>!q) a b).length=0↔∀x∈a,x∈b:=by
 obtain⟨_,h⟩:=comb_spec (fun _ q=>!q) (a:=a) (b:=b) ha hb
 constructor
 ·intro h0 x hx;have e:=List.length_eq_zero_iff.1 h0;rw[e] at h
  by_cases hb:x∈b
  ·exact hb
  ·exact absurd ((h x).2 (.inl ⟨hx,hb,rfl⟩)) (by simp)
 ·intro h1;refine List.length_eq_zero_iff.2 (List.eq_nil_iff_forall_not_mem.2 fun x hx=>?_);rcases (h x).1 hx with h2|h2|h2
  ·exact h2.2.1 (h1 x h2.1)
  ·simp at h2
  ·simp at h2
attribute [-simp] List.getD_eq_getElem?_getD in
theorem within_ok (a b:List Int)(ha:a.length≤1000)(hb:b.length≤1000)(H:List Blk)(T:Toks):ACall Tryz.prog 112 [.sl a.length (ints a) .none,.sl b.length (ints b) .none] H T (Is (.bool (decide ((comb (fun _ q=>!q) a b).length=0))) H T):=by
 have c:=without_ok a b ha hb H T .none .none;have hl:=comb_len (fun _ q=>!q) a b;generalize comb (fun _ q=>!q) a b=r at *;have e:((r.length:Int)==0)=decide (r.length=0):=by
  rw[Bool.eq_iff_iff];simp
 refine acall_enter 12 [] Tryz.ntmps112 Tryz.func112 rfl (fun _ _=>Tryz.call112 _ _) (by simp) (fun HO=>?_);apply aw_reg;intro K h;simp(disch:=omega);apply h;clear h K;refine aw_reg fun K hK=>?_;simp(disch:=omega) ;refine acall_is (c) ?_;simp(disch:=omega)[e];apply hK;clear hK K;apply aw_ret;simp(disch:=omega) ;exact⟨by simp[e],rfl,rfl⟩
attribute [-simp] List.getD_eq_getElem?_getD in
theorem validS_ok (s:Sg)(hs:SzS s)(H:List Blk)(T:Toks):ACall Tryz.prog 60 [sgAV s] H T (Is (.bool (validS s)) H T):=by
 refine ACall.drop' ?_ (by simp);have HO1:HOk H T→HOk (H++[.cells (sgC s)]) T:=fun h=>h.snoc (by simp);have c1:=fun H=>validDocs_ok s.docs (Nat.le_trans hs.d (by decide)) H T .none;have hd:=hs.d;have htl:=hs.t;have htl':s.tms.length≤9223372036854775807:=by omega
 have n2:¬(2000:Int)<s.docs.length:=by omega
 have b2:decide ((2000:Int)<s.docs.length)=false:=decide_eq_false n2;refine acall_enter 154 [] Tryz.ntmps60 Tryz.func60 rfl (fun _ _=>Tryz.call60 _ _) (by simp) (fun HO=>?_);apply aw_reg;intro K h;simp(disch:=omega);apply h;clear h K;refine aw_then fun K1 hK1=>?_;have HOa:HOk (H++[.cells (sgC s)]) T:=HO.snoc (by simp)
 cases hdv:asc s.docs 1 1000000000 with
 |false=>
  rw[hdv] at c1;refine aw_reg fun K hK=>?_;simp(disch:=omega) ;refine acall_is (c1 _) ?_;simp(disch:=omega) ;apply hK;clear hK K;apply aw_ift rfl;apply aw_reg;intro K h;simp(disch:=omega);apply h;clear h K;apply aw_ret;simp(disch:=omega) ;rw[validS_docs hdv]
 |true=>
 rw[hdv] at c1;refine aw_reg fun K hK=>?_;simp(disch:=omega) ;refine acall_is (c1 _) ?_;simp(disch:=omega)[b2,n2];apply hK;clear hK K;apply aw_iff rfl;apply aw_skip;simp(disch:=omega) ;apply hK1;clear hK1;apply aw_reg;intro K h;simp(disch:=omega);apply h;clear h K;have HOb:HOk (H++[.cells (sgC s),.map []]) T:=by
  have:=HOk.setMap (k:=H.length+1) (es:=[]) (HOa.snoc (vs:=[]) (by simp)) (by simp);simpa using this
 refine aw_then fun K1 hK1=>?_;apply aw_reg;intro K h;simp(disch:=omega);apply h;clear h K;apply aw_block;refine aw_loop (X:=Nat) (fun i=>⟨[(1,.ptr H.length 0),(3,.mref (H.length+1)),(29,.sl s.tms.length (tmAV s.tms) .none),(30,.int .i64 (s.tms.length:Nat)),(31,.int .i64 (i:Nat))],H++[.cells (sgC s),.map (plE (pls (s.tms.take i)))],T⟩)
  (fun i=>i≤s.tms.length∧(∀j,j<i→okTm s.tms j=true∧okL s.docs (s.tms.getD j t0).l=true)∧(pls (s.tms.take i)).Nodup∧(∀k∈pls (s.tms.take i),PlR k)∧HOk (H++[.cells (sgC s),.map (plE (pls (s.tms.take i)))]) T) (fun i=>s.tms.length-i) 0 ?_ ?_ ?_
 ·exact⟨Nat.zero_le _,fun j hj=>absurd hj (Nat.not_lt_zero _),.nil,by simp[pls],HOb⟩
 ·refine weak_to [] [] ?_ ?_ ?_ ?_ HOb ?_
  all_goals simp[pls,plE]
 ·rintro i ⟨g1,g2,g3,g4,g5⟩;have hft:=fun h=>flat_take s.tms plsT t0 i h;apply aw_reg;intro K h;simp(disch:=omega);apply h;clear h K;refine aw_then fun K2 hK2=>?_;refine aw_if rfl (fun hk=>?_) (fun hk=>?_)
  ·simp  at hk;have hcut:=tmAV_cut s.tms i hk;obtain⟨q1,q2,q3⟩:=hs.w _ (getD_mem s.tms i t0 hk);apply aw_skip;simp(disch:=omega) ;apply hK2;clear hK2;refine aw_then fun K3 hK3=>?_;apply aw_block;refine aw_reg fun K hK=>?_;simp(disch:=omega)[hcut,tmAV_len];apply hK;clear hK K;have HOc:HOk (H++[.cells (sgC s),.map (plE (pls (s.tms.take i))),.cells (tmC (s.tms.getD i t0))]) T:=by
    have:=HOk.snoc (vs:=tmC (s.tms.getD i t0)) g5 (by simp);simpa using this
   have bad1:okTm s.tms i=false→validS s=false:=fun h=>validS_tm hk h;have bad2:okL s.docs (s.tms.getD i t0).l=false→validS s=false:=fun h=>validS_l hk h;have eok:okTm s.tms i=((decide (1≤(s.tms.getD i t0).f∧(s.tms.getD i t0).f≤4)&&okW (s.tms.getD i t0).w)&&(decide (i=0)||kylt (s.tms.getD (i-1) t0).k (s.tms.getD i t0).k)):=rfl;have hcp:=fun h=>tmAV_cut s.tms (i-1) h;have hadd:okTm s.tms i=true→okL s.docs (s.tms.getD i t0).l=true→∀j,j<i+1→okTm s.tms j=true∧okL s.docs (s.tms.getD j t0).l=true:=fun h1 h2 j hj=>by
    rcases Nat.lt_or_ge j i with h|h
    ·exact g2 j h
    ·have:j=i:=by omega
     subst this;exact⟨h1,h2⟩
   have hpl:pls (s.tms.take (i+1))=pls (s.tms.take i)++plsT (s.tms.getD i t0):=hft hk;have hndp:¬(pls (s.tms.take i)++plsT (s.tms.getD i t0)).Nodup→validS s=false:=fun h=>validS_nd fun hn=>h (by
    rw[←hpl];refine List.Nodup.sublist ?_ hn;have:pls s.tms=pls (s.tms.take (i+1))++pls (s.tms.drop (i+1)):=by unfold pls;rw[←List.flatMap_append,List.take_append_drop]
    rw[this];exact List.sublist_append_left _ _)
   have eokL:okL s.docs (s.tms.getD i t0).l=((decide ((s.tms.getD i t0).l≠[])&&validL (s.tms.getD i t0).l)&&decide (∀p∈(s.tms.getD i t0).l,p.1∈s.docs)):=rfl;generalize s.tms.getD (i-1) t0=tp at *;generalize hseen:pls (s.tms.take i)=seen at *;generalize s.tms.getD i t0=t at *;clear hft;have cw:=fun H=>wordP_ok t.w q1 H T;have ck:=fun H=>byWord_ok tp.k t.k (.sl tp.l.length (psAV tp.l) .none) (.sl t.l.length (psAV t.l) .none) H T;have hge:=cmpK_ge tp.k t.k;generalize cmpK tp.k t.k=cq at *;generalize kylt tp.k t.k=bq at *;obtain⟨f,w,l⟩:=t;simp only at q1 q2 q3 hcut cw ck eok eokL bad2 hadd;refine aw_then fun K4 hK4=>?_;refine aw_draw [] [] [] drawMixed (by kernel_rfl) (by kernel_rfl) fun K hK=>?_;have key:∀e b,b=okTm s.tms i→envLe (H.length+3) T.length e [(1,.ptr H.length 0),(3,.mref (H.length+1)),(5,.ptr (H.length+2) 0),(29,.sl s.tms.length (tmAV s.tms) .none),(30,.int .i64 (s.tms.length:Nat)),(31,.int .i64 (i:Nat)),(64,.bool (!b))]→K ⟨e,H++[.cells (sgC s),.map (plE seen),.cells (tmC ⟨f,w,l⟩)],T⟩:=by
    intro e b hb he;refine hK _ (aw_weak ⟨[(1,.ptr H.length 0),(3,.mref (H.length+1)),(5,.ptr (H.length+2) 0),(29,.sl s.tms.length (tmAV s.tms) .none),(30,.int .i64 (s.tms.length:Nat)),(31,.int .i64 (i:Nat)),(64,.bool (!b))],H++[.cells (sgC s),.map (plE seen),.cells (tmC ⟨f,w,l⟩)],T⟩ (weak_to [] [] (by simp) (by simp) (by simp) (by simp) HOc (by simpa using he)) ?_)
    cases b with
    |false=>
     apply aw_ift rfl;apply aw_reg;intro K h;simp(disch:=omega);apply h;clear h K;apply aw_ret;simp(disch:=omega) ;rw[bad1 hb.symm]
    |true=>
    apply aw_iff rfl;apply aw_skip;simp(disch:=omega) ;apply hK4;clear hK4;have hf:1≤f∧f≤4:=by
     rw[←hb] at eok;have:=eok.symm;simp only[Bool.and_eq_true,decide_eq_true_eq] at this;exact this.1.1
    refine aw_then fun K5 hK5=>?_;refine aw_draw [] [] [] drawMixed (by kernel_rfl) (by kernel_rfl) fun K hK=>?_;have key2:∀e b,b=okL s.docs l→envLe (H.length+3) T.length e [(1,.ptr H.length 0),(3,.mref (H.length+1)),(5,.ptr (H.length+2) 0),(29,.sl s.tms.length (tmAV s.tms) .none),(30,.int .i64 (s.tms.length:Nat)),(31,.int .i64 (i:Nat)),(83,.bool (!b))]→K ⟨e,H++[.cells (sgC s),.map (plE seen),.cells (tmC ⟨f,w,l⟩)],T⟩:=by
     intro e b2 hb2 he2;refine hK _ (aw_weak ⟨[(1,.ptr H.length 0),(3,.mref (H.length+1)),(5,.ptr (H.length+2) 0),(29,.sl s.tms.length (tmAV s.tms) .none),(30,.int .i64 (s.tms.length:Nat)),(31,.int .i64 (i:Nat)),(83,.bool (!b2))],H++[.cells (sgC s),.map (plE seen),.cells (tmC ⟨f,w,l⟩)],T⟩ (weak_to [] [] (by simp) (by simp) (by simp) (by simp) HOc (by simpa using he2)) ?_)
     cases b2 with
     |false=>
      apply aw_ift rfl;apply aw_reg;intro K h;simp(disch:=omega);apply h;clear h K;apply aw_ret;simp(disch:=omega) ;rw[bad2 hb2.symm]
     |true=>
     have hvl:validL l=true:=by
      rw[←hb2] at eokL;have:=eokL.symm;simp only[Bool.and_eq_true,decide_eq_true_eq] at this;exact this.1.2
     apply aw_iff rfl;apply aw_skip;simp(disch:=omega) ;apply hK5;clear hK5;refine aw_weak ⟨[(1,.ptr H.length 0),(3,.mref (H.length+1)),(5,.ptr (H.length+2) 0),(29,.sl s.tms.length (tmAV s.tms) .none),(30,.int .i64 (s.tms.length:Nat)),(31,.int .i64 (i:Nat))],H++[.cells (sgC s),.map (plE seen),.cells (tmC ⟨f,w,l⟩)],T⟩ (weak_to [] [] (by simp) (by simp) (by simp) (by simp) HOc (by simp)) ?_;refine vpos_loop s ⟨f,w,l⟩ i q2 q3 hf hvl seen g4 g3 H T HOc _ (fun hn e rH rT he=>?_) fun hn hp hO e he=>?_
     ·show RetQ Tryz.prog Tryz.f60.results.toList (fun r H' T'=>(∃rH,H'=H++rH)∧(∃rT,T'=T++rT)∧(r=.bool (validS s)∨untag r=.bool (validS s))) .ret _;simp[he,hndp hn]
     ·rw[←hpl] at hn hp hO ⊢;have hO2:HOk (H++[.cells (sgC s),.map (plE (pls (s.tms.take (i+1))))]) T:=by
       have:=HOk.setMap (k:=H.length+1) (es:=plE (pls (s.tms.take (i+1)))) g5 (by simp);simpa using this
      refine hK3 _ (aw_weak ⟨[(1,.ptr H.length 0),(3,.mref (H.length+1)),(29,.sl s.tms.length (tmAV s.tms) .none),(30,.int .i64 (s.tms.length:Nat)),(31,.int .i64 (i:Nat))],H++[.cells (sgC s),.map (plE (pls (s.tms.take (i+1))))],T⟩ (weak_to [.cells (tmC ⟨f,w,l⟩)] [] (by simp) (by simp) (by simp) (by simp) hO2 (by simpa using he)) ?_);refine aw_reg0 fun K hK=>?_;simp(disch:=omega) ;apply hK;clear hK K;refine⟨i+1,⟨by show i+1≤_;omega,hadd hb.symm hb2.symm,hn,hp,hO2⟩,by show s.tms.length-(i+1)<s.tms.length-i;omega,?_⟩;refine weak_to [] [] ?_ ?_ ?_ ?_ hO2 ?_
      all_goals simp
    clear hK
    by_cases v3:l.length=0
    ·have e3:l=[]:=List.length_eq_zero_iff.1 v3;subst e3;simp(disch:=omega) ;refine key2 _ false (by rw[eokL];rfl) (by simp)
    have w3:((l.length:Int)==0)=false:=beq_eq_false_iff_ne.2 (by omega);have n3:l≠[]:=fun e=>v3 (by rw[e];rfl);rw[decide_eq_true n3,Bool.true_and] at eokL;have hm4:1000≤maxLen:=by decide
    have cv:=fun H=>valid_ok l (Nat.le_trans q2 (by omega)) (fun p hp=>Nat.le_trans (q3 p hp) hm4) H T .none;have cd:=fun H=>docsP_ok l (Nat.le_trans q2 (by omega)) (fun p hp=>Nat.le_trans (q3 p hp) hm4) H T .none
    cases hvl:validL l with
    |false=>
     rw[hvl] at cv eokL;simp(disch:=omega)[w3,n3];refine dcall_is (cv _) rfl ?_;simp(disch:=omega) ;refine key2 _ false (by rw[eokL];rfl) (by simp)
    |true=>
     rw[hvl] at cv eokL;have hdl:docsL l=docs l:=by unfold docsL;rw[if_pos hvl]
     rw[hdl] at cd;have cwi:=fun H=>within_ok (docs l) s.docs (by simp[docs];exact q2) hd H T;have hva:asc (docs l) 1 1000000000=true:=by unfold validL at hvl;rw[Bool.and_eq_true] at hvl;exact hvl.1
     have hwd:decide ((comb (fun _ q=>!q) (docs l) s.docs).length=0)=decide (∀p∈l,p.1∈s.docs):=by
      rw[Bool.eq_iff_iff,decide_eq_true_eq,decide_eq_true_eq,wo_nil hva hdv];simp only[docs,List.mem_map,forall_exists_index,and_imp,forall_apply_eq_imp_iff₂]
     rw[hwd] at cwi;rw[Bool.true_and] at eokL;generalize decide (∀p∈l,p.1∈s.docs)=bb at *;simp(disch:=omega)[w3,n3];refine dcall_is (cv _) rfl ?_;simp(disch:=omega) ;refine dcall_is (cd _) rfl ?_;simp(disch:=omega) ;refine dcall_is (cwi _) rfl ?_;simp(disch:=omega) ;refine key2 _ bb eokL.symm (by simp)
   clear hK
   by_cases v1:f<1
   ·have w1:decide (f<1)=true:=decide_eq_true v1;simp(disch:=omega)[w1,v1];refine key _ false (by rw[eok,decide_eq_false (by omega:¬(1≤f∧f≤4))];rfl) (by simp)
   have w1:decide (f<1)=false:=decide_eq_false v1
   by_cases v2:4<f
   ·have w2:decide (4<f)=true:=decide_eq_true v2;simp(disch:=omega)[w1,v1,w2,v2];refine key _ false (by rw[eok,decide_eq_false (by omega:¬(1≤f∧f≤4))];rfl) (by simp)
   have w2:decide (4<f)=false:=decide_eq_false v2;rw[decide_eq_true (by omega:1≤f∧f≤4),Bool.true_and] at eok
   cases hw:okW w with
   |false=>
    rw[hw] at cw eok;simp(disch:=omega)[w1,v1,w2,v2];refine dcall_is (cw _) rfl ?_;simp(disch:=omega) ;refine key _ false (by rw[eok];rfl) (by simp)
   |true=>
   rw[hw] at cw eok;rcases Nat.eq_zero_or_pos i with h5|h5
   ·subst h5;simp(disch:=omega)[w1,v1,w2,v2];refine dcall_is (cw _) rfl ?_;simp(disch:=omega) ;refine key _ true (by rw[eok];rfl) (by simp)
   ·have e6:((i:Int)-1)=((i-1:Nat):Int):=by omega
    have b5:decide ((0:Int)<(i:Int))=true:=decide_eq_true (by omega);have hcp':=hcp (by omega);rw[decide_eq_false (by omega:¬i=0),Bool.false_or,Bool.true_and] at eok
    cases bq with
    |false=>
     have n7:=hge.2 rfl;have b7:decide (0≤cq)=true:=decide_eq_true n7;simp(disch:=omega)[w1,v1,w2,v2];refine dcall_is (cw _) rfl ?_;simp(disch:=omega)[b5,h5,e6,hcp',tmAV_len];refine dcall_is (ck _) rfl ?_;simp(disch:=omega)[b7,n7];refine key _ false (by rw[eok]) (by simp)
    |true=>
     have n7:¬0≤cq:=fun e=>by have:=hge.1 e;cases this
     have b7:decide (0≤cq)=false:=decide_eq_false n7;simp(disch:=omega)[w1,v1,w2,v2];refine dcall_is (cw _) rfl ?_;simp(disch:=omega)[b5,h5,e6,hcp',tmAV_len];refine dcall_is (ck _) rfl ?_;simp(disch:=omega)[b7,n7];refine key _ true (by rw[eok]) (by simp)
  ·simp  at hk;apply aw_exit;simp(disch:=omega) ;apply hK1;clear hK1;have hi:i=s.tms.length:=by omega
   subst hi;rw[List.take_length] at g3 g4 g5 ⊢;refine aw_weak ⟨[(1,.ptr H.length 0),(3,.mref (H.length+1))],H++[.cells (sgC s),.map (plE (pls s.tms))],T⟩ (weak_to [] [] (by simp) (by simp) (by simp) (by simp) g5 (by simp)) ?_;exact vcol_tail s hs hdv (by omega) ⟨g2,g3⟩ (plE (pls s.tms)) H T g5
end Go.Proofs.YtoejlmpbebjemaaGreat
