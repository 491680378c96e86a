/- SegmentMerges: the given statement.
  Conditions: none. -/
import Derived.Test.YtneohapkboaplaaGreatGWk8
import Derived.Test.YtneohapkboaplaaGreatGBk
import Derived.Test.YtneohapkboaplaaGreatAmC
set_option linter.all false
set_option maxRecDepth 100000
namespace Go.Proofs.YtneohapkboaplaaGreat.segmentMerges
open Go Go.Am Go.ChangeShapes Go.WideShapes Go.ChangeAt Go.RowKit
theorem own:ownKnob Tryz.prog.godebug=none:=by kernel_rfl
set_option maxRecDepth 100000 in
theorem contract (H:Type)(enc:TypeId×Value→H)(W:World)(base:Nat)(args:Array Value)(ds gs:List (DataW H))(before:List MemPlace)
  (hval:∀(j:Nat) t v,Tryz.f9.params[j]?=some t→args[j]?=some v→Value.okWide Tryz.prog W .any base t v)
  (hW:DataW.Whole enc Tryz.prog Tryz.f9.params.toList Rows.segmentMergesSpec.vars false W args.toList ds gs before) (hk:Rows.uptoSmall H (ds++gs)=true) :
  Calls Tryz.prog 9 args W fun e W'=>∃v,e=.returned v∧Rows.segmentMergesSpec.post enc Tryz.prog Tryz.f9 false true false false W args v W':=by
 have hW':=hW;obtain⟨p,q,hA0,hV,rfl,hfz,hnd⟩:=hW;have hA:DataW.TrodAll enc Tryz.prog W 0 (fun _=>true) true Tryz.f9.params.toList args.toList ds p:=hA0;rw[Tryz.params9] at hA hval;obtain⟨v0,vs0,d0,ds0,p0,q0,hargs,rfl,rfl,h0,r0⟩:=trodAll_cons hA;obtain⟨v1,vs1,d1,ds1,p1,q1,rfl,rfl,rfl,h1,r1⟩:=trodAll_cons r0;obtain⟨v2,vs2,d2,ds2,p2,q2,rfl,rfl,rfl,h2,r2⟩:=trodAll_cons r1;obtain⟨rfl,rfl⟩:=trodVars_none hV;have hk':Rows.uptoBulkAll _≤1048576:=of_decide_eq_true hk;obtain⟨rfl,rfl,rfl⟩:=trodAll_nil r2;simp only[List.append_nil,Rows.uptoBulkAll] at hk';obtain rfl:args=#[v0,v1,v2]:=by cases args;simp_all
 obtain⟨a0,w0,g0⟩:=av_docs39B (hval 0 22 v0 rfl rfl) h0;obtain⟨a1,w1,g1⟩:=av_docs39B (hval 1 22 v1 rfl rfl) h1;obtain⟨a2,w2,g2⟩:=av_ask (hval 2 42 v2 rfl rfl) h2;refine((segmentMerges_ok a0 a1 (by omega) (fun d hd=>(List.mem_append.1 hd).elim (w0.1 d) (w1.1 d)) (by rw[List.flatMap_append,List.length_append];omega) (by rw[List.flatMap_append,List.length_append];omega) a2.1 a2.2.2.1 a2.2.2.2 a2.2.1 w2).law (w:=W) (args:=#[v0,v1,v2]) (by intro x hx;cases hx) rfl fun j hj hj'=>?_).mono fun e W' ⟨he,hg⟩=>?_
 ·match j,hj with
  |0,_=>exact g0
  |1,_=>exact g1
  |2,_=>exact g2
 ·exact⟨_,he,law_close hW' rfl rfl (by kernel_rfl) Tryz.underlying4 (by kernel_rfl) (by rw[Tryz.params9];intro t ht;simp at ht;rcases ht with rfl|rfl<;>exact⟨by kernel_rfl,of_decide_eq_true (by kernel_rfl)⟩) hg⟩
set_option maxRecDepth 100000 in
theorem lifted (os:Os)(started:os.Started)(H:Type)(enc:TypeId×Value→H)(F:Stop.Interp) :
  ReturnsInHanded {} Tryz.checked os 9 .any ((Rows.OpenSpec.upto Rows.segmentMergesSpec).pre6 enc Tryz.prog Tryz.f9 Rows.segmentMergesUptoRow.domain false) (((Rows.OpenSpec.upto Rows.segmentMergesSpec).at F).post enc Tryz.prog Tryz.f9 false true false false):=by
 refine returnsInHanded_of_cond (C:=Tryz.checked) (s:=Rows.OpenSpec.upto Rows.segmentMergesSpec) (k:=Rows.uptoSmall) rfl own started (by kernel_rfl) Tryz.func9
  (OpenSpec.witness (enc:=enc) (C:=Tryz.checked) (s:=Rows.OpenSpec.upto Rows.segmentMergesSpec) (k:=Rows.uptoSmall) rfl false ⟨#[],#[.slice none 0 0,.slice none 0 0,.agg #[.int .i64 0,.string ⟨#[]⟩,.int .i64 0,.int .i64 0]],[]⟩ 8 (by kernel_rfl) (by kernel_rfl) (by kernel_rfl)
   (x:=([.nil,.nil,.agg [.lit (.int .i64 0),.lit (.string []),.lit (.int .i64 0),.lit (.int .i64 0)]],[],[])) (by kernel_rfl) rfl (by kernel_rfl)) ?_
 intro W base args ds gs before hval hW _ hk _;exact contract H enc W base args ds gs before hval hW hk
theorem over:Rows.segmentMergesUptoRow.holds Tryz.pinned (Rows.OpenSpec.upto Rows.segmentMergesSpec):=
 OpenClaim.holds_of_cond 9 Tryz.f9 rfl rfl rfl rfl rfl rfl rfl ⟨rfl,rfl,rfl,rfl,rfl⟩ rfl rfl rfl rfl rfl (by kernel_rfl) Tryz.func9 (by kernel_rfl)
  (of_decide_eq_true (by kernel_rfl)) (by unfold Func.isWrapper;first|(rw[if_pos (by decide +kernel)];kernel_rfl)|(rw[if_neg (by decide +kernel)];exact⟨rfl,rfl⟩))
  (fun os started H enc _ F=>lifted os started H enc F)
end Go.Proofs.YtneohapkboaplaaGreat.segmentMerges
namespace Go.Proofs.YtneohapkboaplaaGreat
theorem segmentMerges_upto:Rows.SegmentMergesUptoSaid:=segmentMerges.over
end Go.Proofs.YtneohapkboaplaaGreat
