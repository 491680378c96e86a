/- IndexSize: the given statement.
  Conditions: none. -/
import Derived.Test.YtoejlmpbebjemaaGreatXZc
import Derived.Test.YtoejlmpbebjemaaGreatAmC
set_option linter.all false
set_option maxRecDepth 100000
namespace Go.Proofs.YtoejlmpbebjemaaGreat.indexSize
open Go Go.Am Go.ChangeShapes Go.WideShapes Go.ChangeAt Go.RowKit
theorem own:ownKnob Tryz.prog.godebug=none:=by kernel_rfl
theorem contract (H:Type)(enc:TypeId×Value→H)(W:World)(base:Nat)(args:Array Value)(ds gs:List (DataW H))(before:List MemPlace)
  (hval:∀(j:Nat) t v,Tryz.f5.params[j]?=some t→args[j]?=some v→Value.okWide Tryz.prog W .any base t v)
  (hW:DataW.Whole enc Tryz.prog Tryz.f5.params.toList Rows.indexSizeSpec.vars false W args.toList ds gs before) :
  Calls Tryz.prog 5 args W fun e W'=>∃v,e=.returned v∧Rows.indexSizeSpec.post enc Tryz.prog Tryz.f5 false true false false W args v W':=by
 have hW':=hW;obtain⟨p,q,hA0,hV,rfl,hfz,hnd⟩:=hW;have hA:DataW.TrodAll enc Tryz.prog W 0 (fun _=>true) true Tryz.f5.params.toList args.toList ds p:=hA0;rw[Tryz.params5] at hA hval;obtain⟨v0,vs0,d0,ds0,p0,q0,hargs,rfl,rfl,h0,r0⟩:=trodAll_cons hA;obtain⟨rfl,rfl,rfl⟩:=trodAll_nil r0;obtain rfl:args=#[v0]:=by cases args;simp_all
 obtain⟨a0,w0,g0⟩:=av_i8s Tryz.underlying60 Tryz.underlying62 (of_decide_eq_true (by kernel_rfl)) (hval 0 60 v0 rfl rfl) h0;refine((indexSize_ok a0 w0.1 w0.2).law (w:=W) (args:=#[v0]) (by intro x hx;cases hx) rfl fun j hj hj'=>?_).mono fun e W' ⟨he,hg⟩=>?_
 ·match j,hj with
  |0,_=>exact g0
 ·exact⟨_,he,law_close hW' rfl rfl (by kernel_rfl) Tryz.underlying4 (by kernel_rfl) (by rw[Tryz.params5];intro t ht;simp at ht;subst ht;exact⟨by kernel_rfl,of_decide_eq_true (by kernel_rfl)⟩) hg⟩
theorem lifted (os:Os)(started:os.Started)(H:Type)(enc:TypeId×Value→H) :
  ReturnsInHanded {} Tryz.checked os 5 .any (Rows.indexSizeSpec.pre6 enc Tryz.prog Tryz.f5 Rows.indexSizeRow.domain false) (Rows.indexSizeSpec.post enc Tryz.prog Tryz.f5 false true false false):=by
 refine returnsInHanded_of_change (C:=Tryz.checked) (s:=Rows.indexSizeSpec) own started (by kernel_rfl) Tryz.func5
  (ChangeSpec.witness6 (enc:=enc) (C:=Tryz.checked) (s:=Rows.indexSizeSpec) false ⟨#[],#[.slice none 0 0],[]⟩ 8 (by kernel_rfl) (by kernel_rfl) (by kernel_rfl) (by kernel_rfl) (by kernel_rfl)) ?_
 intro W base args ds gs before hval hW _ _;exact contract H enc W base args ds gs before hval hW
theorem over:Rows.indexSizeRow.holds Tryz.pinned (OpenSpec.ofChange Rows.indexSizeSpec):=
 OpenClaim.holds_of_wide 5 Tryz.f5 rfl rfl rfl rfl rfl rfl rfl ⟨rfl,rfl,rfl,rfl,rfl⟩ rfl rfl rfl rfl rfl (by kernel_rfl) Tryz.func5 (by kernel_rfl)
  (of_decide_eq_true (by kernel_rfl)) (by unfold Func.isWrapper;first|(rw[if_pos (by decide +kernel)];kernel_rfl)|(rw[if_neg (by decide +kernel)];exact⟨rfl,rfl⟩))
  (fun os started H enc _=>lifted os started H enc)
end Go.Proofs.YtoejlmpbebjemaaGreat.indexSize
namespace Go.Proofs.YtoejlmpbebjemaaGreat
theorem indexSize_said:Rows.IndexSizeSaid:=indexSize.over
end Go.Proofs.YtoejlmpbebjemaaGreat
