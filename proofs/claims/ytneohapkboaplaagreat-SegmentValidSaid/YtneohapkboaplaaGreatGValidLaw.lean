/- SegmentValid: the given statement.
  Conditions: none. -/
import Derived.Test.YtneohapkboaplaaGreatGWk5
import Derived.Test.YtneohapkboaplaaGreatAmC
import Derived.Test.YtneohapkboaplaaGreatGArg
set_option linter.all false
set_option maxRecDepth 100000
namespace Go.Proofs.YtneohapkboaplaaGreat.segmentValid
open Go Go.Am Go.ChangeShapes Go.WideShapes Go.ChangeAt Go.RowKit
theorem own:ownKnob Tryz.prog.godebug=none:=by kernel_rfl
set_option maxRecDepth 100000 in
theorem contract (H:Type)(enc:TypeId×Value→H)(W:World)(base:Nat)(args:Array Value)(ds gs:List (DataW H))(before:List MemPlace)
  (hval:∀(j:Nat) t v,Tryz.f6.params[j]?=some t→args[j]?=some v→Value.okWide Tryz.prog W .any base t v)
  (hW:DataW.Whole enc Tryz.prog Tryz.f6.params.toList Rows.segmentValidSpec.vars false W args.toList ds gs before) :
  Calls Tryz.prog 6 args W fun e W'=>∃v,e=.returned v∧Rows.segmentValidSpec.post enc Tryz.prog Tryz.f6 false true false false W args v W':=by
 have hW':=hW
 obtain⟨p,q,hA0,hV,rfl,hfz,hnd⟩:=hW
 have hA:DataW.TrodAll enc Tryz.prog W 0 (fun _=>true) true Tryz.f6.params.toList args.toList ds p:=hA0
 rw[Tryz.params6] at hA hval
 obtain⟨v0,vs0,d0,ds0,p0,q0,hargs,rfl,rfl,h0,r0⟩:=trodAll_cons hA
 obtain⟨v1,vs1,d1,ds1,p1,q1,rfl,rfl,rfl,h1,r1⟩:=trodAll_cons r0
 obtain⟨rfl,rfl,rfl⟩:=trodAll_nil r1
 obtain rfl:args=#[v0,v1]:=by cases args;simp_all
 obtain⟨a0,w0,g0⟩:=av_sg (hval 0 36 v0 rfl rfl) h0
 obtain⟨a1,w1,g1⟩:=av_sg (hval 1 36 v1 rfl rfl) h1
 refine((segmentValid_ok a0 a1 w0 w1).law (w:=W) (args:=#[v0,v1]) (by intro x hx;cases hx) rfl fun j hj hj'=>?_).mono fun e W' ⟨he,hg⟩=>?_
 ·match j,hj with
  |0,_=>exact g0
  |1,_=>exact g1
 ·exact⟨_,he,law_close hW' rfl rfl (by kernel_rfl) Tryz.underlying4 (by kernel_rfl) (by rw[Tryz.params6];intro t ht;simp at ht;subst ht;exact⟨by kernel_rfl,of_decide_eq_true (by kernel_rfl)⟩) hg⟩
set_option maxRecDepth 100000 in
theorem lifted (os:Os)(started:os.Started)(H:Type)(enc:TypeId×Value→H) :
  ReturnsInHanded {} Tryz.checked os 6 .any (Rows.segmentValidSpec.pre6 enc Tryz.prog Tryz.f6 Rows.segmentValidRow.domain false) (Rows.segmentValidSpec.post enc Tryz.prog Tryz.f6 false true false false):=by
 refine returnsInHanded_of_change (C:=Tryz.checked) (s:=Rows.segmentValidSpec) own started (by kernel_rfl) Tryz.func6
  (ChangeSpec.witness6 (enc:=enc) (C:=Tryz.checked) (s:=Rows.segmentValidSpec) false ⟨#[],#[.agg #[.slice none 0 0,.slice none 0 0,.slice none 0 0],.agg #[.slice none 0 0,.slice none 0 0,.slice none 0 0]],[]⟩ 8 (by kernel_rfl) (by kernel_rfl) (by kernel_rfl) (by kernel_rfl) (by kernel_rfl)) ?_
 intro W base args ds gs before hval hW _ _
 exact contract H enc W base args ds gs before hval hW
theorem over:Rows.segmentValidRow.holds Tryz.pinned (OpenSpec.ofChange Rows.segmentValidSpec):=
 OpenClaim.holds_of_wide 6 Tryz.f6 rfl rfl rfl rfl rfl rfl rfl ⟨rfl,rfl,rfl,rfl,rfl⟩ rfl rfl rfl rfl rfl (by kernel_rfl) Tryz.func6 (by kernel_rfl)
  (of_decide_eq_true (by kernel_rfl)) (by unfold Func.isWrapper;first|(rw[if_pos (by decide +kernel)];kernel_rfl)|(rw[if_neg (by decide +kernel)];exact⟨rfl,rfl⟩))
  (fun os started H enc _=>lifted os started H enc)
end Go.Proofs.YtneohapkboaplaaGreat.segmentValid
namespace Go.Proofs.YtneohapkboaplaaGreat
theorem segmentValid_said:Rows.SegmentValidSaid:=segmentValid.over
end Go.Proofs.YtneohapkboaplaaGreat
