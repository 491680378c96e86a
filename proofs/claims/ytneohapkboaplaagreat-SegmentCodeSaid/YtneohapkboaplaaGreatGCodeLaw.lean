/- SegmentCode: the given statement.
  Conditions: none. -/
import Derived.Test.YtneohapkboaplaaGreatGWk9
import Derived.Test.YtneohapkboaplaaGreatAmC
import Derived.Test.YtneohapkboaplaaGreatGArg
set_option linter.all false
set_option maxRecDepth 100000
namespace Go.Proofs.YtneohapkboaplaaGreat.su
open Go Go.Am Go.ChangeShapes Go.WideShapes Go.ChangeAt Go.RowKit
theorem own:ownKnob Tryz.prog.godebug=none:=by kernel_rfl
theorem contract (H:Type)(enc:TypeId×Value→H)(W:World)(base:Nat)(args:Array Value)(ds gs:List (DataW H))(before:List MemPlace)
  (kY:∀(j:Nat) t v,Tryz.f10.params[j]?=some t→args[j]?=some v→Value.okWide Tryz.prog W .any base t v)
  (hW:DataW.Whole enc Tryz.prog Tryz.f10.params.toList Rows.segmentCodeSpec.vars false W args.toList ds gs before) :
  Calls Tryz.prog 10 args W fun e W'=>∃v,e=.returned v∧Rows.segmentCodeSpec.post enc Tryz.prog Tryz.f10 false true false false W args v W':=by
 have Sr:=hW;obtain⟨p,q,hA0,hV,rfl,ZY,BK⟩:=hW;have hA:DataW.TrodAll enc Tryz.prog W 0 (fun _=>true) true Tryz.f10.params.toList args.toList ds p:=hA0;rw[Tryz.params10] at hA kY;obtain⟨v0,vs0,d0,ds0,p0,q0,fg,rfl,rfl,h0,r0⟩:=trodAll_cons hA;obtain⟨v1,vs1,d1,ds1,p1,q1,rfl,rfl,rfl,h1,r1⟩:=trodAll_cons r0;obtain⟨rfl,rfl,rfl⟩:=trodAll_nil r1;obtain rfl:args=#[v0,v1]:=by cases args;simp_all
 obtain⟨a0,w0,g0⟩:=Ue (kY 0 36 v0 rfl rfl) h0;obtain⟨a1,w1,g1⟩:=La Tryz.underlying89 Tryz.underlying5 (of_decide_eq_true (by kernel_rfl)) (kY 1 89 v1 rfl rfl) h1;refine((vo a0 w0 a1 w1).law (w:=W) (args:=#[v0,v1]) (by intro x hx;cases hx) rfl fun j hj bK=>?_).mono fun e W' ⟨he,hg⟩=>?_
 ·match j,hj with
  |0,_=>exact g0
  |1,_=>exact g1
 ·exact⟨_,he,GW Sr rfl rfl (by kernel_rfl) Tryz.underlying4 (by kernel_rfl) (by rw[Tryz.params10];intro t ht;simp at ht;rcases ht with rfl|rfl<;>exact⟨by kernel_rfl,of_decide_eq_true (by kernel_rfl)⟩) hg⟩
theorem lifted (os:Os)(started:os.Started)(H:Type)(enc:TypeId×Value→H) :
  ReturnsInHanded {} Tryz.checked os 10 .any (Rows.segmentCodeSpec.pre6 enc Tryz.prog Tryz.f10 Rows.segmentCodeRow.domain false) (Rows.segmentCodeSpec.post enc Tryz.prog Tryz.f10 false true false false):=by
 refine returnsInHanded_of_change (C:=Tryz.checked) (s:=Rows.segmentCodeSpec) own started (by kernel_rfl) Tryz.func10
  (ChangeSpec.witness6 (enc:=enc) (C:=Tryz.checked) (s:=Rows.segmentCodeSpec) false ⟨#[],#[.agg #[.slice none 0 0,.slice none 0 0,.slice none 0 0],.slice none 0 0],[]⟩ 8 (by kernel_rfl) (by kernel_rfl) (by kernel_rfl) (by kernel_rfl) (by kernel_rfl)) ?_
 intro W base args ds gs before kY hW _ _;exact contract H enc W base args ds gs before kY hW
theorem over:Rows.segmentCodeRow.holds Tryz.pinned (OpenSpec.ofChange Rows.segmentCodeSpec):=
 OpenClaim.holds_of_wide 10 Tryz.f10 rfl rfl rfl rfl rfl rfl rfl ⟨rfl,rfl,rfl,rfl,rfl⟩ rfl rfl rfl rfl rfl (by kernel_rfl) Tryz.func10 (by kernel_rfl)
  (of_decide_eq_true (by kernel_rfl)) (by unfold Func.isWrapper;first|(rw[if_pos (by decide +kernel)];kernel_rfl)|(rw[if_neg (by decide +kernel)];exact⟨rfl,rfl⟩))
  (fun os started H enc _=>lifted os started H enc)
end Go.Proofs.YtneohapkboaplaaGreat.su
namespace Go.Proofs.YtneohapkboaplaaGreat
theorem segmentCode_said:Rows.SegmentCodeSaid:=su.over
end Go.Proofs.YtneohapkboaplaaGreat
