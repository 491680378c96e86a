/- SegmentMerge: the given statement.
  Conditions: none. -/
import Derived.Test.YtneohapkboaplaaGreatGWk7
import Derived.Test.YtneohapkboaplaaGreatAmC
import Derived.Test.YtneohapkboaplaaGreatGArg
set_option linter.all false
set_option maxRecDepth 100000
namespace Go.Proofs.YtneohapkboaplaaGreat.rp
open Go Go.Am Go.ChangeShapes Go.WideShapes Go.ChangeAt Go.RowKit
theorem own:ownKnob Tryz.prog.godebug=none:=by kernel_rfl
theorem contract (H:Type)(enc:TypeId×Value→H)(W:World)(base:Nat)(args:Array Value)(ds gs:List (DataW H))(before:List MemPlace)
  (jh:∀(j:Nat) t v,Tryz.f8.params[j]?=some t→args[j]?=some v→Value.okWide Tryz.prog W .any base t v)
  (hW:DataW.Whole enc Tryz.prog Tryz.f8.params.toList Rows.segmentMergeSpec.vars false W args.toList ds gs before) :
  Calls Tryz.prog 8 args W fun e W'=>∃v,e=.returned v∧Rows.segmentMergeSpec.post enc Tryz.prog Tryz.f8 false true false false W args v W':=by
 have SO:=hW;obtain⟨p,q,ZL,hV,rfl,Zz,lr⟩:=hW;have hA:DataW.TrodAll enc Tryz.prog W 0 (fun _=>true) true Tryz.f8.params.toList args.toList ds p:=ZL;rw[Tryz.params8] at hA jh;obtain⟨v0,vs0,d0,ds0,p0,q0,eu,rfl,rfl,h0,r0⟩:=trodAll_cons hA;obtain⟨v1,vs1,d1,ds1,p1,q1,rfl,rfl,rfl,h1,r1⟩:=trodAll_cons r0;obtain⟨v2,Rb,d2,ds2,p2,q2,rfl,rfl,rfl,h2,r2⟩:=trodAll_cons r1;obtain⟨rfl,rfl,rfl⟩:=trodAll_nil r2;obtain rfl:args=#[v0,v1,v2]:=by cases args;simp_all
 obtain⟨a0,w0,g0⟩:=Pa (jh 0 36 v0 rfl rfl) h0;obtain⟨a1,w1,g1⟩:=Pa (jh 1 36 v1 rfl rfl) h1;obtain⟨a2,w2,g2⟩:=Oi Tryz.underlying25 Tryz.underlying3 (of_decide_eq_true (by kernel_rfl)) (jh 2 25 v2 rfl rfl) h2;refine((tF a0 a1 w0 w1 a2 w2.2).law (w:=W) (args:=#[v0,v1,v2]) (by intro x hx;cases hx) rfl fun j hj bR=>?_).mono fun e W' ⟨he,hg⟩=>?_
 ·match j,hj with
  |0,_=>exact g0
  |1,_=>exact g1
  |2,_=>exact g2
 ·exact⟨_,he,HF SO rfl rfl (by kernel_rfl) Tryz.underlying4 (by kernel_rfl) (by rw[Tryz.params8];intro t ht;simp at ht;rcases ht with rfl|rfl<;>exact⟨by kernel_rfl,of_decide_eq_true (by kernel_rfl)⟩) hg⟩
theorem lifted (os:Os)(started:os.Started)(H:Type)(enc:TypeId×Value→H) :
  ReturnsInHanded {} Tryz.checked os 8 .any (Rows.segmentMergeSpec.pre6 enc Tryz.prog Tryz.f8 Rows.segmentMergeRow.domain false) (Rows.segmentMergeSpec.post enc Tryz.prog Tryz.f8 false true false false):=by
 refine returnsInHanded_of_change (C:=Tryz.checked) (s:=Rows.segmentMergeSpec) own started (by kernel_rfl) Tryz.func8
  (ChangeSpec.witness6 (enc:=enc) (C:=Tryz.checked) (s:=Rows.segmentMergeSpec) false ⟨#[],#[.agg #[.slice none 0 0,.slice none 0 0,.slice none 0 0],.agg #[.slice none 0 0,.slice none 0 0,.slice none 0 0],.slice none 0 0],[]⟩ 8 (by kernel_rfl) (by kernel_rfl) (by kernel_rfl) (by kernel_rfl) (by kernel_rfl)) ?_
 intro W base args ds gs before jh hW _ _;exact contract H enc W base args ds gs before jh hW
theorem over:Rows.segmentMergeRow.holds Tryz.pinned (OpenSpec.ofChange Rows.segmentMergeSpec):=
 OpenClaim.holds_of_wide 8 Tryz.f8 rfl rfl rfl rfl rfl rfl rfl ⟨rfl,rfl,rfl,rfl,rfl⟩ rfl rfl rfl rfl rfl (by kernel_rfl) Tryz.func8 (by kernel_rfl)
  (of_decide_eq_true (by kernel_rfl)) (by unfold Func.isWrapper;first|(rw[if_pos (by decide +kernel)];kernel_rfl)|(rw[if_neg (by decide +kernel)];exact⟨rfl,rfl⟩))
  (fun os started H enc _=>lifted os started H enc)
end Go.Proofs.YtneohapkboaplaaGreat.rp
namespace Go.Proofs.YtneohapkboaplaaGreat
theorem segmentMerge_said:Rows.SegmentMergeSaid:=rp.over
end Go.Proofs.YtneohapkboaplaaGreat
