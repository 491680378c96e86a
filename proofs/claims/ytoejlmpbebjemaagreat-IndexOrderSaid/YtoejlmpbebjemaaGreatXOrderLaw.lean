/- IndexOrder: the given statement.
  Conditions: none. -/
import Derived.Test.YtoejlmpbebjemaaGreatXOw
import Derived.Test.YtoejlmpbebjemaaGreatGAd
import Derived.Test.YtoejlmpbebjemaaGreatAmC
set_option linter.all false
set_option maxRecDepth 100000
namespace Go.Proofs.YtoejlmpbebjemaaGreat.x8
open Go.Proofs.Tryz(prog)
open Go Go.Am Go.ChangeShapes Go.WideShapes Go.ChangeAt Go.RowKit
theorem own:ownKnob prog.godebug=none:=by kernel_rfl
theorem contract (H:Type)(enc:TypeId×Value->H)(W:World)(base:Nat)(args:Array Value)(ds gs:List (DataW H))(before:List MemPlace)
  (kS:∀(j:Nat) t v,Tryz.f8.params[j]?=some t->args[j]?=some v->Value.okWide prog W .any base t v)
  (hW:DataW.Whole enc prog Tryz.f8.params.toList Rows.indexOrderSpec.vars false W args.toList ds gs before) :
  Calls prog 8 args W λe W'=>∃v,e=.returned v/\Rows.indexOrderSpec.post enc prog Tryz.f8 false true false false W args v W':=by
 have XX:=hW;obtain⟨p,q,hA0,hV,rfl,hfz,mM⟩:=hW;have hA:DataW.TrodAll enc prog W 0 (λ_=>true) true Tryz.f8.params.toList args.toList ds p:=hA0;rw[Tryz.params8] at hA kS;obtain⟨v0,vs0,d0,ds0,p0,q0,fe,rfl,rfl,h0,r0⟩:=trodAll_cons hA;obtain⟨v1,vs1,d1,ds1,p1,q1,rfl,rfl,rfl,h1,r1⟩:=trodAll_cons r0;obtain⟨rfl,rfl,rfl⟩:=trodAll_nil r1;obtain rfl:args=#[v0,v1]:=by cases args;simp_all
 obtain⟨a0,w0,g0⟩:=Mi (kS 0 74 v0 rfl rfl) h0;obtain⟨a1,w1,g1⟩:=Ws (kS 1 82 v1 rfl rfl) h1;refine((yV a0 w0.1 w0.2 a1.1 a1.2.2.1 a1.2.2.2 a1.2.1 w1).law (w:=W) (args:=#[v0,v1]) (by intro x hx;cases hx) rfl λj hj bQ=>?_).mono λe W' ⟨he,hg⟩=>?_
 ·match j,hj with
  |0,_=>exact g0
  |1,_=>exact g1
 ·exact⟨_,he,Lu XX rfl rfl (by kernel_rfl) Tryz.underlying4 (by kernel_rfl) (by rw[Tryz.params8];intro t ht;simp at ht;rcases ht with rfl|rfl<;>exact⟨by kernel_rfl,aiF (by kernel_rfl)⟩) hg⟩
theorem lifted (os:Os)(started:os.Started)(H:Type)(enc:TypeId×Value->H) :
  ReturnsInHanded {} Tryz.checked os 8 .any (Rows.indexOrderSpec.pre6 enc prog Tryz.f8 Rows.indexOrderRow.domain false) (Rows.indexOrderSpec.post enc prog Tryz.f8 false true false false):=by
 refine returnsInHanded_of_change (C:=Tryz.checked) (s:=Rows.indexOrderSpec) own started (by kernel_rfl) Tryz.func8
  (ChangeSpec.witness6 (enc:=enc) (C:=Tryz.checked) (s:=Rows.indexOrderSpec) false ⟨#[],#[.slice none 0 0,.agg #[.int .i64 0,.string ⟨#[]⟩,.int .i64 0,.int .i64 0]],[]⟩ 8 (by kernel_rfl) (by kernel_rfl) (by kernel_rfl) (by kernel_rfl) (by kernel_rfl)) ?_
 intro W base args ds gs before kS hW _ _;exact contract H enc W base args ds gs before kS hW
theorem over:Rows.indexOrderRow.holds Tryz.pinned (OpenSpec.ofChange Rows.indexOrderSpec):=
 OpenClaim.holds_of_wide 8 Tryz.f8 rfl rfl rfl rfl rfl rfl rfl ⟨rfl,rfl,rfl,rfl,rfl⟩ rfl rfl rfl rfl rfl (by kernel_rfl) Tryz.func8 (by kernel_rfl)
  (aiF (by kernel_rfl)) (by unfold Func.isWrapper;first|(rw[agN (by decide +kernel)];kernel_rfl)|(rw[agL (by decide +kernel)];exact⟨rfl,rfl⟩))
  (λos started H enc _=>lifted os started H enc)
end Go.Proofs.YtoejlmpbebjemaaGreat.x8
namespace Go.Proofs.YtoejlmpbebjemaaGreat
theorem indexOrder_said:Rows.IndexOrderSaid:=x8.over
end Go.Proofs.YtoejlmpbebjemaaGreat
