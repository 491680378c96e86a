/- IndexScratch: the given statement.
  Conditions: none. -/
import Derived.Test.YtoejlmpbebjemaaGreatXSc
import Derived.Test.YtoejlmpbebjemaaGreatXOArg
import Derived.Test.YtoejlmpbebjemaaGreatAmC
set_option linter.all false
set_option maxRecDepth 100000
namespace Go.Proofs.YtoejlmpbebjemaaGreat.ub
open Go.Proofs.Tryz(prog)
open Go Go.Am Go.ChangeShapes Go.WideShapes Go.ChangeAt Go.RowKit
theorem own:ownKnob prog.godebug=none:=zK
theorem contract (H:Type)(enc:TypeId×Value->H)(W:World)(base:Nat)(args:Array Value)(ds gs:List (DataW H))(before:List MemPlace)
  (lN:∀(j:Nat) t v,Tryz.f7.params[j]?=some t->args[j]?=some v->Value.okWide prog W .any base t v)
  (hW:DataW.Whole enc prog Tryz.f7.params.toList Rows.indexScratchSpec.vars false W args.toList ds gs before) :
  Calls prog 7 args W λe W'=>∃v,e=.returned v/\Rows.indexScratchSpec.post enc prog Tryz.f7 false true false false W args v W':=by
 have YK:=hW;obtain⟨p,q,hA0,hV,rfl,hfz,nU⟩:=hW;have hA:DataW.TrodAll enc prog W 0 (λ_=>true) true Tryz.f7.params.toList args.toList ds p:=hA0;rw[Tryz.params7] at hA lN;obtain⟨v0,vs0,d0,ds0,p0,q0,fi,rfl,rfl,h0,r0⟩:=trodAll_cons hA;obtain⟨v1,vs1,d1,ds1,p1,q1,rfl,rfl,rfl,h1,r1⟩:=trodAll_cons r0;obtain⟨rfl,rfl,rfl⟩:=trodAll_nil r1;obtain rfl:args=#[v0,v1]:=by cases args;simp_all
 obtain⟨a0,w0,g0⟩:=Xh (lN 0 22 v0 rfl rfl) h0;obtain⟨a1,w1,g1⟩:=Xi (lN 1 82 v1 rfl rfl) h1;refine((wu a0 w0.1 w0.2 a1.1 a1.2.2.1 a1.2.2.2 a1.2.1 w1).law (w:=W) (args:=#[v0,v1]) (by intro x hx;cases hx) rfl λj hj bU=>?_).mono λe W' ⟨he,hg⟩=>?_
 ·match j,hj with
  |0,_=>exact g0
  |1,_=>exact g1
 ·exact⟨_,he,Mb YK rfl rfl zK Tryz.underlying4 zK (by rw[Tryz.params7];intro t ht;simp at ht;rcases ht with rfl|rfl<;>exact⟨zK,ajy zK⟩) hg⟩
theorem lifted (os:Os)(started:os.Started)(H:Type)(enc:TypeId×Value->H) :
  ReturnsInHanded {} Tryz.checked os 7 .any (Rows.indexScratchSpec.pre6 enc prog Tryz.f7 Rows.indexScratchRow.domain false) (Rows.indexScratchSpec.post enc prog Tryz.f7 false true false false):=by
 refine returnsInHanded_of_change (C:=Tryz.checked) (s:=Rows.indexScratchSpec) own started zK Tryz.func7
  (ChangeSpec.witness6 (enc:=enc) (C:=Tryz.checked) (s:=Rows.indexScratchSpec) false ⟨#[],#[.slice none 0 0,.agg #[.int .i64 0,.string ⟨#[]⟩,.int .i64 0,.int .i64 0]],[]⟩ 8 zK zK zK zK zK) ?_
 intro W base args ds gs before lN hW _ _;exact contract H enc W base args ds gs before lN hW
theorem over:Rows.indexScratchRow.holds Tryz.pinned (OpenSpec.ofChange Rows.indexScratchSpec):=
 OpenClaim.holds_of_wide 7 Tryz.f7 rfl rfl rfl rfl rfl rfl rfl ⟨rfl,rfl,rfl,rfl,rfl⟩ rfl rfl rfl rfl rfl zK Tryz.func7 zK
  (ajy zK) (by unfold Func.isWrapper;first|(rw[ahF (by decide +kernel)];kernel_rfl)|(rw[ahC (by decide +kernel)];exact⟨rfl,rfl⟩))
  (λos started H enc _=>lifted os started H enc)
end Go.Proofs.YtoejlmpbebjemaaGreat.ub
namespace Go.Proofs.YtoejlmpbebjemaaGreat
theorem indexScratch_said:Rows.IndexScratchSaid:=ub.over
end Go.Proofs.YtoejlmpbebjemaaGreat
