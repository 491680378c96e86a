/- slices.SortFunc on boxes of terms, items and words, by the library's contract. Places of a heap (or of the tokens) that are known, each once.
  Conditions: lengths below 400 or 1000, as each theorem says. -/
import Derived.Test.YtoejlmpbebjemaaGreatAmD
import Derived.Test.YtoejlmpbebjemaaGreatGC
import Derived.Test.YtoejlmpbebjemaaGreatGA
set_option linter.all false
set_option maxRecDepth 100000
namespace Seg
open Sug Go.Proofs.YtoejlmpbebjemaaGreat
theorem kylt_irrefl (a:Ky):kylt a a=false:=by simp[kylt,slt_irrefl]
theorem kylt_trans {a b c:Ky}(h1:kylt a b=true)(h2:kylt b c=true):kylt a c=true:=by
 simp only[kylt,Bool.or_eq_true,Bool.and_eq_true,decide_eq_true_eq] at *;rcases h1 with h1|⟨h1,h3⟩
 ·rcases h2 with h2|⟨h2,_⟩<;>left<;>omega
 ·rcases h2 with h2|⟨h2,h4⟩
  ·left;omega
  ·exact .inr ⟨by omega,slt_trans _ _ _ h3 h4⟩
theorem kylt_total {a b:Ky}(h1:kylt a b=false)(h2:kylt b a=false):a=b:=by
 obtain⟨x,s⟩:=a;obtain⟨y,t⟩:=b;simp only[kylt,Bool.or_eq_false_iff,Bool.and_eq_false_iff,decide_eq_false_iff_not] at h1 h2;have e:x=y:=by omega
 subst e;have g1:slt s t=false:=by rcases h1.2 with h|h;exact absurd rfl h;exact h
 have g2:slt t s=false:=by rcases h2.2 with h|h;exact absurd rfl h;exact h
 rw[slt_total _ _ g1 g2]
theorem kylt_asymm {a b:Ky}(h:kylt a b=true):kylt b a=false:=by
 cases h2:kylt b a with
 |false=>rfl
 |true=>have:=kylt_trans h h2;rw[kylt_irrefl] at this;cases this
theorem kylt_ntrans {x y z:Ky}(h1:kylt x y=false)(h2:kylt y z=false):kylt x z=false:=by
 cases h3:kylt x z with
 |false=>rfl
 |true=>
  cases h4:kylt y x with
  |true=>rw[kylt_trans h4 h3] at h2;cases h2
  |false=>rw[kylt_total h1 h4] at h3;rw[h3] at h2;cases h2
theorem nmlt_irrefl (a:Nm):nmlt a a=false:=by simp[nmlt]
theorem nmlt_iff (a b:Nm):nmlt a b=true↔a.1<b.1∨(a.1=b.1∧a.2<b.2):=by
 simp[nmlt]
theorem nmlt_niff (a b:Nm):nmlt a b=false↔¬(a.1<b.1∨(a.1=b.1∧a.2<b.2)):=by
 rw[←nmlt_iff];simp
theorem nmlt_trans {a b c:Nm}(h1:nmlt a b=true)(h2:nmlt b c=true):nmlt a c=true:=by
 rw[nmlt_iff] at *;omega
theorem nmlt_ntrans {a b c:Nm}(h1:nmlt a b=false)(h2:nmlt b c=false):nmlt a c=false:=by
 rw[nmlt_niff] at *;omega
theorem nmlt_total {a b:Nm}(h1:nmlt a b=false)(h2:nmlt b a=false):a=b:=by
 rw[nmlt_niff] at *;exact Prod.ext (by omega) (by omega)
def sortT {β:Type}(l:List (Ky×β)):List (Ky×β):=l.mergeSort fun x y=>!(kylt y.1 x.1)
def sortN (l:List Nm):List Nm:=l.mergeSort fun x y=>!(nmlt y x)
def sortW (l:List Wd):List Wd:=l.mergeSort fun x y=>!(decide (y.2<x.2))
end Seg
namespace Go.Proofs.YtoejlmpbebjemaaGreat
open Go Go.Am Go.Shelf Go.Sort Sug Seg
theorem bears {P : Program} {f : FuncId} {F B : Func} (hf : P.funcs[f]? = some F) (hn : (F.name == "runtime.NumGoroutine") = false) (h : F = { B with name := F.name }) : Bears P f B := ⟨F.name, hn, hf.trans (congrArg some h)⟩
def renT:Ren:=⟨fun|6=>127|14=>176|15=>159|20=>201|21=>202|22=>203|23=>204|24=>205|25=>206|26=>207|27=>208|28=>197|29=>198|46=>239|47=>227|48=>228|49=>240|50=>241|57=>253|x=>x,
 fun|22=>64|24=>171|25=>177|39=>225|45=>249|46=>250|50=>180|53=>256|55=>258|66=>275|70=>236|76=>290|77=>291|x=>x,fun x=>x⟩
theorem laysT : SlLaysF0.n6 Tryz.prog renT :=
  { mixed := by kernel_rfl
    f6 := bears Tryz.func127 (by kernel_rfl) (by kernel_rfl)
    f14 := bears Tryz.func176 (by kernel_rfl) (by kernel_rfl)
    f15 := Tryz.func159.trans (congrArg some (by kernel_rfl))
    f20 := bears Tryz.func201 (by kernel_rfl) (by kernel_rfl)
    f21 := bears Tryz.func202 (by kernel_rfl) (by kernel_rfl)
    f22 := bears Tryz.func203 (by kernel_rfl) (by kernel_rfl)
    f23 := bears Tryz.func204 (by kernel_rfl) (by kernel_rfl)
    f24 := bears Tryz.func205 (by kernel_rfl) (by kernel_rfl)
    f25 := bears Tryz.func206 (by kernel_rfl) (by kernel_rfl)
    f26 := bears Tryz.func207 (by kernel_rfl) (by kernel_rfl)
    f27 := bears Tryz.func208 (by kernel_rfl) (by kernel_rfl)
    f28 := Tryz.func197.trans (congrArg some (by kernel_rfl))
    f29 := Tryz.func198.trans (congrArg some (by kernel_rfl))
    f46 := bears Tryz.func239 (by kernel_rfl) (by kernel_rfl)
    f47 := Tryz.func227.trans (congrArg some (by kernel_rfl))
    f48 := Tryz.func228.trans (congrArg some (by kernel_rfl))
    f49 := bears Tryz.func240 (by kernel_rfl) (by kernel_rfl)
    f50 := bears Tryz.func241 (by kernel_rfl) (by kernel_rfl)
    f57 := bears Tryz.func253 (by kernel_rfl) (by kernel_rfl)
    t0 := Tryz.underlying0, a0 := Tryz.isAgg0, z0 := Tryz.sizeOf0, v0 := Tryz.zeroValue0
    t3 := Tryz.underlying3, a3 := Tryz.isAgg3, z3 := Tryz.sizeOf3, v3 := Tryz.zeroValue3
    t4 := Tryz.underlying4, a4 := Tryz.isAgg4, z4 := Tryz.sizeOf4, v4 := Tryz.zeroValue4
    t5 := Tryz.underlying5, a5 := Tryz.isAgg5, z5 := Tryz.sizeOf5, v5 := Tryz.zeroValue5
    t9 := Tryz.underlying9, a9 := Tryz.isAgg9, z9 := Tryz.sizeOf9, v9 := Tryz.zeroValue9
    t22 := Tryz.underlying64, a22 := Tryz.isAgg64, z22 := Tryz.sizeOf64, v22 := Tryz.zeroValue64
    t25 := Tryz.underlying177, a25 := Tryz.isAgg177, z25 := Tryz.sizeOf177, v25 := Tryz.zeroValue177
    t39 := Tryz.underlying225, a39 := Tryz.isAgg225, z39 := Tryz.sizeOf225, v39 := Tryz.zeroValue225
    t45 := Tryz.underlying249, a45 := Tryz.isAgg249, z45 := Tryz.sizeOf249, v45 := Tryz.zeroValue249
    t46 := Tryz.underlying250, a46 := Tryz.isAgg250, z46 := Tryz.sizeOf250, v46 := Tryz.zeroValue250
    t50 := Tryz.underlying180, a50 := Tryz.isAgg180, z50 := Tryz.sizeOf180, v50 := Tryz.zeroValue180
    t53 := Tryz.underlying256, a53 := Tryz.isAgg256, z53 := Tryz.sizeOf256, v53 := Tryz.zeroValue256
    t55 := Tryz.underlying258, a55 := Tryz.isAgg258, z55 := Tryz.sizeOf258, v55 := Tryz.zeroValue258
    t66 := Tryz.underlying275, a66 := Tryz.isAgg275, z66 := Tryz.sizeOf275, v66 := Tryz.zeroValue275
    t70 := Tryz.underlying236, a70 := Tryz.isAgg236, z70 := Tryz.sizeOf236, v70 := Tryz.zeroValue236
    t76 := Tryz.underlying290, a76 := Tryz.isAgg290, z76 := Tryz.sizeOf290, v76 := Tryz.zeroValue290
    t77 := Tryz.underlying291, a77 := Tryz.isAgg291, z77 := Tryz.sizeOf291, v77 := Tryz.zeroValue291 }
theorem isAggT:∀w,(isAgg (renT.t 24)).run Tryz.prog w=.ok true w:=Tryz.isAgg171
def renI:Ren:=⟨fun|6=>128|14=>177|15=>159|20=>209|21=>210|22=>211|23=>212|24=>213|25=>214|26=>215|27=>216|28=>197|29=>198|46=>242|47=>227|48=>228|49=>243|50=>244|57=>254|x=>x,
 fun|22=>172|24=>175|25=>182|39=>225|45=>249|46=>250|50=>180|53=>256|55=>258|66=>275|70=>236|76=>290|77=>291|x=>x,fun x=>x⟩
theorem laysI : SlLaysF0.n6 Tryz.prog renI :=
  { mixed := by kernel_rfl
    f6 := bears Tryz.func128 (by kernel_rfl) (by kernel_rfl)
    f14 := bears Tryz.func177 (by kernel_rfl) (by kernel_rfl)
    f15 := Tryz.func159.trans (congrArg some (by kernel_rfl))
    f20 := bears Tryz.func209 (by kernel_rfl) (by kernel_rfl)
    f21 := bears Tryz.func210 (by kernel_rfl) (by kernel_rfl)
    f22 := bears Tryz.func211 (by kernel_rfl) (by kernel_rfl)
    f23 := bears Tryz.func212 (by kernel_rfl) (by kernel_rfl)
    f24 := bears Tryz.func213 (by kernel_rfl) (by kernel_rfl)
    f25 := bears Tryz.func214 (by kernel_rfl) (by kernel_rfl)
    f26 := bears Tryz.func215 (by kernel_rfl) (by kernel_rfl)
    f27 := bears Tryz.func216 (by kernel_rfl) (by kernel_rfl)
    f28 := Tryz.func197.trans (congrArg some (by kernel_rfl))
    f29 := Tryz.func198.trans (congrArg some (by kernel_rfl))
    f46 := bears Tryz.func242 (by kernel_rfl) (by kernel_rfl)
    f47 := Tryz.func227.trans (congrArg some (by kernel_rfl))
    f48 := Tryz.func228.trans (congrArg some (by kernel_rfl))
    f49 := bears Tryz.func243 (by kernel_rfl) (by kernel_rfl)
    f50 := bears Tryz.func244 (by kernel_rfl) (by kernel_rfl)
    f57 := bears Tryz.func254 (by kernel_rfl) (by kernel_rfl)
    t0 := Tryz.underlying0, a0 := Tryz.isAgg0, z0 := Tryz.sizeOf0, v0 := Tryz.zeroValue0
    t3 := Tryz.underlying3, a3 := Tryz.isAgg3, z3 := Tryz.sizeOf3, v3 := Tryz.zeroValue3
    t4 := Tryz.underlying4, a4 := Tryz.isAgg4, z4 := Tryz.sizeOf4, v4 := Tryz.zeroValue4
    t5 := Tryz.underlying5, a5 := Tryz.isAgg5, z5 := Tryz.sizeOf5, v5 := Tryz.zeroValue5
    t9 := Tryz.underlying9, a9 := Tryz.isAgg9, z9 := Tryz.sizeOf9, v9 := Tryz.zeroValue9
    t22 := Tryz.underlying172, a22 := Tryz.isAgg172, z22 := Tryz.sizeOf172, v22 := Tryz.zeroValue172
    t25 := Tryz.underlying182, a25 := Tryz.isAgg182, z25 := Tryz.sizeOf182, v25 := Tryz.zeroValue182
    t39 := Tryz.underlying225, a39 := Tryz.isAgg225, z39 := Tryz.sizeOf225, v39 := Tryz.zeroValue225
    t45 := Tryz.underlying249, a45 := Tryz.isAgg249, z45 := Tryz.sizeOf249, v45 := Tryz.zeroValue249
    t46 := Tryz.underlying250, a46 := Tryz.isAgg250, z46 := Tryz.sizeOf250, v46 := Tryz.zeroValue250
    t50 := Tryz.underlying180, a50 := Tryz.isAgg180, z50 := Tryz.sizeOf180, v50 := Tryz.zeroValue180
    t53 := Tryz.underlying256, a53 := Tryz.isAgg256, z53 := Tryz.sizeOf256, v53 := Tryz.zeroValue256
    t55 := Tryz.underlying258, a55 := Tryz.isAgg258, z55 := Tryz.sizeOf258, v55 := Tryz.zeroValue258
    t66 := Tryz.underlying275, a66 := Tryz.isAgg275, z66 := Tryz.sizeOf275, v66 := Tryz.zeroValue275
    t70 := Tryz.underlying236, a70 := Tryz.isAgg236, z70 := Tryz.sizeOf236, v70 := Tryz.zeroValue236
    t76 := Tryz.underlying290, a76 := Tryz.isAgg290, z76 := Tryz.sizeOf290, v76 := Tryz.zeroValue290
    t77 := Tryz.underlying291, a77 := Tryz.isAgg291, z77 := Tryz.sizeOf291, v77 := Tryz.zeroValue291 }
theorem isAggI:∀w,(isAgg (renI.t 24)).run Tryz.prog w=.ok true w:=Tryz.isAgg175
def renW:Ren:=⟨fun|6=>153|14=>184|15=>159|20=>217|21=>218|22=>219|23=>220|24=>221|25=>222|26=>223|27=>224|28=>197|29=>198|46=>245|47=>227|48=>228|49=>246|50=>247|57=>255|x=>x,
 fun|22=>115|24=>136|25=>220|39=>225|45=>249|46=>250|50=>180|53=>256|55=>258|66=>275|70=>236|76=>290|77=>291|x=>x,fun x=>x⟩
theorem laysW : SlLaysF0.n6 Tryz.prog renW :=
  { mixed := by kernel_rfl
    f6 := bears Tryz.func153 (by kernel_rfl) (by kernel_rfl)
    f14 := bears Tryz.func184 (by kernel_rfl) (by kernel_rfl)
    f15 := Tryz.func159.trans (congrArg some (by kernel_rfl))
    f20 := bears Tryz.func217 (by kernel_rfl) (by kernel_rfl)
    f21 := bears Tryz.func218 (by kernel_rfl) (by kernel_rfl)
    f22 := bears Tryz.func219 (by kernel_rfl) (by kernel_rfl)
    f23 := bears Tryz.func220 (by kernel_rfl) (by kernel_rfl)
    f24 := bears Tryz.func221 (by kernel_rfl) (by kernel_rfl)
    f25 := bears Tryz.func222 (by kernel_rfl) (by kernel_rfl)
    f26 := bears Tryz.func223 (by kernel_rfl) (by kernel_rfl)
    f27 := bears Tryz.func224 (by kernel_rfl) (by kernel_rfl)
    f28 := Tryz.func197.trans (congrArg some (by kernel_rfl))
    f29 := Tryz.func198.trans (congrArg some (by kernel_rfl))
    f46 := bears Tryz.func245 (by kernel_rfl) (by kernel_rfl)
    f47 := Tryz.func227.trans (congrArg some (by kernel_rfl))
    f48 := Tryz.func228.trans (congrArg some (by kernel_rfl))
    f49 := bears Tryz.func246 (by kernel_rfl) (by kernel_rfl)
    f50 := bears Tryz.func247 (by kernel_rfl) (by kernel_rfl)
    f57 := bears Tryz.func255 (by kernel_rfl) (by kernel_rfl)
    t0 := Tryz.underlying0, a0 := Tryz.isAgg0, z0 := Tryz.sizeOf0, v0 := Tryz.zeroValue0
    t3 := Tryz.underlying3, a3 := Tryz.isAgg3, z3 := Tryz.sizeOf3, v3 := Tryz.zeroValue3
    t4 := Tryz.underlying4, a4 := Tryz.isAgg4, z4 := Tryz.sizeOf4, v4 := Tryz.zeroValue4
    t5 := Tryz.underlying5, a5 := Tryz.isAgg5, z5 := Tryz.sizeOf5, v5 := Tryz.zeroValue5
    t9 := Tryz.underlying9, a9 := Tryz.isAgg9, z9 := Tryz.sizeOf9, v9 := Tryz.zeroValue9
    t22 := Tryz.underlying115, a22 := Tryz.isAgg115, z22 := Tryz.sizeOf115, v22 := Tryz.zeroValue115
    t25 := Tryz.underlying220, a25 := Tryz.isAgg220, z25 := Tryz.sizeOf220, v25 := Tryz.zeroValue220
    t39 := Tryz.underlying225, a39 := Tryz.isAgg225, z39 := Tryz.sizeOf225, v39 := Tryz.zeroValue225
    t45 := Tryz.underlying249, a45 := Tryz.isAgg249, z45 := Tryz.sizeOf249, v45 := Tryz.zeroValue249
    t46 := Tryz.underlying250, a46 := Tryz.isAgg250, z46 := Tryz.sizeOf250, v46 := Tryz.zeroValue250
    t50 := Tryz.underlying180, a50 := Tryz.isAgg180, z50 := Tryz.sizeOf180, v50 := Tryz.zeroValue180
    t53 := Tryz.underlying256, a53 := Tryz.isAgg256, z53 := Tryz.sizeOf256, v53 := Tryz.zeroValue256
    t55 := Tryz.underlying258, a55 := Tryz.isAgg258, z55 := Tryz.sizeOf258, v55 := Tryz.zeroValue258
    t66 := Tryz.underlying275, a66 := Tryz.isAgg275, z66 := Tryz.sizeOf275, v66 := Tryz.zeroValue275
    t70 := Tryz.underlying236, a70 := Tryz.isAgg236, z70 := Tryz.sizeOf236, v70 := Tryz.zeroValue236
    t76 := Tryz.underlying290, a76 := Tryz.isAgg290, z76 := Tryz.sizeOf290, v76 := Tryz.zeroValue290
    t77 := Tryz.underlying291, a77 := Tryz.isAgg291, z77 := Tryz.sizeOf291, v77 := Tryz.zeroValue291 }
theorem isAggW:∀w,(isAgg (renW.t 24)).run Tryz.prog w=.ok true w:=Tryz.isAgg136
abbrev trC (x:Ky×AV):List AV:=[.int .i64 x.1.1,.str x.1.2,x.2]
def trAV (l:List (Ky×AV)):List AV:=l.flatMap fun x=>[.int .i64 x.1.1,.str x.1.2,x.2]
theorem tr_rows:CellsK trC 3:=fun _=>rfl
theorem trAV_len (l:List (Ky×AV)):(trAV l).length=l.length*3:=rows_len tr_rows l
theorem ltK:ltOf cmpK=kylt:=by
 funext x y
 have:=cmpK_neg x y
 cases h:kylt x y with
 |true=>exact decide_eq_true (this.2 h)
 |false=>exact decide_eq_false (fun q=>by rw[this.1 q] at h;cases h)
theorem ltN:ltOf cmpN=nmlt:=by
 funext x y
 have:=cmpN_neg x y
 cases h:nmlt x y with
 |true=>exact decide_eq_true (this.2 h)
 |false=>exact decide_eq_false (fun q=>by rw[this.1 q] at h;cases h)
theorem ltI:ltOf cmpI=fun x y=>decide (x<y):=by
 funext x y
 exact decide_eq_decide.2 (cmpI_neg x y)
theorem vis_tr (x:Ky)(u:AV):Vis [.int .i64 x.1,.str x.2,u] [.int .i64 x.1,.str x.2,.top]:=⟨rfl,fun j hj=>by
 match j,hj with
 |0,_=>exact .inr ⟨rfl,.int _ _⟩
 |1,_=>exact .inr ⟨rfl,.str _⟩
 |2,_=>exact .inl rfl⟩
theorem vis_wd (s:Bs)(n:Int):Vis [.str s,.int .i64 n] [.top,.int .i64 n]:=⟨rfl,fun j hj=>by
 match j,hj with
 |0,_=>exact .inl rfl
 |1,_=>exact .inr ⟨rfl,.int _ _⟩⟩
theorem sortTm_ok (l : List (Ky × AV)) (hne : l ≠ []) (hT : l.Pairwise fun x y => x.1 ≠ y.1) (rest : List AV) (i cap : Nat) (hl : l.length ≤ 1099511627776) (H : List Blk) (T : Toks) (hi : H[i]? = some (.cells (trAV l ++ rest))) :
    ACall Tryz.prog 127 [.csl i l.length cap, .fn 111 [] []] H T (Is (.tup []) (H.set i (.cells (trAV (sortT l) ++ rest))) T) := by
  have hm : ∀ l : List (Ky × AV), (l.map fun x => (x.1, trC x)).flatMap (·.2) = trAV l := fun l => by simp [trAV, List.flatMap_map]
  have h := sortR_ok (H := H) (T := T) laysT (k := 3) isAggT Tryz.sizeOf171 (by omega) rfl (κ := Ky) (fun x => [.int .i64 x.1, .str x.2, .top]) cmpK (by rw [ltK]; exact ⟨kylt_irrefl, fun _ _ _ => kylt_trans, fun _ _ _ => kylt_ntrans⟩)
    111 (fun _ _ => Tryz.call127 _ _) (l.map fun x => (x.1, trC x)) (by simpa using hne)
    (fun x hx => by obtain ⟨y, _, rfl⟩ := List.mem_map.1 hx; rfl) (fun x hx => by obtain ⟨y, _, rfl⟩ := List.mem_map.1 hx; exact vis_tr y.1 y.2)
    (by rw [ltK, List.pairwise_map]; exact hT.imp fun {a b} hab => by
          cases h1 : kylt a.1 b.1 with
          | true => exact .inl rfl
          | false => cases h2 : kylt b.1 a.1 with
            | true => exact .inr rfl
            | false => exact absurd (kylt_total h1 h2) hab)
    (fun x _ y _ => byWord_ok x.1 y.1 .top .top [] []) rest i cap (by rw [hm]; exact hi) (by rw [List.length_map]; omega)
  rw [ltK, List.length_map] at h;have e := List.map_mergeSort (r := fun x y => !(kylt y.1 x.1)) (s := fun (x y : Ky × List AV) => !(kylt y.1 x.1)) (f := fun x : Ky × AV => (x.1, trC x)) (l := l) (fun a _ b _ => rfl);rw [← e, hm] at h;exact h
theorem encI:Enc (fun x:Nm=>[Value.int .i64 x.1,Value.int .i64 x.2]) nmC 2 where
 pos:=by decide
 len _:=rfl
 lenA _:=rfl
 one x v hv:=by simp at hv;rcases hv with rfl|rfl<;>rfl
 rep x j hj L N T w v:=by
  match j,hj with
  |0,_=>exact⟨fun h=>by cases h;rfl,fun h=>by subst h;exact .int _ _⟩
  |1,_=>exact⟨fun h=>by cases h;rfl,fun h=>by subst h;exact .int _ _⟩
theorem sortIt_ok (l:List Nm)(rest:List AV)(i cap:Nat)(hl:l.length≤1099511627776)(H:List Blk)(T:Toks)(hi:H[i]?=some (.cells (nmAV l++rest))) :
  ACall Tryz.prog 128 [.csl i l.length cap,.fn 114 [] []] H T (Is (.tup []) (H.set i (.cells (nmAV (sortN l)++rest))) T):=by
 have h:=sortK_ok (H:=H) (T:=T) laysI (k:=2) isAggI Tryz.sizeOf175 encI rfl cmpN (by rw[ltN];exact⟨nmlt_irrefl,fun _ _ _=>nmlt_trans,fun _ _ _=>nmlt_ntrans⟩) (by rw[ltN];exact fun _ _=>nmlt_total) 114 (fun x y=>byNumber_ok x y [] []) (fun _ _=>Tryz.call128 _ _) l rest i cap hi (by omega);rw[ltN] at h;exact h
theorem sortWd_ok (l:List Wd)(hne:l≠[])(hT:l.Pairwise fun x y=>x.2≠y.2)(rest:List AV)(i cap:Nat)(hl:l.length≤1099511627776)(H:List Blk)(T:Toks)(hi:H[i]?=some (.cells (wdAV l++rest))) :
  ACall Tryz.prog 153 [.csl i l.length cap,.fn 154 [] []] H T (Is (.tup []) (H.set i (.cells (wdAV (sortW l)++rest))) T):=by
 have hm:∀l:List Wd,(l.map fun x=>(x.2,wdC x)).flatMap (·.2)=wdAV l:=fun l=>by simp[wdAV,List.flatMap_map]
 have h:=sortR_ok (H:=H) (T:=T) laysW (k:=2) isAggW Tryz.sizeOf136 (by omega) rfl (κ:=Int) (fun x=>[.top,.int .i64 x]) cmpI (by rw[ltI];exact⟨fun _=>by simp,fun _ _ _ h1 h2=>by simp only[decide_eq_true_eq] at *;omega,fun _ _ _ h1 h2=>by simp only[decide_eq_false_iff_not] at *;omega⟩)
  154 (fun _ _=>Tryz.call153 _ _) (l.map fun x=>(x.2,wdC x)) (by simpa using hne)
  (fun x hx=>by obtain⟨y,_,rfl⟩:=List.mem_map.1 hx;rfl) (fun x hx=>by obtain⟨y,_,rfl⟩:=List.mem_map.1 hx;exact vis_wd y.1 y.2)
  (by rw[ltI,List.pairwise_map];exact hT.imp fun {a b} hab=>by simp only[decide_eq_true_eq];omega)
  (fun x _ y _=>byPos_ok x.1 y.1 .top .top [] []) rest i cap (by rw[hm];exact hi) (by rw[List.length_map];omega)
 rw[ltI,List.length_map] at h;have e:=List.map_mergeSort (r:=fun x y=>!(decide (y.2<x.2))) (s:=fun(x y:Int×List AV)=>!(decide (y.1<x.1))) (f:=fun x:Wd=>(x.2,wdC x)) (l:=l) (fun a _ b _=>rfl);rw[←e,hm] at h;exact h
theorem sortTm0_ok (H:List Blk)(T:Toks)(tg:Tag):ACall Tryz.prog 127 [.sl 0 [] tg,.fn 111 [] []] H T (Is (.tup []) H T):=
 sort0_ok laysT 111 (fun _ _=>Tryz.call127 _ _) tg
end Go.Proofs.YtoejlmpbebjemaaGreat
namespace Go.Am
open Go
def Has {α:Type}(K:List α)(S:List (Nat×α)):Prop:=(S.map (·.1)).Nodup∧∀p∈S,K[p.1]?=some p.2
section
variable {α : Type} {K : List α} {S : List (Nat × α)}
theorem Has.get (h:Has K S){i:Nat}{b:α}(hm:(i,b)∈S):K[i]?=some b:=h.2 _ hm
theorem Has.lt (h:Has K S){i:Nat}{b:α}(hm:(i,b)∈S):i<K.length:=(List.getElem?_eq_some_iff.1 (h.get hm)).1
theorem Has.app (h:Has K S)(X:List α):Has (K++X) S:=⟨h.1,fun p hp=>by rw[List.getElem?_append_left (h.lt (b:=p.2) hp)];exact h.2 p hp⟩
theorem Has.new (h:Has K S)(b:α):Has (K++[b]) (S++[(K.length,b)]):=by
 refine⟨?_,fun p hp=>?_⟩
 ·rw[List.map_append,List.nodup_append];refine⟨h.1,by simp,fun x hx y hy=>?_⟩;obtain⟨p,hp,rfl⟩:=List.mem_map.1 hx;have:=h.lt (b:=p.2) hp;simp at hy;omega
 ·rcases List.mem_append.1 hp with hp|hp
  ·exact(h.app [b]).2 p hp
  ·simp at hp;subst hp;simp
theorem Has.perm {S':List (Nat×α)}(h:Has K S)(hp:S'.Perm S):Has K S':=⟨(hp.map _).nodup_iff.2 h.1,fun p hq=>h.2 p (hp.mem_iff.1 hq)⟩
theorem Has.sub {S':List (Nat×α)}(h:Has K S)(hs:S'.Sublist S):Has K S':=⟨h.1.sublist (hs.map _),fun p hq=>h.2 p (hs.subset hq)⟩
theorem Has.set {A B:List (Nat×α)}{i:Nat}{b:α}(h:Has K (A++(i,b)::B))(b':α):Has (K.set i b') (A++(i,b')::B):=by
 have hl:i<K.length:=h.lt (b:=b) (by simp);have hn:=h.1;rw[List.map_append,List.map_cons] at hn;refine⟨by rw[List.map_append,List.map_cons];exact hn,fun p hp=>?_⟩;rw[List.nodup_append,List.nodup_cons] at hn;obtain⟨_,⟨n1,_⟩,n2⟩:=hn;rcases List.mem_append.1 hp with hp|hp
 ·have hne:i≠p.1:=fun e=>n2 p.1 (List.mem_map.2 ⟨p,hp,rfl⟩) i (by simp) e.symm;rw[List.getElem?_set_ne hne];exact h.2 p (by simp[hp])
 ·rcases List.mem_cons.1 hp with rfl|hp
  ·rw[List.getElem?_set_self hl]
  ·have hne:i≠p.1:=fun e=>n1 (e▸List.mem_map.2 ⟨p,hp,rfl⟩);rw[List.getElem?_set_ne hne];exact h.2 p (by simp[hp])
theorem Has.put (h:Has K S){i:Nat}{b:α}(hm:(i,b)∈S)(b':α){S':List (Nat×α)}(hs:∃A B,S=A++(i,b)::B∧S'=A++(i,b')::B):Has (K.set i b') S':=by
 obtain⟨A,B,rfl,rfl⟩:=hs;exact h.set b'
theorem Has.ne {A B C:List (Nat×α)}{i j:Nat}{b c:α}(h:Has K (A++(i,b)::(B++(j,c)::C))):i≠j:=by
 have hn:=h.1;simp only[List.map_append,List.map_cons] at hn;rw[List.nodup_append,List.nodup_cons] at hn;exact fun e=>hn.2.1.1 (e▸by simp)
end
end Go.Am
