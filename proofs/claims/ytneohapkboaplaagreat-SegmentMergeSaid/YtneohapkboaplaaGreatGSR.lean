/- slices.SortFunc on boxes of terms, items and words, by the library's contract. Places of a heap (or of the tokens) that are known, each once.
  Conditions: lengths below 400 or 1000, as each theorem says. -/
import Derived.Test.YtneohapkboaplaaGreatAmD
import Derived.Test.YtneohapkboaplaaGreatGC
import Derived.Test.YtneohapkboaplaaGreatGA
set_option linter.all false
set_option maxRecDepth 100000
namespace eJ
open iF Go.Proofs.YtneohapkboaplaaGreat
theorem eH (a:Ky):bM a a=false:=by simp[bM,vp]
theorem gf {a b c:Ky}(h1:bM a b=true)(h2:bM b c=true):bM a c=true:=by
 simp only[bM,Bool.or_eq_true,Bool.and_eq_true,decide_eq_true_eq] at *;rcases h1 with h1|⟨h1,h3⟩
 ·rcases h2 with h2|⟨h2,_⟩<;>left<;>omega
 ·rcases h2 with h2|⟨h2,h4⟩
  ·left;omega
  ·exact .inr ⟨by omega,GS _ _ _ h3 h4⟩
theorem kI {a b:Ky}(h1:bM a b=false)(h2:bM b a=false):a=b:=by
 obtain⟨x,s⟩:=a;obtain⟨y,t⟩:=b;simp only[bM,Bool.or_eq_false_iff,Bool.and_eq_false_iff,decide_eq_false_iff_not] at h1 h2;have e:x=y:=by omega
 subst e;have g1:slt s t=false:=by rcases h1.2 with h|h;exact absurd rfl h;exact h
 have g2:slt t s=false:=by rcases h2.2 with h|h;exact absurd rfl h;exact h
 rw[rS _ _ g1 g2]
theorem DU {a b:Ky}(h:bM a b=true):bM b a=false:=by
 cases h2:bM b a with
 |false=>rfl
 |true=>have:=gf h h2;rw[eH] at this;cases this
theorem sL {x y z:Ky}(h1:bM x y=false)(h2:bM y z=false):bM x z=false:=by
 cases h3:bM x z with
 |false=>rfl
 |true=>
  cases h4:bM y x with
  |true=>rw[gf h4 h3] at h2;cases h2
  |false=>rw[kI h1 h4] at h3;rw[h3] at h2;cases h2
theorem sH (a:Nm):cP a a=false:=by simp[cP]
theorem lQ (a b:Nm):cP a b=true↔a.1<b.1∨(a.1=b.1∧a.2<b.2):=by
 simp[cP]
theorem xq (a b:Nm):cP a b=false↔¬(a.1<b.1∨(a.1=b.1∧a.2<b.2)):=by
 rw[←lQ];simp
theorem qd {a b c:Nm}(h1:cP a b=true)(h2:cP b c=true):cP a c=true:=by
 rw[lQ] at *;omega
theorem oB {a b c:Nm}(h1:cP a b=false)(h2:cP b c=false):cP a c=false:=by
 rw[xq] at *;omega
theorem qe {a b:Nm}(h1:cP a b=false)(h2:cP b a=false):a=b:=by
 rw[xq] at *;exact Prod.ext (by omega) (by omega)
def EE {β:Type}(l:List (Ky×β)):List (Ky×β):=l.mergeSort fun x y=>!(bM y.1 x.1)
def nP (l:List Nm):List Nm:=l.mergeSort fun x y=>!(cP y x)
def gw (l:List Wd):List Wd:=l.mergeSort fun x y=>!(decide (y.2<x.2))
end eJ
namespace Go.Proofs.YtneohapkboaplaaGreat
open Go Go.Am Go.Shelf Go.Sort iF eJ
theorem bears {P : Program} {f : FuncId} {F B : Func} (hf : P.funcs[f]? = some F) (hn : (F.name == "runtime.NumGoroutine") = false) (h : F = { B with name := F.name }) : Bears P f B := ⟨F.name, hn, hf.trans (congrArg some h)⟩
def Tj:Ren:=⟨fun|6=>62|14=>141|15=>142|20=>178|21=>179|22=>180|23=>181|24=>182|25=>183|26=>184|27=>185|28=>186|29=>187|46=>218|47=>219|48=>220|49=>221|50=>222|57=>233|x=>x,
 fun|22=>26|24=>117|25=>119|39=>200|45=>232|46=>233|50=>140|53=>239|55=>218|66=>256|70=>215|76=>267|77=>225|x=>x,fun x=>x⟩
theorem OS : SlLaysF0.n6 Tryz.prog Tj :=
  { mixed := by kernel_rfl
    f6 := bears Tryz.func62 (by kernel_rfl) (by kernel_rfl)
    f14 := bears Tryz.func141 (by kernel_rfl) (by kernel_rfl)
    f15 := Tryz.func142.trans (congrArg some (by kernel_rfl))
    f20 := bears Tryz.func178 (by kernel_rfl) (by kernel_rfl)
    f21 := bears Tryz.func179 (by kernel_rfl) (by kernel_rfl)
    f22 := bears Tryz.func180 (by kernel_rfl) (by kernel_rfl)
    f23 := bears Tryz.func181 (by kernel_rfl) (by kernel_rfl)
    f24 := bears Tryz.func182 (by kernel_rfl) (by kernel_rfl)
    f25 := bears Tryz.func183 (by kernel_rfl) (by kernel_rfl)
    f26 := bears Tryz.func184 (by kernel_rfl) (by kernel_rfl)
    f27 := bears Tryz.func185 (by kernel_rfl) (by kernel_rfl)
    f28 := Tryz.func186.trans (congrArg some (by kernel_rfl))
    f29 := Tryz.func187.trans (congrArg some (by kernel_rfl))
    f46 := bears Tryz.func218 (by kernel_rfl) (by kernel_rfl)
    f47 := Tryz.func219.trans (congrArg some (by kernel_rfl))
    f48 := Tryz.func220.trans (congrArg some (by kernel_rfl))
    f49 := bears Tryz.func221 (by kernel_rfl) (by kernel_rfl)
    f50 := bears Tryz.func222 (by kernel_rfl) (by kernel_rfl)
    f57 := bears Tryz.func233 (by kernel_rfl) (by kernel_rfl)
    t0 := Tryz.underlying0, a0 := Tryz.isAgg0, z0 := Tryz.sizeOf0, v0 := Tryz.zeroValue0
    t3 := Tryz.underlying3, a3 := Tryz.isAgg3, z3 := Tryz.sizeOf3, v3 := Tryz.zeroValue3
    t4 := Tryz.underlying4, a4 := Tryz.isAgg4, z4 := Tryz.sizeOf4, v4 := Tryz.zeroValue4
    t5 := Tryz.underlying5, a5 := Tryz.isAgg5, z5 := Tryz.sizeOf5, v5 := Tryz.zeroValue5
    t9 := Tryz.underlying9, a9 := Tryz.isAgg9, z9 := Tryz.sizeOf9, v9 := Tryz.zeroValue9
    t22 := Tryz.underlying26, a22 := Tryz.isAgg26, z22 := Tryz.sizeOf26, v22 := Tryz.zeroValue26
    t25 := Tryz.underlying119, a25 := Tryz.isAgg119, z25 := Tryz.sizeOf119, v25 := Tryz.zeroValue119
    t39 := Tryz.underlying200, a39 := Tryz.isAgg200, z39 := Tryz.sizeOf200, v39 := Tryz.zeroValue200
    t45 := Tryz.underlying232, a45 := Tryz.isAgg232, z45 := Tryz.sizeOf232, v45 := Tryz.zeroValue232
    t46 := Tryz.underlying233, a46 := Tryz.isAgg233, z46 := Tryz.sizeOf233, v46 := Tryz.zeroValue233
    t50 := Tryz.underlying140, a50 := Tryz.isAgg140, z50 := Tryz.sizeOf140, v50 := Tryz.zeroValue140
    t53 := Tryz.underlying239, a53 := Tryz.isAgg239, z53 := Tryz.sizeOf239, v53 := Tryz.zeroValue239
    t55 := Tryz.underlying218, a55 := Tryz.isAgg218, z55 := Tryz.sizeOf218, v55 := Tryz.zeroValue218
    t66 := Tryz.underlying256, a66 := Tryz.isAgg256, z66 := Tryz.sizeOf256, v66 := Tryz.zeroValue256
    t70 := Tryz.underlying215, a70 := Tryz.isAgg215, z70 := Tryz.sizeOf215, v70 := Tryz.zeroValue215
    t76 := Tryz.underlying267, a76 := Tryz.isAgg267, z76 := Tryz.sizeOf267, v76 := Tryz.zeroValue267
    t77 := Tryz.underlying225, a77 := Tryz.isAgg225, z77 := Tryz.sizeOf225, v77 := Tryz.zeroValue225 }
theorem iT:∀w,(isAgg (Tj.t 24)).run Tryz.prog w=.ok true w:=Tryz.isAgg117
def Tl:Ren:=⟨fun|6=>64|14=>145|15=>142|20=>189|21=>190|22=>191|23=>192|24=>193|25=>194|26=>195|27=>196|28=>186|29=>187|46=>223|47=>219|48=>220|49=>224|50=>225|57=>234|x=>x,
 fun|22=>113|24=>115|25=>121|39=>200|45=>232|46=>233|50=>140|53=>239|55=>218|66=>256|70=>215|76=>267|77=>225|x=>x,fun x=>x⟩
theorem Ua : SlLaysF0.n6 Tryz.prog Tl :=
  { mixed := by kernel_rfl
    f6 := bears Tryz.func64 (by kernel_rfl) (by kernel_rfl)
    f14 := bears Tryz.func145 (by kernel_rfl) (by kernel_rfl)
    f15 := Tryz.func142.trans (congrArg some (by kernel_rfl))
    f20 := bears Tryz.func189 (by kernel_rfl) (by kernel_rfl)
    f21 := bears Tryz.func190 (by kernel_rfl) (by kernel_rfl)
    f22 := bears Tryz.func191 (by kernel_rfl) (by kernel_rfl)
    f23 := bears Tryz.func192 (by kernel_rfl) (by kernel_rfl)
    f24 := bears Tryz.func193 (by kernel_rfl) (by kernel_rfl)
    f25 := bears Tryz.func194 (by kernel_rfl) (by kernel_rfl)
    f26 := bears Tryz.func195 (by kernel_rfl) (by kernel_rfl)
    f27 := bears Tryz.func196 (by kernel_rfl) (by kernel_rfl)
    f28 := Tryz.func186.trans (congrArg some (by kernel_rfl))
    f29 := Tryz.func187.trans (congrArg some (by kernel_rfl))
    f46 := bears Tryz.func223 (by kernel_rfl) (by kernel_rfl)
    f47 := Tryz.func219.trans (congrArg some (by kernel_rfl))
    f48 := Tryz.func220.trans (congrArg some (by kernel_rfl))
    f49 := bears Tryz.func224 (by kernel_rfl) (by kernel_rfl)
    f50 := bears Tryz.func225 (by kernel_rfl) (by kernel_rfl)
    f57 := bears Tryz.func234 (by kernel_rfl) (by kernel_rfl)
    t0 := Tryz.underlying0, a0 := Tryz.isAgg0, z0 := Tryz.sizeOf0, v0 := Tryz.zeroValue0
    t3 := Tryz.underlying3, a3 := Tryz.isAgg3, z3 := Tryz.sizeOf3, v3 := Tryz.zeroValue3
    t4 := Tryz.underlying4, a4 := Tryz.isAgg4, z4 := Tryz.sizeOf4, v4 := Tryz.zeroValue4
    t5 := Tryz.underlying5, a5 := Tryz.isAgg5, z5 := Tryz.sizeOf5, v5 := Tryz.zeroValue5
    t9 := Tryz.underlying9, a9 := Tryz.isAgg9, z9 := Tryz.sizeOf9, v9 := Tryz.zeroValue9
    t22 := Tryz.underlying113, a22 := Tryz.isAgg113, z22 := Tryz.sizeOf113, v22 := Tryz.zeroValue113
    t25 := Tryz.underlying121, a25 := Tryz.isAgg121, z25 := Tryz.sizeOf121, v25 := Tryz.zeroValue121
    t39 := Tryz.underlying200, a39 := Tryz.isAgg200, z39 := Tryz.sizeOf200, v39 := Tryz.zeroValue200
    t45 := Tryz.underlying232, a45 := Tryz.isAgg232, z45 := Tryz.sizeOf232, v45 := Tryz.zeroValue232
    t46 := Tryz.underlying233, a46 := Tryz.isAgg233, z46 := Tryz.sizeOf233, v46 := Tryz.zeroValue233
    t50 := Tryz.underlying140, a50 := Tryz.isAgg140, z50 := Tryz.sizeOf140, v50 := Tryz.zeroValue140
    t53 := Tryz.underlying239, a53 := Tryz.isAgg239, z53 := Tryz.sizeOf239, v53 := Tryz.zeroValue239
    t55 := Tryz.underlying218, a55 := Tryz.isAgg218, z55 := Tryz.sizeOf218, v55 := Tryz.zeroValue218
    t66 := Tryz.underlying256, a66 := Tryz.isAgg256, z66 := Tryz.sizeOf256, v66 := Tryz.zeroValue256
    t70 := Tryz.underlying215, a70 := Tryz.isAgg215, z70 := Tryz.sizeOf215, v70 := Tryz.zeroValue215
    t76 := Tryz.underlying267, a76 := Tryz.isAgg267, z76 := Tryz.sizeOf267, v76 := Tryz.zeroValue267
    t77 := Tryz.underlying225, a77 := Tryz.isAgg225, z77 := Tryz.sizeOf225, v77 := Tryz.zeroValue225 }
theorem QJ:∀w,(isAgg (Tl.t 24)).run Tryz.prog w=.ok true w:=Tryz.isAgg115
def Ti:Ren:=⟨fun|6=>102|14=>160|15=>142|20=>207|21=>208|22=>209|23=>210|24=>211|25=>212|26=>213|27=>214|28=>186|29=>187|46=>229|47=>219|48=>220|49=>230|50=>231|57=>236|x=>x,
 fun|22=>61|24=>71|25=>164|39=>200|45=>232|46=>233|50=>140|53=>239|55=>218|66=>256|70=>215|76=>267|77=>225|x=>x,fun x=>x⟩
theorem T9 : SlLaysF0.n6 Tryz.prog Ti :=
  { mixed := by kernel_rfl
    f6 := bears Tryz.func102 (by kernel_rfl) (by kernel_rfl)
    f14 := bears Tryz.func160 (by kernel_rfl) (by kernel_rfl)
    f15 := Tryz.func142.trans (congrArg some (by kernel_rfl))
    f20 := bears Tryz.func207 (by kernel_rfl) (by kernel_rfl)
    f21 := bears Tryz.func208 (by kernel_rfl) (by kernel_rfl)
    f22 := bears Tryz.func209 (by kernel_rfl) (by kernel_rfl)
    f23 := bears Tryz.func210 (by kernel_rfl) (by kernel_rfl)
    f24 := bears Tryz.func211 (by kernel_rfl) (by kernel_rfl)
    f25 := bears Tryz.func212 (by kernel_rfl) (by kernel_rfl)
    f26 := bears Tryz.func213 (by kernel_rfl) (by kernel_rfl)
    f27 := bears Tryz.func214 (by kernel_rfl) (by kernel_rfl)
    f28 := Tryz.func186.trans (congrArg some (by kernel_rfl))
    f29 := Tryz.func187.trans (congrArg some (by kernel_rfl))
    f46 := bears Tryz.func229 (by kernel_rfl) (by kernel_rfl)
    f47 := Tryz.func219.trans (congrArg some (by kernel_rfl))
    f48 := Tryz.func220.trans (congrArg some (by kernel_rfl))
    f49 := bears Tryz.func230 (by kernel_rfl) (by kernel_rfl)
    f50 := bears Tryz.func231 (by kernel_rfl) (by kernel_rfl)
    f57 := bears Tryz.func236 (by kernel_rfl) (by kernel_rfl)
    t0 := Tryz.underlying0, a0 := Tryz.isAgg0, z0 := Tryz.sizeOf0, v0 := Tryz.zeroValue0
    t3 := Tryz.underlying3, a3 := Tryz.isAgg3, z3 := Tryz.sizeOf3, v3 := Tryz.zeroValue3
    t4 := Tryz.underlying4, a4 := Tryz.isAgg4, z4 := Tryz.sizeOf4, v4 := Tryz.zeroValue4
    t5 := Tryz.underlying5, a5 := Tryz.isAgg5, z5 := Tryz.sizeOf5, v5 := Tryz.zeroValue5
    t9 := Tryz.underlying9, a9 := Tryz.isAgg9, z9 := Tryz.sizeOf9, v9 := Tryz.zeroValue9
    t22 := Tryz.underlying61, a22 := Tryz.isAgg61, z22 := Tryz.sizeOf61, v22 := Tryz.zeroValue61
    t25 := Tryz.underlying164, a25 := Tryz.isAgg164, z25 := Tryz.sizeOf164, v25 := Tryz.zeroValue164
    t39 := Tryz.underlying200, a39 := Tryz.isAgg200, z39 := Tryz.sizeOf200, v39 := Tryz.zeroValue200
    t45 := Tryz.underlying232, a45 := Tryz.isAgg232, z45 := Tryz.sizeOf232, v45 := Tryz.zeroValue232
    t46 := Tryz.underlying233, a46 := Tryz.isAgg233, z46 := Tryz.sizeOf233, v46 := Tryz.zeroValue233
    t50 := Tryz.underlying140, a50 := Tryz.isAgg140, z50 := Tryz.sizeOf140, v50 := Tryz.zeroValue140
    t53 := Tryz.underlying239, a53 := Tryz.isAgg239, z53 := Tryz.sizeOf239, v53 := Tryz.zeroValue239
    t55 := Tryz.underlying218, a55 := Tryz.isAgg218, z55 := Tryz.sizeOf218, v55 := Tryz.zeroValue218
    t66 := Tryz.underlying256, a66 := Tryz.isAgg256, z66 := Tryz.sizeOf256, v66 := Tryz.zeroValue256
    t70 := Tryz.underlying215, a70 := Tryz.isAgg215, z70 := Tryz.sizeOf215, v70 := Tryz.zeroValue215
    t76 := Tryz.underlying267, a76 := Tryz.isAgg267, z76 := Tryz.sizeOf267, v76 := Tryz.zeroValue267
    t77 := Tryz.underlying225, a77 := Tryz.isAgg225, z77 := Tryz.sizeOf225, v77 := Tryz.zeroValue225 }
theorem QI:∀w,(isAgg (Ti.t 24)).run Tryz.prog w=.ok true w:=Tryz.isAgg71
abbrev LS (x:Ky×AV):List AV:=[.int .i64 x.1.1,.str x.1.2,x.2]
def dQ (l:List (Ky×AV)):List AV:=l.flatMap fun x=>[.int .i64 x.1.1,.str x.1.2,x.2]
theorem Nn:eC LS 3:=fun _=>rfl
theorem qU (l:List (Ky×AV)):(dQ l).length=l.length*3:=b9 Nn l
theorem Y4:ltOf pT=bM:=by
 funext x y
 have:=rf x y
 cases h:bM x y with
 |true=>exact decide_eq_true (this.2 h)
 |false=>exact decide_eq_false (fun q=>by rw[this.1 q] at h;cases h)
theorem Y3:ltOf uo=cP:=by
 funext x y
 have:=Bm x y
 cases h:cP x y with
 |true=>exact decide_eq_true (this.2 h)
 |false=>exact decide_eq_false (fun q=>by rw[this.1 q] at h;cases h)
theorem Y5:ltOf ke=fun x y=>decide (x<y):=by
 funext x y
 exact decide_eq_decide.2 (oq x y)
theorem Qy (x:Ky)(u:AV):Z0 [.int .i64 x.1,.str x.2,u] [.int .i64 x.1,.str x.2,.top]:=⟨rfl,fun j hj=>by
 match j,hj with
 |0,_=>exact .inr ⟨rfl,.int _ _⟩
 |1,_=>exact .inr ⟨rfl,.str _⟩
 |2,_=>exact .inl rfl⟩
theorem Qx (s:Bs)(n:Int):Z0 [.str s,.int .i64 n] [.top,.int .i64 n]:=⟨rfl,fun j hj=>by
 match j,hj with
 |0,_=>exact .inl rfl
 |1,_=>exact .inr ⟨rfl,.int _ _⟩⟩
theorem GN (l : List (Ky × AV)) (dA : l ≠ []) (hT : l.Pairwise fun x y => x.1 ≠ y.1) (rest : List AV) (i cap : Nat) (hl : l.length ≤ 1099511627776) (H : List aA) (T : ar) (hi : H[i]? = some (.cells (dQ l ++ rest))) :
    aq Tryz.prog 62 [.bJ i l.length cap, .fn 63 [] []] H T (Is (.df []) (H.set i (.cells (dQ (EE l) ++ rest))) T) := by
  have hm : ∀ l : List (Ky × AV), (l.map fun x => (x.1, LS x)).flatMap (·.2) = dQ l := fun l => by simp [dQ, List.flatMap_map]
  have h := Ay (H := H) (T := T) OS (k := 3) iT Tryz.sizeOf117 (by omega) rfl (κ := Ky) (fun x => [.int .i64 x.1, .str x.2, .top]) pT (by rw [Y4]; exact ⟨eH, fun _ _ _ => gf, fun _ _ _ => sL⟩)
    63 (fun _ _ => Tryz.call62 _ _) (l.map fun x => (x.1, LS x)) (by simpa using dA)
    (fun x hx => by obtain ⟨y, _, rfl⟩ := List.mem_map.1 hx; rfl) (fun x hx => by obtain ⟨y, _, rfl⟩ := List.mem_map.1 hx; exact Qy y.1 y.2)
    (by rw [Y4, List.pairwise_map]; exact hT.imp fun {a b} iZ => by
          cases h1 : bM a.1 b.1 with
          | true => exact .inl rfl
          | false => cases h2 : bM b.1 a.1 with
            | true => exact .inr rfl
            | false => exact absurd (kI h1 h2) iZ)
    (fun x _ y _ => o6 x.1 y.1 .top .top [] []) rest i cap (by rw [hm]; exact hi) (by rw [List.length_map]; omega)
  rw [Y4, List.length_map] at h;have e := List.map_mergeSort (r := fun x y => !(bM y.1 x.1)) (s := fun (x y : Ky × List AV) => !(bM y.1 x.1)) (f := fun x : Ky × AV => (x.1, LS x)) (l := l) (fun a _ b _ => rfl);rw [← e, hm] at h;exact h
theorem encI:OO (fun x:Nm=>[Value.int .i64 x.1,Value.int .i64 x.2]) vQ 2 where
 pos:=by decide
 len _:=rfl
 zH _:=rfl
 one x v hv:=by simp at hv;rcases hv with rfl|rfl<;>rfl
 rep x j hj L N T w v:=by
  match j,hj with
  |0,_=>exact⟨fun h=>by cases h;rfl,fun h=>by subst h;exact .int _ _⟩
  |1,_=>exact⟨fun h=>by cases h;rfl,fun h=>by subst h;exact .int _ _⟩
theorem GO (l:List Nm)(rest:List AV)(i cap:Nat)(hl:l.length≤1099511627776)(H:List aA)(T:ar)(hi:H[i]?=some (.cells (aU l++rest))) :
  aq Tryz.prog 64 [.bJ i l.length cap,.fn 65 [] []] H T (Is (.df []) (H.set i (.cells (aU (nP l)++rest))) T):=by
 have h:=Ks (H:=H) (T:=T) Ua (k:=2) QJ Tryz.sizeOf115 encI rfl uo (by rw[Y3];exact⟨sH,fun _ _ _=>qd,fun _ _ _=>oB⟩) (by rw[Y3];exact fun _ _=>qe) 65 (fun x y=>sQ x y [] []) (fun _ _=>Tryz.call64 _ _) l rest i cap hi (by omega);rw[Y3] at h;exact h
theorem GL (l:List Wd)(dA:l≠[])(hT:l.Pairwise fun x y=>x.2≠y.2)(rest:List AV)(i cap:Nat)(hl:l.length≤1099511627776)(H:List aA)(T:ar)(hi:H[i]?=some (.cells (cJ l++rest))) :
  aq Tryz.prog 102 [.bJ i l.length cap,.fn 103 [] []] H T (Is (.df []) (H.set i (.cells (cJ (gw l)++rest))) T):=by
 have hm:∀l:List Wd,(l.map fun x=>(x.2,Ph x)).flatMap (·.2)=cJ l:=fun l=>by simp[cJ,List.flatMap_map]
 have h:=Ay (H:=H) (T:=T) T9 (k:=2) QI Tryz.sizeOf71 (by omega) rfl (κ:=Int) (fun x=>[.top,.int .i64 x]) ke (by rw[Y5];exact⟨fun _=>by simp,fun _ _ _ h1 h2=>by simp only[decide_eq_true_eq] at *;omega,fun _ _ _ h1 h2=>by simp only[decide_eq_false_iff_not] at *;omega⟩)
  103 (fun _ _=>Tryz.call102 _ _) (l.map fun x=>(x.2,Ph x)) (by simpa using dA)
  (fun x hx=>by obtain⟨y,_,rfl⟩:=List.mem_map.1 hx;rfl) (fun x hx=>by obtain⟨y,_,rfl⟩:=List.mem_map.1 hx;exact Qx y.1 y.2)
  (by rw[Y5,List.pairwise_map];exact hT.imp fun {a b} iZ=>by simp only[decide_eq_true_eq];omega)
  (fun x _ y _=>LK x.1 y.1 .top .top [] []) rest i cap (by rw[hm];exact hi) (by rw[List.length_map];omega)
 rw[Y5,List.length_map] at h;have e:=List.map_mergeSort (r:=fun x y=>!(decide (y.2<x.2))) (s:=fun(x y:Int×List AV)=>!(decide (y.1<x.1))) (f:=fun x:Wd=>(x.2,Ph x)) (l:=l) (fun a _ b _=>rfl);rw[←e,hm] at h;exact h
theorem Dr (H:List aA)(T:ar)(tg:Tag):aq Tryz.prog 62 [.sl 0 [] tg,.fn 63 [] []] H T (Is (.df []) H T):=
 Ku OS 63 (fun _ _=>Tryz.call62 _ _) tg
end Go.Proofs.YtneohapkboaplaaGreat
namespace Go.Am
open Go
def Has {α:Type}(K:List α)(S:List (Nat×α)):Prop:=(S.map (·.1)).Nodup∧∀p∈S,K[p.1]?=some p.2
section
variable {α : Type} {K : List α} {S : List (Nat × α)}
theorem Has.get (h:Has K S){i:Nat}{b:α}(hm:(i,b)∈S):K[i]?=some b:=h.2 _ hm
theorem Has.lt (h:Has K S){i:Nat}{b:α}(hm:(i,b)∈S):i<K.length:=(List.getElem?_eq_some_iff.1 (h.get hm)).1
theorem Has.app (h:Has K S)(X:List α):Has (K++X) S:=⟨h.1,fun p hp=>by rw[List.getElem?_append_left (h.lt (b:=p.2) hp)];exact h.2 p hp⟩
theorem Has.new (h:Has K S)(b:α):Has (K++[b]) (S++[(K.length,b)]):=by
 refine⟨?_,fun p hp=>?_⟩
 ·rw[List.map_append,List.nodup_append];refine⟨h.1,by simp,fun x hx y hy=>?_⟩;obtain⟨p,hp,rfl⟩:=List.mem_map.1 hx;have:=h.lt (b:=p.2) hp;simp at hy;omega
 ·rcases List.mem_append.1 hp with hp|hp
  ·exact(h.app [b]).2 p hp
  ·simp at hp;subst hp;simp
theorem Has.perm {S':List (Nat×α)}(h:Has K S)(hp:S'.Perm S):Has K S':=⟨(hp.map _).nodup_iff.2 h.1,fun p hq=>h.2 p (hp.mem_iff.1 hq)⟩
theorem Has.sub {S':List (Nat×α)}(h:Has K S)(hs:S'.Sublist S):Has K S':=⟨h.1.sublist (hs.map _),fun p hq=>h.2 p (hs.subset hq)⟩
theorem Has.set {A B:List (Nat×α)}{i:Nat}{b:α}(h:Has K (A++(i,b)::B))(b':α):Has (K.set i b') (A++(i,b')::B):=by
 have hl:i<K.length:=h.lt (b:=b) (by simp);have hn:=h.1;rw[List.map_append,List.map_cons] at hn;refine⟨by rw[List.map_append,List.map_cons];exact hn,fun p hp=>?_⟩;rw[List.nodup_append,List.nodup_cons] at hn;obtain⟨_,⟨n1,_⟩,n2⟩:=hn;rcases List.mem_append.1 hp with hp|hp
 ·have dA:i≠p.1:=fun e=>n2 p.1 (List.mem_map.2 ⟨p,hp,rfl⟩) i (by simp) e.symm;rw[List.getElem?_set_ne dA];exact h.2 p (by simp[hp])
 ·rcases List.mem_cons.1 hp with rfl|hp
  ·rw[List.getElem?_set_self hl]
  ·have dA:i≠p.1:=fun e=>n1 (e▸List.mem_map.2 ⟨p,hp,rfl⟩);rw[List.getElem?_set_ne dA];exact h.2 p (by simp[hp])
theorem Has.put (h:Has K S){i:Nat}{b:α}(hm:(i,b)∈S)(b':α){S':List (Nat×α)}(hs:∃A B,S=A++(i,b)::B∧S'=A++(i,b')::B):Has (K.set i b') S':=by
 obtain⟨A,B,rfl,rfl⟩:=hs;exact h.set b'
theorem Has.ne {A B C:List (Nat×α)}{i j:Nat}{b c:α}(h:Has K (A++(i,b)::(B++(j,c)::C))):i≠j:=by
 have hn:=h.1;simp only[List.map_append,List.map_cons] at hn;rw[List.nodup_append,List.nodup_cons] at hn;exact fun e=>hn.2.1.1 (e▸by simp)
end
end Go.Am
