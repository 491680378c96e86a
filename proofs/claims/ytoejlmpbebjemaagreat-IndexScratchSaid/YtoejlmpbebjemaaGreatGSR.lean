/- slices.SortFunc on boxes of terms, items and words, by the library's contract. Places of a heap (or of the tokens) that are known, each once.
  Conditions: lengths below 400 or 1000, as each theorem says. -/
import Derived.Test.YtoejlmpbebjemaaGreatAmD
import Derived.Test.YtoejlmpbebjemaaGreatGC
import Derived.Test.YtoejlmpbebjemaaGreatGA
set_option linter.all false
set_option maxRecDepth 100000
namespace eN
open ie Go.Proofs.YtoejlmpbebjemaaGreat
def jB (a:Ky):bS a a=false:=by simp[bS,sA]
def iy {a b c:Ky}(h1:bS a b=true)(h2:bS b c=true):bS a c=true:=by
 simp only[bS,aiq,ahG,ahH] at *;rcases h1 with h1|⟨h1,h3⟩
 ·rcases h2 with h2|⟨h2,_⟩<;>left<;>omega
 ·rcases h2 with h2|⟨h2,h4⟩
  ·left;omega
  ·exact .inr ⟨zO,uM _ _ _ h3 h4⟩
def mQ {a b:Ky}(h1:bS a b=false)(h2:bS b a=false):a=b:=by
 obtain⟨x,s⟩:=a;obtain⟨y,t⟩:=b;simp only[bS,ajV,ajP,aiP] at h1 h2;have e:x=y:=zO;subst e;have g1:slt s t=false:=by rcases h1.2 with h|h;exact absurd rfl h;exact h
 have g2:slt t s=false:=by rcases h2.2 with h|h;exact absurd rfl h;exact h
 rw[l0 _ _ g1 g2]
theorem H6 {a b:Ky}(h:bS a b=true):bS b a=false:=by
 cases h2:bS b a with
 |false=>rfl
 |true=>have:=iy h h2;rw[jB] at this;cases this
theorem vN {x y z:Ky}(h1:bS x y=false)(h2:bS y z=false):bS x z=false:=by
 cases h3:bS x z with
 |false=>rfl
 |true=>
  cases h4:bS y x with
  |true=>rw[iy h4 h3] at h2;cases h2
  |false=>rw[mQ h1 h4] at h3;rw[h3] at h2;cases h2
def vL (a:Nm):di a a=false:=by simp[di]
def oa (a b:Nm):di a b=true↔a.1<b.1\/(a.1=b.1/\a.2<b.2):=by
 simp[di]
def AR (a b:Nm):di a b=false↔¬(a.1<b.1\/(a.1=b.1/\a.2<b.2)):=by
 rw[<-oa];simp
def sC {a b c:Nm}(h1:di a b=true)(h2:di b c=true):di a c=true:=by
 rw[oa] at *;omega
def qw {a b c:Nm}(h1:di a b=false)(h2:di b c=false):di a c=false:=by
 rw[AR] at *;omega
def sD {a b:Nm}(h1:di a b=false)(h2:di b a=false):a=b:=by
 rw[AR] at *;exact Prod.ext zO zO
def IM {β:Type}(l:List (Ky×β)):List (Ky×β):=l.mergeSort λx y=>!(bS y.1 x.1)
def pT (l:List Nm):List Nm:=l.mergeSort λx y=>!(di y x)
def jM (l:List Wd):List Wd:=l.mergeSort λx y=>!(decide (y.2<x.2))
end eN
namespace Go.Proofs.YtoejlmpbebjemaaGreat
open Go.Proofs.Tryz(prog)
open Go Go.Am Go.Shelf Go.Sort ie eN
def bears {P : Program} {f : FuncId} {F B : Func} (hf : P.funcs[f]? = some F) (hn : (F.name == "runtime.NumGoroutine") = false) (h : F = { B with name := F.name }) : Bears P f B := ⟨F.name, hn, hf.trans (congrArg some h)⟩
def Zf:Ren:=⟨fun|6=>127|14=>176|15=>159|20=>201|21=>202|22=>203|23=>204|24=>205|25=>206|26=>207|27=>208|28=>197|29=>198|46=>239|47=>227|48=>228|49=>240|50=>241|57=>253|x=>x,
 fun|22=>64|24=>171|25=>177|39=>225|45=>249|46=>250|50=>180|53=>256|55=>258|66=>275|70=>236|76=>290|77=>291|x=>x,λx=>x⟩
def UN : SlLaysF0.n6 prog Zf :=
  { mixed := by kernel_rfl
    f6 := bears Tryz.func127 (by kernel_rfl) (by kernel_rfl)
    f14 := bears Tryz.func176 (by kernel_rfl) (by kernel_rfl)
    f15 := Tryz.func159.trans (congrArg some (by kernel_rfl))
    f20 := bears Tryz.func201 (by kernel_rfl) (by kernel_rfl)
    f21 := bears Tryz.func202 (by kernel_rfl) (by kernel_rfl)
    f22 := bears Tryz.func203 (by kernel_rfl) (by kernel_rfl)
    f23 := bears Tryz.func204 (by kernel_rfl) (by kernel_rfl)
    f24 := bears Tryz.func205 (by kernel_rfl) (by kernel_rfl)
    f25 := bears Tryz.func206 (by kernel_rfl) (by kernel_rfl)
    f26 := bears Tryz.func207 (by kernel_rfl) (by kernel_rfl)
    f27 := bears Tryz.func208 (by kernel_rfl) (by kernel_rfl)
    f28 := Tryz.func197.trans (congrArg some (by kernel_rfl))
    f29 := Tryz.func198.trans (congrArg some (by kernel_rfl))
    f46 := bears Tryz.func239 (by kernel_rfl) (by kernel_rfl)
    f47 := Tryz.func227.trans (congrArg some (by kernel_rfl))
    f48 := Tryz.func228.trans (congrArg some (by kernel_rfl))
    f49 := bears Tryz.func240 (by kernel_rfl) (by kernel_rfl)
    f50 := bears Tryz.func241 (by kernel_rfl) (by kernel_rfl)
    f57 := bears Tryz.func253 (by kernel_rfl) (by kernel_rfl)
    t0 := Tryz.underlying0, a0 := Tryz.isAgg0, z0 := Tryz.sizeOf0, v0 := Tryz.zeroValue0
    t3 := Tryz.underlying3, a3 := Tryz.isAgg3, z3 := Tryz.sizeOf3, v3 := Tryz.zeroValue3
    t4 := Tryz.underlying4, a4 := Tryz.isAgg4, z4 := Tryz.sizeOf4, v4 := Tryz.zeroValue4
    t5 := Tryz.underlying5, a5 := Tryz.isAgg5, z5 := Tryz.sizeOf5, v5 := Tryz.zeroValue5
    t9 := Tryz.underlying9, a9 := Tryz.isAgg9, z9 := Tryz.sizeOf9, v9 := Tryz.zeroValue9
    t22 := Tryz.underlying64, a22 := Tryz.isAgg64, z22 := Tryz.sizeOf64, v22 := Tryz.zeroValue64
    t25 := Tryz.underlying177, a25 := Tryz.isAgg177, z25 := Tryz.sizeOf177, v25 := Tryz.zeroValue177
    t39 := Tryz.underlying225, a39 := Tryz.isAgg225, z39 := Tryz.sizeOf225, v39 := Tryz.zeroValue225
    t45 := Tryz.underlying249, a45 := Tryz.isAgg249, z45 := Tryz.sizeOf249, v45 := Tryz.zeroValue249
    t46 := Tryz.underlying250, a46 := Tryz.isAgg250, z46 := Tryz.sizeOf250, v46 := Tryz.zeroValue250
    t50 := Tryz.underlying180, a50 := Tryz.isAgg180, z50 := Tryz.sizeOf180, v50 := Tryz.zeroValue180
    t53 := Tryz.underlying256, a53 := Tryz.isAgg256, z53 := Tryz.sizeOf256, v53 := Tryz.zeroValue256
    t55 := Tryz.underlying258, a55 := Tryz.isAgg258, z55 := Tryz.sizeOf258, v55 := Tryz.zeroValue258
    t66 := Tryz.underlying275, a66 := Tryz.isAgg275, z66 := Tryz.sizeOf275, v66 := Tryz.zeroValue275
    t70 := Tryz.underlying236, a70 := Tryz.isAgg236, z70 := Tryz.sizeOf236, v70 := Tryz.zeroValue236
    t76 := Tryz.underlying290, a76 := Tryz.isAgg290, z76 := Tryz.sizeOf290, v76 := Tryz.zeroValue290
    t77 := Tryz.underlying291, a77 := Tryz.isAgg291, z77 := Tryz.sizeOf291, v77 := Tryz.zeroValue291 }
theorem kh:∀w,(isAgg (Zf.t 24)).run prog w=.ok true w:=Tryz.isAgg171
def Zg:Ren:=⟨fun|6=>128|14=>177|15=>159|20=>209|21=>210|22=>211|23=>212|24=>213|25=>214|26=>215|27=>216|28=>197|29=>198|46=>242|47=>227|48=>228|49=>243|50=>244|57=>254|x=>x,
 fun|22=>172|24=>175|25=>182|39=>225|45=>249|46=>250|50=>180|53=>256|55=>258|66=>275|70=>236|76=>290|77=>291|x=>x,λx=>x⟩
def Z7 : SlLaysF0.n6 prog Zg :=
  { mixed := by kernel_rfl
    f6 := bears Tryz.func128 (by kernel_rfl) (by kernel_rfl)
    f14 := bears Tryz.func177 (by kernel_rfl) (by kernel_rfl)
    f15 := Tryz.func159.trans (congrArg some (by kernel_rfl))
    f20 := bears Tryz.func209 (by kernel_rfl) (by kernel_rfl)
    f21 := bears Tryz.func210 (by kernel_rfl) (by kernel_rfl)
    f22 := bears Tryz.func211 (by kernel_rfl) (by kernel_rfl)
    f23 := bears Tryz.func212 (by kernel_rfl) (by kernel_rfl)
    f24 := bears Tryz.func213 (by kernel_rfl) (by kernel_rfl)
    f25 := bears Tryz.func214 (by kernel_rfl) (by kernel_rfl)
    f26 := bears Tryz.func215 (by kernel_rfl) (by kernel_rfl)
    f27 := bears Tryz.func216 (by kernel_rfl) (by kernel_rfl)
    f28 := Tryz.func197.trans (congrArg some (by kernel_rfl))
    f29 := Tryz.func198.trans (congrArg some (by kernel_rfl))
    f46 := bears Tryz.func242 (by kernel_rfl) (by kernel_rfl)
    f47 := Tryz.func227.trans (congrArg some (by kernel_rfl))
    f48 := Tryz.func228.trans (congrArg some (by kernel_rfl))
    f49 := bears Tryz.func243 (by kernel_rfl) (by kernel_rfl)
    f50 := bears Tryz.func244 (by kernel_rfl) (by kernel_rfl)
    f57 := bears Tryz.func254 (by kernel_rfl) (by kernel_rfl)
    t0 := Tryz.underlying0, a0 := Tryz.isAgg0, z0 := Tryz.sizeOf0, v0 := Tryz.zeroValue0
    t3 := Tryz.underlying3, a3 := Tryz.isAgg3, z3 := Tryz.sizeOf3, v3 := Tryz.zeroValue3
    t4 := Tryz.underlying4, a4 := Tryz.isAgg4, z4 := Tryz.sizeOf4, v4 := Tryz.zeroValue4
    t5 := Tryz.underlying5, a5 := Tryz.isAgg5, z5 := Tryz.sizeOf5, v5 := Tryz.zeroValue5
    t9 := Tryz.underlying9, a9 := Tryz.isAgg9, z9 := Tryz.sizeOf9, v9 := Tryz.zeroValue9
    t22 := Tryz.underlying172, a22 := Tryz.isAgg172, z22 := Tryz.sizeOf172, v22 := Tryz.zeroValue172
    t25 := Tryz.underlying182, a25 := Tryz.isAgg182, z25 := Tryz.sizeOf182, v25 := Tryz.zeroValue182
    t39 := Tryz.underlying225, a39 := Tryz.isAgg225, z39 := Tryz.sizeOf225, v39 := Tryz.zeroValue225
    t45 := Tryz.underlying249, a45 := Tryz.isAgg249, z45 := Tryz.sizeOf249, v45 := Tryz.zeroValue249
    t46 := Tryz.underlying250, a46 := Tryz.isAgg250, z46 := Tryz.sizeOf250, v46 := Tryz.zeroValue250
    t50 := Tryz.underlying180, a50 := Tryz.isAgg180, z50 := Tryz.sizeOf180, v50 := Tryz.zeroValue180
    t53 := Tryz.underlying256, a53 := Tryz.isAgg256, z53 := Tryz.sizeOf256, v53 := Tryz.zeroValue256
    t55 := Tryz.underlying258, a55 := Tryz.isAgg258, z55 := Tryz.sizeOf258, v55 := Tryz.zeroValue258
    t66 := Tryz.underlying275, a66 := Tryz.isAgg275, z66 := Tryz.sizeOf275, v66 := Tryz.zeroValue275
    t70 := Tryz.underlying236, a70 := Tryz.isAgg236, z70 := Tryz.sizeOf236, v70 := Tryz.zeroValue236
    t76 := Tryz.underlying290, a76 := Tryz.isAgg290, z76 := Tryz.sizeOf290, v76 := Tryz.zeroValue290
    t77 := Tryz.underlying291, a77 := Tryz.isAgg291, z77 := Tryz.sizeOf291, v77 := Tryz.zeroValue291 }
def W4:∀w,(isAgg (Zg.t 24)).run prog w=.ok true w:=Tryz.isAgg175
def Ze:Ren:=⟨fun|6=>153|14=>184|15=>159|20=>217|21=>218|22=>219|23=>220|24=>221|25=>222|26=>223|27=>224|28=>197|29=>198|46=>245|47=>227|48=>228|49=>246|50=>247|57=>255|x=>x,
 fun|22=>115|24=>136|25=>220|39=>225|45=>249|46=>250|50=>180|53=>256|55=>258|66=>275|70=>236|76=>290|77=>291|x=>x,λx=>x⟩
def Z6 : SlLaysF0.n6 prog Ze :=
  { mixed := by kernel_rfl
    f6 := bears Tryz.func153 (by kernel_rfl) (by kernel_rfl)
    f14 := bears Tryz.func184 (by kernel_rfl) (by kernel_rfl)
    f15 := Tryz.func159.trans (congrArg some (by kernel_rfl))
    f20 := bears Tryz.func217 (by kernel_rfl) (by kernel_rfl)
    f21 := bears Tryz.func218 (by kernel_rfl) (by kernel_rfl)
    f22 := bears Tryz.func219 (by kernel_rfl) (by kernel_rfl)
    f23 := bears Tryz.func220 (by kernel_rfl) (by kernel_rfl)
    f24 := bears Tryz.func221 (by kernel_rfl) (by kernel_rfl)
    f25 := bears Tryz.func222 (by kernel_rfl) (by kernel_rfl)
    f26 := bears Tryz.func223 (by kernel_rfl) (by kernel_rfl)
    f27 := bears Tryz.func224 (by kernel_rfl) (by kernel_rfl)
    f28 := Tryz.func197.trans (congrArg some (by kernel_rfl))
    f29 := Tryz.func198.trans (congrArg some (by kernel_rfl))
    f46 := bears Tryz.func245 (by kernel_rfl) (by kernel_rfl)
    f47 := Tryz.func227.trans (congrArg some (by kernel_rfl))
    f48 := Tryz.func228.trans (congrArg some (by kernel_rfl))
    f49 := bears Tryz.func246 (by kernel_rfl) (by kernel_rfl)
    f50 := bears Tryz.func247 (by kernel_rfl) (by kernel_rfl)
    f57 := bears Tryz.func255 (by kernel_rfl) (by kernel_rfl)
    t0 := Tryz.underlying0, a0 := Tryz.isAgg0, z0 := Tryz.sizeOf0, v0 := Tryz.zeroValue0
    t3 := Tryz.underlying3, a3 := Tryz.isAgg3, z3 := Tryz.sizeOf3, v3 := Tryz.zeroValue3
    t4 := Tryz.underlying4, a4 := Tryz.isAgg4, z4 := Tryz.sizeOf4, v4 := Tryz.zeroValue4
    t5 := Tryz.underlying5, a5 := Tryz.isAgg5, z5 := Tryz.sizeOf5, v5 := Tryz.zeroValue5
    t9 := Tryz.underlying9, a9 := Tryz.isAgg9, z9 := Tryz.sizeOf9, v9 := Tryz.zeroValue9
    t22 := Tryz.underlying115, a22 := Tryz.isAgg115, z22 := Tryz.sizeOf115, v22 := Tryz.zeroValue115
    t25 := Tryz.underlying220, a25 := Tryz.isAgg220, z25 := Tryz.sizeOf220, v25 := Tryz.zeroValue220
    t39 := Tryz.underlying225, a39 := Tryz.isAgg225, z39 := Tryz.sizeOf225, v39 := Tryz.zeroValue225
    t45 := Tryz.underlying249, a45 := Tryz.isAgg249, z45 := Tryz.sizeOf249, v45 := Tryz.zeroValue249
    t46 := Tryz.underlying250, a46 := Tryz.isAgg250, z46 := Tryz.sizeOf250, v46 := Tryz.zeroValue250
    t50 := Tryz.underlying180, a50 := Tryz.isAgg180, z50 := Tryz.sizeOf180, v50 := Tryz.zeroValue180
    t53 := Tryz.underlying256, a53 := Tryz.isAgg256, z53 := Tryz.sizeOf256, v53 := Tryz.zeroValue256
    t55 := Tryz.underlying258, a55 := Tryz.isAgg258, z55 := Tryz.sizeOf258, v55 := Tryz.zeroValue258
    t66 := Tryz.underlying275, a66 := Tryz.isAgg275, z66 := Tryz.sizeOf275, v66 := Tryz.zeroValue275
    t70 := Tryz.underlying236, a70 := Tryz.isAgg236, z70 := Tryz.sizeOf236, v70 := Tryz.zeroValue236
    t76 := Tryz.underlying290, a76 := Tryz.isAgg290, z76 := Tryz.sizeOf290, v76 := Tryz.zeroValue290
    t77 := Tryz.underlying291, a77 := Tryz.isAgg291, z77 := Tryz.sizeOf291, v77 := Tryz.zeroValue291 }
def W3:∀w,(isAgg (Ze.t 24)).run prog w=.ok true w:=Tryz.isAgg136
abbrev QX (x:Ky×AV):List AV:=[.int .i64 x.1.1,.str x.1.2,x.2]
def eK (l:List (Ky×AV)):List AV:=l.flatMap λx=>[.int .i64 x.1.1,.str x.1.2,x.2]
def SY:eE QX 3:=λ_=>rfl
def tG (l:List (Ky×AV)):(eK l).length=l.length*3:=cj SY l
theorem ltK:ltOf r9=bS:=by
 funext x y
 have:=tT x y
 cases h:bS x y with
 |true=>exact ahx (this.2 h)
 |false=>exact ahy (λq=>by rw[this.1 q] at h;cases h)
theorem ltN:ltOf xg=di:=by
 funext x y
 have:=Ff x y
 cases h:di x y with
 |true=>exact ahx (this.2 h)
 |false=>exact ahy (λq=>by rw[this.1 q] at h;cases h)
def ltI:ltOf mu=λx y=>decide (x<y):=by
 funext x y
 exact decide_eq_decide.2 (qn x y)
theorem WM (x:Ky)(u:AV):Vis [.int .i64 x.1,.str x.2,u] [.int .i64 x.1,.str x.2,.top]:=⟨rfl,λj hj=>by
 match j,hj with
 |0,_=>exact .inr ⟨rfl,.int _ _⟩
 |1,_=>exact .inr ⟨rfl,.str _⟩
 |2,_=>exact .inl rfl⟩
theorem WL (s:Bs)(n:Int):Vis [.str s,.int .i64 n] [.top,.int .i64 n]:=⟨rfl,λj hj=>by
 match j,hj with
 |0,_=>exact .inl rfl
 |1,_=>exact .inr ⟨rfl,.int _ _⟩⟩
theorem Lk (l : List (Ky × AV)) (dM : l ≠ []) (hT : l.Pairwise λx y => x.1 ≠ y.1) (rest : List AV) (i cap : Nat) (hl : l.length <= 1099511627776) (H : List aA) (T : au) (hi : H[i]? = some (.cells (eK l ++ rest))) :
    aq prog 127 [.bQ i l.length cap, .fn 111 [] []] H T (Is (.dn []) (H.set i (.cells (eK (IM l) ++ rest))) T) := by
  have hm : ∀ l : List (Ky × AV), (l.map λx => (x.1, QX x)).flatMap (·.2) = eK l := λl => by simp [eK, aiK]
  have h := Ed (H := H) (T := T) UN (k := 3) kh Tryz.sizeOf171 (by omega) rfl (κ := Ky) (λx => [.int .i64 x.1, .str x.2, .top]) r9 (by rw [ltK]; exact ⟨jB, λ_ _ _ => iy, λ_ _ _ => vN⟩)
    111 (λ_ _ => Tryz.call127 _ _) (l.map λx => (x.1, QX x)) (by simpa using dM)
    (λx hx => by obtain ⟨y, _, rfl⟩ := ahz.1 hx; rfl) (λx hx => by obtain ⟨y, _, rfl⟩ := ahz.1 hx; exact WM y.1 y.2)
    (by rw [ltK, aie]; exact hT.imp λ{a b} j9 => by
          cases h1 : bS a.1 b.1 with
          | true => exact .inl rfl
          | false => cases h2 : bS b.1 a.1 with
            | true => exact .inr rfl
            | false => exact absurd (mQ h1 h2) j9)
    (λx _ y _ => ri x.1 y.1 .top .top [] []) rest i cap (by rw [hm]; exact hi) (by rw [ahL]; omega)
  rw [ltK, ahL] at h;have e := List.map_mergeSort (r := λx y => !(bS y.1 x.1)) (s := λ(x y : Ky × List AV) => !(bS y.1 x.1)) (f := λx : Ky × AV => (x.1, QX x)) (l := l) (λa _ b _ => rfl);rw [<- e, hm] at h;exact h
theorem encI:Sa (λx:Nm=>[Value.int .i64 x.1,Value.int .i64 x.2]) wA 2 where
 pos:=zD
 len _:=rfl
 BB _:=rfl
 one x v hv:=by simp at hv;rcases hv with rfl|rfl<;>rfl
 rep x j hj L N T w v:=by
  match j,hj with
  |0,_=>exact⟨λh=>by cases h;rfl,λh=>by subst h;exact .int _ _⟩
  |1,_=>exact⟨λh=>by cases h;rfl,λh=>by subst h;exact .int _ _⟩
def Lm (l:List Nm)(rest:List AV)(i cap:Nat)(hl:l.length<=1099511627776)(H:List aA)(T:au)(hi:H[i]?=some (.cells (bG l++rest))) :
  aq prog 128 [.bQ i l.length cap,.fn 114 [] []] H T (Is (.dn []) (H.set i (.cells (bG (pT l)++rest))) T):=by
 have h:=Pp (H:=H) (T:=T) Z7 (k:=2) W4 Tryz.sizeOf175 encI rfl xg (by rw[ltN];exact⟨vL,λ_ _ _=>sC,λ_ _ _=>qw⟩) (by rw[ltN];exact λ_ _=>sD) 114 (λx y=>vQ x y [] []) (λ_ _=>Tryz.call128 _ _) l rest i cap hi zO;rw[ltN] at h;exact h
def Li (l:List Wd)(dM:l≠[])(hT:l.Pairwise λx y=>x.2≠y.2)(rest:List AV)(i cap:Nat)(hl:l.length<=1099511627776)(H:List aA)(T:au)(hi:H[i]?=some (.cells (dX l++rest))) :
  aq prog 153 [.bQ i l.length cap,.fn 154 [] []] H T (Is (.dn []) (H.set i (.cells (dX (jM l)++rest))) T):=by
 have hm:∀l:List Wd,(l.map λx=>(x.2,Ry x)).flatMap (·.2)=dX l:=λl=>by simp[dX,aiK]
 have h:=Ed (H:=H) (T:=T) Z6 (k:=2) W3 Tryz.sizeOf136 zO rfl (κ:=Int) (λx=>[.top,.int .i64 x]) mu (by rw[ltI];exact⟨λ_=>by simp,λ_ _ _ h1 h2=>by simp only[ahH] at *;omega,λ_ _ _ h1 h2=>by simp only[aiP] at *;omega⟩)
  154 (λ_ _=>Tryz.call153 _ _) (l.map λx=>(x.2,Ry x)) (zU dM)
  (λx hx=>by obtain⟨y,_,rfl⟩:=ahz.1 hx;rfl) (λx hx=>by obtain⟨y,_,rfl⟩:=ahz.1 hx;exact WL y.1 y.2)
  (by rw[ltI,aie];exact hT.imp λ{a b} j9=>by simp only[ahH];omega)
  (λx _ y _=>QK x.1 y.1 .top .top [] []) rest i cap (by rw[hm];exact hi) (by rw[ahL];omega)
 rw[ltI,ahL] at h;have e:=List.map_mergeSort (r:=λx y=>!(decide (y.2<x.2))) (s:=fun(x y:Int×List AV)=>!(decide (y.1<x.1))) (f:=λx:Wd=>(x.2,Ry x)) (l:=l) (λa _ b _=>rfl);rw[<-e,hm] at h;exact h
def HB (H:List aA)(T:au)(tg:Tag):aq prog 127 [.sl 0 [] tg,.fn 111 [] []] H T (Is (.dn []) H T):=
 Pr UN 111 (λ_ _=>Tryz.call127 _ _) tg
end Go.Proofs.YtoejlmpbebjemaaGreat
namespace Go.Am
open Go
def Has {α:Type}(K:List α)(S:List (Nat×α)):Prop:=(S.map (·.1)).Nodup/\∀p∈S,K[p.1]?=some p.2
section
variable {α : Type} {K : List α} {S : List (Nat × α)}
def Has.get (h:Has K S){i:Nat}{b:α}(hm:(i,b)∈S):K[i]?=some b:=h.2 _ hm
def Has.lt (h:Has K S){i:Nat}{b:α}(hm:(i,b)∈S):i<K.length:=(aht.1 (h.get hm)).1
def Has.app (h:Has K S)(X:List α):Has (K++X) S:=⟨h.1,λp hp=>by rw[ahB (h.lt (b:=p.2) hp)];exact h.2 p hp⟩
def Has.new (h:Has K S)(b:α):Has (K++[b]) (S++[(K.length,b)]):=by
 refine⟨?_,λp hp=>?_⟩
 ·rw[ahJ,aif];refine⟨h.1,zS,λx hx y hy=>?_⟩;obtain⟨p,hp,rfl⟩:=ahz.1 hx;have:=h.lt (b:=p.2) hp;simp at hy;omega
 ·rcases ahI.1 hp with hp|hp
  ·exact(h.app [b]).2 p hp
  ·simp at hp;subst hp;simp
def Has.perm {S':List (Nat×α)}(h:Has K S)(hp:S'.Perm S):Has K S':=⟨(hp.map _).nodup_iff.2 h.1,λp hq=>h.2 p (hp.mem_iff.1 hq)⟩
def Has.sub {S':List (Nat×α)}(h:Has K S)(hs:S'.Sublist S):Has K S':=⟨h.1.sublist (hs.map _),λp hq=>h.2 p (hs.subset hq)⟩
theorem Has.set {A B:List (Nat×α)}{i:Nat}{b:α}(h:Has K (A++(i,b)::B))(b':α):Has (K.set i b') (A++(i,b')::B):=by
 have hl:i<K.length:=h.lt (b:=b) zS;have hn:=h.1;rw[ahJ,aih] at hn;refine⟨by rw[ahJ,aih];exact hn,λp hp=>?_⟩;rw[aif,ajM] at hn;obtain⟨_,⟨n1,_⟩,n2⟩:=hn;rcases ahI.1 hp with hp|hp
 ·have dM:i≠p.1:=λe=>n2 p.1 (ahz.2 ⟨p,hp,rfl⟩) i zS e.symm;rw[ail dM];exact h.2 p (by simp[hp])
 ·rcases ah4.1 hp with rfl|hp
  ·rw[ahZ hl]
  ·have dM:i≠p.1:=λe=>n1 (e▸ahz.2 ⟨p,hp,rfl⟩);rw[ail dM];exact h.2 p (by simp[hp])
def Has.put (h:Has K S){i:Nat}{b:α}(hm:(i,b)∈S)(b':α){S':List (Nat×α)}(hs:∃A B,S=A++(i,b)::B/\S'=A++(i,b')::B):Has (K.set i b') S':=by
 obtain⟨A,B,rfl,rfl⟩:=hs;exact h.set b'
def Has.ne {A B C:List (Nat×α)}{i j:Nat}{b c:α}(h:Has K (A++(i,b)::(B++(j,c)::C))):i≠j:=by
 have hn:=h.1;simp only[ahJ,aih] at hn;rw[aif,ajM] at hn;exact λe=>hn.2.1.1 (e▸by simp)
end
end Go.Am
