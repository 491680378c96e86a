/- slices.SortFunc on boxes of terms, items and words, by the library's contract. Places of a heap (or of the tokens) that are known, each once.
  Conditions: lengths below 400 or 1000, as each theorem says. -/
import Derived.Test.YtneohapkboaplaaGreatAmD
import Derived.Test.YtneohapkboaplaaGreatGC
import Derived.Test.YtneohapkboaplaaGreatGA
set_option linter.all false
set_option maxRecDepth 100000
namespace eB
open gH Go.Proofs.YtneohapkboaplaaGreat
theorem gM (a:Ky):bU a a=false:=by simp[bU,u6]
theorem fJ {a b c:Ky}(h1:bU a b=true)(h2:bU b c=true):bU a c=true:=by
 simp only[bU,Bool.or_eq_true,Bool.and_eq_true,decide_eq_true_eq] at *;rcases h1 with h1|⟨h1,h3⟩
 ·rcases h2 with h2|⟨h2,_⟩<;>left<;>omega
 ·rcases h2 with h2|⟨h2,h4⟩
  ·left;omega
  ·exact .inr ⟨by omega,Gf _ _ _ h3 h4⟩
theorem ki {a b:Ky}(h1:bU a b=false)(h2:bU b a=false):a=b:=by
 obtain⟨x,s⟩:=a;obtain⟨y,t⟩:=b;simp only[bU,Bool.or_eq_false_iff,Bool.and_eq_false_iff,decide_eq_false_iff_not] at h1 h2;have e:x=y:=by omega
 subst e;have g1:slt s t=false:=by rcases h1.2 with h|h;exact absurd rfl h;exact h
 have g2:slt t s=false:=by rcases h2.2 with h|h;exact absurd rfl h;exact h
 rw[rG _ _ g1 g2]
theorem Df {a b:Ky}(h:bU a b=true):bU b a=false:=by
 cases h2:bU b a with
 |false=>rfl
 |true=>have:=fJ h h2;rw[gM] at this;cases this
theorem sC {x y z:Ky}(h1:bU x y=false)(h2:bU y z=false):bU x z=false:=by
 cases h3:bU x z with
 |false=>rfl
 |true=>
  cases h4:bU y x with
  |true=>rw[fJ h4 h3] at h2;cases h2
  |false=>rw[ki h1 h4] at h3;rw[h3] at h2;cases h2
theorem sA (a:Nm):dJ a a=false:=by simp[dJ]
theorem lF (a b:Nm):dJ a b=true↔a.1<b.1∨(a.1=b.1∧a.2<b.2):=by
 simp[dJ]
theorem wJ (a b:Nm):dJ a b=false↔¬(a.1<b.1∨(a.1=b.1∧a.2<b.2)):=by
 rw[←lF];simp
theorem pB {a b c:Nm}(h1:dJ a b=true)(h2:dJ b c=true):dJ a c=true:=by
 rw[lF] at *;omega
theorem nV {a b c:Nm}(h1:dJ a b=false)(h2:dJ b c=false):dJ a c=false:=by
 rw[wJ] at *;omega
theorem pC {a b:Nm}(h1:dJ a b=false)(h2:dJ b a=false):a=b:=by
 rw[wJ] at *;exact Prod.ext (by omega) (by omega)
def DT {β:Type}(l:List (Ky×β)):List (Ky×β):=l.mergeSort fun x y=>!(bU y.1 x.1)
def nz (l:List Nm):List Nm:=l.mergeSort fun x y=>!(dJ y x)
def ui (l:List Wd):List Wd:=l.mergeSort fun x y=>!(decide (y.2<x.2))
end eB
namespace Go.Proofs.YtneohapkboaplaaGreat
open Go Go.Am Go.Shelf Go.Sort gH eB
theorem bears {P : Program} {f : FuncId} {F B : Func} (hf : P.funcs[f]? = some F) (hn : (F.name == "runtime.NumGoroutine") = false) (h : F = { B with name := F.name }) : Bears P f B := ⟨F.name, hn, hf.trans (congrArg some h)⟩
def S0:Ren:=⟨fun|6=>62|14=>141|15=>142|20=>178|21=>179|22=>180|23=>181|24=>182|25=>183|26=>184|27=>185|28=>186|29=>187|46=>218|47=>219|48=>220|49=>221|50=>222|57=>233|x=>x,
 fun|22=>26|24=>117|25=>119|39=>200|45=>232|46=>233|50=>140|53=>239|55=>218|66=>256|70=>215|76=>267|77=>225|x=>x,fun x=>x⟩
theorem Oq : SlLaysF0.n6 Tryz.prog S0 :=
  { mixed := by kernel_rfl
    f6 := bears Tryz.func62 (by kernel_rfl) (by kernel_rfl)
    f14 := bears Tryz.func141 (by kernel_rfl) (by kernel_rfl)
    f15 := Tryz.func142.trans (congrArg some (by kernel_rfl))
    f20 := bears Tryz.func178 (by kernel_rfl) (by kernel_rfl)
    f21 := bears Tryz.func179 (by kernel_rfl) (by kernel_rfl)
    f22 := bears Tryz.func180 (by kernel_rfl) (by kernel_rfl)
    f23 := bears Tryz.func181 (by kernel_rfl) (by kernel_rfl)
    f24 := bears Tryz.func182 (by kernel_rfl) (by kernel_rfl)
    f25 := bears Tryz.func183 (by kernel_rfl) (by kernel_rfl)
    f26 := bears Tryz.func184 (by kernel_rfl) (by kernel_rfl)
    f27 := bears Tryz.func185 (by kernel_rfl) (by kernel_rfl)
    f28 := Tryz.func186.trans (congrArg some (by kernel_rfl))
    f29 := Tryz.func187.trans (congrArg some (by kernel_rfl))
    f46 := bears Tryz.func218 (by kernel_rfl) (by kernel_rfl)
    f47 := Tryz.func219.trans (congrArg some (by kernel_rfl))
    f48 := Tryz.func220.trans (congrArg some (by kernel_rfl))
    f49 := bears Tryz.func221 (by kernel_rfl) (by kernel_rfl)
    f50 := bears Tryz.func222 (by kernel_rfl) (by kernel_rfl)
    f57 := bears Tryz.func233 (by kernel_rfl) (by kernel_rfl)
    t0 := Tryz.underlying0, a0 := Tryz.isAgg0, z0 := Tryz.sizeOf0, v0 := Tryz.zeroValue0
    t3 := Tryz.underlying3, a3 := Tryz.isAgg3, z3 := Tryz.sizeOf3, v3 := Tryz.zeroValue3
    t4 := Tryz.underlying4, a4 := Tryz.isAgg4, z4 := Tryz.sizeOf4, v4 := Tryz.zeroValue4
    t5 := Tryz.underlying5, a5 := Tryz.isAgg5, z5 := Tryz.sizeOf5, v5 := Tryz.zeroValue5
    t9 := Tryz.underlying9, a9 := Tryz.isAgg9, z9 := Tryz.sizeOf9, v9 := Tryz.zeroValue9
    t22 := Tryz.underlying26, a22 := Tryz.isAgg26, z22 := Tryz.sizeOf26, v22 := Tryz.zeroValue26
    t25 := Tryz.underlying119, a25 := Tryz.isAgg119, z25 := Tryz.sizeOf119, v25 := Tryz.zeroValue119
    t39 := Tryz.underlying200, a39 := Tryz.isAgg200, z39 := Tryz.sizeOf200, v39 := Tryz.zeroValue200
    t45 := Tryz.underlying232, a45 := Tryz.isAgg232, z45 := Tryz.sizeOf232, v45 := Tryz.zeroValue232
    t46 := Tryz.underlying233, a46 := Tryz.isAgg233, z46 := Tryz.sizeOf233, v46 := Tryz.zeroValue233
    t50 := Tryz.underlying140, a50 := Tryz.isAgg140, z50 := Tryz.sizeOf140, v50 := Tryz.zeroValue140
    t53 := Tryz.underlying239, a53 := Tryz.isAgg239, z53 := Tryz.sizeOf239, v53 := Tryz.zeroValue239
    t55 := Tryz.underlying218, a55 := Tryz.isAgg218, z55 := Tryz.sizeOf218, v55 := Tryz.zeroValue218
    t66 := Tryz.underlying256, a66 := Tryz.isAgg256, z66 := Tryz.sizeOf256, v66 := Tryz.zeroValue256
    t70 := Tryz.underlying215, a70 := Tryz.isAgg215, z70 := Tryz.sizeOf215, v70 := Tryz.zeroValue215
    t76 := Tryz.underlying267, a76 := Tryz.isAgg267, z76 := Tryz.sizeOf267, v76 := Tryz.zeroValue267
    t77 := Tryz.underlying225, a77 := Tryz.isAgg225, z77 := Tryz.sizeOf225, v77 := Tryz.zeroValue225 }
theorem iv:∀w,(isAgg (S0.t 24)).run Tryz.prog w=.ok true w:=Tryz.isAgg117
def S1:Ren:=⟨fun|6=>64|14=>145|15=>142|20=>189|21=>190|22=>191|23=>192|24=>193|25=>194|26=>195|27=>196|28=>186|29=>187|46=>223|47=>219|48=>220|49=>224|50=>225|57=>234|x=>x,
 fun|22=>113|24=>115|25=>121|39=>200|45=>232|46=>233|50=>140|53=>239|55=>218|66=>256|70=>215|76=>267|77=>225|x=>x,fun x=>x⟩
theorem TF : SlLaysF0.n6 Tryz.prog S1 :=
  { mixed := by kernel_rfl
    f6 := bears Tryz.func64 (by kernel_rfl) (by kernel_rfl)
    f14 := bears Tryz.func145 (by kernel_rfl) (by kernel_rfl)
    f15 := Tryz.func142.trans (congrArg some (by kernel_rfl))
    f20 := bears Tryz.func189 (by kernel_rfl) (by kernel_rfl)
    f21 := bears Tryz.func190 (by kernel_rfl) (by kernel_rfl)
    f22 := bears Tryz.func191 (by kernel_rfl) (by kernel_rfl)
    f23 := bears Tryz.func192 (by kernel_rfl) (by kernel_rfl)
    f24 := bears Tryz.func193 (by kernel_rfl) (by kernel_rfl)
    f25 := bears Tryz.func194 (by kernel_rfl) (by kernel_rfl)
    f26 := bears Tryz.func195 (by kernel_rfl) (by kernel_rfl)
    f27 := bears Tryz.func196 (by kernel_rfl) (by kernel_rfl)
    f28 := Tryz.func186.trans (congrArg some (by kernel_rfl))
    f29 := Tryz.func187.trans (congrArg some (by kernel_rfl))
    f46 := bears Tryz.func223 (by kernel_rfl) (by kernel_rfl)
    f47 := Tryz.func219.trans (congrArg some (by kernel_rfl))
    f48 := Tryz.func220.trans (congrArg some (by kernel_rfl))
    f49 := bears Tryz.func224 (by kernel_rfl) (by kernel_rfl)
    f50 := bears Tryz.func225 (by kernel_rfl) (by kernel_rfl)
    f57 := bears Tryz.func234 (by kernel_rfl) (by kernel_rfl)
    t0 := Tryz.underlying0, a0 := Tryz.isAgg0, z0 := Tryz.sizeOf0, v0 := Tryz.zeroValue0
    t3 := Tryz.underlying3, a3 := Tryz.isAgg3, z3 := Tryz.sizeOf3, v3 := Tryz.zeroValue3
    t4 := Tryz.underlying4, a4 := Tryz.isAgg4, z4 := Tryz.sizeOf4, v4 := Tryz.zeroValue4
    t5 := Tryz.underlying5, a5 := Tryz.isAgg5, z5 := Tryz.sizeOf5, v5 := Tryz.zeroValue5
    t9 := Tryz.underlying9, a9 := Tryz.isAgg9, z9 := Tryz.sizeOf9, v9 := Tryz.zeroValue9
    t22 := Tryz.underlying113, a22 := Tryz.isAgg113, z22 := Tryz.sizeOf113, v22 := Tryz.zeroValue113
    t25 := Tryz.underlying121, a25 := Tryz.isAgg121, z25 := Tryz.sizeOf121, v25 := Tryz.zeroValue121
    t39 := Tryz.underlying200, a39 := Tryz.isAgg200, z39 := Tryz.sizeOf200, v39 := Tryz.zeroValue200
    t45 := Tryz.underlying232, a45 := Tryz.isAgg232, z45 := Tryz.sizeOf232, v45 := Tryz.zeroValue232
    t46 := Tryz.underlying233, a46 := Tryz.isAgg233, z46 := Tryz.sizeOf233, v46 := Tryz.zeroValue233
    t50 := Tryz.underlying140, a50 := Tryz.isAgg140, z50 := Tryz.sizeOf140, v50 := Tryz.zeroValue140
    t53 := Tryz.underlying239, a53 := Tryz.isAgg239, z53 := Tryz.sizeOf239, v53 := Tryz.zeroValue239
    t55 := Tryz.underlying218, a55 := Tryz.isAgg218, z55 := Tryz.sizeOf218, v55 := Tryz.zeroValue218
    t66 := Tryz.underlying256, a66 := Tryz.isAgg256, z66 := Tryz.sizeOf256, v66 := Tryz.zeroValue256
    t70 := Tryz.underlying215, a70 := Tryz.isAgg215, z70 := Tryz.sizeOf215, v70 := Tryz.zeroValue215
    t76 := Tryz.underlying267, a76 := Tryz.isAgg267, z76 := Tryz.sizeOf267, v76 := Tryz.zeroValue267
    t77 := Tryz.underlying225, a77 := Tryz.isAgg225, z77 := Tryz.sizeOf225, v77 := Tryz.zeroValue225 }
theorem Qs:∀w,(isAgg (S1.t 24)).run Tryz.prog w=.ok true w:=Tryz.isAgg115
abbrev Lf (x:Ky×AV):List AV:=[.int .i64 x.1.1,.str x.1.2,x.2]
def dV (l:List (Ky×AV)):List AV:=l.flatMap fun x=>[.int .i64 x.1.1,.str x.1.2,x.2]
theorem MC:fI Lf 3:=fun _=>rfl
theorem qs (l:List (Ky×AV)):(dV l).length=l.length*3:=dm MC l
theorem Zt:ltOf ph=bU:=by
 funext x y
 have:=qD x y
 cases h:bU x y with
 |true=>exact decide_eq_true (this.2 h)
 |false=>exact decide_eq_false (fun q=>by rw[this.1 q] at h;cases h)
theorem Zs:ltOf ud=dJ:=by
 funext x y
 have:=AA x y
 cases h:dJ x y with
 |true=>exact decide_eq_true (this.2 h)
 |false=>exact decide_eq_false (fun q=>by rw[this.1 q] at h;cases h)
theorem Qa (x:Ky)(u:AV):Vis [.int .i64 x.1,.str x.2,u] [.int .i64 x.1,.str x.2,.top]:=⟨rfl,fun j hj=>by
 match j,hj with
 |0,_=>exact .inr ⟨rfl,.int _ _⟩
 |1,_=>exact .inr ⟨rfl,.str _⟩
 |2,_=>exact .inl rfl⟩
theorem F8 (l : List (Ky × AV)) (dW : l ≠ []) (hT : l.Pairwise fun x y => x.1 ≠ y.1) (rest : List AV) (i cap : Nat) (hl : l.length ≤ 1099511627776) (H : List aG) (T : ay) (hi : H[i]? = some (.cells (dV l ++ rest))) :
    al Tryz.prog 62 [.dP i l.length cap, .fn 63 [] []] H T (Is (.cJ []) (H.set i (.cells (dV (DT l) ++ rest))) T) := by
  have hm : ∀ l : List (Ky × AV), (l.map fun x => (x.1, Lf x)).flatMap (·.2) = dV l := fun l => by simp [dV, List.flatMap_map]
  have h := Jt (H := H) (T := T) Oq (k := 3) iv Tryz.sizeOf117 (by omega) rfl (κ := Ky) (fun x => [.int .i64 x.1, .str x.2, .top]) ph (by rw [Zt]; exact ⟨gM, fun _ _ _ => fJ, fun _ _ _ => sC⟩)
    63 (fun _ _ => Tryz.call62 _ _) (l.map fun x => (x.1, Lf x)) (by simpa using dW)
    (fun x hx => by obtain ⟨y, _, rfl⟩ := List.mem_map.1 hx; rfl) (fun x hx => by obtain ⟨y, _, rfl⟩ := List.mem_map.1 hx; exact Qa y.1 y.2)
    (by rw [Zt, List.pairwise_map]; exact hT.imp fun {a b} jA => by
          cases h1 : bU a.1 b.1 with
          | true => exact .inl rfl
          | false => cases h2 : bU b.1 a.1 with
            | true => exact .inr rfl
            | false => exact absurd (ki h1 h2) jA)
    (fun x _ y _ => oG x.1 y.1 .top .top [] []) rest i cap (by rw [hm]; exact hi) (by rw [List.length_map]; omega)
  rw [Zt, List.length_map] at h;have e := List.map_mergeSort (r := fun x y => !(bU y.1 x.1)) (s := fun (x y : Ky × List AV) => !(bU y.1 x.1)) (f := fun x : Ky × AV => (x.1, Lf x)) (l := l) (fun a _ b _ => rfl);rw [← e, hm] at h;exact h
theorem encI:Og (fun x:Nm=>[Value.int .i64 x.1,Value.int .i64 x.2]) BR 2 where
 pos:=by decide
 len _:=rfl
 yI _:=rfl
 one x v hv:=by simp at hv;rcases hv with rfl|rfl<;>rfl
 rep x j hj L N T w v:=by
  match j,hj with
  |0,_=>exact⟨fun h=>by cases h;rfl,fun h=>by subst h;exact .int _ _⟩
  |1,_=>exact⟨fun h=>by cases h;rfl,fun h=>by subst h;exact .int _ _⟩
theorem F9 (l:List Nm)(rest:List AV)(i cap:Nat)(hl:l.length≤1099511627776)(H:List aG)(T:ay)(hi:H[i]?=some (.cells (br l++rest))) :
  al Tryz.prog 64 [.dP i l.length cap,.fn 65 [] []] H T (Is (.cJ []) (H.set i (.cells (br (nz l)++rest))) T):=by
 have h:=Ju (H:=H) (T:=T) TF (k:=2) Qs Tryz.sizeOf115 encI rfl ud (by rw[Zs];exact⟨sA,fun _ _ _=>pB,fun _ _ _=>nV⟩) (by rw[Zs];exact fun _ _=>pC) 65 (fun x y=>sH x y [] []) (fun _ _=>Tryz.call64 _ _) l rest i cap hi (by omega);rw[Zs] at h;exact h
theorem CQ (H:List aG)(T:ay)(tg:Tag):al Tryz.prog 62 [.sl 0 [] tg,.fn 63 [] []] H T (Is (.cJ []) H T):=
 Jw Oq 63 (fun _ _=>Tryz.call62 _ _) tg
end Go.Proofs.YtneohapkboaplaaGreat
namespace Go.Am
open Go
def Has {α:Type}(K:List α)(S:List (Nat×α)):Prop:=(S.map (·.1)).Nodup∧∀p∈S,K[p.1]?=some p.2
section
variable {α : Type} {K : List α} {S : List (Nat × α)}
theorem Has.get (h:Has K S){i:Nat}{b:α}(hm:(i,b)∈S):K[i]?=some b:=h.2 _ hm
theorem Has.lt (h:Has K S){i:Nat}{b:α}(hm:(i,b)∈S):i<K.length:=(List.getElem?_eq_some_iff.1 (h.get hm)).1
theorem Has.app (h:Has K S)(X:List α):Has (K++X) S:=⟨h.1,fun p hp=>by rw[List.getElem?_append_left (h.lt (b:=p.2) hp)];exact h.2 p hp⟩
theorem Has.new (h:Has K S)(b:α):Has (K++[b]) (S++[(K.length,b)]):=by
 refine⟨?_,fun p hp=>?_⟩
 ·rw[List.map_append,List.nodup_append];refine⟨h.1,by simp,fun x hx y hy=>?_⟩;obtain⟨p,hp,rfl⟩:=List.mem_map.1 hx;have:=h.lt (b:=p.2) hp;simp at hy;omega
 ·rcases List.mem_append.1 hp with hp|hp
  ·exact(h.app [b]).2 p hp
  ·simp at hp;subst hp;simp
theorem Has.perm {S':List (Nat×α)}(h:Has K S)(hp:S'.Perm S):Has K S':=⟨(hp.map _).nodup_iff.2 h.1,fun p hq=>h.2 p (hp.mem_iff.1 hq)⟩
theorem Has.sub {S':List (Nat×α)}(h:Has K S)(hs:S'.Sublist S):Has K S':=⟨h.1.sublist (hs.map _),fun p hq=>h.2 p (hs.subset hq)⟩
theorem Has.set {A B:List (Nat×α)}{i:Nat}{b:α}(h:Has K (A++(i,b)::B))(b':α):Has (K.set i b') (A++(i,b')::B):=by
 have hl:i<K.length:=h.lt (b:=b) (by simp);have hn:=h.1;rw[List.map_append,List.map_cons] at hn;refine⟨by rw[List.map_append,List.map_cons];exact hn,fun p hp=>?_⟩;rw[List.nodup_append,List.nodup_cons] at hn;obtain⟨_,⟨n1,_⟩,n2⟩:=hn;rcases List.mem_append.1 hp with hp|hp
 ·have dW:i≠p.1:=fun e=>n2 p.1 (List.mem_map.2 ⟨p,hp,rfl⟩) i (by simp) e.symm;rw[List.getElem?_set_ne dW];exact h.2 p (by simp[hp])
 ·rcases List.mem_cons.1 hp with rfl|hp
  ·rw[List.getElem?_set_self hl]
  ·have dW:i≠p.1:=fun e=>n1 (e▸List.mem_map.2 ⟨p,hp,rfl⟩);rw[List.getElem?_set_ne dW];exact h.2 p (by simp[hp])
theorem Has.put (h:Has K S){i:Nat}{b:α}(hm:(i,b)∈S)(b':α){S':List (Nat×α)}(hs:∃A B,S=A++(i,b)::B∧S'=A++(i,b')::B):Has (K.set i b') S':=by
 obtain⟨A,B,rfl,rfl⟩:=hs;exact h.set b'
theorem Has.ne {A B C:List (Nat×α)}{i j:Nat}{b c:α}(h:Has K (A++(i,b)::(B++(j,c)::C))):i≠j:=by
 have hn:=h.1;simp only[List.map_append,List.map_cons] at hn;rw[List.nodup_append,List.nodup_cons] at hn;exact fun e=>hn.2.1.1 (e▸by simp)
end
end Go.Am
