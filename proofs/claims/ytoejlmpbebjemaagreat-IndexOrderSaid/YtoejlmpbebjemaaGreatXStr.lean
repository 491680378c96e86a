/- slices.Sort and slices.Compact of strings on a box, by the library's contracts.
  Conditions: sizes, as the theorems say. -/
import Derived.Shelf.Sort.Plain
import Derived.Shelf.Slices.In.SortNone
import Derived.Shelf.Slices.CompactS
import Derived.Test.YtoejlmpbebjemaaGreatAmD
import Derived.Test.YtoejlmpbebjemaaGreatGFB
set_option linter.all false
set_option maxRecDepth 100000
namespace Go.Proofs.YtoejlmpbebjemaaGreat
open Go.Proofs.Tryz(prog)
open Go Go.Am Go.Sort Go.Shelf Go.RowKit Go.Proofs eN
def SK:Ren:=⟨fun|125=>159|128=>197|129=>198|190=>95|258=>158|302=>188|303=>189|304=>190|305=>191|306=>192|307=>193|308=>194|309=>195|310=>196|329=>227|330=>228|333=>226|334=>229|335=>230|336=>200|344=>249|x=>x,
 fun|31=>93|46=>225|51=>256|53=>258|131=>180|182=>249|183=>250|218=>275|222=>236|228=>290|229=>291|x=>x,λx=>x⟩
def N0:Lays.n190 prog SK:=
 {
  mixed:=by kernel_rfl
  f125:=Tryz.func159.trans (congrArg some (by kernel_rfl))
  f128:=Tryz.func197.trans (congrArg some (by kernel_rfl))
  f129:=Tryz.func198.trans (congrArg some (by kernel_rfl))
  f190:=Tryz.func95.trans (congrArg some (by kernel_rfl))
  f258:=Tryz.func158.trans (congrArg some (by kernel_rfl))
  f302:=Tryz.func188.trans (congrArg some (by kernel_rfl))
  f303:=Tryz.func189.trans (congrArg some (by kernel_rfl))
  f304:=Tryz.func190.trans (congrArg some (by kernel_rfl))
  f305:=Tryz.func191.trans (congrArg some (by kernel_rfl))
  f306:=Tryz.func192.trans (congrArg some (by kernel_rfl))
  f307:=Tryz.func193.trans (congrArg some (by kernel_rfl))
  f308:=Tryz.func194.trans (congrArg some (by kernel_rfl))
  f309:=Tryz.func195.trans (congrArg some (by kernel_rfl))
  f310:=Tryz.func196.trans (congrArg some (by kernel_rfl))
  f329:=Tryz.func227.trans (congrArg some (by kernel_rfl))
  f330:=Tryz.func228.trans (congrArg some (by kernel_rfl))
  f333:=Tryz.func226.trans (congrArg some (by kernel_rfl))
  f334:=Tryz.func229.trans (congrArg some (by kernel_rfl))
  f335:=Tryz.func230.trans (congrArg some (by kernel_rfl))
  f336:=Tryz.func200.trans (congrArg some (by kernel_rfl))
  f344:=Tryz.func249.trans (congrArg some (by kernel_rfl))
  t0:=Tryz.underlying0
  a0:=Tryz.isAgg0
  z0:=Tryz.sizeOf0
  v0:=Tryz.zeroValue0
  t3:=Tryz.underlying3
  a3:=Tryz.isAgg3
  z3:=Tryz.sizeOf3
  v3:=Tryz.zeroValue3
  t4:=Tryz.underlying4
  a4:=Tryz.isAgg4
  z4:=Tryz.sizeOf4
  v4:=Tryz.zeroValue4
  t5:=Tryz.underlying5
  a5:=Tryz.isAgg5
  z5:=Tryz.sizeOf5
  v5:=Tryz.zeroValue5
  t9:=Tryz.underlying9
  a9:=Tryz.isAgg9
  z9:=Tryz.sizeOf9
  v9:=Tryz.zeroValue9
  t31:=Tryz.underlying93
  a31:=Tryz.isAgg93
  z31:=Tryz.sizeOf93
  v31:=Tryz.zeroValue93
  t46:=Tryz.underlying225
  a46:=Tryz.isAgg225
  z46:=Tryz.sizeOf225
  v46:=Tryz.zeroValue225
  t51:=Tryz.underlying256
  a51:=Tryz.isAgg256
  z51:=Tryz.sizeOf256
  v51:=Tryz.zeroValue256
  t53:=Tryz.underlying258
  a53:=Tryz.isAgg258
  z53:=Tryz.sizeOf258
  v53:=Tryz.zeroValue258
  t131:=Tryz.underlying180
  a131:=Tryz.isAgg180
  z131:=Tryz.sizeOf180
  v131:=Tryz.zeroValue180
  t182:=Tryz.underlying249
  a182:=Tryz.isAgg249
  z182:=Tryz.sizeOf249
  v182:=Tryz.zeroValue249
  t183:=Tryz.underlying250
  a183:=Tryz.isAgg250
  z183:=Tryz.sizeOf250
  v183:=Tryz.zeroValue250
  t218:=Tryz.underlying275
  a218:=Tryz.isAgg275
  z218:=Tryz.sizeOf275
  v218:=Tryz.zeroValue275
  t222:=Tryz.underlying236
  a222:=Tryz.isAgg236
  z222:=Tryz.sizeOf236
  v222:=Tryz.zeroValue236
  t228:=Tryz.underlying290
  a228:=Tryz.isAgg290
  z228:=Tryz.sizeOf290
  v228:=Tryz.zeroValue290
  t229:=Tryz.underlying291
  a229:=Tryz.isAgg291
  z229:=Tryz.sizeOf291
  v229:=Tryz.zeroValue291 }
def SM:Ren:=⟨fun|194=>97|x=>x,
 fun|31=>93|x=>x,λx=>x⟩
def V9:Lays.n194 prog SM:=
 {
  mixed:=by kernel_rfl
  f194:=Tryz.func97.trans (congrArg some (by kernel_rfl))
  t0:=Tryz.underlying0
  a0:=Tryz.isAgg0
  z0:=Tryz.sizeOf0
  v0:=Tryz.zeroValue0
  t3:=Tryz.underlying3
  a3:=Tryz.isAgg3
  z3:=Tryz.sizeOf3
  v3:=Tryz.zeroValue3
  t4:=Tryz.underlying4
  a4:=Tryz.isAgg4
  z4:=Tryz.sizeOf4
  v4:=Tryz.zeroValue4
  t9:=Tryz.underlying9
  a9:=Tryz.isAgg9
  z9:=Tryz.sizeOf9
  v9:=Tryz.zeroValue9
  t31:=Tryz.underlying93
  a31:=Tryz.isAgg93
  z31:=Tryz.sizeOf93
  v31:=Tryz.zeroValue93 }
theorem Rx:Ri (λx:Bs=>[encStr x]) (λx=>[AV.str x]) 1 where
 pos:=by decide
 len _:=rfl
 A2 _:=rfl
 one x v hv:=by simp at hv;subst hv;rfl
 rep x j hj L N T w v:=by
  match j,hj with
  |0,_=>exact⟨λh=>by cases h;rfl,λh=>by subst h;exact .str _⟩
theorem lr (l:List Bs):l.flatMap (λx=>[AV.str x])=strs l:=by
 induction l with
 |nil=>rfl
 |cons x r ih=>rw[agT,ih];rfl
def Ut (d : Array Bs) (t : Nat) (h : t < d.size) : (flatK (λx : Bs => [encStr x]) 1 d)[t]! = encStr d[t]! := by
  rw [get_flatK _ _ _ _ (by omega)];simp [Nat.mod_one]
def IG (w : World) (b o : Nat) (d : Array Bs) : putRowK (λx : Bs => [encStr x]) 1 w b o d = putRow encStr w b o d := by
  unfold putRowK putRow
  congr 1
  funext c
  unfold putCells
  congr 1
  funext k x
  rw [size_flatK, Nat.mul_one]
  by_cases h : o <= k /\ k < o + d.size
  · rw [agN h, agN h, Ut d (k - o) (by omega)]; rfl
  · rw [agL h, agL h]
def N8 {w : World} {b o : Nat} {d : Array Bs} (h : HoldsK (λx : Bs => [encStr x]) 1 w b o d) : Holds encStr w b o d := λj hj => by
  obtain ⟨h1, h2⟩ := h j (by rw [size_flatK]; omega);rw [Ut d j hj] at h1;exact ⟨h1, h2⟩
def pq (l:List Bs):List Bs:=l.mergeSort λx y=>decide (x<=y)
def nJ (l:List Bs):(pq l).length=l.length:=aiL _
def OJ (zs:List Bs)(rest:List AV)(i cap:Nat)(hl:zs.length<=1099511627776)(H:List aA)(T:au)(hi:H[i]?=some (.cells (strs zs++rest))) :
  ar prog 95 [.bJ i zs.length cap] H T (Is (.df []) (H.set i (.cells (strs (pq zs)++rest))) T):=by
 rw[<-lr] at hi;refine⟨λ_ _=>Tryz.call95 _ _,λL w ca hc jJ hr=>?_⟩;obtain⟨c,rfl,za⟩:=qe (by simpa using jJ) hr;obtain⟨rfl,cE,aZ⟩:=za.ij;have nF:=Any.slices_Sort_string N0 (L.bS i) 0 cap zs w (N8 (hc.wZ Rx hi)) (hc.lX aZ) (by omega);refine nF.mono ?_;rintro e w' ⟨rfl,n,os,rfl⟩;obtain⟨L',jk,dB,_⟩:=hc.sorted (n:=n) (os:=os) (l':=pq zs) Rx hi (nJ zs);rw[lr] at jk dB;unfold sortWorldK at jk dB;rw[IG] at jk dB;exact⟨_,_,T,L',_,⟨rfl,rfl,rfl⟩,rfl,jk,.df [] #[] rfl (λj hj=>by simp at hj),dB⟩
def KB (H:List aA)(T:au)(tg:Tag):ar prog 95 [.sl 0 [] tg] H T (Is (.df []) H T):=by
 refine⟨λ_ _=>Tryz.call95 _ _,λL w ca hc jJ hr=>?_⟩;obtain⟨c,rfl,za⟩:=qe (by simpa using jJ) hr;obtain⟨a,cap,rfl,_⟩:=za.fF;refine(Any.slices_Sort_string_none N0 a cap w).mono ?_;rintro e w' ⟨rfl,rfl⟩;exact⟨_,H,T,L,_,⟨rfl,rfl,rfl⟩,rfl,hc,.df [] #[] rfl (λj hj=>by simp at hj),Ev.refl (agE _) (agE _)⟩
def Ft (zs:List Bs)(rest:List AV)(i cap:Nat)(hl:zs.length<=1099511627776)(H:List aA)(T:au)(hi:H[i]?=some (.cells (strs zs++rest)))(hle:(Lib.compact zs).length<=zs.length) :
  ar prog 97 [.bJ i zs.length cap] H T (Is (.bJ i (Lib.compact zs).length cap) (H.set i (.cells (strs (Lib.compact zs++List.replicate (zs.length-(Lib.compact zs).length) [])++rest))) T):=by
 rw[<-lr] at hi;refine⟨λ_ _=>Tryz.call97 _ _,λL w ca hc jJ hr=>?_⟩;obtain⟨c,rfl,za⟩:=qe (by simpa using jJ) hr;obtain⟨rfl,cE,aZ⟩:=za.ij;have nF:=Any.slices_Compact_string V9 (L.bS i) 0 cap zs w (N8 (hc.wZ Rx hi)) (by omega) cE;refine nF.mono ?_;rintro e w' ⟨rfl,n,rfl⟩;obtain⟨L',jk,dB,qQ⟩:=hc.sorted (n:=n) (os:=#[]) (l':=Lib.compact zs++List.replicate (zs.length-(Lib.compact zs).length) []) Rx hi (by rw[agF,ajd];omega);rw[lr] at jk dB;unfold sortWorldK at jk dB;rw[IG,grow_empty] at jk dB;refine⟨_,_,T,L',_,⟨rfl,rfl,rfl⟩,rfl,jk,?_,dB⟩;rw[<-qQ i aZ];exact .bJ _ _ _ (by rw[ahY];exact aZ) (by omega)
attribute [-simp] List.getD_eq_getElem?_getD in
def B5 (H:List aA)(T:au)(tg:Tag):ar prog 97 [.sl 0 [] tg] H T (Is (.sl 0 [] .none) H T):=by
 refine ar.cF ?_;refine ah 6 [] Tryz.ntmps97 Tryz.func97 rfl (λ_ _=>Tryz.call97 _ _) (by simp) (λHO=>?_);apply ae;intro K Z;simp(disch:=omega);apply Z;refine af λK1 aP=>?_;apply ae;intro K Z;simp(disch:=omega);apply Z;apply aH rfl;apply ae;intro K Z;simp(disch:=omega);apply Z;apply az;simp(disch:=omega) ;exact⟨rfl,rfl,rfl⟩
end Go.Proofs.YtoejlmpbebjemaaGreat
