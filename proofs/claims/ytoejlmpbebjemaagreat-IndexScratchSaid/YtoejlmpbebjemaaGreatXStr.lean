/- slices.Sort and slices.Compact of strings on a box, by the library's contracts.
  Conditions: sizes, as the theorems say. -/
import Derived.Shelf.Sort.Plain
import Derived.Shelf.Slices.In.SortNone
import Derived.Shelf.Slices.CompactS
import Derived.Test.YtoejlmpbebjemaaGreatAmD
import Derived.Test.YtoejlmpbebjemaaGreatGFB
set_option linter.all false
set_option maxRecDepth 100000
namespace Go.Proofs.YtoejlmpbebjemaaGreat
open Go.Proofs.Tryz(prog)
open Go Go.Am Go.Sort Go.Shelf Go.RowKit Go.Proofs eN
def TD:Ren:=⟨fun|125=>159|128=>197|129=>198|190=>95|258=>158|302=>188|303=>189|304=>190|305=>191|306=>192|307=>193|308=>194|309=>195|310=>196|329=>227|330=>228|333=>226|334=>229|335=>230|336=>200|344=>249|x=>x,
 fun|31=>93|46=>225|51=>256|53=>258|131=>180|182=>249|183=>250|218=>275|222=>236|228=>290|229=>291|x=>x,λx=>x⟩
def OL:Lays.n190 prog TD:=
 {
  mixed:=zK
  f125:=Tryz.func159.trans (congrArg some zK)
  f128:=Tryz.func197.trans (congrArg some zK)
  f129:=Tryz.func198.trans (congrArg some zK)
  f190:=Tryz.func95.trans (congrArg some zK)
  f258:=Tryz.func158.trans (congrArg some zK)
  f302:=Tryz.func188.trans (congrArg some zK)
  f303:=Tryz.func189.trans (congrArg some zK)
  f304:=Tryz.func190.trans (congrArg some zK)
  f305:=Tryz.func191.trans (congrArg some zK)
  f306:=Tryz.func192.trans (congrArg some zK)
  f307:=Tryz.func193.trans (congrArg some zK)
  f308:=Tryz.func194.trans (congrArg some zK)
  f309:=Tryz.func195.trans (congrArg some zK)
  f310:=Tryz.func196.trans (congrArg some zK)
  f329:=Tryz.func227.trans (congrArg some zK)
  f330:=Tryz.func228.trans (congrArg some zK)
  f333:=Tryz.func226.trans (congrArg some zK)
  f334:=Tryz.func229.trans (congrArg some zK)
  f335:=Tryz.func230.trans (congrArg some zK)
  f336:=Tryz.func200.trans (congrArg some zK)
  f344:=Tryz.func249.trans (congrArg some zK)
  t0:=Tryz.underlying0
  a0:=Tryz.isAgg0
  z0:=Tryz.sizeOf0
  v0:=Tryz.zeroValue0
  t3:=Tryz.underlying3
  a3:=Tryz.isAgg3
  z3:=Tryz.sizeOf3
  v3:=Tryz.zeroValue3
  t4:=Tryz.underlying4
  a4:=Tryz.isAgg4
  z4:=Tryz.sizeOf4
  v4:=Tryz.zeroValue4
  t5:=Tryz.underlying5
  a5:=Tryz.isAgg5
  z5:=Tryz.sizeOf5
  v5:=Tryz.zeroValue5
  t9:=Tryz.underlying9
  a9:=Tryz.isAgg9
  z9:=Tryz.sizeOf9
  v9:=Tryz.zeroValue9
  t31:=Tryz.underlying93
  a31:=Tryz.isAgg93
  z31:=Tryz.sizeOf93
  v31:=Tryz.zeroValue93
  t46:=Tryz.underlying225
  a46:=Tryz.isAgg225
  z46:=Tryz.sizeOf225
  v46:=Tryz.zeroValue225
  t51:=Tryz.underlying256
  a51:=Tryz.isAgg256
  z51:=Tryz.sizeOf256
  v51:=Tryz.zeroValue256
  t53:=Tryz.underlying258
  a53:=Tryz.isAgg258
  z53:=Tryz.sizeOf258
  v53:=Tryz.zeroValue258
  t131:=Tryz.underlying180
  a131:=Tryz.isAgg180
  z131:=Tryz.sizeOf180
  v131:=Tryz.zeroValue180
  t182:=Tryz.underlying249
  a182:=Tryz.isAgg249
  z182:=Tryz.sizeOf249
  v182:=Tryz.zeroValue249
  t183:=Tryz.underlying250
  a183:=Tryz.isAgg250
  z183:=Tryz.sizeOf250
  v183:=Tryz.zeroValue250
  t218:=Tryz.underlying275
  a218:=Tryz.isAgg275
  z218:=Tryz.sizeOf275
  v218:=Tryz.zeroValue275
  t222:=Tryz.underlying236
  a222:=Tryz.isAgg236
  z222:=Tryz.sizeOf236
  v222:=Tryz.zeroValue236
  t228:=Tryz.underlying290
  a228:=Tryz.isAgg290
  z228:=Tryz.sizeOf290
  v228:=Tryz.zeroValue290
  t229:=Tryz.underlying291
  a229:=Tryz.isAgg291
  z229:=Tryz.sizeOf291
  v229:=Tryz.zeroValue291 }
def TF:Ren:=⟨fun|194=>97|x=>x,
 fun|31=>93|x=>x,λx=>x⟩
def W1:Lays.n194 prog TF:=
 {
  mixed:=zK
  f194:=Tryz.func97.trans (congrArg some zK)
  t0:=Tryz.underlying0
  a0:=Tryz.isAgg0
  z0:=Tryz.sizeOf0
  v0:=Tryz.zeroValue0
  t3:=Tryz.underlying3
  a3:=Tryz.isAgg3
  z3:=Tryz.sizeOf3
  v3:=Tryz.zeroValue3
  t4:=Tryz.underlying4
  a4:=Tryz.isAgg4
  z4:=Tryz.sizeOf4
  v4:=Tryz.zeroValue4
  t9:=Tryz.underlying9
  a9:=Tryz.isAgg9
  z9:=Tryz.sizeOf9
  v9:=Tryz.zeroValue9
  t31:=Tryz.underlying93
  a31:=Tryz.isAgg93
  z31:=Tryz.sizeOf93
  v31:=Tryz.zeroValue93 }
theorem Sr:Sa (λx:Bs=>[encStr x]) (λx=>[AV.str x]) 1 where
 pos:=zD
 len _:=rfl
 BB _:=rfl
 one x v hv:=by simp at hv;subst hv;rfl
 rep x j hj L N T w v:=by
  match j,hj with
  |0,_=>exact⟨λh=>by cases h;rfl,λh=>by subst h;exact .str _⟩
theorem lZ (l:List Bs):l.flatMap (λx=>[AV.str x])=strs l:=by
 induction l with
 |nil=>rfl
 |cons x r ih=>rw[ahK,ih];rfl
def Vd (d : Array Bs) (t : Nat) (h : t < d.size) : (flatK (λx : Bs => [encStr x]) 1 d)[t]! = encStr d[t]! := by
  rw [get_flatK _ _ _ _ (by omega)];simp [Nat.mod_one]
def Jh (w : World) (b o : Nat) (d : Array Bs) : putRowK (λx : Bs => [encStr x]) 1 w b o d = putRow encStr w b o d := by
  unfold putRowK putRow
  congr 1
  funext c
  unfold putCells
  congr 1
  funext k x
  rw [size_flatK, Nat.mul_one]
  by_cases h : o <= k /\ k < o + d.size
  · rw [ahF h, ahF h, Vd d (k - o) (by omega)]; rfl
  · rw [ahC h, ahC h]
def OR {w : World} {b o : Nat} {d : Array Bs} (h : HoldsK (λx : Bs => [encStr x]) 1 w b o d) : Holds encStr w b o d := λj hj => by
  obtain ⟨h1, h2⟩ := h j (by rw [size_flatK]; omega);rw [Vd d j hj] at h1;exact ⟨h1, h2⟩
def pS (l:List Bs):List Bs:=l.mergeSort λx y=>decide (x<=y)
def od (l:List Bs):(pS l).length=l.length:=ajE _
def Po (zs:List Bs)(rest:List AV)(i cap:Nat)(hl:zs.length<=1099511627776)(H:List aA)(T:au)(hi:H[i]?=some (.cells (strs zs++rest))) :
  aq prog 95 [.bQ i zs.length cap] H T (Is (.dn []) (H.set i (.cells (strs (pS zs)++rest))) T):=by
 rw[<-lZ] at hi;refine⟨λ_ _=>Tryz.call95 _ _,λL w ca hc jY hr=>?_⟩;obtain⟨c,rfl,zL⟩:=qG (by simpa using jY) hr;obtain⟨rfl,cK,bp⟩:=zL.iI;have n9:=Any.slices_Sort_string OL (L.bW i) 0 cap zs w (OR (hc.xC Sr hi)) (hc.mD bp) zO;refine n9.mono ?_;rintro e w' ⟨rfl,n,os,rfl⟩;obtain⟨L',jH,dI,_⟩:=hc.sorted (n:=n) (os:=os) (l':=pS zs) Sr hi (od zs);rw[lZ] at jH dI;unfold sortWorldK at jH dI;rw[Jh] at jH dI;exact⟨_,_,T,L',_,⟨rfl,rfl,rfl⟩,rfl,jH,.dn [] #[] rfl (λj hj=>by simp at hj),dI⟩
def Ll (H:List aA)(T:au)(tg:Tag):aq prog 95 [.sl 0 [] tg] H T (Is (.dn []) H T):=by
 refine⟨λ_ _=>Tryz.call95 _ _,λL w ca hc jY hr=>?_⟩;obtain⟨c,rfl,zL⟩:=qG (by simpa using jY) hr;obtain⟨a,cap,rfl,_⟩:=zL.fN;refine(Any.slices_Sort_string_none OL a cap w).mono ?_;rintro e w' ⟨rfl,rfl⟩;exact⟨_,H,T,L,_,⟨rfl,rfl,rfl⟩,rfl,hc,.dn [] #[] rfl (λj hj=>by simp at hj),Ev.refl (ahv _) (ahv _)⟩
def F8 (zs:List Bs)(rest:List AV)(i cap:Nat)(hl:zs.length<=1099511627776)(H:List aA)(T:au)(hi:H[i]?=some (.cells (strs zs++rest)))(hle:(Lib.compact zs).length<=zs.length) :
  aq prog 97 [.bQ i zs.length cap] H T (Is (.bQ i (Lib.compact zs).length cap) (H.set i (.cells (strs (Lib.compact zs++List.replicate (zs.length-(Lib.compact zs).length) [])++rest))) T):=by
 rw[<-lZ] at hi;refine⟨λ_ _=>Tryz.call97 _ _,λL w ca hc jY hr=>?_⟩;obtain⟨c,rfl,zL⟩:=qG (by simpa using jY) hr;obtain⟨rfl,cK,bp⟩:=zL.iI;have n9:=Any.slices_Compact_string W1 (L.bW i) 0 cap zs w (OR (hc.xC Sr hi)) zO cK;refine n9.mono ?_;rintro e w' ⟨rfl,n,rfl⟩;obtain⟨L',jH,dI,rE⟩:=hc.sorted (n:=n) (os:=#[]) (l':=Lib.compact zs++List.replicate (zs.length-(Lib.compact zs).length) []) Sr hi (by rw[ahw,aj4];omega);rw[lZ] at jH dI;unfold sortWorldK at jH dI;rw[Jh,grow_empty] at jH dI;refine⟨_,_,T,L',_,⟨rfl,rfl,rfl⟩,rfl,jH,?_,dI⟩;rw[<-rE i bp];exact .bQ _ _ _ (by rw[aiR];exact bp) zO
attribute [-simp] List.getD_eq_getElem?_getD in
def CJ (H:List aA)(T:au)(tg:Tag):aq prog 97 [.sl 0 [] tg] H T (Is (.sl 0 [] .none) H T):=by
 refine aq.bR ?_;refine ah 6 [] Tryz.ntmps97 Tryz.func97 rfl (λ_ _=>Tryz.call97 _ _) zS (λHO=>?_);refine af ?_;apply hY;refine af ?_;apply aC rfl;refine af ?_;refine aI ?_;exact⟨rfl,rfl,rfl⟩
end Go.Proofs.YtoejlmpbebjemaaGreat
