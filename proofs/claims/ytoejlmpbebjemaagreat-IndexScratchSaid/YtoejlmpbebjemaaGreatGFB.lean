/- slices.Sort and slices.Compact of integers on a box, by the library's contracts. A list of integers that grows in a box; segment.Between (layer 39): one number. segment.Between (layer 39).
  Conditions: lengths below 1000 or 1000, as each theorem says. -/
import Derived.Shelf.Sort.Plain
import Derived.Shelf.Slices.In.SortNone
import Derived.Shelf.Slices.CompactI
import Derived.Test.YtoejlmpbebjemaaGreatAmD
import Derived.Test.YtoejlmpbebjemaaGreatGV
import Derived.Test.YtoejlmpbebjemaaGreatGFA
set_option linter.all false
set_option maxRecDepth 100000
set_option maxHeartbeats 16000000
open List (getD_eq_getElem?_getD)
namespace Go.Proofs.YtoejlmpbebjemaaGreat
open Go.Proofs.Tryz(prog)
open Go Go.Am Go.Sort Go.Shelf Go.RowKit Go.Proofs
def TE:Ren:=⟨fun|125=>159|128=>197|129=>198|189=>161|215=>174|216=>169|257=>199|294=>231|295=>232|296=>233|297=>234|298=>235|299=>236|300=>237|301=>238|328=>250|329=>227|330=>228|331=>251|332=>252|343=>256|x=>x,
 fun|28=>53|46=>225|51=>256|53=>258|131=>180|182=>249|183=>250|218=>275|222=>236|228=>290|229=>291|x=>x,λx=>x⟩
def OM:Lays.n189 prog TE:=
 {
  mixed:=zK
  f125:=Tryz.func159.trans (congrArg some zK)
  f128:=Tryz.func197.trans (congrArg some zK)
  f129:=Tryz.func198.trans (congrArg some zK)
  f189:=Tryz.func161.trans (congrArg some zK)
  f215:=Tryz.func174.trans (congrArg some zK)
  f216:=Tryz.func169.trans (congrArg some zK)
  f257:=Tryz.func199.trans (congrArg some zK)
  f294:=Tryz.func231.trans (congrArg some zK)
  f295:=Tryz.func232.trans (congrArg some zK)
  f296:=Tryz.func233.trans (congrArg some zK)
  f297:=Tryz.func234.trans (congrArg some zK)
  f298:=Tryz.func235.trans (congrArg some zK)
  f299:=Tryz.func236.trans (congrArg some zK)
  f300:=Tryz.func237.trans (congrArg some zK)
  f301:=Tryz.func238.trans (congrArg some zK)
  f328:=Tryz.func250.trans (congrArg some zK)
  f329:=Tryz.func227.trans (congrArg some zK)
  f330:=Tryz.func228.trans (congrArg some zK)
  f331:=Tryz.func251.trans (congrArg some zK)
  f332:=Tryz.func252.trans (congrArg some zK)
  f343:=Tryz.func256.trans (congrArg some zK)
  t0:=Tryz.underlying0
  a0:=Tryz.isAgg0
  z0:=Tryz.sizeOf0
  v0:=Tryz.zeroValue0
  t3:=Tryz.underlying3
  a3:=Tryz.isAgg3
  z3:=Tryz.sizeOf3
  v3:=Tryz.zeroValue3
  t4:=Tryz.underlying4
  a4:=Tryz.isAgg4
  z4:=Tryz.sizeOf4
  v4:=Tryz.zeroValue4
  t5:=Tryz.underlying5
  a5:=Tryz.isAgg5
  z5:=Tryz.sizeOf5
  v5:=Tryz.zeroValue5
  t9:=Tryz.underlying9
  a9:=Tryz.isAgg9
  z9:=Tryz.sizeOf9
  v9:=Tryz.zeroValue9
  t28:=Tryz.underlying53
  a28:=Tryz.isAgg53
  z28:=Tryz.sizeOf53
  v28:=Tryz.zeroValue53
  t46:=Tryz.underlying225
  a46:=Tryz.isAgg225
  z46:=Tryz.sizeOf225
  v46:=Tryz.zeroValue225
  t51:=Tryz.underlying256
  a51:=Tryz.isAgg256
  z51:=Tryz.sizeOf256
  v51:=Tryz.zeroValue256
  t53:=Tryz.underlying258
  a53:=Tryz.isAgg258
  z53:=Tryz.sizeOf258
  v53:=Tryz.zeroValue258
  t131:=Tryz.underlying180
  a131:=Tryz.isAgg180
  z131:=Tryz.sizeOf180
  v131:=Tryz.zeroValue180
  t182:=Tryz.underlying249
  a182:=Tryz.isAgg249
  z182:=Tryz.sizeOf249
  v182:=Tryz.zeroValue249
  t183:=Tryz.underlying250
  a183:=Tryz.isAgg250
  z183:=Tryz.sizeOf250
  v183:=Tryz.zeroValue250
  t218:=Tryz.underlying275
  a218:=Tryz.isAgg275
  z218:=Tryz.sizeOf275
  v218:=Tryz.zeroValue275
  t222:=Tryz.underlying236
  a222:=Tryz.isAgg236
  z222:=Tryz.sizeOf236
  v222:=Tryz.zeroValue236
  t228:=Tryz.underlying290
  a228:=Tryz.isAgg290
  z228:=Tryz.sizeOf290
  v228:=Tryz.zeroValue290
  t229:=Tryz.underlying291
  a229:=Tryz.isAgg291
  z229:=Tryz.sizeOf291
  v229:=Tryz.zeroValue291 }
def TG:Ren:=⟨fun|20=>162|x=>x,fun|22=>53|x=>x,λx=>x⟩
def W2 : Lays2.n20 prog TG :=
  { mixed := by kernel_rfl
    f20 := Tryz.func162.trans (congrArg some (by kernel_rfl))
    t0 := Tryz.underlying0
    a0 := Tryz.isAgg0
    z0 := Tryz.sizeOf0
    v0 := Tryz.zeroValue0
    t3 := Tryz.underlying3
    a3 := Tryz.isAgg3
    z3 := Tryz.sizeOf3
    v3 := Tryz.zeroValue3
    t4 := Tryz.underlying4
    a4 := Tryz.isAgg4
    z4 := Tryz.sizeOf4
    v4 := Tryz.zeroValue4
    t22 := Tryz.underlying53
    a22 := Tryz.isAgg53
    z22 := Tryz.sizeOf53
    v22 := Tryz.zeroValue53
    i3 := by kernel_rfl }
theorem Sq:Sa (λx:Int=>[Value.int .i64 x]) (λx=>[AV.int .i64 x]) 1 where
 pos:=zD
 len _:=rfl
 BB _:=rfl
 one x v hv:=by simp at hv;subst hv;rfl
 rep x j hj L N T w v:=by
  match j,hj with
  |0,_=>exact⟨λh=>by cases h;rfl,λh=>by subst h;exact .int _ _⟩
theorem qX (l:List Int):l.flatMap (λx=>[AV.int .i64 x])=ints l:=by
 induction l with
 |nil=>rfl
 |cons x r ih=>rw[ahK,ih];rfl
def Vc (d : Array Int) (t : Nat) (h : t < d.size) : (flatK (λx : Int => [Value.int .i64 x]) 1 d)[t]! = Value.int .i64 d[t]! := by
  rw [get_flatK _ _ _ _ (by omega)];simp [Nat.mod_one]
def Jg (w : World) (b o : Nat) (d : Array Int) : putRowK (λx : Int => [Value.int .i64 x]) 1 w b o d = putRow (Value.int .i64) w b o d := by
  unfold putRowK putRow
  congr 1
  funext c
  unfold putCells
  congr 1
  funext k x
  rw [size_flatK, Nat.mul_one]
  by_cases h : o <= k /\ k < o + d.size
  · rw [ahF h, ahF h, Vc d (k - o) (by omega)]; rfl
  · rw [ahC h, ahC h]
def OQ {w : World} {b o : Nat} {d : Array Int} (h : HoldsK (λx : Int => [Value.int .i64 x]) 1 w b o d) : Holds (Value.int .i64) w b o d := λj hj => by
  obtain ⟨h1, h2⟩ := h j (by rw [size_flatK]; omega);rw [Vc d j hj] at h1;exact ⟨h1, h2⟩
def pV (l:List Int):List Int:=l.mergeSort λx y=>decide (x<=y)
def uL (l:List Int):(pV l).length=l.length:=ajE _
theorem qG {H:List aA}{T:au}{L:Lay}{w:World}{ca:Array Value}{v:AV}(hl:ca.size=1)(hr:∀(j:Nat)(h:j<[v].length)(h':j<ca.size),bt L H.length T w ([v][j]'h) (ca[j]'h')):∃c,ca=#[c]/\bt L H.length T w v c:=by
 obtain⟨cl⟩:=ca
 match cl,hl with
 |[a],_=>exact⟨a,rfl,hr 0 zS zS⟩
def Pq (zs:List Int)(rest:List AV)(i cap:Nat)(hl:zs.length<=1099511627776)(H:List aA)(T:au)(hi:H[i]?=some (.cells (ints zs++rest))) :
  aq prog 161 [.bQ i zs.length cap] H T (Is (.dn []) (H.set i (.cells (ints (pV zs)++rest))) T):=by
 rw[<-qX] at hi;refine⟨λ_ _=>Tryz.call161 _ _,λL w ca hc jY hr=>?_⟩;obtain⟨c,rfl,zL⟩:=qG (by simpa using jY) hr;obtain⟨rfl,cK,bp⟩:=zL.iI;have n9:=Any.slices_Sort_int OM (L.bW i) 0 cap zs w (OQ (hc.xC Sq hi)) (hc.mD bp) zO;refine n9.mono ?_;rintro e w' ⟨rfl,n,os,rfl⟩;obtain⟨L',jH,dI,_⟩:=hc.sorted (n:=n) (os:=os) (l':=pV zs) Sq hi (uL zs);rw[qX] at jH dI;unfold sortWorldK at jH dI;rw[Jg] at jH dI;exact⟨_,_,T,L',_,⟨rfl,rfl,rfl⟩,rfl,jH,.dn [] #[] rfl (λj hj=>by simp at hj),dI⟩
def Lo (H:List aA)(T:au)(tg:Tag):aq prog 161 [.sl 0 [] tg] H T (Is (.dn []) H T):=by
 refine⟨λ_ _=>Tryz.call161 _ _,λL w ca hc jY hr=>?_⟩;obtain⟨c,rfl,zL⟩:=qG (by simpa using jY) hr;obtain⟨a,cap,rfl,_⟩:=zL.fN;refine(Any.slices_Sort_int_none OM a cap w).mono ?_;rintro e w' ⟨rfl,rfl⟩;exact⟨_,H,T,L,_,⟨rfl,rfl,rfl⟩,rfl,hc,.dn [] #[] rfl (λj hj=>by simp at hj),Ev.refl (ahv _) (ahv _)⟩
def F9 (zs:List Int)(rest:List AV)(i cap:Nat)(hl:zs.length<=1099511627776)(H:List aA)(T:au)(hi:H[i]?=some (.cells (ints zs++rest)))(hle:(Lib.compact zs).length<=zs.length) :
  aq prog 162 [.bQ i zs.length cap] H T (Is (.bQ i (Lib.compact zs).length cap) (H.set i (.cells (ints (Lib.compact zs++List.replicate (zs.length-(Lib.compact zs).length) 0)++rest))) T):=by
 rw[<-qX] at hi;refine⟨λ_ _=>Tryz.call162 _ _,λL w ca hc jY hr=>?_⟩;obtain⟨c,rfl,zL⟩:=qG (by simpa using jY) hr;obtain⟨rfl,cK,bp⟩:=zL.iI;have n9:=Any.slices_Compact_int W2 (L.bW i) 0 cap zs w (OQ (hc.xC Sq hi)) zO cK;refine n9.mono ?_;rintro e w' ⟨rfl,n,rfl⟩;obtain⟨L',jH,dI,rE⟩:=hc.sorted (n:=n) (os:=#[]) (l':=Lib.compact zs++List.replicate (zs.length-(Lib.compact zs).length) 0) Sq hi (by rw[ahw,aj4];omega);rw[qX] at jH dI;unfold sortWorldK at jH dI;rw[Jg,grow_empty] at jH dI;refine⟨_,_,T,L',_,⟨rfl,rfl,rfl⟩,rfl,jH,?_,dI⟩;rw[<-rE i bp];exact .bQ _ _ _ (by rw[aiR];exact bp) zO
attribute [-simp] getD_eq_getElem?_getD in
def CK (H:List aA)(T:au)(tg:Tag):aq prog 162 [.sl 0 [] tg] H T (Is (.sl 0 [] .none) H T):=by
 refine aq.bR ?_;refine ah 6 [] Tryz.ntmps162 Tryz.func162 rfl (λ_ _=>Tryz.call162 _ _) zS (λHO=>?_);refine af ?_;apply hY;refine af ?_;apply aC rfl;refine af ?_;refine aI ?_;exact⟨rfl,rfl,rfl⟩
open ie eN cN
def afL (h:Nat)(d:List Int)(out:AV)(S:List (Nat×aA)):Prop:=
 (d=[]/\out=.sl 0 [] .full/\S=[])\/∃i cap r,out=.bQ i d.length cap/\h<=i/\d.length+r=cap/\S=[(i,.cells (ints d++List.replicate r AV.top))]
structure GI (H:List aA)(T:au)(d:List Int)(R:List (Nat×aA))(J:List aA)(out:AV):Prop where
 bx:∃S,afL H.length d out S/\Has J (R++S)
 pre:gW H J
 ok:bM J T
variable {H : List aA} {T : au} {d : List Int} {R : List (Nat × aA)} {J : List aA} {out : AV}
def GI.nil (ho:bM H T):GI H T [] [] H (.sl 0 [] .full):=⟨⟨[],.inl ⟨rfl,rfl,rfl⟩,⟨zS,λp hp=>by simp at hp⟩⟩,⟨[],zS⟩,ho⟩
def GI.more (h:GI H T d R J out)(b:aA)(ho:bM (J++[b]) T):GI H T d ((J.length,b)::R) (J++[b]) out:=by
 obtain⟨⟨S,h1,h2⟩,h3,h4⟩:=h;exact⟨⟨S,h1,(h2.new b).perm (aik _ _).symm⟩,h3.app _,ho⟩
def GI.less {x:Nat×aA}(h:GI H T d (x::R) J out):GI H T d R J out:=by
 obtain⟨⟨S,h1,h2⟩,h3,h4⟩:=h;exact⟨⟨S,h1,h2.sub (aiw _ _)⟩,h3,h4⟩
theorem GI.get (h:GI H T d R J out){i:Nat}{b:aA}(hm:(i,b)∈R):J[i]?=some b:=by
 obtain⟨⟨S,h1,h2⟩,h3,h4⟩:=h;exact h2.get (ahR _ hm)
def GI.below (h:GI H T d R J out):Below J.length T.length out:=by
 obtain⟨⟨S,h1,h2⟩,h3,h4⟩:=h;rcases h1 with⟨_,rfl,_⟩|⟨i,cap,r,rfl,hi,hr,rfl⟩
 ·simp
 ·exact Bf.2 (h2.lt (i:=i) (b:=.cells (ints d++List.replicate r AV.top)) zS)
def GI.first (h:GI H T [] R J (.sl 0 [] .full))(x:Int)(nc:Nat)(hn:1<=nc):GI H T [x] R (J++[.cells (.int .i64 x::List.replicate (nc-1) AV.top)]) (.bQ J.length 1 nc):=by
 obtain⟨⟨S,h1,h2⟩,h3,h4⟩:=h;have hS:S=[]:=by
  rcases h1 with⟨_,_,h⟩|⟨i,cap,r,h,_⟩
  ·exact h
  ·cases h
 subst hS;rw[ahS] at h2;exact⟨⟨_,.inr ⟨J.length,nc,nc-1,rfl,h3.le,by simp only[ain];omega,rfl⟩,h2.new _⟩,h3.app _,h4.snoc zS⟩
def GI.put {i cap r:Nat}(hb:Has J (R++[(i,.cells (ints d++List.replicate r AV.top))]))(hi:H.length<=i)(hr:d.length+r=cap)(h3:gW H J)(h4:bM J T)(hle:d.length+1<=cap)(x:Int) :
  GI H T (d++[x]) R (J.set i (.cells ((ints d++List.replicate r AV.top).take d.length++[.int .i64 x]++(ints d++List.replicate r AV.top).drop (d.length+1)))) (.bQ i (d.length+1) cap):=by
 have hl:(ints d).length=d.length:=zS;have e1:(ints d++List.replicate r AV.top).take d.length=ints d:=aiy hl;have e2:(ints d++List.replicate r AV.top).drop (d.length+1)=List.replicate (r-1) AV.top:=by
  rw[<-List.drop_drop,List.drop_left' hl,List.drop_replicate]
 rw[e1,e2,cJ];exact⟨⟨_,.inr ⟨i,cap,r-1,zS,hi,by simp;omega,rfl⟩,by simpa using hb.set (A:=R) (B:=[]) (.cells (ints (d++[x])++List.replicate (r-1) AV.top))⟩,h3.set hi _,h4.set zS⟩
def GI.grow {i r nc:Nat}(hb:Has J (R++[(i,.cells (ints d++List.replicate r AV.top))]))(h3:gW H J)(h4:bM J T)(hn:d.length+1<=nc)(x:Int) :
  GI H T (d++[x]) R (J++[.cells ((ints d++List.replicate r AV.top).take d.length++[.int .i64 x]++List.replicate (nc-(d.length+1)) AV.top)]) (.bQ J.length (d.length+1) nc):=by
 have hl:(ints d).length=d.length:=zS;have e1:(ints d++List.replicate r AV.top).take d.length=ints d:=aiy hl;rw[e1,cJ];exact⟨⟨_,.inr ⟨J.length,nc,nc-(d.length+1),zS,h3.le,by simp;omega,rfl⟩,(hb.sub (List.sublist_append_left _ _)).new _⟩,h3.app _,h4.snoc zS⟩
def zh (f lo hi:Int)(cf:Int)(x:Nm):Bool:=(cf==f&&decide (lo<=x.1))&&decide (x.1<=hi)
def gB (f lo hi:Int)(cf:Int)(x:Nm):List Int:=if zh f lo hi cf x=true then [x.2] else []
attribute [-simp] getD_eq_getElem?_getD in
def QN (aH:List Cl)(xs:List Nm)(nb:Nat)(gL:nb<=H.length)(f lo hi cf:Int)(vi vj b4 Da XZ:Nat)(xv:AV)(x:Nm)(hd:d.length<=1099511627776)(hG:GI H T d R J out)
  (h11:(Da,.cells [.int .i64 cf,xv])∈R) (GF:(XZ,.cells (wA x))∈R) (l4:b4<H.length+1) (hR:b4<J.length) (Q:Exit->St->Prop)
  (go:∀(e:Env)(J':List aA)(pI:AV),GI H T (d++gB f lo hi cf x) R J' pI->J.length<=J'.length->bA J'.length T.length e [(1,.int .i64 f),(2,.int .i64 lo),(3,.int .i64 hi),(4,.ptr b4 0),(9,pI),(11,.ptr Da 0),(19,.sl aH.length (dP aH) .none),(20,.int .i64 (aH.length:Nat)),(21,.int .i64 (vi:Nat)),(26,.sl xs.length (bG xs) .none),(27,.int .i64 (xs.length:Nat)),(28,.int .i64 (vj:Nat))]->Q .normal ⟨e,J',T⟩) :
  AW ⟨prog,59,31,nb,T.length,[100052]⟩ (dZ [1,1,1,0,1,0,0,1,1,0,0,1,1,0,0,1,1,0,0,1] (Tryz.f100.body.getD .skip)) Q ⟨[(1,.int .i64 f),(2,.int .i64 lo),(3,.int .i64 hi),(4,.ptr b4 0),(9,out),(11,.ptr Da 0),(13,.ptr XZ 0),(19,.sl aH.length (dP aH) .none),(20,.int .i64 (aH.length:Nat)),(21,.int .i64 (vi:Nat)),(26,.sl xs.length (bG xs) .none),(27,.int .i64 (xs.length:Nat)),(28,.int .i64 (vj:Nat))],J,T⟩:=by
 conv=>arg 2;whnf
 have g11:=hG.get h11;have g13:=hG.get GF;have UG:=aZ g11;have Kd:=aZ g13;have l11:=(aht.1 g11).1;have l13:=(aht.1 g13).1;have lb:=hG.below;have lJ:=hG.pre.le;obtain⟨x1,x2⟩:=x;have skip:zh f lo hi cf (x1,x2)=false->∀e:Env,bA J.length T.length e [(1,.int .i64 f),(2,.int .i64 lo),(3,.int .i64 hi),(4,.ptr b4 0),(9,out),(11,.ptr Da 0),(19,.sl aH.length (dP aH) .none),(20,.int .i64 (aH.length:Nat)),(21,.int .i64 (vi:Nat)),(26,.sl xs.length (bG xs) .none),(27,.int .i64 (xs.length:Nat)),(28,.int .i64 (vj:Nat))]->Q .normal ⟨e,J,T⟩:=λhb e he=>
  go e J out (by unfold gB;rw[hb];simpa using hG) (ahv _) he
 by_cases h1:cf=f
 rotate_left
 ·have b1:(cf==f)=false:=ah8.2 h1;apply ar;simp(disch:=omega)[UG,Kd,b1,h1];apply aB rfl;apply aj;exact skip (by unfold zh;rw[b1];rfl) _ (by simp[lb];omega)
 have b1:(cf==f)=true:=by simpa using h1
 by_cases h2:lo<=x1
 rotate_left
 ·have b2:decide (lo<=x1)=false:=ahy h2;apply ar;simp(disch:=omega)[UG,Kd,b1,h1,b2,h2];apply aB rfl;apply aj;exact skip (by unfold zh;simp only;rw[b1,b2];rfl) _ (by simp[lb];omega)
 have b2:decide (lo<=x1)=true:=ahx h2
 by_cases h3:x1<=hi
 rotate_left
 ·have b3:decide (x1<=hi)=false:=ahy h3;apply ar;simp(disch:=omega)[UG,Kd,b1,h1,b2,h2,b3,h3];apply aB rfl;apply aj;exact skip (by unfold zh;simp only;rw[b1,b2,b3];rfl) _ (by simp[lb];omega)
 have b3:decide (x1<=hi)=true:=ahx h3;have Dn:d++gB f lo hi cf (x1,x2)=d++[x2]:=by unfold gB zh;simp only;rw[b1,b2,b3];rfl
 rw[Dn] at go;apply ar;simp(disch:=omega)[UG,Kd,b1,h1,b2,h2,b3,h3];apply aC rfl;have h':=hG;obtain⟨⟨S,hS,Ks⟩,rC,je⟩:=hG;rcases hS with⟨rfl,rfl,rfl⟩|⟨i,cap,r,rfl,Ri,hr,rfl⟩
 ·have hg:=λnc hn=>GI.first h' x2 nc hn;refine br λK hK=>?_;simp(disch:=omega)[Kd];intro nc hn;apply hK;have:=hg nc hn;refine go _ _ _ this zS ?_;simp;omega
 ·have gi:=Ks.get (i:=i) (b:=.cells (ints d++List.replicate r AV.top)) zS;have jk:=λhle=>GI.put Ks Ri hr rC je hle x2;have vA:=λnc hn=>GI.grow (nc:=nc) Ks rC je hn x2;refine br λK hK=>?_;simp(disch:=omega)[Kd];refine⟨3,_,[.int .i64 x2],1,zK,gi,by simp;omega,zS,by simp;omega,zO,zK,zS,λhle=>?_,λnc bp lY=>?_⟩
  ·have hg:=jk hle;simp only[OY,Nat.mul_one];generalize hX:J.set i _=H2 at hg ⊢;have j8:=hg.below;have jT:J.length=H2.length:=by rw[<-hX,aiR]
   refine zQ ?_;apply hK;refine go _ _ _ hg zO ?_;simp[j8];omega
  ·have hg:=vA nc lY;simp only[OY,Nat.mul_one];generalize hX:J++[aA.cells _]=H2 at hg ⊢;have j8:=hg.below;have jT:J.length+1=H2.length:=by rw[<-hX];simp
   have Gy:=λe=>go e _ _ hg zO;clear vA jk hg go skip UG Kd gi Ks je rC h' g11 g13 hX lb;generalize J.length=i2 at *;refine zQ ?_;apply hK;refine Gy _ ?_;simp[j8];omega
def Im (l:List Int):(Lib.compact l).length<=l.length:=by
 unfold Lib.compact Lib.compactUpTo;rw[ahL];exact ahA (ahX _ _) zS
theorem o7 {l : List Int} (hs : l.Pairwise λx y => x <= y) : ∀ m, m <= l.length -> kI (Lib.compactUpTo l.toArray m) /\ (∀ x, x ∈ Lib.compactUpTo l.toArray m ↔ x ∈ l.take m) /\ ∀ x ∈ Lib.compactUpTo l.toArray m, 0 < m -> x <= l.getD (m - 1) 0
  | 0, _ => ⟨.nil, by simp [Lib.compactUpTo], by simp [Lib.compactUpTo]⟩
  | m + 1, h => by
    obtain ⟨h1, h2, h3⟩ := o7 hs m (by omega)
    have hm : l.toArray[m]! = l.getD m 0 := by simp [ahs]
    have hle : ∀ x ∈ Lib.compactUpTo l.toArray m, x <= l.getD m 0 := by
      intro x hx;rcases ah0 m with h0 | h0
      · subst h0; simp [Lib.compactUpTo] at hx
      · refine Int.le_trans (h3 x hx h0) ?_;have := ah6.1 hs (m - 1) m (by omega) (by omega) (by omega);simpa [ahs, ahu (show m - 1 < l.length by omega), ahu (show m < l.length by omega)] using this
    have gV : l.take (m + 1) = l.take m ++ [l.getD m 0] := aX l m 0 (by omega)
    rw [Lib.compactUpTo_succ, gV, hm]
    cases hk : Lib.keeps l.toArray m with
    | true =>
      have nV : m = 0 \/ l.getD m 0 ≠ l.getD (m - 1) 0 := by
        unfold Lib.keeps at hk;have := ajy hk;rw [hm] at this;simpa [ahs] using this
      simp only [ajc]
      refine ⟨ajg.2 ⟨h1, by simp, λa ha b hb => ?_⟩, λx => by rw [ahI, ahI, h2 x], λx hx _ => ?_⟩
      · rw [aic.1 hb]
        rcases nV with h0 | h0
        · subst h0; simp [Lib.compactUpTo] at ha
        · rcases ah0 m with UD | UD
          · subst UD; simp [Lib.compactUpTo] at ha
          · have g1 := h3 a ha UD;have := ah6.1 hs (m - 1) m (by omega) (by omega) (by omega);have g2 : l.getD (m - 1) 0 <= l.getD m 0 := by simpa [ahs, ahu (show m - 1 < l.length by omega), ahu (show m < l.length by omega)] using this
            omega
      · rw [ai1]
        rcases ahI.1 hx with hx | hx
        · exact hle x hx
        · rw [aic.1 hx]; exact Int.le_refl _
    | false =>
      have nV : 0 < m /\ l.getD m 0 = l.getD (m - 1) 0 := by
        unfold Lib.keeps at hk;have := of_decide_eq_false hk;rw [hm] at this;refine ⟨by omega, ?_⟩;have := Classical.not_not.1 λh => this (.inr h);simpa [ahs] using this
      simp only [aiu, aje, ahS]
      refine ⟨h1, λx => ?_, λx hx _ => by rw [ai1]; exact hle x hx⟩
      rw [h2 x, ahI, aic]
      refine ⟨.inl, λh => ?_⟩
      rcases h with h | rfl
      · exact h
      · rw [nV.2, <- h2]
        refine (h2 _).2 ?_;have : l.take m = l.take (m - 1) ++ [l.getD (m - 1) 0] := by
          have := aX l (m - 1) 0 (by omega)
          rwa [show m - 1 + 1 = m by omega] at this
        rw [this]; simp
def Ln (l:List Int)(x:Int):x∈pV l↔x∈l:=(ajz l _).mem_iff
def Ee (l:List Int):(pV l).Pairwise λx y=>x<=y:=
 (ajp (le:=λx y=>decide (x<=y)) (λa b c h1 h2=>by simp only[ahH] at *;omega) (λa b=>by simp only[aiq,ahH];omega) l).imp λh=>by simpa using h
def jL (l:List Int):List Int:=Lib.compact (pV l)
def tW (l:List Int):kI (jL l):=(o7 (Ee l) _ (ahv _)).1
def mN (l:List Int)(x:Int):x∈jL l↔x∈l:=by
 have:=(o7 (Ee l) _ (ahv _)).2.1 x;rw[ahO,Ln] at this;exact this
def Ko (f lo hi:Int)(c:Cl):List Int:=c.x.flatMap (gB f lo hi c.f)
def lg (f lo hi:Int)(l:List Cl):List Int:=l.flatMap (Ko f lo hi)
def jG (s:Sg)(f lo hi:Int):List Int:=if aT s=true then jL (lg f lo hi s.aH) else []
theorem xZ (f lo hi cf:Int):∀x:List Nm,(x.flatMap (gB f lo hi cf)).length<=x.length
 |[]=>ahv _
 |y::x=>by
  rw[ahK,ahw,ahY];have:=xZ f lo hi cf x;have:(gB f lo hi cf y).length<=1:=by unfold gB;split<;>simp
  omega
theorem EO (f lo hi:Int):∀l:List Cl,(∀c∈l,c.x.length<=1000)->(lg f lo hi l).length<=l.length*1000
 |[],_=>by simp[lg]
 |c::l,h=>by
  have h1:=EO f lo hi l λc hc=>h c (aiO _ hc);have h2:=xZ f lo hi c.f c.x;have h3:=h c zS;unfold lg at h1 ⊢;rw[ahK,ahw,ahY,Ko];omega
attribute [-simp] getD_eq_getElem?_getD in
theorem Ue (s:Sg)(hs:rz s)(f lo hi:Int)(H:List aA)(T:au):aq prog 100 [jh s,.int .i64 f,.int .i64 lo,.int .i64 hi] H T (Is (.sl (jG s f lo hi).length (ints (jG s f lo hi)) .none) H T):=by
 refine aq.Qk (by simp) ?_;have cv:=λH=>kj s hs H T;have gg:=hs.c;have hx:=hs.x;refine ah 31 [100052] Tryz.ntmps100 Tryz.func100 rfl (λ_ _=>Tryz.call100 _ _) (by simp) (λHO=>?_);apply aK;intro K Z;simp(disch:=omega);apply Z;apply aK;intro K Z;simp(disch:=omega);apply Z;refine ae λK1 aN=>?_;have eu:bM (H++[.cells (cH s)]) T:=HO.snoc (by simp)
 cases hv:aT s with
 |false=>
  rw[hv] at cv;have hf:jG s f lo hi=[]:=by unfold jG;rw[hv];rfl
  refine aK λK hK=>?_;simp(disch:=omega) ;refine ai (cv _) ?_;simp(disch:=omega) ;apply hK;apply aC rfl;apply aK;intro K Z;simp(disch:=omega);apply Z;apply bu;simp(disch:=omega) ;exact⟨hf,by rw[hf];rfl⟩
 |true=>
 rw[hv] at cv;have hf:jG s f lo hi=jL (lg f lo hi s.aH):=by unfold jG;rw[ahF hv]
 have hlen:=EO f lo hi;refine aK λK hK=>?_;simp(disch:=omega) ;refine ai (cv _) ?_;simp(disch:=omega) ;apply hK;apply aB rfl;apply aj;simp(disch:=omega) ;apply aN;clear aN;refine ae λK1 aN=>?_;apply aK;intro K Z;simp(disch:=omega);apply Z;obtain⟨aw,aW,aH⟩:=s;simp only at gg hx hf;have hG0:GI H T [] [] (H++[.cells (cH ⟨aw,aW,aH⟩)]) (.sl 0 [] .full):=((GI.nil HO).more _ eu).less;generalize jG ⟨aw,aW,aH⟩ f lo hi=res at *;have GB:H.length<(H++[aA.cells (cH ⟨aw,aW,aH⟩)]).length:=by simp
 generalize H++[aA.cells (cH ⟨aw,aW,aH⟩)]=J0 at *;apply ag;refine aG (X:=Nat×List aA×AV) (λx=>⟨[(1,.int .i64 f),(2,.int .i64 lo),(3,.int .i64 hi),(4,.ptr H.length 0),(9,x.2.2),(19,.sl aH.length (dP aH) .none),(20,.int .i64 (aH.length:Nat)),(21,.int .i64 (x.1:Nat))],x.2.1,T⟩)
  (λx=>x.1<=aH.length/\GI H T (lg f lo hi (aH.take x.1)) [] x.2.1 x.2.2/\H.length<x.2.1.length) (λx=>aH.length-x.1) (0,J0,.sl 0 [] .full) ?_ ?_ ?_
 ·exact⟨ahE _,hG0,GB⟩
 ·refine ak [] [] ?_ ?_ ?_ ?_ eu ?_
  all_goals simp
  all_goals omega
 ·rintro⟨i,J,out⟩ ⟨g1,g2,g3⟩;simp only at g1 g2 g3;have lb:=g2.below;apply aK;intro K Z;simp(disch:=omega);apply Z;refine ae λK2 ba=>?_;refine aV rfl (λhk=>?_) (λhk=>?_)
  ·simp  at hk;have bB:=tU aH i hk;have yT:=hx _ (aQ aH i c0 hk);have mY:=me aH (Ko f lo hi) c0 i hk;have kW:(lg f lo hi (aH.take i)).length<=1000000:=ahA (hlen (aH.take i) λc hc=>hx c (ajt hc)) (by rw[ahW];omega);generalize aH.getD i c0=c at *;obtain⟨cf,xs⟩:=c;simp only at bB yT;have zj:lg f lo hi (aH.take (i+1))=lg f lo hi (aH.take i)++xs.flatMap (gB f lo hi cf):=mY;clear mY;generalize lg f lo hi (aH.take i)=d0 at *;apply aj;simp(disch:=omega) ;apply ba;clear ba;refine ae λK3 bH=>?_;apply ag;refine aK λK hK=>?_;simp(disch:=omega)[bB,fl];apply hK;have HOj:=g2.ok;have VH:bM (J++[.cells (mW ⟨cf,xs⟩)]) T:=HOj.snoc (by simp);have RY:=g2.more _ VH;have ru:(J++[aA.cells (mW ⟨cf,xs⟩)]).length=J.length+1:=by simp
   have Zu:(J++[aA.cells (mW ⟨cf,xs⟩)])[J.length]?=some (.cells (mW ⟨cf,xs⟩)):=by simp
   have UG:=aZ Zu;obtain⟨Da,h11⟩:∃i,i=J.length:=⟨_,rfl⟩
   rw[<-h11] at UG RY;simp only[<-h11];have ahe:(Da,aA.cells (mW ⟨cf,xs⟩))∈[(Da,aA.cells (mW ⟨cf,xs⟩))]:=by simp
   have l11:Da<(J++[aA.cells (mW ⟨cf,xs⟩)]).length:=by omega
   have l4:H.length<(J++[aA.cells (mW ⟨cf,xs⟩)]).length:=by omega
   clear Zu hG0 g2 lb;generalize J++[aA.cells (mW ⟨cf,xs⟩)]=J1 at *;have lb:=RY.below;have lh:=RY.pre.le;refine aF ⟨[(1,.int .i64 f),(2,.int .i64 lo),(3,.int .i64 hi),(4,.ptr H.length 0),(9,out),(11,.ptr Da 0),(19,.sl aH.length (dP aH) .none),(20,.int .i64 (aH.length:Nat)),(21,.int .i64 (i:Nat))],J1,T⟩ (ak [] [] (by simp) (by simp) (by simpa using lh) (by simp) VH (by simp[lb];omega)) ?_;refine aK λK hK=>?_;simp(disch:=omega)[UG];apply hK;apply ag;refine aG (X:=Nat×List aA×AV) (λx=>⟨[(1,.int .i64 f),(2,.int .i64 lo),(3,.int .i64 hi),(4,.ptr H.length 0),(9,x.2.2),(11,.ptr Da 0),(19,.sl aH.length (dP aH) .none),(20,.int .i64 (aH.length:Nat)),(21,.int .i64 (i:Nat)),(26,.sl xs.length (bG xs) .none),(27,.int .i64 (xs.length:Nat)),(28,.int .i64 (x.1:Nat))],x.2.1,T⟩)
    (λx=>x.1<=xs.length/\GI H T (d0++(xs.take x.1).flatMap (gB f lo hi cf)) [(Da,.cells (mW ⟨cf,xs⟩))] x.2.1 x.2.2/\H.length<x.2.1.length/\Da<x.2.1.length) (λx=>xs.length-x.1) (0,J1,out) ?_ ?_ ?_
   ·exact⟨ahE _,by simpa using RY,l4,l11⟩
   ·refine ak [] [] ?_ ?_ ?_ ?_ VH ?_
    all_goals simp[lb]
    all_goals omega
   ·rintro⟨k,J2,GL⟩ ⟨k1,k2,k3,k4⟩;simp only at k1 k2 k3 k4;have Yj:=k2.below;apply aK;intro K Z;simp(disch:=omega);apply Z;refine ae λK4 iQ=>?_;refine aV rfl (λeL=>?_) (λeL=>?_)
    ·simp  at eL;have uo:=fH xs k eL;have NV:=me xs (gB f lo hi cf) n0 k eL;have Ws:=xZ f lo hi cf (xs.take k);rw[ahW] at Ws;have GQ:d0++(xs.take (k+1)).flatMap (gB f lo hi cf)=(d0++(xs.take k).flatMap (gB f lo hi cf))++gB f lo hi cf (xs.getD k n0):=by rw[NV,ahM]
     have ug:(d0++(xs.take k).flatMap (gB f lo hi cf)).length<=1099511627776:=by rw[ahw];omega
     generalize d0++(xs.take k).flatMap (gB f lo hi cf)=d2 at *;generalize xs.getD k n0=x at *;obtain⟨x1,x2⟩:=x;simp only at uo;apply aj;simp(disch:=omega) ;apply iQ;clear iQ;refine ae λK5 iT=>?_;apply ag;refine aK λK hK=>?_;simp(disch:=omega)[uo,cE];apply hK;have eG:=k2.ok;have ho3:bM (J2++[.cells (wA (x1,x2))]) T:=eG.snoc (by simp);have w8:=k2.more _ ho3;have ahi:(J2++[aA.cells (wA (x1,x2))]).length=J2.length+1:=by simp
     obtain⟨XZ,GF⟩:∃i,i=J2.length:=⟨_,rfl⟩
     rw[<-GF] at w8;simp only[<-GF];have l13:XZ<(J2++[aA.cells (wA (x1,x2))]).length:=by omega
     have XB:H.length<(J2++[aA.cells (wA (x1,x2))]).length:=by omega
     have ag8:Da<(J2++[aA.cells (wA (x1,x2))]).length:=by omega
     clear k2 Yj;generalize J2++[aA.cells (wA (x1,x2))]=J3 at *;have lb3:=w8.below;have lh3:=w8.pre.le;refine aF ⟨[(1,.int .i64 f),(2,.int .i64 lo),(3,.int .i64 hi),(4,.ptr H.length 0),(9,GL),(11,.ptr Da 0),(13,.ptr XZ 0),(19,.sl aH.length (dP aH) .none),(20,.int .i64 (aH.length:Nat)),(21,.int .i64 (i:Nat)),(26,.sl xs.length (bG xs) .none),(27,.int .i64 (xs.length:Nat)),(28,.int .i64 (k:Nat))],J3,T⟩ (ak [] [] (by simp) (by simp) (by simpa using lh3) (by simp) ho3 (by simp[lb3];omega)) ?_;refine QN aH xs H.length (ahv _) f lo hi cf i k H.length Da XZ (.sl xs.length (bG xs) .none) (x1,x2) ug w8 (by simp) (by simp) (by omega) XB _ λe J' pI a1 a2 a3=>?_;have a1':=a1.less;have lb4:=a1'.below;have lh4:=a1'.pre.le;refine iT _ (aF ⟨[(1,.int .i64 f),(2,.int .i64 lo),(3,.int .i64 hi),(4,.ptr H.length 0),(9,pI),(11,.ptr Da 0),(19,.sl aH.length (dP aH) .none),(20,.int .i64 (aH.length:Nat)),(21,.int .i64 (i:Nat)),(26,.sl xs.length (bG xs) .none),(27,.int .i64 (xs.length:Nat)),(28,.int .i64 (k:Nat))],J',T⟩ (ak [] [] (by simp) (by simp) (by simpa using lh4) (by simp) a1.ok a3) ?_);refine br λK hK=>?_;simp(disch:=omega) ;apply hK;refine⟨(k+1,J',pI),⟨by show k+1<=_;omega,by rw[GQ];exact a1',by show H.length<J'.length;omega,by show Da<J'.length;omega⟩,by show xs.length-(k+1)<xs.length-k;omega,?_⟩;refine ak [] [] ?_ ?_ ?_ ?_ a1.ok ?_
     all_goals simp[lb4]
     all_goals omega
    ·simp  at eL;have Gw:k=xs.length:=by omega
     subst Gw;rw[ahO,<-zj] at k2;have Yk:=k2.less;have lb4:=Yk.below;have lh4:=Yk.pre.le;apply aD;simp(disch:=omega) ;refine bH _ (aF ⟨[(1,.int .i64 f),(2,.int .i64 lo),(3,.int .i64 hi),(4,.ptr H.length 0),(9,GL),(19,.sl aH.length (dP aH) .none),(20,.int .i64 (aH.length:Nat)),(21,.int .i64 (i:Nat))],J2,T⟩ (ak [] [] (by simp) (by simp) (by simpa using lh4) (by simp) k2.ok (by simp[lb4];omega)) ?_);refine br λK hK=>?_;simp(disch:=omega) ;apply hK;refine⟨(i+1,J2,GL),⟨by show i+1<=_;omega,Yk,k3⟩,by show aH.length-(i+1)<aH.length-i;omega,?_⟩;refine ak [] [] ?_ ?_ ?_ ?_ k2.ok ?_
     all_goals simp[lb4]
     all_goals omega
  ·simp  at hk;have yV:i=aH.length:=by omega
   subst yV;rw[ahO] at g2;have kW:(lg f lo hi aH).length<=1000000:=ahA (hlen aH hx) (by omega);generalize lg f lo hi aH=d at *;have lh:=g2.pre.le;obtain⟨⟨S,hS,Ks⟩,rC,je⟩:=g2;rcases hS with⟨rfl,rfl,rfl⟩|⟨ib,cap,r,rfl,Ri,hr,rfl⟩
   ·have cs:=Lo J T .full;have cc:=CK J T .full;apply aD;simp(disch:=omega) ;apply aN;clear aN;refine aK λK hK=>?_;simp(disch:=omega) ;refine ai (cs) ?_;simp(disch:=omega) ;apply hK;refine aK λK hK=>?_;simp(disch:=omega) ;refine ai (cc) ?_;simp(disch:=omega) ;apply hK;apply bu;simp(disch:=omega) ;rw[hf];have hn:jL []=[]:=aiQ.2 λx hx=>by simpa using(mN [] x).1 hx
    exact⟨rC,hn,by rw[hn];rfl⟩
   ·have gi:=Ks.get (i:=ib) (b:=.cells (ints d++List.replicate r AV.top)) (by simp);have li:=(aht.1 gi).1;have cs:=Pq d (List.replicate r .top) ib cap (by omega) J T gi;apply aD;simp(disch:=omega) ;apply aN;clear aN;refine aK λK hK=>?_;simp(disch:=omega) ;refine ai (cs) ?_;simp(disch:=omega) ;apply hK;have gi2:(J.set ib (.cells (ints (pV d)++List.replicate r AV.top)))[ib]?=some (.cells (ints (pV d)++List.replicate r AV.top)):=ahZ li;have cc:=F9 (pV d) (List.replicate r .top) ib cap (by rw[uL];omega) (J.set ib (.cells (ints (pV d)++List.replicate r AV.top))) T gi2 (Im _);rw[uL] at cc;refine aK λK hK=>?_;simp(disch:=omega) ;refine ai (cc) ?_;simp(disch:=omega) ;apply hK;apply bu;simp(disch:=omega) ;rw[hf];exact⟨rC.set Ri _,ib,⟨rfl,rfl⟩,Ri,ints (List.replicate (d.length-(Lib.compact (pV d)).length) 0)++List.replicate r AV.top,by rw[ahZ li,<-FW,ahM];rfl⟩
end Go.Proofs.YtoejlmpbebjemaaGreat
