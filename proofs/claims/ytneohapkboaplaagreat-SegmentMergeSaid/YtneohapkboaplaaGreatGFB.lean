/- slices.Sort and slices.Compact of integers on a box, by the library's contracts. A list of integers that grows in a box; segment.Between (layer 39): one number. segment.Between (layer 39).
  Conditions: lengths below 400 or 1000, as each theorem says. -/
import Derived.Shelf.Sort.Plain
import Derived.Shelf.Slices.In.SortNone
import Derived.Shelf.Slices.CompactI
import Derived.Test.YtneohapkboaplaaGreatAmD
import Derived.Test.YtneohapkboaplaaGreatGV
import Derived.Test.YtneohapkboaplaaGreatGFA
set_option linter.all false
set_option maxRecDepth 100000
set_option maxHeartbeats 16000000
open List (getD_eq_getElem?_getD length_append mem_append take_length)
namespace Go.Proofs.YtneohapkboaplaaGreat
open Go Go.Am Go.Sort Go.Shelf Go.RowKit Go.Proofs
def NO:Ren:=⟨fun|125=>142|128=>186|129=>187|189=>82|215=>138|216=>152|257=>155|294=>199|295=>200|296=>201|297=>202|298=>203|299=>204|300=>205|301=>206|328=>226|329=>219|330=>220|331=>227|332=>228|343=>235|x=>x,
 fun|28=>25|46=>200|51=>239|53=>218|131=>140|182=>232|183=>233|218=>256|222=>215|228=>267|229=>225|x=>x,fun x=>x⟩
theorem JX:Lays.n189 Tryz.prog NO:=
 {
  mixed:=by kernel_rfl
  f125:=Tryz.func142.trans (congrArg some (by kernel_rfl))
  f128:=Tryz.func186.trans (congrArg some (by kernel_rfl))
  f129:=Tryz.func187.trans (congrArg some (by kernel_rfl))
  f189:=Tryz.func82.trans (congrArg some (by kernel_rfl))
  f215:=Tryz.func138.trans (congrArg some (by kernel_rfl))
  f216:=Tryz.func152.trans (congrArg some (by kernel_rfl))
  f257:=Tryz.func155.trans (congrArg some (by kernel_rfl))
  f294:=Tryz.func199.trans (congrArg some (by kernel_rfl))
  f295:=Tryz.func200.trans (congrArg some (by kernel_rfl))
  f296:=Tryz.func201.trans (congrArg some (by kernel_rfl))
  f297:=Tryz.func202.trans (congrArg some (by kernel_rfl))
  f298:=Tryz.func203.trans (congrArg some (by kernel_rfl))
  f299:=Tryz.func204.trans (congrArg some (by kernel_rfl))
  f300:=Tryz.func205.trans (congrArg some (by kernel_rfl))
  f301:=Tryz.func206.trans (congrArg some (by kernel_rfl))
  f328:=Tryz.func226.trans (congrArg some (by kernel_rfl))
  f329:=Tryz.func219.trans (congrArg some (by kernel_rfl))
  f330:=Tryz.func220.trans (congrArg some (by kernel_rfl))
  f331:=Tryz.func227.trans (congrArg some (by kernel_rfl))
  f332:=Tryz.func228.trans (congrArg some (by kernel_rfl))
  f343:=Tryz.func235.trans (congrArg some (by kernel_rfl))
  t0:=Tryz.underlying0
  a0:=Tryz.isAgg0
  z0:=Tryz.sizeOf0
  v0:=Tryz.zeroValue0
  t3:=Tryz.underlying3
  a3:=Tryz.isAgg3
  z3:=Tryz.sizeOf3
  v3:=Tryz.zeroValue3
  t4:=Tryz.underlying4
  a4:=Tryz.isAgg4
  z4:=Tryz.sizeOf4
  v4:=Tryz.zeroValue4
  t5:=Tryz.underlying5
  a5:=Tryz.isAgg5
  z5:=Tryz.sizeOf5
  v5:=Tryz.zeroValue5
  t9:=Tryz.underlying9
  a9:=Tryz.isAgg9
  z9:=Tryz.sizeOf9
  v9:=Tryz.zeroValue9
  t28:=Tryz.underlying25
  a28:=Tryz.isAgg25
  z28:=Tryz.sizeOf25
  v28:=Tryz.zeroValue25
  t46:=Tryz.underlying200
  a46:=Tryz.isAgg200
  z46:=Tryz.sizeOf200
  v46:=Tryz.zeroValue200
  t51:=Tryz.underlying239
  a51:=Tryz.isAgg239
  z51:=Tryz.sizeOf239
  v51:=Tryz.zeroValue239
  t53:=Tryz.underlying218
  a53:=Tryz.isAgg218
  z53:=Tryz.sizeOf218
  v53:=Tryz.zeroValue218
  t131:=Tryz.underlying140
  a131:=Tryz.isAgg140
  z131:=Tryz.sizeOf140
  v131:=Tryz.zeroValue140
  t182:=Tryz.underlying232
  a182:=Tryz.isAgg232
  z182:=Tryz.sizeOf232
  v182:=Tryz.zeroValue232
  t183:=Tryz.underlying233
  a183:=Tryz.isAgg233
  z183:=Tryz.sizeOf233
  v183:=Tryz.zeroValue233
  t218:=Tryz.underlying256
  a218:=Tryz.isAgg256
  z218:=Tryz.sizeOf256
  v218:=Tryz.zeroValue256
  t222:=Tryz.underlying215
  a222:=Tryz.isAgg215
  z222:=Tryz.sizeOf215
  v222:=Tryz.zeroValue215
  t228:=Tryz.underlying267
  a228:=Tryz.isAgg267
  z228:=Tryz.sizeOf267
  v228:=Tryz.zeroValue267
  t229:=Tryz.underlying225
  a229:=Tryz.isAgg225
  z229:=Tryz.sizeOf225
  v229:=Tryz.zeroValue225 }
def NP:Ren:=⟨fun|20=>83|x=>x,fun|22=>25|x=>x,fun x=>x⟩
theorem QH : Lays2.n20 Tryz.prog NP :=
  { mixed := by kernel_rfl
    f20 := Tryz.func83.trans (congrArg some (by kernel_rfl))
    t0 := Tryz.underlying0
    a0 := Tryz.isAgg0
    z0 := Tryz.sizeOf0
    v0 := Tryz.zeroValue0
    t3 := Tryz.underlying3
    a3 := Tryz.isAgg3
    z3 := Tryz.sizeOf3
    v3 := Tryz.zeroValue3
    t4 := Tryz.underlying4
    a4 := Tryz.isAgg4
    z4 := Tryz.sizeOf4
    v4 := Tryz.zeroValue4
    t22 := Tryz.underlying25
    a22 := Tryz.isAgg25
    z22 := Tryz.sizeOf25
    v22 := Tryz.zeroValue25
    i3 := by kernel_rfl }
theorem MY:OO (fun x:Int=>[Value.int .i64 x]) (fun x=>[AV.int .i64 x]) 1 where
 pos:=by decide
 len _:=rfl
 zH _:=rfl
 one x v hv:=by simp at hv;subst hv;rfl
 rep x j hj L N T w v:=by
  match j,hj with
  |0,_=>exact⟨fun h=>by cases h;rfl,fun h=>by subst h;exact .int _ _⟩
theorem oY (l:List Int):l.flatMap (fun x=>[AV.int .i64 x])=ints l:=by
 induction l with
 |nil=>rfl
 |cons x r ih=>rw[List.flatMap_cons,ih];rfl
theorem O9 (d : Array Int) (t : Nat) (h : t < d.size) : (flatK (fun x : Int => [Value.int .i64 x]) 1 d)[t]! = Value.int .i64 d[t]! := by
  rw [get_flatK _ _ _ _ (by omega)];simp [Nat.mod_one]
theorem EY (w : World) (b o : Nat) (d : Array Int) : putRowK (fun x : Int => [Value.int .i64 x]) 1 w b o d = putRow (Value.int .i64) w b o d := by
  unfold putRowK putRow
  congr 1
  funext c
  unfold putCells
  congr 1
  funext k x
  rw [size_flatK, Nat.mul_one]
  by_cases h : o ≤ k ∧ k < o + d.size
  · rw [if_pos h, if_pos h, O9 d (k - o) (by omega)]; rfl
  · rw [if_neg h, if_neg h]
theorem JZ {w : World} {b o : Nat} {d : Array Int} (h : HoldsK (fun x : Int => [Value.int .i64 x]) 1 w b o d) : Holds (Value.int .i64) w b o d := fun j hj => by
  obtain ⟨h1, h2⟩ := h j (by rw [size_flatK]; omega);rw [O9 d j hj] at h1;exact ⟨h1, h2⟩
def nQ (l:List Int):List Int:=l.mergeSort fun x y=>decide (x≤y)
theorem rR (l:List Int):(nQ l).length=l.length:=List.length_mergeSort _
theorem yQ {H:List aA}{T:ar}{L:Lay}{w:World}{ca:Array Value}{v:AV}(hl:ca.size=1)(hr:∀(j:Nat)(h:j<[v].length)(h':j<ca.size),bc L H.length T w ([v][j]'h) (ca[j]'h')):∃c,ca=#[c]∧bc L H.length T w v c:=by
 obtain⟨cl⟩:=ca
 match cl,hl with
 |[a],_=>exact⟨a,rfl,hr 0 (by simp) (by simp)⟩
theorem Kt (zs:List Int)(rest:List AV)(i cap:Nat)(hl:zs.length≤1099511627776)(H:List aA)(T:ar)(hi:H[i]?=some (.cells (ints zs++rest))) :
  aq Tryz.prog 82 [.bJ i zs.length cap] H T (Is (.df []) (H.set i (.cells (ints (nQ zs)++rest))) T):=by
 rw[←oY] at hi;refine⟨fun _ _=>Tryz.call82 _ _,fun L w ca hc mO hr=>?_⟩;obtain⟨c,rfl,Es⟩:=yQ (by simpa using mO) hr;obtain⟨rfl,cg,aZ⟩:=Es.ir;have qC:=Any.slices_Sort_int JX (L.bN i) 0 cap zs w (JZ (hc.C4 MY hi)) (hc.lE aZ) (by omega);refine qC.mono ?_;rintro e w' ⟨rfl,n,os,rfl⟩;obtain⟨L',jT,dP,_⟩:=hc.sorted (n:=n) (os:=os) (l':=nQ zs) MY hi (rR zs);rw[oY] at jT dP;unfold sortWorldK at jT dP;rw[EY] at jT dP;exact⟨_,_,T,L',_,⟨rfl,rfl,rfl⟩,rfl,jT,.df [] #[] rfl (fun j hj=>by simp at hj),dP⟩
theorem GQ (H:List aA)(T:ar)(tg:Tag):aq Tryz.prog 82 [.sl 0 [] tg] H T (Is (.df []) H T):=by
 refine⟨fun _ _=>Tryz.call82 _ _,fun L w ca hc mO hr=>?_⟩;obtain⟨c,rfl,Es⟩:=yQ (by simpa using mO) hr;obtain⟨a,cap,rfl,_⟩:=Es.eO;refine(Any.slices_Sort_int_none JX a cap w).mono ?_;rintro e w' ⟨rfl,rfl⟩;exact⟨_,H,T,L,_,⟨rfl,rfl,rfl⟩,rfl,hc,.df [] #[] rfl (fun j hj=>by simp at hj),Ev.refl (Nat.le_refl _) (Nat.le_refl _)⟩
theorem Cf (zs:List Int)(rest:List AV)(i cap:Nat)(hl:zs.length≤1099511627776)(H:List aA)(T:ar)(hi:H[i]?=some (.cells (ints zs++rest)))(hle:(Lib.compact zs).length≤zs.length) :
  aq Tryz.prog 83 [.bJ i zs.length cap] H T (Is (.bJ i (Lib.compact zs).length cap) (H.set i (.cells (ints (Lib.compact zs++List.replicate (zs.length-(Lib.compact zs).length) 0)++rest))) T):=by
 rw[←oY] at hi;refine⟨fun _ _=>Tryz.call83 _ _,fun L w ca hc mO hr=>?_⟩;obtain⟨c,rfl,Es⟩:=yQ (by simpa using mO) hr;obtain⟨rfl,cg,aZ⟩:=Es.ir;have qC:=Any.slices_Compact_int QH (L.bN i) 0 cap zs w (JZ (hc.C4 MY hi)) (by omega) cg;refine qC.mono ?_;rintro e w' ⟨rfl,n,rfl⟩;obtain⟨L',jT,dP,qp⟩:=hc.sorted (n:=n) (os:=#[]) (l':=Lib.compact zs++List.replicate (zs.length-(Lib.compact zs).length) 0) MY hi (by rw[length_append,List.length_replicate];omega);rw[oY] at jT dP;unfold sortWorldK at jT dP;rw[EY,grow_empty] at jT dP;refine⟨_,_,T,L',_,⟨rfl,rfl,rfl⟩,rfl,jT,?_,dP⟩;rw[←qp i aZ];exact .bJ _ _ _ (by rw[List.length_set];exact aZ) (by omega)
attribute [-simp] getD_eq_getElem?_getD in
theorem zk (H:List aA)(T:ar)(tg:Tag):aq Tryz.prog 83 [.sl 0 [] tg] H T (Is (.sl 0 [] .none) H T):=by
 refine aq.cD ?_;refine aj 6 [] Tryz.ntmps83 Tryz.func83 rfl (fun _ _=>Tryz.call83 _ _) (by simp) (fun HO=>?_);apply ae;intro K h;simp(disch:=omega);apply h;clear h K;refine af fun K1 aQ=>?_;apply ae;intro K h;simp(disch:=omega);apply h;clear h K;apply aF rfl;apply ae;intro K h;simp(disch:=omega);apply h;clear h K;apply az;simp(disch:=omega) ;exact⟨rfl,rfl,rfl⟩
open iF eJ dh
def aa1 (h:Nat)(d:List Int)(out:AV)(S:List (Nat×aA)):Prop:=
 (d=[]∧out=.sl 0 [] .full∧S=[])∨∃i cap r,out=.bJ i d.length cap∧h≤i∧d.length+r=cap∧S=[(i,.cells (ints d++List.replicate r AV.top))]
structure GI (H:List aA)(T:ar)(d:List Int)(R:List (Nat×aA))(J:List aA)(out:AV):Prop where
 bx:∃S,aa1 H.length d out S∧Has J (R++S)
 pre:eT H J
 ok:bC J T
variable {H : List aA} {T : ar} {d : List Int} {R : List (Nat × aA)} {J : List aA} {out : AV}
theorem GI.nil (ho:bC H T):GI H T [] [] H (.sl 0 [] .full):=⟨⟨[],.inl ⟨rfl,rfl,rfl⟩,⟨by simp,fun p hp=>by simp at hp⟩⟩,⟨[],by simp⟩,ho⟩
theorem GI.more (h:GI H T d R J out)(b:aA)(ho:bC (J++[b]) T):GI H T d ((J.length,b)::R) (J++[b]) out:=by
 obtain⟨⟨S,h1,h2⟩,h3,h4⟩:=h;exact⟨⟨S,h1,(h2.new b).perm (List.perm_append_singleton _ _).symm⟩,h3.app _,ho⟩
theorem GI.less {x:Nat×aA}(h:GI H T d (x::R) J out):GI H T d R J out:=by
 obtain⟨⟨S,h1,h2⟩,h3,h4⟩:=h;exact⟨⟨S,h1,h2.sub (List.sublist_cons_self _ _)⟩,h3,h4⟩
theorem GI.get (h:GI H T d R J out){i:Nat}{b:aA}(hm:(i,b)∈R):J[i]?=some b:=by
 obtain⟨⟨S,h1,h2⟩,h3,h4⟩:=h;exact h2.get (List.mem_append_left _ hm)
theorem GI.below (h:GI H T d R J out):Below J.length T.length out:=by
 obtain⟨⟨S,h1,h2⟩,h3,h4⟩:=h;rcases h1 with⟨_,rfl,_⟩|⟨i,cap,r,rfl,hi,hr,rfl⟩
 ·simp
 ·exact Il.2 (h2.lt (i:=i) (b:=.cells (ints d++List.replicate r AV.top)) (by simp))
theorem GI.first (h:GI H T [] R J (.sl 0 [] .full))(x:Int)(nc:Nat)(hn:1≤nc):GI H T [x] R (J++[.cells (.int .i64 x::List.replicate (nc-1) AV.top)]) (.bJ J.length 1 nc):=by
 obtain⟨⟨S,h1,h2⟩,h3,h4⟩:=h;have hS:S=[]:=by
  rcases h1 with⟨_,_,h⟩|⟨i,cap,r,h,_⟩
  ·exact h
  ·cases h
 subst hS;rw[List.append_nil] at h2;exact⟨⟨_,.inr ⟨J.length,nc,nc-1,rfl,h3.le,by simp only[List.length_singleton];omega,rfl⟩,h2.new _⟩,h3.app _,h4.snoc (by simp)⟩
theorem GI.put {i cap r:Nat}(hb:Has J (R++[(i,.cells (ints d++List.replicate r AV.top))]))(hi:H.length≤i)(hr:d.length+r=cap)(h3:eT H J)(h4:bC J T)(hle:d.length+1≤cap)(x:Int) :
  GI H T (d++[x]) R (J.set i (.cells ((ints d++List.replicate r AV.top).take d.length++[.int .i64 x]++(ints d++List.replicate r AV.top).drop (d.length+1)))) (.bJ i (d.length+1) cap):=by
 have hl:(ints d).length=d.length:=by simp
 have e1:(ints d++List.replicate r AV.top).take d.length=ints d:=List.take_left' hl;have e2:(ints d++List.replicate r AV.top).drop (d.length+1)=List.replicate (r-1) AV.top:=by
  rw[←List.drop_drop,List.drop_left' hl,List.drop_replicate]
 rw[e1,e2,cX];exact⟨⟨_,.inr ⟨i,cap,r-1,by simp,hi,by simp;omega,rfl⟩,by simpa using hb.set (A:=R) (B:=[]) (.cells (ints (d++[x])++List.replicate (r-1) AV.top))⟩,h3.set hi _,h4.set (by simp)⟩
theorem GI.grow {i r nc:Nat}(hb:Has J (R++[(i,.cells (ints d++List.replicate r AV.top))]))(h3:eT H J)(h4:bC J T)(hn:d.length+1≤nc)(x:Int) :
  GI H T (d++[x]) R (J++[.cells ((ints d++List.replicate r AV.top).take d.length++[.int .i64 x]++List.replicate (nc-(d.length+1)) AV.top)]) (.bJ J.length (d.length+1) nc):=by
 have hl:(ints d).length=d.length:=by simp
 have e1:(ints d++List.replicate r AV.top).take d.length=ints d:=List.take_left' hl;rw[e1,cX];exact⟨⟨_,.inr ⟨J.length,nc,nc-(d.length+1),by simp,h3.le,by simp;omega,rfl⟩,(hb.sub (List.sublist_append_left _ _)).new _⟩,h3.app _,h4.snoc (by simp)⟩
def F6 (f lo hi:Int)(cf:Int)(x:Nm):Bool:=(cf==f&&decide (lo≤x.1))&&decide (x.1≤hi)
def po (f lo hi:Int)(cf:Int)(x:Nm):List Int:=if F6 f lo hi cf x=true then [x.2] else []
attribute [-simp] getD_eq_getElem?_getD in
theorem LL (aw:List Cl)(xs:List Nm)(nb:Nat)(fO:nb≤H.length)(f lo hi cf:Int)(vi vj b4 zD RO:Nat)(xv:AV)(x:Nm)(hd:d.length≤1099511627776)(hG:GI H T d R J out)
  (Xh:(zD,.cells [.int .i64 cf,xv])∈R) (CJ:(RO,.cells (vQ x))∈R) (l4:b4<H.length+1) (hR:b4<J.length) (Q:Exit→St→Prop)
  (go:∀(e:Env)(J':List aA)(I7:AV),GI H T (d++po f lo hi cf x) R J' I7→J.length≤J'.length→bt J'.length T.length e [(1,.int .i64 f),(2,.int .i64 lo),(3,.int .i64 hi),(4,.ptr b4 0),(9,I7),(11,.ptr zD 0),(19,.sl aw.length (cR aw) .none),(20,.int .i64 (aw.length:Nat)),(21,.int .i64 (vi:Nat)),(26,.sl xs.length (aU xs) .none),(27,.int .i64 (xs.length:Nat)),(28,.int .i64 (vj:Nat))]→Q .normal ⟨e,J',T⟩) :
  AW ⟨Tryz.prog,59,31,nb,T.length,[100052]⟩ (du [1,1,1,0,1,0,0,1,1,0,0,1,1,0,0,1,1,0,0,1] (Tryz.f26.body.getD .skip)) Q ⟨[(1,.int .i64 f),(2,.int .i64 lo),(3,.int .i64 hi),(4,.ptr b4 0),(9,out),(11,.ptr zD 0),(13,.ptr RO 0),(19,.sl aw.length (cR aw) .none),(20,.int .i64 (aw.length:Nat)),(21,.int .i64 (vi:Nat)),(26,.sl xs.length (aU xs) .none),(27,.int .i64 (xs.length:Nat)),(28,.int .i64 (vj:Nat))],J,T⟩:=by
 conv=>arg 2;whnf
 have g11:=hG.get Xh;have g13:=hG.get CJ;have OK:=aV g11;have FQ:=aV g13;have l11:=(List.getElem?_eq_some_iff.1 g11).1;have WT:=(List.getElem?_eq_some_iff.1 g13).1;have lb:=hG.below;have lJ:=hG.pre.le;obtain⟨x1,x2⟩:=x;have skip:F6 f lo hi cf (x1,x2)=false→∀e:Env,bt J.length T.length e [(1,.int .i64 f),(2,.int .i64 lo),(3,.int .i64 hi),(4,.ptr b4 0),(9,out),(11,.ptr zD 0),(19,.sl aw.length (cR aw) .none),(20,.int .i64 (aw.length:Nat)),(21,.int .i64 (vi:Nat)),(26,.sl xs.length (aU xs) .none),(27,.int .i64 (xs.length:Nat)),(28,.int .i64 (vj:Nat))]→Q .normal ⟨e,J,T⟩:=fun hb e he=>
  go e J out (by unfold po;rw[hb];simpa using hG) (Nat.le_refl _) he
 by_cases h1:cf=f
 rotate_left
 ·have b1:(cf==f)=false:=beq_eq_false_iff_ne.2 h1;refine ae fun K hK=>?_;simp(disch:=omega)[OK,FQ,b1,h1];apply hK;clear hK K;apply aD rfl;apply ai;exact skip (by unfold F6;rw[b1];rfl) _ (by simp[lb];omega)
 have b1:(cf==f)=true:=by simpa using h1
 by_cases h2:lo≤x1
 rotate_left
 ·have b2:decide (lo≤x1)=false:=decide_eq_false h2;refine ae fun K hK=>?_;simp(disch:=omega)[OK,FQ,b1,h1,b2,h2];apply hK;clear hK K;apply aD rfl;apply ai;exact skip (by unfold F6;simp only;rw[b1,b2];rfl) _ (by simp[lb];omega)
 have b2:decide (lo≤x1)=true:=decide_eq_true h2
 by_cases h3:x1≤hi
 rotate_left
 ·have b3:decide (x1≤hi)=false:=decide_eq_false h3;refine ae fun K hK=>?_;simp(disch:=omega)[OK,FQ,b1,h1,b2,h2,b3,h3];apply hK;clear hK K;apply aD rfl;apply ai;exact skip (by unfold F6;simp only;rw[b1,b2,b3];rfl) _ (by simp[lb];omega)
 have b3:decide (x1≤hi)=true:=decide_eq_true h3;have aaw:d++po f lo hi cf (x1,x2)=d++[x2]:=by unfold po F6;simp only;rw[b1,b2,b3];rfl
 rw[aaw] at go;refine ae fun K hK=>?_;simp(disch:=omega)[OK,FQ,b1,h1,b2,h2,b3,h3];apply hK;clear hK K;apply aF rfl;have h':=hG;obtain⟨⟨S,hS,Gb⟩,tu,iG⟩:=hG;rcases hS with⟨rfl,rfl,rfl⟩|⟨i,cap,r,rfl,W8,hr,rfl⟩
 ·have hg:=fun nc hn=>GI.first h' x2 nc hn;refine au fun K hK=>?_;simp(disch:=omega)[FQ];intro nc hn;apply hK;clear hK K;have:=hg nc hn;refine go _ _ _ this (by simp) ?_;simp;omega
 ·have gi:=Gb.get (i:=i) (b:=.cells (ints d++List.replicate r AV.top)) (by simp);have ia:=fun hle=>GI.put Gb W8 hr tu iG hle x2;have OY:=fun nc hn=>GI.grow (nc:=nc) Gb tu iG hn x2;refine au fun K hK=>?_;simp(disch:=omega)[FQ];refine⟨3,_,[.int .i64 x2],1,by kernel_rfl,gi,by simp;omega,by simp,by simp;omega,by omega,by kernel_rfl,by simp,fun hle=>?_,fun nc aZ kT=>?_⟩
  ·have hg:=ia hle;simp only[Kd,Nat.mul_one];generalize hX:J.set i _=H2 at hg ⊢;have iE:=hg.below;have iD:J.length=H2.length:=by rw[←hX,List.length_set]
   simp(disch:=omega) ;apply hK;clear hK K;refine go _ _ _ hg (by omega) ?_;simp[iE];omega
  ·have hg:=OY nc kT;simp only[Kd,Nat.mul_one];generalize hX:J++[aA.cells _]=H2 at hg ⊢;have iE:=hg.below;have iD:J.length+1=H2.length:=by rw[←hX];simp
   have SG:=fun e=>go e _ _ hg (by omega);clear OY ia hg go skip OK FQ gi Gb iG tu h' g11 g13 hX lb;generalize J.length=i2 at *;simp(disch:=omega) ;apply hK;clear hK K;refine SG _ ?_;simp[iE];omega
theorem D5 (l:List Int):(Lib.compact l).length≤l.length:=by
 unfold Lib.compact Lib.compactUpTo;rw[List.length_map];exact Nat.le_trans (List.length_filter_le _ _) (by simp)
theorem mM {l : List Int} (hs : l.Pairwise fun x y => x ≤ y) : ∀ m, m ≤ l.length → kU (Lib.compactUpTo l.toArray m) ∧ (∀ x, x ∈ Lib.compactUpTo l.toArray m ↔ x ∈ l.take m) ∧ ∀ x ∈ Lib.compactUpTo l.toArray m, 0 < m → x ≤ l.getD (m - 1) 0
  | 0, _ => ⟨.nil, by simp [Lib.compactUpTo], by simp [Lib.compactUpTo]⟩
  | m + 1, h => by
    obtain ⟨h1, h2, h3⟩ := mM hs m (by omega)
    have hm : l.toArray[m]! = l.getD m 0 := by simp [getD_eq_getElem?_getD]
    have hle : ∀ x ∈ Lib.compactUpTo l.toArray m, x ≤ l.getD m 0 := by
      intro x hx;rcases Nat.eq_zero_or_pos m with h0 | h0
      · subst h0; simp [Lib.compactUpTo] at hx
      · refine Int.le_trans (h3 x hx h0) ?_;have := List.pairwise_iff_getElem.1 hs (m - 1) m (by omega) (by omega) (by omega);simpa [getD_eq_getElem?_getD, List.getElem?_eq_getElem (show m - 1 < l.length by omega), List.getElem?_eq_getElem (show m < l.length by omega)] using this
    have eN : l.take (m + 1) = l.take m ++ [l.getD m 0] := bf l m 0 (by omega)
    rw [Lib.compactUpTo_succ, eN, hm]
    cases hk : Lib.keeps l.toArray m with
    | true =>
      have mi : m = 0 ∨ l.getD m 0 ≠ l.getD (m - 1) 0 := by
        unfold Lib.keeps at hk;have := of_decide_eq_true hk;rw [hm] at this;simpa [getD_eq_getElem?_getD] using this
      simp only [if_true]
      refine ⟨List.pairwise_append.2 ⟨h1, by simp, fun a ha b hb => ?_⟩, fun x => by rw [mem_append, mem_append, h2 x], fun x hx _ => ?_⟩
      · rw [List.mem_singleton.1 hb]
        rcases mi with h0 | h0
        · subst h0; simp [Lib.compactUpTo] at ha
        · rcases Nat.eq_zero_or_pos m with ZR | ZR
          · subst ZR; simp [Lib.compactUpTo] at ha
          · have g1 := h3 a ha ZR;have := List.pairwise_iff_getElem.1 hs (m - 1) m (by omega) (by omega) (by omega);have g2 : l.getD (m - 1) 0 ≤ l.getD m 0 := by simpa [getD_eq_getElem?_getD, List.getElem?_eq_getElem (show m - 1 < l.length by omega), List.getElem?_eq_getElem (show m < l.length by omega)] using this
            omega
      · rw [Nat.add_sub_cancel]
        rcases List.mem_append.1 hx with hx | hx
        · exact hle x hx
        · rw [List.mem_singleton.1 hx]; exact Int.le_refl _
    | false =>
      have mi : 0 < m ∧ l.getD m 0 = l.getD (m - 1) 0 := by
        unfold Lib.keeps at hk;have := of_decide_eq_false hk;rw [hm] at this;refine ⟨by omega, ?_⟩;have := Classical.not_not.1 fun h => this (.inr h);simpa [getD_eq_getElem?_getD] using this
      simp only [Bool.false_eq_true, if_false, List.append_nil]
      refine ⟨h1, fun x => ?_, fun x hx _ => by rw [Nat.add_sub_cancel]; exact hle x hx⟩
      rw [h2 x, mem_append, List.mem_singleton]
      refine ⟨.inl, fun h => ?_⟩
      rcases h with h | rfl
      · exact h
      · rw [mi.2, ← h2]
        refine (h2 _).2 ?_;have : l.take m = l.take (m - 1) ++ [l.getD (m - 1) 0] := by
          have := bf l (m - 1) 0 (by omega)
          rwa [show m - 1 + 1 = m by omega] at this
        rw [this]; simp
theorem GP (l:List Int)(x:Int):x∈nQ l↔x∈l:=(List.mergeSort_perm l _).mem_iff
theorem Az (l:List Int):(nQ l).Pairwise fun x y=>x≤y:=
 (List.pairwise_mergeSort (le:=fun x y=>decide (x≤y)) (fun a b c h1 h2=>by simp only[decide_eq_true_eq] at *;omega) (fun a b=>by simp only[Bool.or_eq_true,decide_eq_true_eq];omega) l).imp fun h=>by simpa using h
def Js (l:List Int):List Int:=Lib.compact (nQ l)
theorem LP (l:List Int):kU (Js l):=(mM (Az l) _ (Nat.le_refl _)).1
theorem Bt (l:List Int)(x:Int):x∈Js l↔x∈l:=by
 have:=(mM (Az l) _ (Nat.le_refl _)).2.1 x;rw[take_length,GP] at this;exact this
def Qf (f lo hi:Int)(c:Cl):List Int:=c.x.flatMap (po f lo hi c.f)
def rG (f lo hi:Int)(l:List Cl):List Int:=l.flatMap (Qf f lo hi)
def yu (s:Sg)(f lo hi:Int):List Int:=if aP s=true then Js (rG f lo hi s.aw) else []
theorem u5 (f lo hi cf:Int):∀x:List Nm,(x.flatMap (po f lo hi cf)).length≤x.length
 |[]=>Nat.le_refl _
 |y::x=>by
  rw[List.flatMap_cons,length_append,List.length_cons];have:=u5 f lo hi cf x;have:(po f lo hi cf y).length≤1:=by unfold po;split<;>simp
  omega
theorem A4 (f lo hi:Int):∀l:List Cl,(∀c∈l,c.x.length≤1000)→(rG f lo hi l).length≤l.length*1000
 |[],_=>by simp[rG]
 |c::l,h=>by
  have h1:=A4 f lo hi l fun c hc=>h c (List.mem_cons_of_mem _ hc);have h2:=u5 f lo hi c.f c.x;have h3:=h c (by simp);unfold rG at h1 ⊢;rw[List.flatMap_cons,length_append,List.length_cons,Qf];omega
attribute [-simp] getD_eq_getElem?_getD in
theorem Of (s:Sg)(hs:mh s)(f lo hi:Int)(H:List aA)(T:ar):aq Tryz.prog 26 [ec s,.int .i64 f,.int .i64 lo,.int .i64 hi] H T (Is (.sl (yu s f lo hi).length (ints (yu s f lo hi)) .none) H T):=by
 refine aq.Lj (by simp) ?_;have cv:=fun H=>iV s hs H T;have fK:=hs.c;have hx:=hs.x;refine aj 31 [100052] Tryz.ntmps26 Tryz.func26 rfl (fun _ _=>Tryz.call26 _ _) (by simp) (fun HO=>?_);apply ae;intro K h;simp(disch:=omega);apply h;clear h K;apply ae;intro K h;simp(disch:=omega);apply h;clear h K;refine af fun K1 aQ=>?_;have eX:bC (H++[.cells (bH s)]) T:=HO.snoc (by simp)
 cases hv:aP s with
 |false=>
  rw[hv] at cv;have hf:yu s f lo hi=[]:=by unfold yu;rw[hv];rfl
  refine ae fun K hK=>?_;simp(disch:=omega) ;refine ak (cv _) ?_;simp(disch:=omega) ;apply hK;clear hK K;apply aF rfl;apply ae;intro K h;simp(disch:=omega);apply h;clear h K;apply az;simp(disch:=omega) ;exact⟨hf,by rw[hf];rfl⟩
 |true=>
 rw[hv] at cv;have hf:yu s f lo hi=Js (rG f lo hi s.aw):=by unfold yu;rw[if_pos hv]
 have hlen:=A4 f lo hi;refine ae fun K hK=>?_;simp(disch:=omega) ;refine ak (cv _) ?_;simp(disch:=omega) ;apply hK;clear hK K;apply aD rfl;apply ai;simp(disch:=omega) ;apply aQ;clear aQ;refine af fun K1 aQ=>?_;apply ae;intro K h;simp(disch:=omega);apply h;clear h K;obtain⟨an,aK,aw⟩:=s;simp only at fK hx hf;have hG0:GI H T [] [] (H++[.cells (bH ⟨an,aK,aw⟩)]) (.sl 0 [] .full):=((GI.nil HO).more _ eX).less;generalize yu ⟨an,aK,aw⟩ f lo hi=res at *;have CH:H.length<(H++[aA.cells (bH ⟨an,aK,aw⟩)]).length:=by simp
 generalize H++[aA.cells (bH ⟨an,aK,aw⟩)]=J0 at *;apply ah;refine aG (X:=Nat×List aA×AV) (fun x=>⟨[(1,.int .i64 f),(2,.int .i64 lo),(3,.int .i64 hi),(4,.ptr H.length 0),(9,x.2.2),(19,.sl aw.length (cR aw) .none),(20,.int .i64 (aw.length:Nat)),(21,.int .i64 (x.1:Nat))],x.2.1,T⟩)
  (fun x=>x.1≤aw.length∧GI H T (rG f lo hi (aw.take x.1)) [] x.2.1 x.2.2∧H.length<x.2.1.length) (fun x=>aw.length-x.1) (0,J0,.sl 0 [] .full) ?_ ?_ ?_
 ·exact⟨Nat.zero_le _,hG0,CH⟩
 ·refine ag [] [] ?_ ?_ ?_ ?_ eX ?_
  all_goals simp
  all_goals omega
 ·rintro⟨i,J,out⟩ ⟨g1,g2,g3⟩;simp only at g1 g2 g3;have lb:=g2.below;apply ae;intro K h;simp(disch:=omega);apply h;clear h K;refine af fun K2 aW=>?_;refine aN rfl (fun hk=>?_) (fun hk=>?_)
  ·simp  at hk;have bA:=ot aw i hk;have vT:=hx _ (aR aw i c0 hk);have kL:=jY aw (Qf f lo hi) c0 i hk;have lN:(rG f lo hi (aw.take i)).length≤1000000:=Nat.le_trans (hlen (aw.take i) fun c hc=>hx c (List.mem_of_mem_take hc)) (by rw[List.length_take];omega);generalize aw.getD i c0=c at *;obtain⟨cf,xs⟩:=c;simp only at bA vT;have CR:rG f lo hi (aw.take (i+1))=rG f lo hi (aw.take i)++xs.flatMap (po f lo hi cf):=kL;clear kL;generalize rG f lo hi (aw.take i)=d0 at *;apply ai;simp(disch:=omega) ;apply aW;clear aW;refine af fun K3 bz=>?_;apply ah;refine ae fun K hK=>?_;simp(disch:=omega)[bA,cE];apply hK;clear hK K;have HOj:=g2.ok;have Pw:bC (J++[.cells (fL ⟨cf,xs⟩)]) T:=HOj.snoc (by simp);have MD:=g2.more _ Pw;have ph:(J++[aA.cells (fL ⟨cf,xs⟩)]).length=J.length+1:=by simp
   have Tx:(J++[aA.cells (fL ⟨cf,xs⟩)])[J.length]?=some (.cells (fL ⟨cf,xs⟩)):=by simp
   have OK:=aV Tx;obtain⟨zD,Xh⟩:∃i,i=J.length:=⟨_,rfl⟩
   rw[←Xh] at OK MD;simp only[←Xh];have aci:(zD,aA.cells (fL ⟨cf,xs⟩))∈[(zD,aA.cells (fL ⟨cf,xs⟩))]:=by simp
   have l11:zD<(J++[aA.cells (fL ⟨cf,xs⟩)]).length:=by omega
   have l4:H.length<(J++[aA.cells (fL ⟨cf,xs⟩)]).length:=by omega
   clear Tx hG0 g2 lb;generalize J++[aA.cells (fL ⟨cf,xs⟩)]=J1 at *;have lb:=MD.below;have lh:=MD.pre.le;refine aH ⟨[(1,.int .i64 f),(2,.int .i64 lo),(3,.int .i64 hi),(4,.ptr H.length 0),(9,out),(11,.ptr zD 0),(19,.sl aw.length (cR aw) .none),(20,.int .i64 (aw.length:Nat)),(21,.int .i64 (i:Nat))],J1,T⟩ (ag [] [] (by simp) (by simp) (by simpa using lh) (by simp) Pw (by simp[lb];omega)) ?_;refine ae fun K hK=>?_;simp(disch:=omega)[OK];apply hK;clear hK K;apply ah;refine aG (X:=Nat×List aA×AV) (fun x=>⟨[(1,.int .i64 f),(2,.int .i64 lo),(3,.int .i64 hi),(4,.ptr H.length 0),(9,x.2.2),(11,.ptr zD 0),(19,.sl aw.length (cR aw) .none),(20,.int .i64 (aw.length:Nat)),(21,.int .i64 (i:Nat)),(26,.sl xs.length (aU xs) .none),(27,.int .i64 (xs.length:Nat)),(28,.int .i64 (x.1:Nat))],x.2.1,T⟩)
    (fun x=>x.1≤xs.length∧GI H T (d0++(xs.take x.1).flatMap (po f lo hi cf)) [(zD,.cells (fL ⟨cf,xs⟩))] x.2.1 x.2.2∧H.length<x.2.1.length∧zD<x.2.1.length) (fun x=>xs.length-x.1) (0,J1,out) ?_ ?_ ?_
   ·exact⟨Nat.zero_le _,by simpa using MD,l4,l11⟩
   ·refine ag [] [] ?_ ?_ ?_ ?_ Pw ?_
    all_goals simp[lb]
    all_goals omega
   ·rintro⟨k,J2,PT⟩ ⟨k1,k2,k3,k4⟩;simp only at k1 k2 k3 k4;have lb2:=k2.below;apply ae;intro K h;simp(disch:=omega);apply h;clear h K;refine af fun K4 eV=>?_;refine aN rfl (fun dg=>?_) (fun dg=>?_)
    ·simp  at dg;have pL:=eA xs k dg;have Jh:=jY xs (po f lo hi cf) n0 k dg;have aaE:=u5 f lo hi cf (xs.take k);rw[List.length_take] at aaE;have Jg:d0++(xs.take (k+1)).flatMap (po f lo hi cf)=(d0++(xs.take k).flatMap (po f lo hi cf))++po f lo hi cf (xs.getD k n0):=by rw[Jh,List.append_assoc]
     have Ex:(d0++(xs.take k).flatMap (po f lo hi cf)).length≤1099511627776:=by rw[length_append];omega
     generalize d0++(xs.take k).flatMap (po f lo hi cf)=d2 at *;generalize xs.getD k n0=x at *;obtain⟨x1,x2⟩:=x;simp only at pL;apply ai;simp(disch:=omega) ;apply eV;clear eV;refine af fun K5 gC=>?_;apply ah;refine ae fun K hK=>?_;simp(disch:=omega)[pL,bG];apply hK;clear hK K;have dy:=k2.ok;have ho3:bC (J2++[.cells (vQ (x1,x2))]) T:=dy.snoc (by simp);have EA:=k2.more _ ho3;have acm:(J2++[aA.cells (vQ (x1,x2))]).length=J2.length+1:=by simp
     obtain⟨RO,CJ⟩:∃i,i=J2.length:=⟨_,rfl⟩
     rw[←CJ] at EA;simp only[←CJ];have WT:RO<(J2++[aA.cells (vQ (x1,x2))]).length:=by omega
     have Rg:H.length<(J2++[aA.cells (vQ (x1,x2))]).length:=by omega
     have ab8:zD<(J2++[aA.cells (vQ (x1,x2))]).length:=by omega
     clear k2 lb2;generalize J2++[aA.cells (vQ (x1,x2))]=J3 at *;have lb3:=EA.below;have lh3:=EA.pre.le;refine aH ⟨[(1,.int .i64 f),(2,.int .i64 lo),(3,.int .i64 hi),(4,.ptr H.length 0),(9,PT),(11,.ptr zD 0),(13,.ptr RO 0),(19,.sl aw.length (cR aw) .none),(20,.int .i64 (aw.length:Nat)),(21,.int .i64 (i:Nat)),(26,.sl xs.length (aU xs) .none),(27,.int .i64 (xs.length:Nat)),(28,.int .i64 (k:Nat))],J3,T⟩ (ag [] [] (by simp) (by simp) (by simpa using lh3) (by simp) ho3 (by simp[lb3];omega)) ?_;refine LL aw xs H.length (Nat.le_refl _) f lo hi cf i k H.length zD RO (.sl xs.length (aU xs) .none) (x1,x2) Ex EA (by simp) (by simp) (by omega) Rg _ fun e J' I7 a1 a2 a3=>?_;have ZZ:=a1.less;have WR:=ZZ.below;have Y8:=ZZ.pre.le;refine gC _ (aH ⟨[(1,.int .i64 f),(2,.int .i64 lo),(3,.int .i64 hi),(4,.ptr H.length 0),(9,I7),(11,.ptr zD 0),(19,.sl aw.length (cR aw) .none),(20,.int .i64 (aw.length:Nat)),(21,.int .i64 (i:Nat)),(26,.sl xs.length (aU xs) .none),(27,.int .i64 (xs.length:Nat)),(28,.int .i64 (k:Nat))],J',T⟩ (ag [] [] (by simp) (by simp) (by simpa using Y8) (by simp) a1.ok a3) ?_);refine au fun K hK=>?_;simp(disch:=omega) ;apply hK;clear hK K;refine⟨(k+1,J',I7),⟨by show k+1≤_;omega,by rw[Jg];exact ZZ,by show H.length<J'.length;omega,by show zD<J'.length;omega⟩,by show xs.length-(k+1)<xs.length-k;omega,?_⟩;refine ag [] [] ?_ ?_ ?_ ?_ a1.ok ?_
     all_goals simp[WR]
     all_goals omega
    ·simp  at dg;have CE:k=xs.length:=by omega
     subst CE;rw[take_length,←CR] at k2;have Sd:=k2.less;have WR:=Sd.below;have Y8:=Sd.pre.le;apply aC;simp(disch:=omega) ;refine bz _ (aH ⟨[(1,.int .i64 f),(2,.int .i64 lo),(3,.int .i64 hi),(4,.ptr H.length 0),(9,PT),(19,.sl aw.length (cR aw) .none),(20,.int .i64 (aw.length:Nat)),(21,.int .i64 (i:Nat))],J2,T⟩ (ag [] [] (by simp) (by simp) (by simpa using Y8) (by simp) k2.ok (by simp[WR];omega)) ?_);refine au fun K hK=>?_;simp(disch:=omega) ;apply hK;clear hK K;refine⟨(i+1,J2,PT),⟨by show i+1≤_;omega,Sd,k3⟩,by show aw.length-(i+1)<aw.length-i;omega,?_⟩;refine ag [] [] ?_ ?_ ?_ ?_ k2.ok ?_
     all_goals simp[WR]
     all_goals omega
  ·simp  at hk;have tJ:i=aw.length:=by omega
   subst tJ;rw[take_length] at g2;have lN:(rG f lo hi aw).length≤1000000:=Nat.le_trans (hlen aw hx) (by omega);generalize rG f lo hi aw=d at *;have lh:=g2.pre.le;obtain⟨⟨S,hS,Gb⟩,tu,iG⟩:=g2;rcases hS with⟨rfl,rfl,rfl⟩|⟨ib,cap,r,rfl,W8,hr,rfl⟩
   ·have cs:=GQ J T .full;have cc:=zk J T .full;apply aC;simp(disch:=omega) ;apply aQ;clear aQ;refine ae fun K hK=>?_;simp(disch:=omega) ;refine ak (cs) ?_;simp(disch:=omega) ;apply hK;clear hK K;refine ae fun K hK=>?_;simp(disch:=omega) ;refine ak (cc) ?_;simp(disch:=omega) ;apply hK;clear hK K;apply az;simp(disch:=omega) ;rw[hf];have hn:Js []=[]:=List.eq_nil_iff_forall_not_mem.2 fun x hx=>by simpa using(Bt [] x).1 hx
    exact⟨tu,hn,by rw[hn];rfl⟩
   ·have gi:=Gb.get (i:=ib) (b:=.cells (ints d++List.replicate r AV.top)) (by simp);have li:=(List.getElem?_eq_some_iff.1 gi).1;have cs:=Kt d (List.replicate r .top) ib cap (by omega) J T gi;apply aC;simp(disch:=omega) ;apply aQ;clear aQ;refine ae fun K hK=>?_;simp(disch:=omega) ;refine ak (cs) ?_;simp(disch:=omega) ;apply hK;clear hK K;have gi2:(J.set ib (.cells (ints (nQ d)++List.replicate r AV.top)))[ib]?=some (.cells (ints (nQ d)++List.replicate r AV.top)):=List.getElem?_set_self li;have cc:=Cf (nQ d) (List.replicate r .top) ib cap (by rw[rR];omega) (J.set ib (.cells (ints (nQ d)++List.replicate r AV.top))) T gi2 (D5 _);rw[rR] at cc;refine ae fun K hK=>?_;simp(disch:=omega) ;refine ak (cc) ?_;simp(disch:=omega) ;apply hK;clear hK K;apply az;simp(disch:=omega) ;rw[hf];exact⟨tu.set W8 _,ib,⟨rfl,rfl⟩,W8,ints (List.replicate (d.length-(Lib.compact (nQ d)).length) 0)++List.replicate r AV.top,by rw[List.getElem?_set_self li,←B5,List.append_assoc];rfl⟩
end Go.Proofs.YtneohapkboaplaaGreat
