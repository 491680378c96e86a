/- slices.Sort and slices.Compact of integers on a box, by the library's contracts. A list of integers that grows in a box; segment.Between (layer 39): one number. segment.Between (layer 39).
  Conditions: lengths below 1000 or 1000, as each theorem says. -/
import Derived.Shelf.Sort.Plain
import Derived.Shelf.Slices.In.SortNone
import Derived.Shelf.Slices.CompactI
import Derived.Test.YtneohapkboaplaaGreatAmD
import Derived.Test.YtneohapkboaplaaGreatGV
import Derived.Test.YtneohapkboaplaaGreatGFA
set_option linter.all false
set_option maxRecDepth 100000
set_option maxHeartbeats 16000000
open List (getD_eq_getElem?_getD length_append mem_append take_length)
namespace Go.Proofs.YtneohapkboaplaaGreat
open Go Go.Am Go.Sort Go.Shelf Go.RowKit Go.Proofs
def Ng:Ren:=⟨fun|125=>142|128=>186|129=>187|189=>82|215=>138|216=>152|257=>155|294=>199|295=>200|296=>201|297=>202|298=>203|299=>204|300=>205|301=>206|328=>226|329=>219|330=>220|331=>227|332=>228|343=>235|x=>x,
 fun|28=>25|46=>200|51=>239|53=>218|131=>140|182=>232|183=>233|218=>256|222=>215|228=>267|229=>225|x=>x,fun x=>x⟩
theorem I6:Lays.n189 Tryz.prog Ng:=
 {
  mixed:=by kernel_rfl
  f125:=Tryz.func142.trans (congrArg some (by kernel_rfl))
  f128:=Tryz.func186.trans (congrArg some (by kernel_rfl))
  f129:=Tryz.func187.trans (congrArg some (by kernel_rfl))
  f189:=Tryz.func82.trans (congrArg some (by kernel_rfl))
  f215:=Tryz.func138.trans (congrArg some (by kernel_rfl))
  f216:=Tryz.func152.trans (congrArg some (by kernel_rfl))
  f257:=Tryz.func155.trans (congrArg some (by kernel_rfl))
  f294:=Tryz.func199.trans (congrArg some (by kernel_rfl))
  f295:=Tryz.func200.trans (congrArg some (by kernel_rfl))
  f296:=Tryz.func201.trans (congrArg some (by kernel_rfl))
  f297:=Tryz.func202.trans (congrArg some (by kernel_rfl))
  f298:=Tryz.func203.trans (congrArg some (by kernel_rfl))
  f299:=Tryz.func204.trans (congrArg some (by kernel_rfl))
  f300:=Tryz.func205.trans (congrArg some (by kernel_rfl))
  f301:=Tryz.func206.trans (congrArg some (by kernel_rfl))
  f328:=Tryz.func226.trans (congrArg some (by kernel_rfl))
  f329:=Tryz.func219.trans (congrArg some (by kernel_rfl))
  f330:=Tryz.func220.trans (congrArg some (by kernel_rfl))
  f331:=Tryz.func227.trans (congrArg some (by kernel_rfl))
  f332:=Tryz.func228.trans (congrArg some (by kernel_rfl))
  f343:=Tryz.func235.trans (congrArg some (by kernel_rfl))
  t0:=Tryz.underlying0
  a0:=Tryz.isAgg0
  z0:=Tryz.sizeOf0
  v0:=Tryz.zeroValue0
  t3:=Tryz.underlying3
  a3:=Tryz.isAgg3
  z3:=Tryz.sizeOf3
  v3:=Tryz.zeroValue3
  t4:=Tryz.underlying4
  a4:=Tryz.isAgg4
  z4:=Tryz.sizeOf4
  v4:=Tryz.zeroValue4
  t5:=Tryz.underlying5
  a5:=Tryz.isAgg5
  z5:=Tryz.sizeOf5
  v5:=Tryz.zeroValue5
  t9:=Tryz.underlying9
  a9:=Tryz.isAgg9
  z9:=Tryz.sizeOf9
  v9:=Tryz.zeroValue9
  t28:=Tryz.underlying25
  a28:=Tryz.isAgg25
  z28:=Tryz.sizeOf25
  v28:=Tryz.zeroValue25
  t46:=Tryz.underlying200
  a46:=Tryz.isAgg200
  z46:=Tryz.sizeOf200
  v46:=Tryz.zeroValue200
  t51:=Tryz.underlying239
  a51:=Tryz.isAgg239
  z51:=Tryz.sizeOf239
  v51:=Tryz.zeroValue239
  t53:=Tryz.underlying218
  a53:=Tryz.isAgg218
  z53:=Tryz.sizeOf218
  v53:=Tryz.zeroValue218
  t131:=Tryz.underlying140
  a131:=Tryz.isAgg140
  z131:=Tryz.sizeOf140
  v131:=Tryz.zeroValue140
  t182:=Tryz.underlying232
  a182:=Tryz.isAgg232
  z182:=Tryz.sizeOf232
  v182:=Tryz.zeroValue232
  t183:=Tryz.underlying233
  a183:=Tryz.isAgg233
  z183:=Tryz.sizeOf233
  v183:=Tryz.zeroValue233
  t218:=Tryz.underlying256
  a218:=Tryz.isAgg256
  z218:=Tryz.sizeOf256
  v218:=Tryz.zeroValue256
  t222:=Tryz.underlying215
  a222:=Tryz.isAgg215
  z222:=Tryz.sizeOf215
  v222:=Tryz.zeroValue215
  t228:=Tryz.underlying267
  a228:=Tryz.isAgg267
  z228:=Tryz.sizeOf267
  v228:=Tryz.zeroValue267
  t229:=Tryz.underlying225
  a229:=Tryz.isAgg225
  z229:=Tryz.sizeOf225
  v229:=Tryz.zeroValue225 }
def Nh:Ren:=⟨fun|20=>83|x=>x,fun|22=>25|x=>x,fun x=>x⟩
theorem Qr : Lays2.n20 Tryz.prog Nh :=
  { mixed := by kernel_rfl
    f20 := Tryz.func83.trans (congrArg some (by kernel_rfl))
    t0 := Tryz.underlying0
    a0 := Tryz.isAgg0
    z0 := Tryz.sizeOf0
    v0 := Tryz.zeroValue0
    t3 := Tryz.underlying3
    a3 := Tryz.isAgg3
    z3 := Tryz.sizeOf3
    v3 := Tryz.zeroValue3
    t4 := Tryz.underlying4
    a4 := Tryz.isAgg4
    z4 := Tryz.sizeOf4
    v4 := Tryz.zeroValue4
    t22 := Tryz.underlying25
    a22 := Tryz.isAgg25
    z22 := Tryz.sizeOf25
    v22 := Tryz.zeroValue25
    i3 := by kernel_rfl }
theorem Ml:Og (fun x:Int=>[Value.int .i64 x]) (fun x=>[AV.int .i64 x]) 1 where
 pos:=by decide
 len _:=rfl
 yI _:=rfl
 one x v hv:=by simp at hv;subst hv;rfl
 rep x j hj L N T w v:=by
  match j,hj with
  |0,_=>exact⟨fun h=>by cases h;rfl,fun h=>by subst h;exact .int _ _⟩
theorem oC (l:List Int):l.flatMap (fun x=>[AV.int .i64 x])=ints l:=by
 induction l with
 |nil=>rfl
 |cons x r ih=>rw[List.flatMap_cons,ih];rfl
theorem OH (d : Array Int) (t : Nat) (h : t < d.size) : (flatK (fun x : Int => [Value.int .i64 x]) 1 d)[t]! = Value.int .i64 d[t]! := by
  rw [get_flatK _ _ _ _ (by omega)];simp [Nat.mod_one]
theorem Ek (w : World) (b o : Nat) (d : Array Int) : putRowK (fun x : Int => [Value.int .i64 x]) 1 w b o d = putRow (Value.int .i64) w b o d := by
  unfold putRowK putRow
  congr 1
  funext c
  unfold putCells
  congr 1
  funext k x
  rw [size_flatK, Nat.mul_one]
  by_cases h : o ≤ k ∧ k < o + d.size
  · rw [if_pos h, if_pos h, OH d (k - o) (by omega)]; rfl
  · rw [if_neg h, if_neg h]
theorem I7 {w : World} {b o : Nat} {d : Array Int} (h : HoldsK (fun x : Int => [Value.int .i64 x]) 1 w b o d) : Holds (Value.int .i64) w b o d := fun j hj => by
  obtain ⟨h1, h2⟩ := h j (by rw [size_flatK]; omega);rw [OH d j hj] at h1;exact ⟨h1, h2⟩
def nA (l:List Int):List Int:=l.mergeSort fun x y=>decide (x≤y)
theorem rF (l:List Int):(nA l).length=l.length:=List.length_mergeSort _
theorem xX {H:List aG}{T:ay}{L:Lay}{w:World}{ca:Array Value}{v:AV}(hl:ca.size=1)(hr:∀(j:Nat)(h:j<[v].length)(h':j<ca.size),aZ L H.length T w ([v][j]'h) (ca[j]'h')):∃c,ca=#[c]∧aZ L H.length T w v c:=by
 obtain⟨cl⟩:=ca
 match cl,hl with
 |[a],_=>exact⟨a,rfl,hr 0 (by simp) (by simp)⟩
theorem Jv (zs:List Int)(rest:List AV)(i cap:Nat)(hl:zs.length≤1099511627776)(H:List aG)(T:ay)(hi:H[i]?=some (.cells (ints zs++rest))) :
  al Tryz.prog 82 [.dP i zs.length cap] H T (Is (.cJ []) (H.set i (.cells (ints (nA zs)++rest))) T):=by
 rw[←oC] at hi;refine⟨fun _ _=>Tryz.call82 _ _,fun L w ca hc oM hr=>?_⟩;obtain⟨c,rfl,DH⟩:=xX (by simpa using oM) hr;obtain⟨rfl,bV,bh⟩:=DH.iH;have p6:=Any.slices_Sort_int I6 (L.bL i) 0 cap zs w (I7 (hc.Cu Ml hi)) (hc.ml bh) (by omega);refine p6.mono ?_;rintro e w' ⟨rfl,n,os,rfl⟩;obtain⟨L',jz,dU,_⟩:=hc.sorted (n:=n) (os:=os) (l':=nA zs) Ml hi (rF zs);rw[oC] at jz dU;unfold sortWorldK at jz dU;rw[Ek] at jz dU;exact⟨_,_,T,L',_,⟨rfl,rfl,rfl⟩,rfl,jz,.cJ [] #[] rfl (fun j hj=>by simp at hj),dU⟩
theorem Gb (H:List aG)(T:ay)(tg:Tag):al Tryz.prog 82 [.sl 0 [] tg] H T (Is (.cJ []) H T):=by
 refine⟨fun _ _=>Tryz.call82 _ _,fun L w ca hc oM hr=>?_⟩;obtain⟨c,rfl,DH⟩:=xX (by simpa using oM) hr;obtain⟨a,cap,rfl,_⟩:=DH.eS;refine(Any.slices_Sort_int_none I6 a cap w).mono ?_;rintro e w' ⟨rfl,rfl⟩;exact⟨_,H,T,L,_,⟨rfl,rfl,rfl⟩,rfl,hc,.cJ [] #[] rfl (fun j hj=>by simp at hj),Ev.refl (Nat.le_refl _) (Nat.le_refl _)⟩
theorem Bv (zs:List Int)(rest:List AV)(i cap:Nat)(hl:zs.length≤1099511627776)(H:List aG)(T:ay)(hi:H[i]?=some (.cells (ints zs++rest)))(hle:(Lib.compact zs).length≤zs.length) :
  al Tryz.prog 83 [.dP i zs.length cap] H T (Is (.dP i (Lib.compact zs).length cap) (H.set i (.cells (ints (Lib.compact zs++List.replicate (zs.length-(Lib.compact zs).length) 0)++rest))) T):=by
 rw[←oC] at hi;refine⟨fun _ _=>Tryz.call83 _ _,fun L w ca hc oM hr=>?_⟩;obtain⟨c,rfl,DH⟩:=xX (by simpa using oM) hr;obtain⟨rfl,bV,bh⟩:=DH.iH;have p6:=Any.slices_Compact_int Qr (L.bL i) 0 cap zs w (I7 (hc.Cu Ml hi)) (by omega) bV;refine p6.mono ?_;rintro e w' ⟨rfl,n,rfl⟩;obtain⟨L',jz,dU,pR⟩:=hc.sorted (n:=n) (os:=#[]) (l':=Lib.compact zs++List.replicate (zs.length-(Lib.compact zs).length) 0) Ml hi (by rw[length_append,List.length_replicate];omega);rw[oC] at jz dU;unfold sortWorldK at jz dU;rw[Ek,grow_empty] at jz dU;refine⟨_,_,T,L',_,⟨rfl,rfl,rfl⟩,rfl,jz,?_,dU⟩;rw[←pR i bh];exact .dP _ _ _ (by rw[List.length_set];exact bh) (by omega)
attribute [-simp] getD_eq_getElem?_getD in
theorem yo (H:List aG)(T:ay)(tg:Tag):al Tryz.prog 83 [.sl 0 [] tg] H T (Is (.sl 0 [] .none) H T):=by
 refine al.cg ?_;refine aj 6 [] Tryz.ntmps83 Tryz.func83 rfl (fun _ _=>Tryz.call83 _ _) (by simp) (fun HO=>?_);apply ae;intro K h;simp(disch:=omega);apply h;clear h K;refine af fun K1 aO=>?_;apply ae;intro K h;simp(disch:=omega);apply h;clear h K;apply aH rfl;apply ae;intro K h;simp(disch:=omega);apply h;clear h K;apply an;simp(disch:=omega) ;exact⟨rfl,rfl,rfl⟩
open gH eB dc
def aa5 (h:Nat)(d:List Int)(out:AV)(S:List (Nat×aG)):Prop:=
 (d=[]∧out=.sl 0 [] .full∧S=[])∨∃i cap r,out=.dP i d.length cap∧h≤i∧d.length+r=cap∧S=[(i,.cells (ints d++List.replicate r AV.top))]
structure GI (H:List aG)(T:ay)(d:List Int)(R:List (Nat×aG))(J:List aG)(out:AV):Prop where
 bx:∃S,aa5 H.length d out S∧Has J (R++S)
 pre:gP H J
 ok:bM J T
variable {H : List aG} {T : ay} {d : List Int} {R : List (Nat × aG)} {J : List aG} {out : AV}
theorem GI.nil (ho:bM H T):GI H T [] [] H (.sl 0 [] .full):=⟨⟨[],.inl ⟨rfl,rfl,rfl⟩,⟨by simp,fun p hp=>by simp at hp⟩⟩,⟨[],by simp⟩,ho⟩
theorem GI.more (h:GI H T d R J out)(b:aG)(ho:bM (J++[b]) T):GI H T d ((J.length,b)::R) (J++[b]) out:=by
 obtain⟨⟨S,h1,h2⟩,h3,h4⟩:=h;exact⟨⟨S,h1,(h2.new b).perm (List.perm_append_singleton _ _).symm⟩,h3.app _,ho⟩
theorem GI.less {x:Nat×aG}(h:GI H T d (x::R) J out):GI H T d R J out:=by
 obtain⟨⟨S,h1,h2⟩,h3,h4⟩:=h;exact⟨⟨S,h1,h2.sub (List.sublist_cons_self _ _)⟩,h3,h4⟩
theorem GI.get (h:GI H T d R J out){i:Nat}{b:aG}(hm:(i,b)∈R):J[i]?=some b:=by
 obtain⟨⟨S,h1,h2⟩,h3,h4⟩:=h;exact h2.get (List.mem_append_left _ hm)
theorem GI.below (h:GI H T d R J out):Below J.length T.length out:=by
 obtain⟨⟨S,h1,h2⟩,h3,h4⟩:=h;rcases h1 with⟨_,rfl,_⟩|⟨i,cap,r,rfl,hi,hr,rfl⟩
 ·simp
 ·exact Ht.2 (h2.lt (i:=i) (b:=.cells (ints d++List.replicate r AV.top)) (by simp))
theorem GI.first (h:GI H T [] R J (.sl 0 [] .full))(x:Int)(nc:Nat)(hn:1≤nc):GI H T [x] R (J++[.cells (.int .i64 x::List.replicate (nc-1) AV.top)]) (.dP J.length 1 nc):=by
 obtain⟨⟨S,h1,h2⟩,h3,h4⟩:=h;have hS:S=[]:=by
  rcases h1 with⟨_,_,h⟩|⟨i,cap,r,h,_⟩
  ·exact h
  ·cases h
 subst hS;rw[List.append_nil] at h2;exact⟨⟨_,.inr ⟨J.length,nc,nc-1,rfl,h3.le,by simp only[List.length_singleton];omega,rfl⟩,h2.new _⟩,h3.app _,h4.snoc (by simp)⟩
theorem GI.put {i cap r:Nat}(hb:Has J (R++[(i,.cells (ints d++List.replicate r AV.top))]))(hi:H.length≤i)(hr:d.length+r=cap)(h3:gP H J)(h4:bM J T)(hle:d.length+1≤cap)(x:Int) :
  GI H T (d++[x]) R (J.set i (.cells ((ints d++List.replicate r AV.top).take d.length++[.int .i64 x]++(ints d++List.replicate r AV.top).drop (d.length+1)))) (.dP i (d.length+1) cap):=by
 have hl:(ints d).length=d.length:=by simp
 have e1:(ints d++List.replicate r AV.top).take d.length=ints d:=List.take_left' hl;have e2:(ints d++List.replicate r AV.top).drop (d.length+1)=List.replicate (r-1) AV.top:=by
  rw[←List.drop_drop,List.drop_left' hl,List.drop_replicate]
 rw[e1,e2,cN];exact⟨⟨_,.inr ⟨i,cap,r-1,by simp,hi,by simp;omega,rfl⟩,by simpa using hb.set (A:=R) (B:=[]) (.cells (ints (d++[x])++List.replicate (r-1) AV.top))⟩,h3.set hi _,h4.set (by simp)⟩
theorem GI.grow {i r nc:Nat}(hb:Has J (R++[(i,.cells (ints d++List.replicate r AV.top))]))(h3:gP H J)(h4:bM J T)(hn:d.length+1≤nc)(x:Int) :
  GI H T (d++[x]) R (J++[.cells ((ints d++List.replicate r AV.top).take d.length++[.int .i64 x]++List.replicate (nc-(d.length+1)) AV.top)]) (.dP J.length (d.length+1) nc):=by
 have hl:(ints d).length=d.length:=by simp
 have e1:(ints d++List.replicate r AV.top).take d.length=ints d:=List.take_left' hl;rw[e1,cN];exact⟨⟨_,.inr ⟨J.length,nc,nc-(d.length+1),by simp,h3.le,by simp;omega,rfl⟩,(hb.sub (List.sublist_append_left _ _)).new _⟩,h3.app _,h4.snoc (by simp)⟩
def Fy (f lo hi:Int)(cf:Int)(x:Nm):Bool:=(cf==f&&decide (lo≤x.1))&&decide (x.1≤hi)
def oQ (f lo hi:Int)(cf:Int)(x:Nm):List Int:=if Fy f lo hi cf x=true then [x.2] else []
attribute [-simp] getD_eq_getElem?_getD in
theorem KZ (az:List Cl)(xs:List Nm)(nb:Nat)(iD:nb≤H.length)(f lo hi cf:Int)(vi vj b4 yF Rr:Nat)(xv:AV)(x:Nm)(hd:d.length≤1099511627776)(hG:GI H T d R J out)
  (Xj:(yF,.cells [.int .i64 cf,xv])∈R) (B4:(Rr,.cells (BR x))∈R) (l4:b4<H.length+1) (hR:b4<J.length) (Q:Exit→St→Prop)
  (go:∀(e:Env)(J':List aG)(Ib:AV),GI H T (d++oQ f lo hi cf x) R J' Ib→J.length≤J'.length→b9 J'.length T.length e [(1,.int .i64 f),(2,.int .i64 lo),(3,.int .i64 hi),(4,.ptr b4 0),(9,Ib),(11,.ptr yF 0),(19,.sl az.length (eA az) .none),(20,.int .i64 (az.length:Nat)),(21,.int .i64 (vi:Nat)),(26,.sl xs.length (br xs) .none),(27,.int .i64 (xs.length:Nat)),(28,.int .i64 (vj:Nat))]→Q .normal ⟨e,J',T⟩) :
  AW ⟨Tryz.prog,59,31,nb,T.length,[100052]⟩ (iN [1,1,1,0,1,0,0,1,1,0,0,1,1,0,0,1,1,0,0,1] (Tryz.f26.body.getD .skip)) Q ⟨[(1,.int .i64 f),(2,.int .i64 lo),(3,.int .i64 hi),(4,.ptr b4 0),(9,out),(11,.ptr yF 0),(13,.ptr Rr 0),(19,.sl az.length (eA az) .none),(20,.int .i64 (az.length:Nat)),(21,.int .i64 (vi:Nat)),(26,.sl xs.length (br xs) .none),(27,.int .i64 (xs.length:Nat)),(28,.int .i64 (vj:Nat))],J,T⟩:=by
 conv=>arg 2;whnf
 have g11:=hG.get Xj;have g13:=hG.get B4;have Oa:=bT g11;have Fj:=bT g13;have l11:=(List.getElem?_eq_some_iff.1 g11).1;have WU:=(List.getElem?_eq_some_iff.1 g13).1;have lb:=hG.below;have lJ:=hG.pre.le;obtain⟨x1,x2⟩:=x;have skip:Fy f lo hi cf (x1,x2)=false→∀e:Env,b9 J.length T.length e [(1,.int .i64 f),(2,.int .i64 lo),(3,.int .i64 hi),(4,.ptr b4 0),(9,out),(11,.ptr yF 0),(19,.sl az.length (eA az) .none),(20,.int .i64 (az.length:Nat)),(21,.int .i64 (vi:Nat)),(26,.sl xs.length (br xs) .none),(27,.int .i64 (xs.length:Nat)),(28,.int .i64 (vj:Nat))]→Q .normal ⟨e,J,T⟩:=fun hb e he=>
  go e J out (by unfold oQ;rw[hb];simpa using hG) (Nat.le_refl _) he
 by_cases h1:cf=f
 rotate_left
 ·have b1:(cf==f)=false:=beq_eq_false_iff_ne.2 h1;refine ae fun K hK=>?_;simp(disch:=omega)[Oa,Fj,b1,h1];apply hK;clear hK K;apply aC rfl;apply ak;exact skip (by unfold Fy;rw[b1];rfl) _ (by simp[lb];omega)
 have b1:(cf==f)=true:=by simpa using h1
 by_cases h2:lo≤x1
 rotate_left
 ·have b2:decide (lo≤x1)=false:=decide_eq_false h2;refine ae fun K hK=>?_;simp(disch:=omega)[Oa,Fj,b1,h1,b2,h2];apply hK;clear hK K;apply aC rfl;apply ak;exact skip (by unfold Fy;simp only;rw[b1,b2];rfl) _ (by simp[lb];omega)
 have b2:decide (lo≤x1)=true:=decide_eq_true h2
 by_cases h3:x1≤hi
 rotate_left
 ·have b3:decide (x1≤hi)=false:=decide_eq_false h3;refine ae fun K hK=>?_;simp(disch:=omega)[Oa,Fj,b1,h1,b2,h2,b3,h3];apply hK;clear hK K;apply aC rfl;apply ak;exact skip (by unfold Fy;simp only;rw[b1,b2,b3];rfl) _ (by simp[lb];omega)
 have b3:decide (x1≤hi)=true:=decide_eq_true h3;have aaH:d++oQ f lo hi cf (x1,x2)=d++[x2]:=by unfold oQ Fy;simp only;rw[b1,b2,b3];rfl
 rw[aaH] at go;refine ae fun K hK=>?_;simp(disch:=omega)[Oa,Fj,b1,h1,b2,h2,b3,h3];apply hK;clear hK K;apply aH rfl;have h':=hG;obtain⟨⟨S,hS,FB⟩,yL,fC⟩:=hG;rcases hS with⟨rfl,rfl,rfl⟩|⟨i,cap,r,rfl,W7,hr,rfl⟩
 ·have hg:=fun nc hn=>GI.first h' x2 nc hn;refine ar fun K hK=>?_;simp(disch:=omega)[Fj];intro nc hn;apply hK;clear hK K;have:=hg nc hn;refine go _ _ _ this (by simp) ?_;simp;omega
 ·have gi:=FB.get (i:=i) (b:=.cells (ints d++List.replicate r AV.top)) (by simp);have jf:=fun hle=>GI.put FB W7 hr yL fC hle x2;have Oy:=fun nc hn=>GI.grow (nc:=nc) FB yL fC hn x2;refine ar fun K hK=>?_;simp(disch:=omega)[Fj];refine⟨3,_,[.int .i64 x2],1,by kernel_rfl,gi,by simp;omega,by simp,by simp;omega,by omega,by kernel_rfl,by simp,fun hle=>?_,fun nc bh mK=>?_⟩
  ·have hg:=jf hle;simp only[Jd,Nat.mul_one];generalize hX:J.set i _=H2 at hg ⊢;have fW:=hg.below;have jQ:J.length=H2.length:=by rw[←hX,List.length_set]
   simp(disch:=omega) ;apply hK;clear hK K;refine go _ _ _ hg (by omega) ?_;simp[fW];omega
  ·have hg:=Oy nc mK;simp only[Jd,Nat.mul_one];generalize hX:J++[aG.cells _]=H2 at hg ⊢;have fW:=hg.below;have jQ:J.length+1=H2.length:=by rw[←hX];simp
   have ZX:=fun e=>go e _ _ hg (by omega);clear Oy jf hg go skip Oa Fj gi FB fC yL h' g11 g13 hX lb;generalize J.length=i2 at *;simp(disch:=omega) ;apply hK;clear hK K;refine ZX _ ?_;simp[fW];omega
theorem Dq (l:List Int):(Lib.compact l).length≤l.length:=by
 unfold Lib.compact Lib.compactUpTo;rw[List.length_map];exact Nat.le_trans (List.length_filter_le _ _) (by simp)
theorem mE {l : List Int} (hs : l.Pairwise fun x y => x ≤ y) : ∀ m, m ≤ l.length → jR (Lib.compactUpTo l.toArray m) ∧ (∀ x, x ∈ Lib.compactUpTo l.toArray m ↔ x ∈ l.take m) ∧ ∀ x ∈ Lib.compactUpTo l.toArray m, 0 < m → x ≤ l.getD (m - 1) 0
  | 0, _ => ⟨.nil, by simp [Lib.compactUpTo], by simp [Lib.compactUpTo]⟩
  | m + 1, h => by
    obtain ⟨h1, h2, h3⟩ := mE hs m (by omega)
    have hm : l.toArray[m]! = l.getD m 0 := by simp [getD_eq_getElem?_getD]
    have hle : ∀ x ∈ Lib.compactUpTo l.toArray m, x ≤ l.getD m 0 := by
      intro x hx;rcases Nat.eq_zero_or_pos m with h0 | h0
      · subst h0; simp [Lib.compactUpTo] at hx
      · refine Int.le_trans (h3 x hx h0) ?_;have := List.pairwise_iff_getElem.1 hs (m - 1) m (by omega) (by omega) (by omega);simpa [getD_eq_getElem?_getD, List.getElem?_eq_getElem (show m - 1 < l.length by omega), List.getElem?_eq_getElem (show m < l.length by omega)] using this
    have kS : l.take (m + 1) = l.take m ++ [l.getD m 0] := dx l m 0 (by omega)
    rw [Lib.compactUpTo_succ, kS, hm]
    cases hk : Lib.keeps l.toArray m with
    | true =>
      have mL : m = 0 ∨ l.getD m 0 ≠ l.getD (m - 1) 0 := by
        unfold Lib.keeps at hk;have := of_decide_eq_true hk;rw [hm] at this;simpa [getD_eq_getElem?_getD] using this
      simp only [if_true]
      refine ⟨List.pairwise_append.2 ⟨h1, by simp, fun a ha b hb => ?_⟩, fun x => by rw [mem_append, mem_append, h2 x], fun x hx _ => ?_⟩
      · rw [List.mem_singleton.1 hb]
        rcases mL with h0 | h0
        · subst h0; simp [Lib.compactUpTo] at ha
        · rcases Nat.eq_zero_or_pos m with h0' | h0'
          · subst h0'; simp [Lib.compactUpTo] at ha
          · have g1 := h3 a ha h0';have := List.pairwise_iff_getElem.1 hs (m - 1) m (by omega) (by omega) (by omega);have g2 : l.getD (m - 1) 0 ≤ l.getD m 0 := by simpa [getD_eq_getElem?_getD, List.getElem?_eq_getElem (show m - 1 < l.length by omega), List.getElem?_eq_getElem (show m < l.length by omega)] using this
            omega
      · rw [Nat.add_sub_cancel]
        rcases List.mem_append.1 hx with hx | hx
        · exact hle x hx
        · rw [List.mem_singleton.1 hx]; exact Int.le_refl _
    | false =>
      have mL : 0 < m ∧ l.getD m 0 = l.getD (m - 1) 0 := by
        unfold Lib.keeps at hk;have := of_decide_eq_false hk;rw [hm] at this;refine ⟨by omega, ?_⟩;have := Classical.not_not.1 fun h => this (.inr h);simpa [getD_eq_getElem?_getD] using this
      simp only [Bool.false_eq_true, if_false, List.append_nil]
      refine ⟨h1, fun x => ?_, fun x hx _ => by rw [Nat.add_sub_cancel]; exact hle x hx⟩
      rw [h2 x, mem_append, List.mem_singleton]
      refine ⟨.inl, fun h => ?_⟩
      rcases h with h | rfl
      · exact h
      · rw [mL.2, ← h2]
        refine (h2 _).2 ?_;have : l.take m = l.take (m - 1) ++ [l.getD (m - 1) 0] := by
          have := dx l (m - 1) 0 (by omega)
          rwa [show m - 1 + 1 = m by omega] at this
        rw [this]; simp
theorem Ga (l:List Int)(x:Int):x∈nA l↔x∈l:=(List.mergeSort_perm l _).mem_iff
theorem zy (l:List Int):(nA l).Pairwise fun x y=>x≤y:=
 (List.pairwise_mergeSort (le:=fun x y=>decide (x≤y)) (fun a b c h1 h2=>by simp only[decide_eq_true_eq] at *;omega) (fun a b=>by simp only[Bool.or_eq_true,decide_eq_true_eq];omega) l).imp fun h=>by simpa using h
def Ix (l:List Int):List Int:=Lib.compact (nA l)
theorem Lc (l:List Int):jR (Ix l):=(mE (zy l) _ (Nat.le_refl _)).1
theorem AI (l:List Int)(x:Int):x∈Ix l↔x∈l:=by
 have:=(mE (zy l) _ (Nat.le_refl _)).2.1 x;rw[take_length,Ga] at this;exact this
def PV (f lo hi:Int)(c:Cl):List Int:=c.x.flatMap (oQ f lo hi c.f)
def rj (f lo hi:Int)(l:List Cl):List Int:=l.flatMap (PV f lo hi)
def xA (s:Sg)(f lo hi:Int):List Int:=if aW s=true then Ix (rj f lo hi s.az) else []
theorem uT (f lo hi cf:Int):∀x:List Nm,(x.flatMap (oQ f lo hi cf)).length≤x.length
 |[]=>Nat.le_refl _
 |y::x=>by
  rw[List.flatMap_cons,length_append,List.length_cons];have:=uT f lo hi cf x;have:(oQ f lo hi cf y).length≤1:=by unfold oQ;split<;>simp
  omega
theorem Aa (f lo hi:Int):∀l:List Cl,(∀c∈l,c.x.length≤1000)→(rj f lo hi l).length≤l.length*1000
 |[],_=>by simp[rj]
 |c::l,h=>by
  have h1:=Aa f lo hi l fun c hc=>h c (List.mem_cons_of_mem _ hc);have h2:=uT f lo hi c.f c.x;have h3:=h c (by simp);unfold rj at h1 ⊢;rw[List.flatMap_cons,length_append,List.length_cons,PV];omega
attribute [-simp] getD_eq_getElem?_getD in
theorem NB (s:Sg)(hs:re s)(f lo hi:Int)(H:List aG)(T:ay):al Tryz.prog 26 [il s,.int .i64 f,.int .i64 lo,.int .i64 hi] H T (Is (.sl (xA s f lo hi).length (ints (xA s f lo hi)) .none) H T):=by
 refine al.Kv (by simp) ?_;have cv:=fun H=>jL s hs H T;have fS:=hs.c;have hx:=hs.x;refine aj 31 [100052] Tryz.ntmps26 Tryz.func26 rfl (fun _ _=>Tryz.call26 _ _) (by simp) (fun HO=>?_);apply ae;intro K h;simp(disch:=omega);apply h;clear h K;apply ae;intro K h;simp(disch:=omega);apply h;clear h K;refine af fun K1 aO=>?_;have kx:bM (H++[.cells (cG s)]) T:=HO.snoc (by simp)
 cases hv:aW s with
 |false=>
  rw[hv] at cv;have hf:xA s f lo hi=[]:=by unfold xA;rw[hv];rfl
  refine ae fun K hK=>?_;simp(disch:=omega) ;refine ah (cv _) ?_;simp(disch:=omega) ;apply hK;clear hK K;apply aH rfl;apply ae;intro K h;simp(disch:=omega);apply h;clear h K;apply an;simp(disch:=omega) ;exact⟨hf,by rw[hf];rfl⟩
 |true=>
 rw[hv] at cv;have hf:xA s f lo hi=Ix (rj f lo hi s.az):=by unfold xA;rw[if_pos hv]
 have hlen:=Aa f lo hi;refine ae fun K hK=>?_;simp(disch:=omega) ;refine ah (cv _) ?_;simp(disch:=omega) ;apply hK;clear hK K;apply aC rfl;apply ak;simp(disch:=omega) ;apply aO;clear aO;refine af fun K1 aO=>?_;apply ae;intro K h;simp(disch:=omega);apply h;clear h K;obtain⟨aw,aJ,az⟩:=s;simp only at fS hx hf;have hG0:GI H T [] [] (H++[.cells (cG ⟨aw,aJ,az⟩)]) (.sl 0 [] .full):=((GI.nil HO).more _ kx).less;generalize xA ⟨aw,aJ,az⟩ f lo hi=res at *;have BY:H.length<(H++[aG.cells (cG ⟨aw,aJ,az⟩)]).length:=by simp
 generalize H++[aG.cells (cG ⟨aw,aJ,az⟩)]=J0 at *;apply ai;refine aK (X:=Nat×List aG×AV) (fun x=>⟨[(1,.int .i64 f),(2,.int .i64 lo),(3,.int .i64 hi),(4,.ptr H.length 0),(9,x.2.2),(19,.sl az.length (eA az) .none),(20,.int .i64 (az.length:Nat)),(21,.int .i64 (x.1:Nat))],x.2.1,T⟩)
  (fun x=>x.1≤az.length∧GI H T (rj f lo hi (az.take x.1)) [] x.2.1 x.2.2∧H.length<x.2.1.length) (fun x=>az.length-x.1) (0,J0,.sl 0 [] .full) ?_ ?_ ?_
 ·exact⟨Nat.zero_le _,hG0,BY⟩
 ·refine ag [] [] ?_ ?_ ?_ ?_ kx ?_
  all_goals simp
  all_goals omega
 ·rintro⟨i,J,out⟩ ⟨g1,g2,g3⟩;simp only at g1 g2 g3;have lb:=g2.below;apply ae;intro K h;simp(disch:=omega);apply h;clear h K;refine af fun K2 aY=>?_;refine aP rfl (fun hk=>?_) (fun hk=>?_)
  ·simp  at hk;have bY:=lK az i hk;have yu:=hx _ (aR az i c0 hk);have vy:=oD az (PV f lo hi) c0 i hk;have n9:(rj f lo hi (az.take i)).length≤1000000:=Nat.le_trans (hlen (az.take i) fun c hc=>hx c (List.mem_of_mem_take hc)) (by rw[List.length_take];omega);generalize az.getD i c0=c at *;obtain⟨cf,xs⟩:=c;simp only at bY yu;have Ce:rj f lo hi (az.take (i+1))=rj f lo hi (az.take i)++xs.flatMap (oQ f lo hi cf):=vy;clear vy;generalize rj f lo hi (az.take i)=d0 at *;apply ak;simp(disch:=omega) ;apply aY;clear aY;refine af fun K3 bA=>?_;apply ai;refine ae fun K hK=>?_;simp(disch:=omega)[bY,de];apply hK;clear hK K;have HOj:=g2.ok;have O7:bM (J++[.cells (e7 ⟨cf,xs⟩)]) T:=HOj.snoc (by simp);have Xg:=g2.more _ O7;have o6:(J++[aG.cells (e7 ⟨cf,xs⟩)]).length=J.length+1:=by simp
   have Te:(J++[aG.cells (e7 ⟨cf,xs⟩)])[J.length]?=some (.cells (e7 ⟨cf,xs⟩)):=by simp
   have Oa:=bT Te;obtain⟨yF,Xj⟩:∃i,i=J.length:=⟨_,rfl⟩
   rw[←Xj] at Oa Xg;simp only[←Xj];have acq:(yF,aG.cells (e7 ⟨cf,xs⟩))∈[(yF,aG.cells (e7 ⟨cf,xs⟩))]:=by simp
   have l11:yF<(J++[aG.cells (e7 ⟨cf,xs⟩)]).length:=by omega
   have l4:H.length<(J++[aG.cells (e7 ⟨cf,xs⟩)]).length:=by omega
   clear Te hG0 g2 lb;generalize J++[aG.cells (e7 ⟨cf,xs⟩)]=J1 at *;have lb:=Xg.below;have lh:=Xg.pre.le;refine aQ ⟨[(1,.int .i64 f),(2,.int .i64 lo),(3,.int .i64 hi),(4,.ptr H.length 0),(9,out),(11,.ptr yF 0),(19,.sl az.length (eA az) .none),(20,.int .i64 (az.length:Nat)),(21,.int .i64 (i:Nat))],J1,T⟩ (ag [] [] (by simp) (by simp) (by simpa using lh) (by simp) O7 (by simp[lb];omega)) ?_;refine ae fun K hK=>?_;simp(disch:=omega)[Oa];apply hK;clear hK K;apply ai;refine aK (X:=Nat×List aG×AV) (fun x=>⟨[(1,.int .i64 f),(2,.int .i64 lo),(3,.int .i64 hi),(4,.ptr H.length 0),(9,x.2.2),(11,.ptr yF 0),(19,.sl az.length (eA az) .none),(20,.int .i64 (az.length:Nat)),(21,.int .i64 (i:Nat)),(26,.sl xs.length (br xs) .none),(27,.int .i64 (xs.length:Nat)),(28,.int .i64 (x.1:Nat))],x.2.1,T⟩)
    (fun x=>x.1≤xs.length∧GI H T (d0++(xs.take x.1).flatMap (oQ f lo hi cf)) [(yF,.cells (e7 ⟨cf,xs⟩))] x.2.1 x.2.2∧H.length<x.2.1.length∧yF<x.2.1.length) (fun x=>xs.length-x.1) (0,J1,out) ?_ ?_ ?_
   ·exact⟨Nat.zero_le _,by simpa using Xg,l4,l11⟩
   ·refine ag [] [] ?_ ?_ ?_ ?_ O7 ?_
    all_goals simp[lb]
    all_goals omega
   ·rintro⟨k,J2,Px⟩ ⟨k1,k2,k3,k4⟩;simp only at k1 k2 k3 k4;have lb2:=k2.below;apply ae;intro K h;simp(disch:=omega);apply h;clear h K;refine af fun K4 ec=>?_;refine aP rfl (fun da=>?_) (fun da=>?_)
    ·simp  at da;have sN:=fh xs k da;have aaJ:=oD xs (oQ f lo hi cf) n0 k da;have aaP:=uT f lo hi cf (xs.take k);rw[List.length_take] at aaP;have aaI:d0++(xs.take (k+1)).flatMap (oQ f lo hi cf)=(d0++(xs.take k).flatMap (oQ f lo hi cf))++oQ f lo hi cf (xs.getD k n0):=by rw[aaJ,List.append_assoc]
     have jc:(d0++(xs.take k).flatMap (oQ f lo hi cf)).length≤1099511627776:=by rw[length_append];omega
     generalize d0++(xs.take k).flatMap (oQ f lo hi cf)=d2 at *;generalize xs.getD k n0=x at *;obtain⟨x1,x2⟩:=x;simp only at sN;apply ak;simp(disch:=omega) ;apply ec;clear ec;refine af fun K5 gO=>?_;apply ai;refine ae fun K hK=>?_;simp(disch:=omega)[sN,cj];apply hK;clear hK K;have fD:=k2.ok;have ho3:bM (J2++[.cells (BR (x1,x2))]) T:=fD.snoc (by simp);have Xf:=k2.more _ ho3;have acv:(J2++[aG.cells (BR (x1,x2))]).length=J2.length+1:=by simp
     obtain⟨Rr,B4⟩:∃i,i=J2.length:=⟨_,rfl⟩
     rw[←B4] at Xf;simp only[←B4];have WU:Rr<(J2++[aG.cells (BR (x1,x2))]).length:=by omega
     have QZ:H.length<(J2++[aG.cells (BR (x1,x2))]).length:=by omega
     have aci:yF<(J2++[aG.cells (BR (x1,x2))]).length:=by omega
     clear k2 lb2;generalize J2++[aG.cells (BR (x1,x2))]=J3 at *;have lb3:=Xf.below;have lh3:=Xf.pre.le;refine aQ ⟨[(1,.int .i64 f),(2,.int .i64 lo),(3,.int .i64 hi),(4,.ptr H.length 0),(9,Px),(11,.ptr yF 0),(13,.ptr Rr 0),(19,.sl az.length (eA az) .none),(20,.int .i64 (az.length:Nat)),(21,.int .i64 (i:Nat)),(26,.sl xs.length (br xs) .none),(27,.int .i64 (xs.length:Nat)),(28,.int .i64 (k:Nat))],J3,T⟩ (ag [] [] (by simp) (by simp) (by simpa using lh3) (by simp) ho3 (by simp[lb3];omega)) ?_;refine KZ az xs H.length (Nat.le_refl _) f lo hi cf i k H.length yF Rr (.sl xs.length (br xs) .none) (x1,x2) jc Xf (by simp) (by simp) (by omega) QZ _ fun e J' Ib a1 a2 a3=>?_;have a1':=a1.less;have WO:=a1'.below;have Zw:=a1'.pre.le;refine gO _ (aQ ⟨[(1,.int .i64 f),(2,.int .i64 lo),(3,.int .i64 hi),(4,.ptr H.length 0),(9,Ib),(11,.ptr yF 0),(19,.sl az.length (eA az) .none),(20,.int .i64 (az.length:Nat)),(21,.int .i64 (i:Nat)),(26,.sl xs.length (br xs) .none),(27,.int .i64 (xs.length:Nat)),(28,.int .i64 (k:Nat))],J',T⟩ (ag [] [] (by simp) (by simp) (by simpa using Zw) (by simp) a1.ok a3) ?_);refine ar fun K hK=>?_;simp(disch:=omega) ;apply hK;clear hK K;refine⟨(k+1,J',Ib),⟨by show k+1≤_;omega,by rw[aaI];exact a1',by show H.length<J'.length;omega,by show yF<J'.length;omega⟩,by show xs.length-(k+1)<xs.length-k;omega,?_⟩;refine ag [] [] ?_ ?_ ?_ ?_ a1.ok ?_
     all_goals simp[WO]
     all_goals omega
    ·simp  at da;have Pc:k=xs.length:=by omega
     subst Pc;rw[take_length,←Ce] at k2;have RJ:=k2.less;have WO:=RJ.below;have Zw:=RJ.pre.le;apply aD;simp(disch:=omega) ;refine bA _ (aQ ⟨[(1,.int .i64 f),(2,.int .i64 lo),(3,.int .i64 hi),(4,.ptr H.length 0),(9,Px),(19,.sl az.length (eA az) .none),(20,.int .i64 (az.length:Nat)),(21,.int .i64 (i:Nat))],J2,T⟩ (ag [] [] (by simp) (by simp) (by simpa using Zw) (by simp) k2.ok (by simp[WO];omega)) ?_);refine ar fun K hK=>?_;simp(disch:=omega) ;apply hK;clear hK K;refine⟨(i+1,J2,Px),⟨by show i+1≤_;omega,RJ,k3⟩,by show az.length-(i+1)<az.length-i;omega,?_⟩;refine ag [] [] ?_ ?_ ?_ ?_ k2.ok ?_
     all_goals simp[WO]
     all_goals omega
  ·simp  at hk;have yx:i=az.length:=by omega
   subst yx;rw[take_length] at g2;have n9:(rj f lo hi az).length≤1000000:=Nat.le_trans (hlen az hx) (by omega);generalize rj f lo hi az=d at *;have lh:=g2.pre.le;obtain⟨⟨S,hS,FB⟩,yL,fC⟩:=g2;rcases hS with⟨rfl,rfl,rfl⟩|⟨ib,cap,r,rfl,W7,hr,rfl⟩
   ·have cs:=Gb J T .full;have cc:=yo J T .full;apply aD;simp(disch:=omega) ;apply aO;clear aO;refine ae fun K hK=>?_;simp(disch:=omega) ;refine ah (cs) ?_;simp(disch:=omega) ;apply hK;clear hK K;refine ae fun K hK=>?_;simp(disch:=omega) ;refine ah (cc) ?_;simp(disch:=omega) ;apply hK;clear hK K;apply an;simp(disch:=omega) ;rw[hf];have hn:Ix []=[]:=List.eq_nil_iff_forall_not_mem.2 fun x hx=>by simpa using(AI [] x).1 hx
    exact⟨yL,hn,by rw[hn];rfl⟩
   ·have gi:=FB.get (i:=ib) (b:=.cells (ints d++List.replicate r AV.top)) (by simp);have li:=(List.getElem?_eq_some_iff.1 gi).1;have cs:=Jv d (List.replicate r .top) ib cap (by omega) J T gi;apply aD;simp(disch:=omega) ;apply aO;clear aO;refine ae fun K hK=>?_;simp(disch:=omega) ;refine ah (cs) ?_;simp(disch:=omega) ;apply hK;clear hK K;have gi2:(J.set ib (.cells (ints (nA d)++List.replicate r AV.top)))[ib]?=some (.cells (ints (nA d)++List.replicate r AV.top)):=List.getElem?_set_self li;have cc:=Bv (nA d) (List.replicate r .top) ib cap (by rw[rF];omega) (J.set ib (.cells (ints (nA d)++List.replicate r AV.top))) T gi2 (Dq _);rw[rF] at cc;refine ae fun K hK=>?_;simp(disch:=omega) ;refine ah (cc) ?_;simp(disch:=omega) ;apply hK;clear hK K;apply an;simp(disch:=omega) ;rw[hf];exact⟨yL.set W7 _,ib,⟨rfl,rfl⟩,W7,ints (List.replicate (d.length-(Lib.compact (nA d)).length) 0)++List.replicate r AV.top,by rw[List.getElem?_set_self li,←Bl,List.append_assoc];rfl⟩
end Go.Proofs.YtneohapkboaplaaGreat
