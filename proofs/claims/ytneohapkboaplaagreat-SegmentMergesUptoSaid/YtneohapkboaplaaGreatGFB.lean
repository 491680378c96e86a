/- slices.Sort and slices.Compact of integers on a box, by the library's contracts. A list of integers that grows in a box; segment.Between (layer 39): one number. segment.Between (layer 39).
  Conditions: lengths below 400 or 1000, as each theorem says. -/
import Derived.Shelf.Sort.Plain
import Derived.Shelf.Slices.In.SortNone
import Derived.Shelf.Slices.CompactI
import Derived.Test.YtneohapkboaplaaGreatAmD
import Derived.Test.YtneohapkboaplaaGreatGV
import Derived.Test.YtneohapkboaplaaGreatGFA
set_option linter.all false
set_option maxRecDepth 100000
namespace Go.Proofs.YtneohapkboaplaaGreat
open Go Go.Am Go.Sort Go.Shelf Go.RowKit Go.Proofs
def laysSiR:Ren:=⟨fun|125=>142|128=>186|129=>187|189=>82|215=>138|216=>152|257=>155|294=>199|295=>200|296=>201|297=>202|298=>203|299=>204|300=>205|301=>206|328=>226|329=>219|330=>220|331=>227|332=>228|343=>235|x=>x,
 fun|28=>25|46=>200|51=>239|53=>218|131=>140|182=>232|183=>233|218=>256|222=>215|228=>267|229=>225|x=>x,fun x=>x⟩
theorem laysSi:Lays.n189 Tryz.prog laysSiR:=
 {
  mixed:=by kernel_rfl
  f125:=Tryz.func142.trans (congrArg some (by kernel_rfl))
  f128:=Tryz.func186.trans (congrArg some (by kernel_rfl))
  f129:=Tryz.func187.trans (congrArg some (by kernel_rfl))
  f189:=Tryz.func82.trans (congrArg some (by kernel_rfl))
  f215:=Tryz.func138.trans (congrArg some (by kernel_rfl))
  f216:=Tryz.func152.trans (congrArg some (by kernel_rfl))
  f257:=Tryz.func155.trans (congrArg some (by kernel_rfl))
  f294:=Tryz.func199.trans (congrArg some (by kernel_rfl))
  f295:=Tryz.func200.trans (congrArg some (by kernel_rfl))
  f296:=Tryz.func201.trans (congrArg some (by kernel_rfl))
  f297:=Tryz.func202.trans (congrArg some (by kernel_rfl))
  f298:=Tryz.func203.trans (congrArg some (by kernel_rfl))
  f299:=Tryz.func204.trans (congrArg some (by kernel_rfl))
  f300:=Tryz.func205.trans (congrArg some (by kernel_rfl))
  f301:=Tryz.func206.trans (congrArg some (by kernel_rfl))
  f328:=Tryz.func226.trans (congrArg some (by kernel_rfl))
  f329:=Tryz.func219.trans (congrArg some (by kernel_rfl))
  f330:=Tryz.func220.trans (congrArg some (by kernel_rfl))
  f331:=Tryz.func227.trans (congrArg some (by kernel_rfl))
  f332:=Tryz.func228.trans (congrArg some (by kernel_rfl))
  f343:=Tryz.func235.trans (congrArg some (by kernel_rfl))
  t0:=Tryz.underlying0
  a0:=Tryz.isAgg0
  z0:=Tryz.sizeOf0
  v0:=Tryz.zeroValue0
  t3:=Tryz.underlying3
  a3:=Tryz.isAgg3
  z3:=Tryz.sizeOf3
  v3:=Tryz.zeroValue3
  t4:=Tryz.underlying4
  a4:=Tryz.isAgg4
  z4:=Tryz.sizeOf4
  v4:=Tryz.zeroValue4
  t5:=Tryz.underlying5
  a5:=Tryz.isAgg5
  z5:=Tryz.sizeOf5
  v5:=Tryz.zeroValue5
  t9:=Tryz.underlying9
  a9:=Tryz.isAgg9
  z9:=Tryz.sizeOf9
  v9:=Tryz.zeroValue9
  t28:=Tryz.underlying25
  a28:=Tryz.isAgg25
  z28:=Tryz.sizeOf25
  v28:=Tryz.zeroValue25
  t46:=Tryz.underlying200
  a46:=Tryz.isAgg200
  z46:=Tryz.sizeOf200
  v46:=Tryz.zeroValue200
  t51:=Tryz.underlying239
  a51:=Tryz.isAgg239
  z51:=Tryz.sizeOf239
  v51:=Tryz.zeroValue239
  t53:=Tryz.underlying218
  a53:=Tryz.isAgg218
  z53:=Tryz.sizeOf218
  v53:=Tryz.zeroValue218
  t131:=Tryz.underlying140
  a131:=Tryz.isAgg140
  z131:=Tryz.sizeOf140
  v131:=Tryz.zeroValue140
  t182:=Tryz.underlying232
  a182:=Tryz.isAgg232
  z182:=Tryz.sizeOf232
  v182:=Tryz.zeroValue232
  t183:=Tryz.underlying233
  a183:=Tryz.isAgg233
  z183:=Tryz.sizeOf233
  v183:=Tryz.zeroValue233
  t218:=Tryz.underlying256
  a218:=Tryz.isAgg256
  z218:=Tryz.sizeOf256
  v218:=Tryz.zeroValue256
  t222:=Tryz.underlying215
  a222:=Tryz.isAgg215
  z222:=Tryz.sizeOf215
  v222:=Tryz.zeroValue215
  t228:=Tryz.underlying267
  a228:=Tryz.isAgg267
  z228:=Tryz.sizeOf267
  v228:=Tryz.zeroValue267
  t229:=Tryz.underlying225
  a229:=Tryz.isAgg225
  z229:=Tryz.sizeOf225
  v229:=Tryz.zeroValue225 }
def laysCoR:Ren:=⟨fun|20=>83|x=>x,fun|22=>25|x=>x,fun x=>x⟩
theorem laysCo : Lays2.n20 Tryz.prog laysCoR :=
  { mixed := by kernel_rfl
    f20 := Tryz.func83.trans (congrArg some (by kernel_rfl))
    t0 := Tryz.underlying0
    a0 := Tryz.isAgg0
    z0 := Tryz.sizeOf0
    v0 := Tryz.zeroValue0
    t3 := Tryz.underlying3
    a3 := Tryz.isAgg3
    z3 := Tryz.sizeOf3
    v3 := Tryz.zeroValue3
    t4 := Tryz.underlying4
    a4 := Tryz.isAgg4
    z4 := Tryz.sizeOf4
    v4 := Tryz.zeroValue4
    t22 := Tryz.underlying25
    a22 := Tryz.isAgg25
    z22 := Tryz.sizeOf25
    v22 := Tryz.zeroValue25
    i3 := by kernel_rfl }
theorem encZ:Enc (fun x:Int=>[Value.int .i64 x]) (fun x=>[AV.int .i64 x]) 1 where
 pos:=by decide
 len _:=rfl
 lenA _:=rfl
 one x v hv:=by simp at hv;subst hv;rfl
 rep x j hj L N T w v:=by
  match j,hj with
  |0,_=>exact⟨fun h=>by cases h;rfl,fun h=>by subst h;exact .int _ _⟩
theorem ints_flat (l:List Int):l.flatMap (fun x=>[AV.int .i64 x])=ints l:=by
 induction l with
 |nil=>rfl
 |cons x r ih=>rw[List.flatMap_cons,ih];rfl
theorem flatZ (d : Array Int) (t : Nat) (h : t < d.size) : (flatK (fun x : Int => [Value.int .i64 x]) 1 d)[t]! = Value.int .i64 d[t]! := by
  rw [get_flatK _ _ _ _ (by omega)];simp [Nat.mod_one]
theorem putRowZ (w : World) (b o : Nat) (d : Array Int) : putRowK (fun x : Int => [Value.int .i64 x]) 1 w b o d = putRow (Value.int .i64) w b o d := by
  unfold putRowK putRow
  congr 1
  funext c
  unfold putCells
  congr 1
  funext k x
  rw [size_flatK, Nat.mul_one]
  by_cases h : o ≤ k ∧ k < o + d.size
  · rw [if_pos h, if_pos h, flatZ d (k - o) (by omega)]; rfl
  · rw [if_neg h, if_neg h]
theorem holdsZ {w : World} {b o : Nat} {d : Array Int} (h : HoldsK (fun x : Int => [Value.int .i64 x]) 1 w b o d) : Holds (Value.int .i64) w b o d := fun j hj => by
  obtain ⟨h1, h2⟩ := h j (by rw [size_flatK]; omega);rw [flatZ d j hj] at h1;exact ⟨h1, h2⟩
def sortI (l:List Int):List Int:=l.mergeSort fun x y=>decide (x≤y)
theorem sortI_len (l:List Int):(sortI l).length=l.length:=List.length_mergeSort _
theorem one_arg {H:List Blk}{T:Toks}{L:Lay}{w:World}{ca:Array Value}{v:AV}(hl:ca.size=1)(hr:∀(j:Nat)(h:j<[v].length)(h':j<ca.size),Rep L H.length T w ([v][j]'h) (ca[j]'h')):∃c,ca=#[c]∧Rep L H.length T w v c:=by
 obtain⟨cl⟩:=ca
 match cl,hl with
 |[a],_=>exact⟨a,rfl,hr 0 (by simp) (by simp)⟩
theorem sortI_ok (zs:List Int)(rest:List AV)(i cap:Nat)(hl:zs.length≤1099511627776)(H:List Blk)(T:Toks)(hi:H[i]?=some (.cells (ints zs++rest))) :
  ACall Tryz.prog 82 [.csl i zs.length cap] H T (Is (.tup []) (H.set i (.cells (ints (sortI zs)++rest))) T):=by
 rw[←ints_flat] at hi;refine⟨fun _ _=>Tryz.call82 _ _,fun L w ca hc hl' hr=>?_⟩;obtain⟨c,rfl,hr0⟩:=one_arg (by simpa using hl') hr;obtain⟨rfl,hcap,hlt⟩:=hr0.csl_inv;have hmain:=Any.slices_Sort_int laysSi (L.phi i) 0 cap zs w (holdsZ (hc.holdsK encZ hi)) (hc.phi_lt hlt) (by omega);refine hmain.mono ?_;rintro e w' ⟨rfl,n,os,rfl⟩;obtain⟨L',hc',hev,_⟩:=hc.sorted (n:=n) (os:=os) (l':=sortI zs) encZ hi (sortI_len zs);rw[ints_flat] at hc' hev;unfold sortWorldK at hc' hev;rw[putRowZ] at hc' hev;exact⟨_,_,T,L',_,⟨rfl,rfl,rfl⟩,rfl,hc',.tup [] #[] rfl (fun j hj=>by simp at hj),hev⟩
theorem sortI0_ok (H:List Blk)(T:Toks)(tg:Tag):ACall Tryz.prog 82 [.sl 0 [] tg] H T (Is (.tup []) H T):=by
 refine⟨fun _ _=>Tryz.call82 _ _,fun L w ca hc hl' hr=>?_⟩;obtain⟨c,rfl,hr0⟩:=one_arg (by simpa using hl') hr;obtain⟨a,cap,rfl,_⟩:=hr0.sl_inv;refine(Any.slices_Sort_int_none laysSi a cap w).mono ?_;rintro e w' ⟨rfl,rfl⟩;exact⟨_,H,T,L,_,⟨rfl,rfl,rfl⟩,rfl,hc,.tup [] #[] rfl (fun j hj=>by simp at hj),Ev.refl (Nat.le_refl _) (Nat.le_refl _)⟩
theorem compactI_ok (zs:List Int)(rest:List AV)(i cap:Nat)(hl:zs.length≤1099511627776)(H:List Blk)(T:Toks)(hi:H[i]?=some (.cells (ints zs++rest)))(hle:(Lib.compact zs).length≤zs.length) :
  ACall Tryz.prog 83 [.csl i zs.length cap] H T (Is (.csl i (Lib.compact zs).length cap) (H.set i (.cells (ints (Lib.compact zs++List.replicate (zs.length-(Lib.compact zs).length) 0)++rest))) T):=by
 rw[←ints_flat] at hi;refine⟨fun _ _=>Tryz.call83 _ _,fun L w ca hc hl' hr=>?_⟩;obtain⟨c,rfl,hr0⟩:=one_arg (by simpa using hl') hr;obtain⟨rfl,hcap,hlt⟩:=hr0.csl_inv;have hmain:=Any.slices_Compact_int laysCo (L.phi i) 0 cap zs w (holdsZ (hc.holdsK encZ hi)) (by omega) hcap;refine hmain.mono ?_;rintro e w' ⟨rfl,n,rfl⟩;obtain⟨L',hc',hev,hphi⟩:=hc.sorted (n:=n) (os:=#[]) (l':=Lib.compact zs++List.replicate (zs.length-(Lib.compact zs).length) 0) encZ hi (by rw[List.length_append,List.length_replicate];omega);rw[ints_flat] at hc' hev;unfold sortWorldK at hc' hev;rw[putRowZ,grow_empty] at hc' hev;refine⟨_,_,T,L',_,⟨rfl,rfl,rfl⟩,rfl,hc',?_,hev⟩;rw[←hphi i hlt];exact .csl _ _ _ (by rw[List.length_set];exact hlt) (by omega)
attribute [-simp] List.getD_eq_getElem?_getD in
theorem compactI0_ok (H:List Blk)(T:Toks)(tg:Tag):ACall Tryz.prog 83 [.sl 0 [] tg] H T (Is (.sl 0 [] .none) H T):=by
 refine ACall.untag1 ?_;refine acall_enter 6 [] Tryz.ntmps83 Tryz.func83 rfl (fun _ _=>Tryz.call83 _ _) (by simp) (fun HO=>?_);apply aw_reg;intro K h;simp(disch:=omega);apply h;clear h K;refine aw_then fun K1 hK1=>?_;apply aw_reg;intro K h;simp(disch:=omega);apply h;clear h K;apply aw_ift rfl;apply aw_reg;intro K h;simp(disch:=omega);apply h;clear h K;apply aw_ret;simp(disch:=omega) ;exact⟨rfl,rfl,rfl⟩
open Sug Seg Post
def OutB (h:Nat)(d:List Int)(out:AV)(S:List (Nat×Blk)):Prop:=
 (d=[]∧out=.sl 0 [] .full∧S=[])∨∃i cap r,out=.csl i d.length cap∧h≤i∧d.length+r=cap∧S=[(i,.cells (ints d++List.replicate r AV.top))]
structure GI (H:List Blk)(T:Toks)(d:List Int)(R:List (Nat×Blk))(J:List Blk)(out:AV):Prop where
 bx:∃S,OutB H.length d out S∧Has J (R++S)
 pre:Pre H J
 ok:HOk J T
variable {H : List Blk} {T : Toks} {d : List Int} {R : List (Nat × Blk)} {J : List Blk} {out : AV}
theorem GI.nil (ho:HOk H T):GI H T [] [] H (.sl 0 [] .full):=⟨⟨[],.inl ⟨rfl,rfl,rfl⟩,⟨by simp,fun p hp=>by simp at hp⟩⟩,⟨[],by simp⟩,ho⟩
theorem GI.more (h:GI H T d R J out)(b:Blk)(ho:HOk (J++[b]) T):GI H T d ((J.length,b)::R) (J++[b]) out:=by
 obtain⟨⟨S,h1,h2⟩,h3,h4⟩:=h;exact⟨⟨S,h1,(h2.new b).perm (List.perm_append_singleton _ _).symm⟩,h3.app _,ho⟩
theorem GI.less {x:Nat×Blk}(h:GI H T d (x::R) J out):GI H T d R J out:=by
 obtain⟨⟨S,h1,h2⟩,h3,h4⟩:=h;exact⟨⟨S,h1,h2.sub (List.sublist_cons_self _ _)⟩,h3,h4⟩
theorem GI.get (h:GI H T d R J out){i:Nat}{b:Blk}(hm:(i,b)∈R):J[i]?=some b:=by
 obtain⟨⟨S,h1,h2⟩,h3,h4⟩:=h;exact h2.get (List.mem_append_left _ hm)
theorem GI.below (h:GI H T d R J out):Below J.length T.length out:=by
 obtain⟨⟨S,h1,h2⟩,h3,h4⟩:=h;rcases h1 with⟨_,rfl,_⟩|⟨i,cap,r,rfl,hi,hr,rfl⟩
 ·simp
 ·exact below_csl.2 (h2.lt (i:=i) (b:=.cells (ints d++List.replicate r AV.top)) (by simp))
theorem GI.first (h:GI H T [] R J (.sl 0 [] .full))(x:Int)(nc:Nat)(hn:1≤nc):GI H T [x] R (J++[.cells (.int .i64 x::List.replicate (nc-1) AV.top)]) (.csl J.length 1 nc):=by
 obtain⟨⟨S,h1,h2⟩,h3,h4⟩:=h;have hS:S=[]:=by
  rcases h1 with⟨_,_,h⟩|⟨i,cap,r,h,_⟩
  ·exact h
  ·cases h
 subst hS;rw[List.append_nil] at h2;exact⟨⟨_,.inr ⟨J.length,nc,nc-1,rfl,h3.le,by simp only[List.length_singleton];omega,rfl⟩,h2.new _⟩,h3.app _,h4.snoc (by simp)⟩
theorem GI.put {i cap r:Nat}(hb:Has J (R++[(i,.cells (ints d++List.replicate r AV.top))]))(hi:H.length≤i)(hr:d.length+r=cap)(h3:Pre H J)(h4:HOk J T)(hle:d.length+1≤cap)(x:Int) :
  GI H T (d++[x]) R (J.set i (.cells ((ints d++List.replicate r AV.top).take d.length++[.int .i64 x]++(ints d++List.replicate r AV.top).drop (d.length+1)))) (.csl i (d.length+1) cap):=by
 have hl:(ints d).length=d.length:=by simp
 have e1:(ints d++List.replicate r AV.top).take d.length=ints d:=List.take_left' hl;have e2:(ints d++List.replicate r AV.top).drop (d.length+1)=List.replicate (r-1) AV.top:=by
  rw[←List.drop_drop,List.drop_left' hl,List.drop_replicate]
 rw[e1,e2,ints_snoc];exact⟨⟨_,.inr ⟨i,cap,r-1,by simp,hi,by simp;omega,rfl⟩,by simpa using hb.set (A:=R) (B:=[]) (.cells (ints (d++[x])++List.replicate (r-1) AV.top))⟩,h3.set hi _,h4.set (by simp)⟩
theorem GI.grow {i r nc:Nat}(hb:Has J (R++[(i,.cells (ints d++List.replicate r AV.top))]))(h3:Pre H J)(h4:HOk J T)(hn:d.length+1≤nc)(x:Int) :
  GI H T (d++[x]) R (J++[.cells ((ints d++List.replicate r AV.top).take d.length++[.int .i64 x]++List.replicate (nc-(d.length+1)) AV.top)]) (.csl J.length (d.length+1) nc):=by
 have hl:(ints d).length=d.length:=by simp
 have e1:(ints d++List.replicate r AV.top).take d.length=ints d:=List.take_left' hl;rw[e1,ints_snoc];exact⟨⟨_,.inr ⟨J.length,nc,nc-(d.length+1),by simp,h3.le,by simp;omega,rfl⟩,(hb.sub (List.sublist_append_left _ _)).new _⟩,h3.app _,h4.snoc (by simp)⟩
def hitB (f lo hi:Int)(cf:Int)(x:Nm):Bool:=(cf==f&&decide (lo≤x.1))&&decide (x.1≤hi)
def hitL (f lo hi:Int)(cf:Int)(x:Nm):List Int:=if hitB f lo hi cf x=true then [x.2] else []
attribute [-simp] List.getD_eq_getElem?_getD in
set_option maxHeartbeats 16000000 in
theorem btw_step (cols:List Cl)(xs:List Nm)(nb:Nat)(hnb:nb≤H.length)(f lo hi cf:Int)(vi vj b4 b11 b13:Nat)(xv:AV)(x:Nm)(hd:d.length≤1099511627776)(hG:GI H T d R J out)
  (h11:(b11,.cells [.int .i64 cf,xv])∈R) (h13:(b13,.cells (nmC x))∈R) (l4:b4<H.length+1) (hR:b4<J.length) (Q:Exit→St→Prop)
  (go:∀(e:Env)(J':List Blk)(out':AV),GI H T (d++hitL f lo hi cf x) R J' out'→J.length≤J'.length→envLe J'.length T.length e [(1,.int .i64 f),(2,.int .i64 lo),(3,.int .i64 hi),(4,.ptr b4 0),(9,out'),(11,.ptr b11 0),(19,.sl cols.length (clAV cols) .none),(20,.int .i64 (cols.length:Nat)),(21,.int .i64 (vi:Nat)),(26,.sl xs.length (nmAV xs) .none),(27,.int .i64 (xs.length:Nat)),(28,.int .i64 (vj:Nat))]→Q .normal ⟨e,J',T⟩) :
  AW ⟨Tryz.prog,59,31,nb,T.length,[100052]⟩ (subC [1,1,1,0,1,0,0,1,1,0,0,1,1,0,0,1,1,0,0,1] (Tryz.f26.body.getD .skip)) Q ⟨[(1,.int .i64 f),(2,.int .i64 lo),(3,.int .i64 hi),(4,.ptr b4 0),(9,out),(11,.ptr b11 0),(13,.ptr b13 0),(19,.sl cols.length (clAV cols) .none),(20,.int .i64 (cols.length:Nat)),(21,.int .i64 (vi:Nat)),(26,.sl xs.length (nmAV xs) .none),(27,.int .i64 (xs.length:Nat)),(28,.int .i64 (vj:Nat))],J,T⟩:=by
 conv=>arg 2;whnf
 have g11:=hG.get h11;have g13:=hG.get h13;have e11:=at_of g11;have e13:=at_of g13;have l11:=(List.getElem?_eq_some_iff.1 g11).1;have l13:=(List.getElem?_eq_some_iff.1 g13).1;have lb:=hG.below;have lJ:=hG.pre.le;obtain⟨x1,x2⟩:=x;have skip:hitB f lo hi cf (x1,x2)=false→∀e:Env,envLe J.length T.length e [(1,.int .i64 f),(2,.int .i64 lo),(3,.int .i64 hi),(4,.ptr b4 0),(9,out),(11,.ptr b11 0),(19,.sl cols.length (clAV cols) .none),(20,.int .i64 (cols.length:Nat)),(21,.int .i64 (vi:Nat)),(26,.sl xs.length (nmAV xs) .none),(27,.int .i64 (xs.length:Nat)),(28,.int .i64 (vj:Nat))]→Q .normal ⟨e,J,T⟩:=fun hb e he=>
  go e J out (by unfold hitL;rw[hb];simpa using hG) (Nat.le_refl _) he
 by_cases h1:cf=f
 rotate_left
 ·have b1:(cf==f)=false:=beq_eq_false_iff_ne.2 h1;refine aw_reg fun K hK=>?_;simp(disch:=omega)[e11,e13,b1,h1];apply hK;clear hK K;apply aw_iff rfl;apply aw_skip;exact skip (by unfold hitB;rw[b1];rfl) _ (by simp[lb];omega)
 have b1:(cf==f)=true:=by simpa using h1
 by_cases h2:lo≤x1
 rotate_left
 ·have b2:decide (lo≤x1)=false:=decide_eq_false h2;refine aw_reg fun K hK=>?_;simp(disch:=omega)[e11,e13,b1,h1,b2,h2];apply hK;clear hK K;apply aw_iff rfl;apply aw_skip;exact skip (by unfold hitB;simp only;rw[b1,b2];rfl) _ (by simp[lb];omega)
 have b2:decide (lo≤x1)=true:=decide_eq_true h2
 by_cases h3:x1≤hi
 rotate_left
 ·have b3:decide (x1≤hi)=false:=decide_eq_false h3;refine aw_reg fun K hK=>?_;simp(disch:=omega)[e11,e13,b1,h1,b2,h2,b3,h3];apply hK;clear hK K;apply aw_iff rfl;apply aw_skip;exact skip (by unfold hitB;simp only;rw[b1,b2,b3];rfl) _ (by simp[lb];omega)
 have b3:decide (x1≤hi)=true:=decide_eq_true h3;have hhit:d++hitL f lo hi cf (x1,x2)=d++[x2]:=by unfold hitL hitB;simp only;rw[b1,b2,b3];rfl
 rw[hhit] at go;refine aw_reg fun K hK=>?_;simp(disch:=omega)[e11,e13,b1,h1,b2,h2,b3,h3];apply hK;clear hK K;apply aw_ift rfl;have h':=hG;obtain⟨⟨S,hS,hHas⟩,hpre,hok⟩:=hG;rcases hS with⟨rfl,rfl,rfl⟩|⟨i,cap,r,rfl,hi0,hr,rfl⟩
 ·have hg:=fun nc hn=>GI.first h' x2 nc hn;refine aw_reg0 fun K hK=>?_;simp(disch:=omega)[e13];intro nc hn;apply hK;clear hK K;have:=hg nc hn;refine go _ _ _ this (by simp) ?_;simp;omega
 ·have gi:=hHas.get (i:=i) (b:=.cells (ints d++List.replicate r AV.top)) (by simp);have hput:=fun hle=>GI.put hHas hi0 hr hpre hok hle x2;have hgrow:=fun nc hn=>GI.grow (nc:=nc) hHas hpre hok hn x2;refine aw_reg0 fun K hK=>?_;simp(disch:=omega)[e13];refine⟨3,_,[.int .i64 x2],1,by kernel_rfl,gi,by simp;omega,by simp,by simp;omega,by omega,by kernel_rfl,by simp,fun hle=>?_,fun nc hlt hnc=>?_⟩
  ·have hg:=hput hle;simp only[cells3,Nat.mul_one];generalize hX:J.set i _=H2 at hg ⊢;have hb2:=hg.below;have hl2:J.length=H2.length:=by rw[←hX,List.length_set]
   simp(disch:=omega) ;apply hK;clear hK K;refine go _ _ _ hg (by omega) ?_;simp[hb2];omega
  ·have hg:=hgrow nc hnc;simp only[cells3,Nat.mul_one];generalize hX:J++[Blk.cells _]=H2 at hg ⊢;have hb2:=hg.below;have hl2:J.length+1=H2.length:=by rw[←hX];simp
   have hgo:=fun e=>go e _ _ hg (by omega);clear hgrow hput hg go skip e11 e13 gi hHas hok hpre h' g11 g13 hX lb;generalize J.length=i2 at *;simp(disch:=omega) ;apply hK;clear hK K;refine hgo _ ?_;simp[hb2];omega
theorem compact_le (l:List Int):(Lib.compact l).length≤l.length:=by
 unfold Lib.compact Lib.compactUpTo;rw[List.length_map];exact Nat.le_trans (List.length_filter_le _ _) (by simp)
theorem compact_spec {l : List Int} (hs : l.Pairwise fun x y => x ≤ y) : ∀ m, m ≤ l.length → Asc (Lib.compactUpTo l.toArray m) ∧ (∀ x, x ∈ Lib.compactUpTo l.toArray m ↔ x ∈ l.take m) ∧ ∀ x ∈ Lib.compactUpTo l.toArray m, 0 < m → x ≤ l.getD (m - 1) 0
  | 0, _ => ⟨.nil, by simp [Lib.compactUpTo], by simp [Lib.compactUpTo]⟩
  | m + 1, h => by
    obtain ⟨h1, h2, h3⟩ := compact_spec hs m (by omega);have hm : l.toArray[m]! = l.getD m 0 := by simp [List.getD_eq_getElem?_getD]
    have hle : ∀ x ∈ Lib.compactUpTo l.toArray m, x ≤ l.getD m 0 := by
      intro x hx;rcases Nat.eq_zero_or_pos m with h0 | h0
      · subst h0; simp [Lib.compactUpTo] at hx
      · refine Int.le_trans (h3 x hx h0) ?_;have := List.pairwise_iff_getElem.1 hs (m - 1) m (by omega) (by omega) (by omega);simpa [List.getD_eq_getElem?_getD, List.getElem?_eq_getElem (show m - 1 < l.length by omega), List.getElem?_eq_getElem (show m < l.length by omega)] using this
    have htk : l.take (m + 1) = l.take m ++ [l.getD m 0] := take_getD l m 0 (by omega);rw [Lib.compactUpTo_succ, htk, hm]
    cases hk : Lib.keeps l.toArray m with
    | true =>
      have hk' : m = 0 ∨ l.getD m 0 ≠ l.getD (m - 1) 0 := by
        unfold Lib.keeps at hk;have := of_decide_eq_true hk;rw [hm] at this;simpa [List.getD_eq_getElem?_getD] using this
      simp only [if_true];refine ⟨List.pairwise_append.2 ⟨h1, by simp, fun a ha b hb => ?_⟩, fun x => by rw [List.mem_append, List.mem_append, h2 x], fun x hx _ => ?_⟩
      · rw [List.mem_singleton.1 hb];rcases hk' with h0 | h0
        · subst h0; simp [Lib.compactUpTo] at ha
        · rcases Nat.eq_zero_or_pos m with h0' | h0'
          · subst h0'; simp [Lib.compactUpTo] at ha
          · have g1 := h3 a ha h0';have := List.pairwise_iff_getElem.1 hs (m - 1) m (by omega) (by omega) (by omega);have g2 : l.getD (m - 1) 0 ≤ l.getD m 0 := by simpa [List.getD_eq_getElem?_getD, List.getElem?_eq_getElem (show m - 1 < l.length by omega), List.getElem?_eq_getElem (show m < l.length by omega)] using this
            omega
      · rw [Nat.add_sub_cancel];rcases List.mem_append.1 hx with hx | hx
        · exact hle x hx
        · rw [List.mem_singleton.1 hx]; exact Int.le_refl _
    | false =>
      have hk' : 0 < m ∧ l.getD m 0 = l.getD (m - 1) 0 := by
        unfold Lib.keeps at hk;have := of_decide_eq_false hk;rw [hm] at this;refine ⟨by omega, ?_⟩;have := Classical.not_not.1 fun h => this (.inr h);simpa [List.getD_eq_getElem?_getD] using this
      simp only [Bool.false_eq_true, if_false, List.append_nil];refine ⟨h1, fun x => ?_, fun x hx _ => by rw [Nat.add_sub_cancel]; exact hle x hx⟩;rw [h2 x, List.mem_append, List.mem_singleton];refine ⟨.inl, fun h => ?_⟩;rcases h with h | rfl
      · exact h
      · rw [hk'.2, ← h2];refine (h2 _).2 ?_;have : l.take m = l.take (m - 1) ++ [l.getD (m - 1) 0] := by
          have := take_getD l (m - 1) 0 (by omega)
          rwa [show m - 1 + 1 = m by omega] at this
        rw [this]; simp
theorem sortI_mem (l:List Int)(x:Int):x∈sortI l↔x∈l:=(List.mergeSort_perm l _).mem_iff
theorem sortI_le (l:List Int):(sortI l).Pairwise fun x y=>x≤y:=
 (List.pairwise_mergeSort (le:=fun x y=>decide (x≤y)) (fun a b c h1 h2=>by simp only[decide_eq_true_eq] at *;omega) (fun a b=>by simp only[Bool.or_eq_true,decide_eq_true_eq];omega) l).imp fun h=>by simpa using h
def ascL (l:List Int):List Int:=Lib.compact (sortI l)
theorem ascL_asc (l:List Int):Asc (ascL l):=(compact_spec (sortI_le l) _ (Nat.le_refl _)).1
theorem ascL_mem (l:List Int)(x:Int):x∈ascL l↔x∈l:=by
 have:=(compact_spec (sortI_le l) _ (Nat.le_refl _)).2.1 x;rw[List.take_length,sortI_mem] at this;exact this
def hitC (f lo hi:Int)(c:Cl):List Int:=c.x.flatMap (hitL f lo hi c.f)
def hits (f lo hi:Int)(l:List Cl):List Int:=l.flatMap (hitC f lo hi)
def betS (s:Sg)(f lo hi:Int):List Int:=if validS s=true then ascL (hits f lo hi s.cols) else []
theorem hitC_len (f lo hi cf:Int):∀x:List Nm,(x.flatMap (hitL f lo hi cf)).length≤x.length
 |[]=>Nat.le_refl _
 |y::x=>by
  rw[List.flatMap_cons,List.length_append,List.length_cons];have:=hitC_len f lo hi cf x;have:(hitL f lo hi cf y).length≤1:=by unfold hitL;split<;>simp
  omega
theorem hits_len (f lo hi:Int):∀l:List Cl,(∀c∈l,c.x.length≤1000)→(hits f lo hi l).length≤l.length*1000
 |[],_=>by simp[hits]
 |c::l,h=>by
  have h1:=hits_len f lo hi l fun c hc=>h c (List.mem_cons_of_mem _ hc);have h2:=hitC_len f lo hi c.f c.x;have h3:=h c (by simp);unfold hits at h1 ⊢;rw[List.flatMap_cons,List.length_append,List.length_cons,hitC];omega
attribute [-simp] List.getD_eq_getElem?_getD in
set_option maxHeartbeats 16000000 in
theorem betS_ok (s:Sg)(hs:SzS s)(f lo hi:Int)(H:List Blk)(T:Toks):ACall Tryz.prog 26 [sgAV s,.int .i64 f,.int .i64 lo,.int .i64 hi] H T (Is (.sl (betS s f lo hi).length (ints (betS s f lo hi)) .none) H T):=by
 refine ACall.freezeAt (by simp) ?_;have cv:=fun H=>validS_ok s hs H T;have hcl:=hs.c;have hx:=hs.x;refine acall_enter 31 [100052] Tryz.ntmps26 Tryz.func26 rfl (fun _ _=>Tryz.call26 _ _) (by simp) (fun HO=>?_);apply aw_reg;intro K h;simp(disch:=omega);apply h;clear h K;apply aw_reg;intro K h;simp(disch:=omega);apply h;clear h K;refine aw_then fun K1 hK1=>?_;have HO1:HOk (H++[.cells (sgC s)]) T:=HO.snoc (by simp)
 cases hv:validS s with
 |false=>
  rw[hv] at cv;have hf:betS s f lo hi=[]:=by unfold betS;rw[hv];rfl
  refine aw_reg fun K hK=>?_;simp(disch:=omega) ;refine acall_is (cv _) ?_;simp(disch:=omega) ;apply hK;clear hK K;apply aw_ift rfl;apply aw_reg;intro K h;simp(disch:=omega);apply h;clear h K;apply aw_ret;simp(disch:=omega) ;exact⟨hf,by rw[hf];rfl⟩
 |true=>
 rw[hv] at cv;have hf:betS s f lo hi=ascL (hits f lo hi s.cols):=by unfold betS;rw[if_pos hv]
 have hlen:=hits_len f lo hi;refine aw_reg fun K hK=>?_;simp(disch:=omega) ;refine acall_is (cv _) ?_;simp(disch:=omega) ;apply hK;clear hK K;apply aw_iff rfl;apply aw_skip;simp(disch:=omega) ;apply hK1;clear hK1;refine aw_then fun K1 hK1=>?_;apply aw_reg;intro K h;simp(disch:=omega);apply h;clear h K;obtain⟨docs,tms,cols⟩:=s;simp only at hcl hx hf;have hG0:GI H T [] [] (H++[.cells (sgC ⟨docs,tms,cols⟩)]) (.sl 0 [] .full):=((GI.nil HO).more _ HO1).less;generalize betS ⟨docs,tms,cols⟩ f lo hi=res at *;have hb4:H.length<(H++[Blk.cells (sgC ⟨docs,tms,cols⟩)]).length:=by simp
 generalize H++[Blk.cells (sgC ⟨docs,tms,cols⟩)]=J0 at *;apply aw_block;refine aw_loop (X:=Nat×List Blk×AV) (fun x=>⟨[(1,.int .i64 f),(2,.int .i64 lo),(3,.int .i64 hi),(4,.ptr H.length 0),(9,x.2.2),(19,.sl cols.length (clAV cols) .none),(20,.int .i64 (cols.length:Nat)),(21,.int .i64 (x.1:Nat))],x.2.1,T⟩)
  (fun x=>x.1≤cols.length∧GI H T (hits f lo hi (cols.take x.1)) [] x.2.1 x.2.2∧H.length<x.2.1.length) (fun x=>cols.length-x.1) (0,J0,.sl 0 [] .full) ?_ ?_ ?_
 ·exact⟨Nat.zero_le _,hG0,hb4⟩
 ·refine weak_to [] [] ?_ ?_ ?_ ?_ HO1 ?_
  all_goals simp
  all_goals omega
 ·rintro⟨i,J,out⟩ ⟨g1,g2,g3⟩;simp only at g1 g2 g3;have lb:=g2.below;apply aw_reg;intro K h;simp(disch:=omega);apply h;clear h K;refine aw_then fun K2 hK2=>?_;refine aw_if rfl (fun hk=>?_) (fun hk=>?_)
  ·simp  at hk;have hcut:=clAV_cut cols i hk;have hxl:=hx _ (getD_mem cols i c0 hk);have hft:=flat_take cols (hitC f lo hi) c0 i hk;have hdl:(hits f lo hi (cols.take i)).length≤1000000:=Nat.le_trans (hlen (cols.take i) fun c hc=>hx c (List.mem_of_mem_take hc)) (by rw[List.length_take];omega);generalize cols.getD i c0=c at *;obtain⟨cf,xs⟩:=c;simp only at hcut hxl;have hft':hits f lo hi (cols.take (i+1))=hits f lo hi (cols.take i)++xs.flatMap (hitL f lo hi cf):=hft;clear hft;generalize hits f lo hi (cols.take i)=d0 at *;apply aw_skip;simp(disch:=omega) ;apply hK2;clear hK2;refine aw_then fun K3 hK3=>?_;apply aw_block;refine aw_reg fun K hK=>?_;simp(disch:=omega)[hcut,clAV_len];apply hK;clear hK K;have HOj:=g2.ok;have ho2:HOk (J++[.cells (clC ⟨cf,xs⟩)]) T:=HOj.snoc (by simp);have hG2:=g2.more _ ho2;have hjl:(J++[Blk.cells (clC ⟨cf,xs⟩)]).length=J.length+1:=by simp
   have hj11:(J++[Blk.cells (clC ⟨cf,xs⟩)])[J.length]?=some (.cells (clC ⟨cf,xs⟩)):=by simp
   have e11:=at_of hj11;obtain⟨b11,h11⟩:∃i,i=J.length:=⟨_,rfl⟩
   rw[←h11] at e11 hG2;simp only[←h11];have hm11:(b11,Blk.cells (clC ⟨cf,xs⟩))∈[(b11,Blk.cells (clC ⟨cf,xs⟩))]:=by simp
   have l11:b11<(J++[Blk.cells (clC ⟨cf,xs⟩)]).length:=by omega
   have l4:H.length<(J++[Blk.cells (clC ⟨cf,xs⟩)]).length:=by omega
   clear hj11 hG0 g2 lb;generalize J++[Blk.cells (clC ⟨cf,xs⟩)]=J1 at *;have lb:=hG2.below;have lh:=hG2.pre.le;refine aw_weak ⟨[(1,.int .i64 f),(2,.int .i64 lo),(3,.int .i64 hi),(4,.ptr H.length 0),(9,out),(11,.ptr b11 0),(19,.sl cols.length (clAV cols) .none),(20,.int .i64 (cols.length:Nat)),(21,.int .i64 (i:Nat))],J1,T⟩ (weak_to [] [] (by simp) (by simp) (by simpa using lh) (by simp) ho2 (by simp[lb];omega)) ?_;refine aw_reg fun K hK=>?_;simp(disch:=omega)[e11];apply hK;clear hK K;apply aw_block;refine aw_loop (X:=Nat×List Blk×AV) (fun x=>⟨[(1,.int .i64 f),(2,.int .i64 lo),(3,.int .i64 hi),(4,.ptr H.length 0),(9,x.2.2),(11,.ptr b11 0),(19,.sl cols.length (clAV cols) .none),(20,.int .i64 (cols.length:Nat)),(21,.int .i64 (i:Nat)),(26,.sl xs.length (nmAV xs) .none),(27,.int .i64 (xs.length:Nat)),(28,.int .i64 (x.1:Nat))],x.2.1,T⟩)
    (fun x=>x.1≤xs.length∧GI H T (d0++(xs.take x.1).flatMap (hitL f lo hi cf)) [(b11,.cells (clC ⟨cf,xs⟩))] x.2.1 x.2.2∧H.length<x.2.1.length∧b11<x.2.1.length) (fun x=>xs.length-x.1) (0,J1,out) ?_ ?_ ?_
   ·exact⟨Nat.zero_le _,by simpa using hG2,l4,l11⟩
   ·refine weak_to [] [] ?_ ?_ ?_ ?_ ho2 ?_
    all_goals simp[lb]
    all_goals omega
   ·rintro⟨k,J2,out2⟩ ⟨k1,k2,k3,k4⟩;simp only at k1 k2 k3 k4;have lb2:=k2.below;apply aw_reg;intro K h;simp(disch:=omega);apply h;clear h K;refine aw_then fun K4 hK4=>?_;refine aw_if rfl (fun hk2=>?_) (fun hk2=>?_)
    ·simp  at hk2;have hcn:=nmAV_cut xs k hk2;have hft2:=flat_take xs (hitL f lo hi cf) n0 k hk2;have hdl2:=hitC_len f lo hi cf (xs.take k);rw[List.length_take] at hdl2;have hft3:d0++(xs.take (k+1)).flatMap (hitL f lo hi cf)=(d0++(xs.take k).flatMap (hitL f lo hi cf))++hitL f lo hi cf (xs.getD k n0):=by rw[hft2,List.append_assoc]
     have hd2:(d0++(xs.take k).flatMap (hitL f lo hi cf)).length≤1099511627776:=by rw[List.length_append];omega
     generalize d0++(xs.take k).flatMap (hitL f lo hi cf)=d2 at *;generalize xs.getD k n0=x at *;obtain⟨x1,x2⟩:=x;simp only at hcn;apply aw_skip;simp(disch:=omega) ;apply hK4;clear hK4;refine aw_then fun K5 hK5=>?_;apply aw_block;refine aw_reg fun K hK=>?_;simp(disch:=omega)[hcn,nmAV_len];apply hK;clear hK K;have HO2:=k2.ok;have ho3:HOk (J2++[.cells (nmC (x1,x2))]) T:=HO2.snoc (by simp);have hG3:=k2.more _ ho3;have hjl2:(J2++[Blk.cells (nmC (x1,x2))]).length=J2.length+1:=by simp
     obtain⟨b13,h13⟩:∃i,i=J2.length:=⟨_,rfl⟩
     rw[←h13] at hG3;simp only[←h13];have l13:b13<(J2++[Blk.cells (nmC (x1,x2))]).length:=by omega
     have l42:H.length<(J2++[Blk.cells (nmC (x1,x2))]).length:=by omega
     have l112:b11<(J2++[Blk.cells (nmC (x1,x2))]).length:=by omega
     clear k2 lb2;generalize J2++[Blk.cells (nmC (x1,x2))]=J3 at *;have lb3:=hG3.below;have lh3:=hG3.pre.le;refine aw_weak ⟨[(1,.int .i64 f),(2,.int .i64 lo),(3,.int .i64 hi),(4,.ptr H.length 0),(9,out2),(11,.ptr b11 0),(13,.ptr b13 0),(19,.sl cols.length (clAV cols) .none),(20,.int .i64 (cols.length:Nat)),(21,.int .i64 (i:Nat)),(26,.sl xs.length (nmAV xs) .none),(27,.int .i64 (xs.length:Nat)),(28,.int .i64 (k:Nat))],J3,T⟩ (weak_to [] [] (by simp) (by simp) (by simpa using lh3) (by simp) ho3 (by simp[lb3];omega)) ?_;refine btw_step cols xs H.length (Nat.le_refl _) f lo hi cf i k H.length b11 b13 (.sl xs.length (nmAV xs) .none) (x1,x2) hd2 hG3 (by simp) (by simp) (by omega) l42 _ fun e J' out' a1 a2 a3=>?_;have a1':=a1.less;have lb4:=a1'.below;have lh4:=a1'.pre.le;refine hK5 _ (aw_weak ⟨[(1,.int .i64 f),(2,.int .i64 lo),(3,.int .i64 hi),(4,.ptr H.length 0),(9,out'),(11,.ptr b11 0),(19,.sl cols.length (clAV cols) .none),(20,.int .i64 (cols.length:Nat)),(21,.int .i64 (i:Nat)),(26,.sl xs.length (nmAV xs) .none),(27,.int .i64 (xs.length:Nat)),(28,.int .i64 (k:Nat))],J',T⟩ (weak_to [] [] (by simp) (by simp) (by simpa using lh4) (by simp) a1.ok a3) ?_);refine aw_reg0 fun K hK=>?_;simp(disch:=omega) ;apply hK;clear hK K;refine⟨(k+1,J',out'),⟨by show k+1≤_;omega,by rw[hft3];exact a1',by show H.length<J'.length;omega,by show b11<J'.length;omega⟩,by show xs.length-(k+1)<xs.length-k;omega,?_⟩;refine weak_to [] [] ?_ ?_ ?_ ?_ a1.ok ?_
     all_goals simp[lb4]
     all_goals omega
    ·simp  at hk2;have hke:k=xs.length:=by omega
     subst hke;rw[List.take_length,←hft'] at k2;have k2':=k2.less;have lb4:=k2'.below;have lh4:=k2'.pre.le;apply aw_exit;simp(disch:=omega) ;refine hK3 _ (aw_weak ⟨[(1,.int .i64 f),(2,.int .i64 lo),(3,.int .i64 hi),(4,.ptr H.length 0),(9,out2),(19,.sl cols.length (clAV cols) .none),(20,.int .i64 (cols.length:Nat)),(21,.int .i64 (i:Nat))],J2,T⟩ (weak_to [] [] (by simp) (by simp) (by simpa using lh4) (by simp) k2.ok (by simp[lb4];omega)) ?_);refine aw_reg0 fun K hK=>?_;simp(disch:=omega) ;apply hK;clear hK K;refine⟨(i+1,J2,out2),⟨by show i+1≤_;omega,k2',k3⟩,by show cols.length-(i+1)<cols.length-i;omega,?_⟩;refine weak_to [] [] ?_ ?_ ?_ ?_ k2.ok ?_
     all_goals simp[lb4]
     all_goals omega
  ·simp  at hk;have hie:i=cols.length:=by omega
   subst hie;rw[List.take_length] at g2;have hdl:(hits f lo hi cols).length≤1000000:=Nat.le_trans (hlen cols hx) (by omega);generalize hits f lo hi cols=d at *;have lh:=g2.pre.le;obtain⟨⟨S,hS,hHas⟩,hpre,hok⟩:=g2;rcases hS with⟨rfl,rfl,rfl⟩|⟨ib,cap,r,rfl,hi0,hr,rfl⟩
   ·have cs:=sortI0_ok J T .full;have cc:=compactI0_ok J T .full;apply aw_exit;simp(disch:=omega) ;apply hK1;clear hK1;refine aw_reg fun K hK=>?_;simp(disch:=omega) ;refine acall_is (cs) ?_;simp(disch:=omega) ;apply hK;clear hK K;refine aw_reg fun K hK=>?_;simp(disch:=omega) ;refine acall_is (cc) ?_;simp(disch:=omega) ;apply hK;clear hK K;apply aw_ret;simp(disch:=omega) ;rw[hf];have hn:ascL []=[]:=List.eq_nil_iff_forall_not_mem.2 fun x hx=>by simpa using(ascL_mem [] x).1 hx
    exact⟨hpre,hn,by rw[hn];rfl⟩
   ·have gi:=hHas.get (i:=ib) (b:=.cells (ints d++List.replicate r AV.top)) (by simp);have li:=(List.getElem?_eq_some_iff.1 gi).1;have cs:=sortI_ok d (List.replicate r .top) ib cap (by omega) J T gi;apply aw_exit;simp(disch:=omega) ;apply hK1;clear hK1;refine aw_reg fun K hK=>?_;simp(disch:=omega) ;refine acall_is (cs) ?_;simp(disch:=omega) ;apply hK;clear hK K;have gi2:(J.set ib (.cells (ints (sortI d)++List.replicate r AV.top)))[ib]?=some (.cells (ints (sortI d)++List.replicate r AV.top)):=List.getElem?_set_self li;have cc:=compactI_ok (sortI d) (List.replicate r .top) ib cap (by rw[sortI_len];omega) (J.set ib (.cells (ints (sortI d)++List.replicate r AV.top))) T gi2 (compact_le _);rw[sortI_len] at cc;refine aw_reg fun K hK=>?_;simp(disch:=omega) ;refine acall_is (cc) ?_;simp(disch:=omega) ;apply hK;clear hK K;apply aw_ret;simp(disch:=omega) ;rw[hf];exact⟨hpre.set hi0 _,ib,⟨rfl,rfl⟩,hi0,ints (List.replicate (d.length-(Lib.compact (sortI d)).length) 0)++List.replicate r AV.top,by rw[List.getElem?_set_self li,←ints_append,List.append_assoc];rfl⟩
end Go.Proofs.YtneohapkboaplaaGreat
