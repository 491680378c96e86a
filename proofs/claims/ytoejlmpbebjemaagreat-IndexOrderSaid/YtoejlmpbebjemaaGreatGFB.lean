/- slices.Sort and slices.Compact of integers on a box, by the library's contracts. A list of integers that grows in a box; segment.Between (layer 39): one number. segment.Between (layer 39).
  Conditions: lengths below 1000 or 1000, as each theorem says. -/
import Derived.Shelf.Sort.Plain
import Derived.Shelf.Slices.In.SortNone
import Derived.Shelf.Slices.CompactI
import Derived.Test.YtoejlmpbebjemaaGreatAmD
import Derived.Test.YtoejlmpbebjemaaGreatGV
import Derived.Test.YtoejlmpbebjemaaGreatGFA
set_option linter.all false
set_option maxRecDepth 100000
set_option maxHeartbeats 16000000
open List (getD_eq_getElem?_getD)
namespace Go.Proofs.YtoejlmpbebjemaaGreat
open Go.Proofs.Tryz(prog)
open Go Go.Am Go.Sort Go.Shelf Go.RowKit Go.Proofs
def SL:Ren:=⟨fun|125=>159|128=>197|129=>198|189=>161|215=>174|216=>169|257=>199|294=>231|295=>232|296=>233|297=>234|298=>235|299=>236|300=>237|301=>238|328=>250|329=>227|330=>228|331=>251|332=>252|343=>256|x=>x,
 fun|28=>53|46=>225|51=>256|53=>258|131=>180|182=>249|183=>250|218=>275|222=>236|228=>290|229=>291|x=>x,λx=>x⟩
def N3:Lays.n189 prog SL:=
 {
  mixed:=by kernel_rfl
  f125:=Tryz.func159.trans (congrArg some (by kernel_rfl))
  f128:=Tryz.func197.trans (congrArg some (by kernel_rfl))
  f129:=Tryz.func198.trans (congrArg some (by kernel_rfl))
  f189:=Tryz.func161.trans (congrArg some (by kernel_rfl))
  f215:=Tryz.func174.trans (congrArg some (by kernel_rfl))
  f216:=Tryz.func169.trans (congrArg some (by kernel_rfl))
  f257:=Tryz.func199.trans (congrArg some (by kernel_rfl))
  f294:=Tryz.func231.trans (congrArg some (by kernel_rfl))
  f295:=Tryz.func232.trans (congrArg some (by kernel_rfl))
  f296:=Tryz.func233.trans (congrArg some (by kernel_rfl))
  f297:=Tryz.func234.trans (congrArg some (by kernel_rfl))
  f298:=Tryz.func235.trans (congrArg some (by kernel_rfl))
  f299:=Tryz.func236.trans (congrArg some (by kernel_rfl))
  f300:=Tryz.func237.trans (congrArg some (by kernel_rfl))
  f301:=Tryz.func238.trans (congrArg some (by kernel_rfl))
  f328:=Tryz.func250.trans (congrArg some (by kernel_rfl))
  f329:=Tryz.func227.trans (congrArg some (by kernel_rfl))
  f330:=Tryz.func228.trans (congrArg some (by kernel_rfl))
  f331:=Tryz.func251.trans (congrArg some (by kernel_rfl))
  f332:=Tryz.func252.trans (congrArg some (by kernel_rfl))
  f343:=Tryz.func256.trans (congrArg some (by kernel_rfl))
  t0:=Tryz.underlying0
  a0:=Tryz.isAgg0
  z0:=Tryz.sizeOf0
  v0:=Tryz.zeroValue0
  t3:=Tryz.underlying3
  a3:=Tryz.isAgg3
  z3:=Tryz.sizeOf3
  v3:=Tryz.zeroValue3
  t4:=Tryz.underlying4
  a4:=Tryz.isAgg4
  z4:=Tryz.sizeOf4
  v4:=Tryz.zeroValue4
  t5:=Tryz.underlying5
  a5:=Tryz.isAgg5
  z5:=Tryz.sizeOf5
  v5:=Tryz.zeroValue5
  t9:=Tryz.underlying9
  a9:=Tryz.isAgg9
  z9:=Tryz.sizeOf9
  v9:=Tryz.zeroValue9
  t28:=Tryz.underlying53
  a28:=Tryz.isAgg53
  z28:=Tryz.sizeOf53
  v28:=Tryz.zeroValue53
  t46:=Tryz.underlying225
  a46:=Tryz.isAgg225
  z46:=Tryz.sizeOf225
  v46:=Tryz.zeroValue225
  t51:=Tryz.underlying256
  a51:=Tryz.isAgg256
  z51:=Tryz.sizeOf256
  v51:=Tryz.zeroValue256
  t53:=Tryz.underlying258
  a53:=Tryz.isAgg258
  z53:=Tryz.sizeOf258
  v53:=Tryz.zeroValue258
  t131:=Tryz.underlying180
  a131:=Tryz.isAgg180
  z131:=Tryz.sizeOf180
  v131:=Tryz.zeroValue180
  t182:=Tryz.underlying249
  a182:=Tryz.isAgg249
  z182:=Tryz.sizeOf249
  v182:=Tryz.zeroValue249
  t183:=Tryz.underlying250
  a183:=Tryz.isAgg250
  z183:=Tryz.sizeOf250
  v183:=Tryz.zeroValue250
  t218:=Tryz.underlying275
  a218:=Tryz.isAgg275
  z218:=Tryz.sizeOf275
  v218:=Tryz.zeroValue275
  t222:=Tryz.underlying236
  a222:=Tryz.isAgg236
  z222:=Tryz.sizeOf236
  v222:=Tryz.zeroValue236
  t228:=Tryz.underlying290
  a228:=Tryz.isAgg290
  z228:=Tryz.sizeOf290
  v228:=Tryz.zeroValue290
  t229:=Tryz.underlying291
  a229:=Tryz.isAgg291
  z229:=Tryz.sizeOf291
  v229:=Tryz.zeroValue291 }
def SN:Ren:=⟨fun|20=>162|x=>x,fun|22=>53|x=>x,λx=>x⟩
def Wa : Lays2.n20 prog SN :=
  { mixed := by kernel_rfl
    f20 := Tryz.func162.trans (congrArg some (by kernel_rfl))
    t0 := Tryz.underlying0
    a0 := Tryz.isAgg0
    z0 := Tryz.sizeOf0
    v0 := Tryz.zeroValue0
    t3 := Tryz.underlying3
    a3 := Tryz.isAgg3
    z3 := Tryz.sizeOf3
    v3 := Tryz.zeroValue3
    t4 := Tryz.underlying4
    a4 := Tryz.isAgg4
    z4 := Tryz.sizeOf4
    v4 := Tryz.zeroValue4
    t22 := Tryz.underlying53
    a22 := Tryz.isAgg53
    z22 := Tryz.sizeOf53
    v22 := Tryz.zeroValue53
    i3 := by kernel_rfl }
theorem Rv:Ri (λx:Int=>[Value.int .i64 x]) (λx=>[AV.int .i64 x]) 1 where
 pos:=by decide
 len _:=rfl
 A2 _:=rfl
 one x v hv:=by simp at hv;subst hv;rfl
 rep x j hj L N T w v:=by
  match j,hj with
  |0,_=>exact⟨λh=>by cases h;rfl,λh=>by subst h;exact .int _ _⟩
theorem qv (l:List Int):l.flatMap (λx=>[AV.int .i64 x])=ints l:=by
 induction l with
 |nil=>rfl
 |cons x r ih=>rw[agT,ih];rfl
def Us (d : Array Int) (t : Nat) (h : t < d.size) : (flatK (λx : Int => [Value.int .i64 x]) 1 d)[t]! = Value.int .i64 d[t]! := by
  rw [get_flatK _ _ _ _ (by omega)];simp [Nat.mod_one]
def IF (w : World) (b o : Nat) (d : Array Int) : putRowK (λx : Int => [Value.int .i64 x]) 1 w b o d = putRow (Value.int .i64) w b o d := by
  unfold putRowK putRow
  congr 1
  funext c
  unfold putCells
  congr 1
  funext k x
  rw [size_flatK, Nat.mul_one]
  by_cases h : o <= k /\ k < o + d.size
  · rw [agN h, agN h, Us d (k - o) (by omega)]; rfl
  · rw [agL h, agL h]
def N7 {w : World} {b o : Nat} {d : Array Int} (h : HoldsK (λx : Int => [Value.int .i64 x]) 1 w b o d) : Holds (Value.int .i64) w b o d := λj hj => by
  obtain ⟨h1, h2⟩ := h j (by rw [size_flatK]; omega);rw [Us d j hj] at h1;exact ⟨h1, h2⟩
def pw (l:List Int):List Int:=l.mergeSort λx y=>decide (x<=y)
def uk (l:List Int):(pw l).length=l.length:=aiL _
theorem qe {H:List aA}{T:au}{L:Lay}{w:World}{ca:Array Value}{v:AV}(hl:ca.size=1)(hr:∀(j:Nat)(h:j<[v].length)(h':j<ca.size),ba L H.length T w ([v][j]'h) (ca[j]'h')):∃c,ca=#[c]/\ba L H.length T w v c:=by
 obtain⟨cl⟩:=ca
 match cl,hl with
 |[a],_=>exact⟨a,rfl,hr 0 (by simp) (by simp)⟩
def OL (zs:List Int)(rest:List AV)(i cap:Nat)(hl:zs.length<=1099511627776)(H:List aA)(T:au)(hi:H[i]?=some (.cells (ints zs++rest))) :
  ar prog 161 [.bJ i zs.length cap] H T (Is (.df []) (H.set i (.cells (ints (pw zs)++rest))) T):=by
 rw[<-qv] at hi;refine⟨λ_ _=>Tryz.call161 _ _,λL w ca hc jJ hr=>?_⟩;obtain⟨c,rfl,za⟩:=qe (by simpa using jJ) hr;obtain⟨rfl,cE,aZ⟩:=za.ij;have nF:=Any.slices_Sort_int N3 (L.bS i) 0 cap zs w (N7 (hc.wZ Rv hi)) (hc.lX aZ) (by omega);refine nF.mono ?_;rintro e w' ⟨rfl,n,os,rfl⟩;obtain⟨L',jk,dB,_⟩:=hc.sorted (n:=n) (os:=os) (l':=pw zs) Rv hi (uk zs);rw[qv] at jk dB;unfold sortWorldK at jk dB;rw[IF] at jk dB;exact⟨_,_,T,L',_,⟨rfl,rfl,rfl⟩,rfl,jk,.df [] #[] rfl (λj hj=>by simp at hj),dB⟩
def KF (H:List aA)(T:au)(tg:Tag):ar prog 161 [.sl 0 [] tg] H T (Is (.df []) H T):=by
 refine⟨λ_ _=>Tryz.call161 _ _,λL w ca hc jJ hr=>?_⟩;obtain⟨c,rfl,za⟩:=qe (by simpa using jJ) hr;obtain⟨a,cap,rfl,_⟩:=za.fF;refine(Any.slices_Sort_int_none N3 a cap w).mono ?_;rintro e w' ⟨rfl,rfl⟩;exact⟨_,H,T,L,_,⟨rfl,rfl,rfl⟩,rfl,hc,.df [] #[] rfl (λj hj=>by simp at hj),Ev.refl (agE _) (agE _)⟩
def Fu (zs:List Int)(rest:List AV)(i cap:Nat)(hl:zs.length<=1099511627776)(H:List aA)(T:au)(hi:H[i]?=some (.cells (ints zs++rest)))(hle:(Lib.compact zs).length<=zs.length) :
  ar prog 162 [.bJ i zs.length cap] H T (Is (.bJ i (Lib.compact zs).length cap) (H.set i (.cells (ints (Lib.compact zs++List.replicate (zs.length-(Lib.compact zs).length) 0)++rest))) T):=by
 rw[<-qv] at hi;refine⟨λ_ _=>Tryz.call162 _ _,λL w ca hc jJ hr=>?_⟩;obtain⟨c,rfl,za⟩:=qe (by simpa using jJ) hr;obtain⟨rfl,cE,aZ⟩:=za.ij;have nF:=Any.slices_Compact_int Wa (L.bS i) 0 cap zs w (N7 (hc.wZ Rv hi)) (by omega) cE;refine nF.mono ?_;rintro e w' ⟨rfl,n,rfl⟩;obtain⟨L',jk,dB,qQ⟩:=hc.sorted (n:=n) (os:=#[]) (l':=Lib.compact zs++List.replicate (zs.length-(Lib.compact zs).length) 0) Rv hi (by rw[agF,ajd];omega);rw[qv] at jk dB;unfold sortWorldK at jk dB;rw[IF,grow_empty] at jk dB;refine⟨_,_,T,L',_,⟨rfl,rfl,rfl⟩,rfl,jk,?_,dB⟩;rw[<-qQ i aZ];exact .bJ _ _ _ (by rw[ahY];exact aZ) (by omega)
attribute [-simp] getD_eq_getElem?_getD in
def B6 (H:List aA)(T:au)(tg:Tag):ar prog 162 [.sl 0 [] tg] H T (Is (.sl 0 [] .none) H T):=by
 refine ar.cF ?_;refine ah 6 [] Tryz.ntmps162 Tryz.func162 rfl (λ_ _=>Tryz.call162 _ _) (by simp) (λHO=>?_);apply ae;intro K Z;simp(disch:=omega);apply Z;refine af λK1 aP=>?_;apply ae;intro K Z;simp(disch:=omega);apply Z;apply aH rfl;apply ae;intro K Z;simp(disch:=omega);apply Z;apply az;simp(disch:=omega) ;exact⟨rfl,rfl,rfl⟩
open ia eN cO
def aeX (h:Nat)(d:List Int)(out:AV)(S:List (Nat×aA)):Prop:=
 (d=[]/\out=.sl 0 [] .full/\S=[])\/∃i cap r,out=.bJ i d.length cap/\h<=i/\d.length+r=cap/\S=[(i,.cells (ints d++List.replicate r AV.top))]
structure GI (H:List aA)(T:au)(d:List Int)(R:List (Nat×aA))(J:List aA)(out:AV):Prop where
 bx:∃S,aeX H.length d out S/\Has J (R++S)
 pre:gG H J
 ok:bN J T
variable {H : List aA} {T : au} {d : List Int} {R : List (Nat × aA)} {J : List aA} {out : AV}
def GI.nil (ho:bN H T):GI H T [] [] H (.sl 0 [] .full):=⟨⟨[],.inl ⟨rfl,rfl,rfl⟩,⟨by simp,λp hp=>by simp at hp⟩⟩,⟨[],by simp⟩,ho⟩
def GI.more (h:GI H T d R J out)(b:aA)(ho:bN (J++[b]) T):GI H T d ((J.length,b)::R) (J++[b]) out:=by
 obtain⟨⟨S,h1,h2⟩,h3,h4⟩:=h;exact⟨⟨S,h1,(h2.new b).perm (ahr _ _).symm⟩,h3.app _,ho⟩
def GI.less {x:Nat×aA}(h:GI H T d (x::R) J out):GI H T d R J out:=by
 obtain⟨⟨S,h1,h2⟩,h3,h4⟩:=h;exact⟨⟨S,h1,h2.sub (ahB _ _)⟩,h3,h4⟩
theorem GI.get (h:GI H T d R J out){i:Nat}{b:aA}(hm:(i,b)∈R):J[i]?=some b:=by
 obtain⟨⟨S,h1,h2⟩,h3,h4⟩:=h;exact h2.get (ag1 _ hm)
def GI.below (h:GI H T d R J out):Below J.length T.length out:=by
 obtain⟨⟨S,h1,h2⟩,h3,h4⟩:=h;rcases h1 with⟨_,rfl,_⟩|⟨i,cap,r,rfl,hi,hr,rfl⟩
 ·simp
 ·exact AE.2 (h2.lt (i:=i) (b:=.cells (ints d++List.replicate r AV.top)) (by simp))
def GI.first (h:GI H T [] R J (.sl 0 [] .full))(x:Int)(nc:Nat)(hn:1<=nc):GI H T [x] R (J++[.cells (.int .i64 x::List.replicate (nc-1) AV.top)]) (.bJ J.length 1 nc):=by
 obtain⟨⟨S,h1,h2⟩,h3,h4⟩:=h;have hS:S=[]:=by
  rcases h1 with⟨_,_,h⟩|⟨i,cap,r,h,_⟩
  ·exact h
  ·cases h
 subst hS;rw[ag2] at h2;exact⟨⟨_,.inr ⟨J.length,nc,nc-1,rfl,h3.le,by simp only[ahw];omega,rfl⟩,h2.new _⟩,h3.app _,h4.snoc (by simp)⟩
def GI.put {i cap r:Nat}(hb:Has J (R++[(i,.cells (ints d++List.replicate r AV.top))]))(hi:H.length<=i)(hr:d.length+r=cap)(h3:gG H J)(h4:bN J T)(hle:d.length+1<=cap)(x:Int) :
  GI H T (d++[x]) R (J.set i (.cells ((ints d++List.replicate r AV.top).take d.length++[.int .i64 x]++(ints d++List.replicate r AV.top).drop (d.length+1)))) (.bJ i (d.length+1) cap):=by
 have hl:(ints d).length=d.length:=by simp
 have e1:(ints d++List.replicate r AV.top).take d.length=ints d:=ahD hl;have e2:(ints d++List.replicate r AV.top).drop (d.length+1)=List.replicate (r-1) AV.top:=by
  rw[<-List.drop_drop,List.drop_left' hl,List.drop_replicate]
 rw[e1,e2,eE];exact⟨⟨_,.inr ⟨i,cap,r-1,by simp,hi,by simp;omega,rfl⟩,by simpa using hb.set (A:=R) (B:=[]) (.cells (ints (d++[x])++List.replicate (r-1) AV.top))⟩,h3.set hi _,h4.set (by simp)⟩
def GI.grow {i r nc:Nat}(hb:Has J (R++[(i,.cells (ints d++List.replicate r AV.top))]))(h3:gG H J)(h4:bN J T)(hn:d.length+1<=nc)(x:Int) :
  GI H T (d++[x]) R (J++[.cells ((ints d++List.replicate r AV.top).take d.length++[.int .i64 x]++List.replicate (nc-(d.length+1)) AV.top)]) (.bJ J.length (d.length+1) nc):=by
 have hl:(ints d).length=d.length:=by simp
 have e1:(ints d++List.replicate r AV.top).take d.length=ints d:=ahD hl;rw[e1,eE];exact⟨⟨_,.inr ⟨J.length,nc,nc-(d.length+1),by simp,h3.le,by simp;omega,rfl⟩,(hb.sub (List.sublist_append_left _ _)).new _⟩,h3.app _,h4.snoc (by simp)⟩
def CJ (f lo hi:Int)(cf:Int)(x:Nm):Bool:=(cf==f&&decide (lo<=x.1))&&decide (x.1<=hi)
def o5 (f lo hi:Int)(cf:Int)(x:Nm):List Int:=if CJ f lo hi cf x=true then [x.2] else []
attribute [-simp] getD_eq_getElem?_getD in
def P9 (aO:List Cl)(xs:List Nm)(nb:Nat)(gw:nb<=H.length)(f lo hi cf:Int)(vi vj b4 Cy Xa:Nat)(xv:AV)(x:Nm)(hd:d.length<=1099511627776)(hG:GI H T d R J out)
  (h11:(Cy,.cells [.int .i64 cf,xv])∈R) (F3:(Xa,.cells (y4 x))∈R) (l4:b4<H.length+1) (hR:b4<J.length) (Q:Exit->St->Prop)
  (go:∀(e:Env)(J':List aA)(pj:AV),GI H T (d++o5 f lo hi cf x) R J' pj->J.length<=J'.length->bC J'.length T.length e [(1,.int .i64 f),(2,.int .i64 lo),(3,.int .i64 hi),(4,.ptr b4 0),(9,pj),(11,.ptr Cy 0),(19,.sl aO.length (dH aO) .none),(20,.int .i64 (aO.length:Nat)),(21,.int .i64 (vi:Nat)),(26,.sl xs.length (bA xs) .none),(27,.int .i64 (xs.length:Nat)),(28,.int .i64 (vj:Nat))]->Q .normal ⟨e,J',T⟩) :
  AW ⟨prog,59,31,nb,T.length,[100052]⟩ (dX [1,1,1,0,1,0,0,1,1,0,0,1,1,0,0,1,1,0,0,1] (Tryz.f100.body.getD .skip)) Q ⟨[(1,.int .i64 f),(2,.int .i64 lo),(3,.int .i64 hi),(4,.ptr b4 0),(9,out),(11,.ptr Cy 0),(13,.ptr Xa 0),(19,.sl aO.length (dH aO) .none),(20,.int .i64 (aO.length:Nat)),(21,.int .i64 (vi:Nat)),(26,.sl xs.length (bA xs) .none),(27,.int .i64 (xs.length:Nat)),(28,.int .i64 (vj:Nat))],J,T⟩:=by
 conv=>arg 2;whnf
 have g11:=hG.get h11;have g13:=hG.get F3;have TZ:=aX g11;have Jw:=aX g13;have l11:=(agC.1 g11).1;have l13:=(agC.1 g13).1;have lb:=hG.below;have lJ:=hG.pre.le;obtain⟨x1,x2⟩:=x;have skip:CJ f lo hi cf (x1,x2)=false->∀e:Env,bC J.length T.length e [(1,.int .i64 f),(2,.int .i64 lo),(3,.int .i64 hi),(4,.ptr b4 0),(9,out),(11,.ptr Cy 0),(19,.sl aO.length (dH aO) .none),(20,.int .i64 (aO.length:Nat)),(21,.int .i64 (vi:Nat)),(26,.sl xs.length (bA xs) .none),(27,.int .i64 (xs.length:Nat)),(28,.int .i64 (vj:Nat))]->Q .normal ⟨e,J,T⟩:=λhb e he=>
  go e J out (by unfold o5;rw[hb];simpa using hG) (agE _) he
 by_cases h1:cf=f
 rotate_left
 ·have b1:(cf==f)=false:=ahq.2 h1;refine ae λK hK=>?_;simp(disch:=omega)[TZ,Jw,b1,h1];apply hK;apply aF rfl;apply aq;exact skip (by unfold CJ;rw[b1];rfl) _ (by simp[lb];omega)
 have b1:(cf==f)=true:=by simpa using h1
 by_cases h2:lo<=x1
 rotate_left
 ·have b2:decide (lo<=x1)=false:=agI h2;refine ae λK hK=>?_;simp(disch:=omega)[TZ,Jw,b1,h1,b2,h2];apply hK;apply aF rfl;apply aq;exact skip (by unfold CJ;simp only;rw[b1,b2];rfl) _ (by simp[lb];omega)
 have b2:decide (lo<=x1)=true:=agH h2
 by_cases h3:x1<=hi
 rotate_left
 ·have b3:decide (x1<=hi)=false:=agI h3;refine ae λK hK=>?_;simp(disch:=omega)[TZ,Jw,b1,h1,b2,h2,b3,h3];apply hK;apply aF rfl;apply aq;exact skip (by unfold CJ;simp only;rw[b1,b2,b3];rfl) _ (by simp[lb];omega)
 have b3:decide (x1<=hi)=true:=agH h3;have aeu:d++o5 f lo hi cf (x1,x2)=d++[x2]:=by unfold o5 CJ;simp only;rw[b1,b2,b3];rfl
 rw[aeu] at go;refine ae λK hK=>?_;simp(disch:=omega)[TZ,Jw,b1,h1,b2,h2,b3,h3];apply hK;apply aH rfl;have h':=hG;obtain⟨⟨S,hS,JJ⟩,qP,jC⟩:=hG;rcases hS with⟨rfl,rfl,rfl⟩|⟨i,cap,r,rfl,Qy,hr,rfl⟩
 ·have hg:=λnc hn=>GI.first h' x2 nc hn;refine aC λK hK=>?_;simp(disch:=omega)[Jw];intro nc hn;apply hK;have:=hg nc hn;refine go _ _ _ this (by simp) ?_;simp;omega
 ·have gi:=JJ.get (i:=i) (b:=.cells (ints d++List.replicate r AV.top)) (by simp);have iS:=λhle=>GI.put JJ Qy hr qP jC hle x2;have u5:=λnc hn=>GI.grow (nc:=nc) JJ qP jC hn x2;refine aC λK hK=>?_;simp(disch:=omega)[Jw];refine⟨3,_,[.int .i64 x2],1,by kernel_rfl,gi,by simp;omega,by simp,by simp;omega,by omega,by kernel_rfl,by simp,λhle=>?_,λnc aZ ll=>?_⟩
  ·have hg:=iS hle;simp only[Og,Nat.mul_one];generalize hX:J.set i _=H2 at hg ⊢;have kK:=hg.below;have jy:J.length=H2.length:=by rw[<-hX,ahY]
   simp(disch:=omega) ;apply hK;refine go _ _ _ hg (by omega) ?_;simp[kK];omega
  ·have hg:=u5 nc ll;simp only[Og,Nat.mul_one];generalize hX:J++[aA.cells _]=H2 at hg ⊢;have kK:=hg.below;have jy:J.length+1=H2.length:=by rw[<-hX];simp
   have Mx:=λe=>go e _ _ hg (by omega);clear u5 iS hg go skip TZ Jw gi JJ jC qP h' g11 g13 hX lb;generalize J.length=i2 at *;simp(disch:=omega) ;apply hK;refine Mx _ ?_;simp[kK];omega
def HF (l:List Int):(Lib.compact l).length<=l.length:=by
 unfold Lib.compact Lib.compactUpTo;rw[agU];exact agJ (ahf _ _) (by simp)
theorem oM {l : List Int} (hs : l.Pairwise λx y => x <= y) : ∀ m, m <= l.length -> kn (Lib.compactUpTo l.toArray m) /\ (∀ x, x ∈ Lib.compactUpTo l.toArray m ↔ x ∈ l.take m) /\ ∀ x ∈ Lib.compactUpTo l.toArray m, 0 < m -> x <= l.getD (m - 1) 0
  | 0, _ => ⟨.nil, by simp [Lib.compactUpTo], by simp [Lib.compactUpTo]⟩
  | m + 1, h => by
    obtain ⟨h1, h2, h3⟩ := oM hs m (by omega)
    have hm : l.toArray[m]! = l.getD m 0 := by simp [agB]
    have hle : ∀ x ∈ Lib.compactUpTo l.toArray m, x <= l.getD m 0 := by
      intro x hx;rcases ahc m with h0 | h0
      · subst h0; simp [Lib.compactUpTo] at hx
      · refine Int.le_trans (h3 x hx h0) ?_;have := ag8.1 hs (m - 1) m (by omega) (by omega) (by omega);simpa [agB, agD (show m - 1 < l.length by omega), agD (show m < l.length by omega)] using this
    have iz : l.take (m + 1) = l.take m ++ [l.getD m 0] := aV l m 0 (by omega)
    rw [Lib.compactUpTo_succ, iz, hm]
    cases hk : Lib.keeps l.toArray m with
    | true =>
      have nw : m = 0 \/ l.getD m 0 ≠ l.getD (m - 1) 0 := by
        unfold Lib.keeps at hk;have := aiF hk;rw [hm] at this;simpa [agB] using this
      simp only [ain]
      refine ⟨aio.2 ⟨h1, by simp, λa ha b hb => ?_⟩, λx => by rw [agR, agR, h2 x], λx hx _ => ?_⟩
      · rw [ahl.1 hb]
        rcases nw with h0 | h0
        · subst h0; simp [Lib.compactUpTo] at ha
        · rcases ahc m with TW | TW
          · subst TW; simp [Lib.compactUpTo] at ha
          · have g1 := h3 a ha TW;have := ag8.1 hs (m - 1) m (by omega) (by omega) (by omega);have g2 : l.getD (m - 1) 0 <= l.getD m 0 := by simpa [agB, agD (show m - 1 < l.length by omega), agD (show m < l.length by omega)] using this
            omega
      · rw [ah9]
        rcases agR.1 hx with hx | hx
        · exact hle x hx
        · rw [ahl.1 hx]; exact Int.le_refl _
    | false =>
      have nw : 0 < m /\ l.getD m 0 = l.getD (m - 1) 0 := by
        unfold Lib.keeps at hk;have := of_decide_eq_false hk;rw [hm] at this;refine ⟨by omega, ?_⟩;have := Classical.not_not.1 λh => this (.inr h);simpa [agB] using this
      simp only [ahE, aiq, ag2]
      refine ⟨h1, λx => ?_, λx hx _ => by rw [ah9]; exact hle x hx⟩
      rw [h2 x, agR, ahl]
      refine ⟨.inl, λh => ?_⟩
      rcases h with h | rfl
      · exact h
      · rw [nw.2, <- h2]
        refine (h2 _).2 ?_;have : l.take m = l.take (m - 1) ++ [l.getD (m - 1) 0] := by
          have := aV l (m - 1) 0 (by omega)
          rwa [show m - 1 + 1 = m by omega] at this
        rw [this]; simp
def KE (l:List Int)(x:Int):x∈pw l↔x∈l:=(aiG l _).mem_iff
def Ds (l:List Int):(pw l).Pairwise λx y=>x<=y:=
 (aix (le:=λx y=>decide (x<=y)) (λa b c h1 h2=>by simp only[agQ] at *;omega) (λa b=>by simp only[ahx,agQ];omega) l).imp λh=>by simpa using h
def Nn (l:List Int):List Int:=Lib.compact (pw l)
def Qe (l:List Int):kn (Nn l):=(oM (Ds l) _ (agE _)).1
def EF (l:List Int)(x:Int):x∈Nn l↔x∈l:=by
 have:=(oM (Ds l) _ (agE _)).2.1 x;rw[agZ,KE] at this;exact this
def Nb (f lo hi:Int)(c:Cl):List Int:=c.x.flatMap (o5 f lo hi c.f)
def tQ (f lo hi:Int)(l:List Cl):List Int:=l.flatMap (Nb f lo hi)
def kW (s:Sg)(f lo hi:Int):List Int:=if aY s=true then Nn (tQ f lo hi s.aO) else []
theorem xB (f lo hi cf:Int):∀x:List Nm,(x.flatMap (o5 f lo hi cf)).length<=x.length
 |[]=>agE _
 |y::x=>by
  rw[agT,agF,ahd];have:=xB f lo hi cf x;have:(o5 f lo hi cf y).length<=1:=by unfold o5;split<;>simp
  omega
theorem D6 (f lo hi:Int):∀l:List Cl,(∀c∈l,c.x.length<=1000)->(tQ f lo hi l).length<=l.length*1000
 |[],_=>by simp[tQ]
 |c::l,h=>by
  have h1:=D6 f lo hi l λc hc=>h c (ahZ _ hc);have h2:=xB f lo hi c.f c.x;have h3:=h c (by simp);unfold tQ at h1 ⊢;rw[agT,agF,ahd,Nb];omega
attribute [-simp] getD_eq_getElem?_getD in
theorem To (s:Sg)(hs:uX s)(f lo hi:Int)(H:List aA)(T:au):ar prog 100 [jM s,.int .i64 f,.int .i64 lo,.int .i64 hi] H T (Is (.sl (kW s f lo hi).length (ints (kW s f lo hi)) .none) H T):=by
 refine ar.PF (by simp) ?_;have cv:=λH=>jQ s hs H T;have gC:=hs.c;have hx:=hs.x;refine ah 31 [100052] Tryz.ntmps100 Tryz.func100 rfl (λ_ _=>Tryz.call100 _ _) (by simp) (λHO=>?_);apply ae;intro K Z;simp(disch:=omega);apply Z;apply ae;intro K Z;simp(disch:=omega);apply Z;refine af λK1 aP=>?_;have eV:bN (H++[.cells (dA s)]) T:=HO.snoc (by simp)
 cases hv:aY s with
 |false=>
  rw[hv] at cv;have hf:kW s f lo hi=[]:=by unfold kW;rw[hv];rfl
  refine ae λK hK=>?_;simp(disch:=omega) ;refine ak (cv _) ?_;simp(disch:=omega) ;apply hK;apply aH rfl;apply ae;intro K Z;simp(disch:=omega);apply Z;apply az;simp(disch:=omega) ;exact⟨hf,by rw[hf];rfl⟩
 |true=>
 rw[hv] at cv;have hf:kW s f lo hi=Nn (tQ f lo hi s.aO):=by unfold kW;rw[agN hv]
 have hlen:=D6 f lo hi;refine ae λK hK=>?_;simp(disch:=omega) ;refine ak (cv _) ?_;simp(disch:=omega) ;apply hK;apply aF rfl;apply aq;simp(disch:=omega) ;apply aP;clear aP;refine af λK1 aP=>?_;apply ae;intro K Z;simp(disch:=omega);apply Z;obtain⟨aB,bO,aO⟩:=s;simp only at gC hx hf;have hG0:GI H T [] [] (H++[.cells (dA ⟨aB,bO,aO⟩)]) (.sl 0 [] .full):=((GI.nil HO).more _ eV).less;generalize kW ⟨aB,bO,aO⟩ f lo hi=res at *;have FY:H.length<(H++[aA.cells (dA ⟨aB,bO,aO⟩)]).length:=by simp
 generalize H++[aA.cells (dA ⟨aB,bO,aO⟩)]=J0 at *;apply aj;refine aJ (X:=Nat×List aA×AV) (λx=>⟨[(1,.int .i64 f),(2,.int .i64 lo),(3,.int .i64 hi),(4,.ptr H.length 0),(9,x.2.2),(19,.sl aO.length (dH aO) .none),(20,.int .i64 (aO.length:Nat)),(21,.int .i64 (x.1:Nat))],x.2.1,T⟩)
  (λx=>x.1<=aO.length/\GI H T (tQ f lo hi (aO.take x.1)) [] x.2.1 x.2.2/\H.length<x.2.1.length) (λx=>aO.length-x.1) (0,J0,.sl 0 [] .full) ?_ ?_ ?_
 ·exact⟨agP _,hG0,FY⟩
 ·refine ag [] [] ?_ ?_ ?_ ?_ eV ?_
  all_goals simp
  all_goals omega
 ·rintro⟨i,J,out⟩ ⟨g1,g2,g3⟩;simp only at g1 g2 g3;have lb:=g2.below;apply ae;intro K Z;simp(disch:=omega);apply Z;refine af λK2 bp=>?_;refine aU rfl (λhk=>?_) (λhk=>?_)
  ·simp  at hk;have bu:=xK aO i hk;have FD:=hx _ (aT aO i c0 hk);have np:=qw aO (Nb f lo hi) c0 i hk;have mN:(tQ f lo hi (aO.take i)).length<=1000000:=agJ (hlen (aO.take i) λc hc=>hx c (aiR hc)) (by rw[ag5];omega);generalize aO.getD i c0=c at *;obtain⟨cf,xs⟩:=c;simp only at bu FD;have Gf:tQ f lo hi (aO.take (i+1))=tQ f lo hi (aO.take i)++xs.flatMap (o5 f lo hi cf):=np;clear np;generalize tQ f lo hi (aO.take i)=d0 at *;apply aq;simp(disch:=omega) ;apply bp;clear bp;refine af λK3 bG=>?_;apply aj;refine ae λK hK=>?_;simp(disch:=omega)[bu,nI];apply hK;have HOj:=g2.ok;have US:bN (J++[.cells (ru ⟨cf,xs⟩)]) T:=HOj.snoc (by simp);have Q6:=g2.more _ US;have qJ:(J++[aA.cells (ru ⟨cf,xs⟩)]).length=J.length+1:=by simp
   have YF:(J++[aA.cells (ru ⟨cf,xs⟩)])[J.length]?=some (.cells (ru ⟨cf,xs⟩)):=by simp
   have TZ:=aX YF;obtain⟨Cy,h11⟩:∃i,i=J.length:=⟨_,rfl⟩
   rw[<-h11] at TZ Q6;simp only[<-h11];have agm:(Cy,aA.cells (ru ⟨cf,xs⟩))∈[(Cy,aA.cells (ru ⟨cf,xs⟩))]:=by simp
   have l11:Cy<(J++[aA.cells (ru ⟨cf,xs⟩)]).length:=by omega
   have l4:H.length<(J++[aA.cells (ru ⟨cf,xs⟩)]).length:=by omega
   clear YF hG0 g2 lb;generalize J++[aA.cells (ru ⟨cf,xs⟩)]=J1 at *;have lb:=Q6.below;have lh:=Q6.pre.le;refine aI ⟨[(1,.int .i64 f),(2,.int .i64 lo),(3,.int .i64 hi),(4,.ptr H.length 0),(9,out),(11,.ptr Cy 0),(19,.sl aO.length (dH aO) .none),(20,.int .i64 (aO.length:Nat)),(21,.int .i64 (i:Nat))],J1,T⟩ (ag [] [] (by simp) (by simp) (by simpa using lh) (by simp) US (by simp[lb];omega)) ?_;refine ae λK hK=>?_;simp(disch:=omega)[TZ];apply hK;apply aj;refine aJ (X:=Nat×List aA×AV) (λx=>⟨[(1,.int .i64 f),(2,.int .i64 lo),(3,.int .i64 hi),(4,.ptr H.length 0),(9,x.2.2),(11,.ptr Cy 0),(19,.sl aO.length (dH aO) .none),(20,.int .i64 (aO.length:Nat)),(21,.int .i64 (i:Nat)),(26,.sl xs.length (bA xs) .none),(27,.int .i64 (xs.length:Nat)),(28,.int .i64 (x.1:Nat))],x.2.1,T⟩)
    (λx=>x.1<=xs.length/\GI H T (d0++(xs.take x.1).flatMap (o5 f lo hi cf)) [(Cy,.cells (ru ⟨cf,xs⟩))] x.2.1 x.2.2/\H.length<x.2.1.length/\Cy<x.2.1.length) (λx=>xs.length-x.1) (0,J1,out) ?_ ?_ ?_
   ·exact⟨agP _,by simpa using Q6,l4,l11⟩
   ·refine ag [] [] ?_ ?_ ?_ ?_ US ?_
    all_goals simp[lb]
    all_goals omega
   ·rintro⟨k,J2,Ga⟩ ⟨k1,k2,k3,k4⟩;simp only at k1 k2 k3 k4;have Xw:=k2.below;apply ae;intro K Z;simp(disch:=omega);apply Z;refine af λK4 lG=>?_;refine aU rfl (λfX=>?_) (λfX=>?_)
    ·simp  at fX;have yC:=gV xs k fX;have VA:=qw xs (o5 f lo hi cf) n0 k fX;have VE:=xB f lo hi cf (xs.take k);rw[ag5] at VE;have Vz:d0++(xs.take (k+1)).flatMap (o5 f lo hi cf)=(d0++(xs.take k).flatMap (o5 f lo hi cf))++o5 f lo hi cf (xs.getD k n0):=by rw[VA,agV]
     have tM:(d0++(xs.take k).flatMap (o5 f lo hi cf)).length<=1099511627776:=by rw[agF];omega
     generalize d0++(xs.take k).flatMap (o5 f lo hi cf)=d2 at *;generalize xs.getD k n0=x at *;obtain⟨x1,x2⟩:=x;simp only at yC;apply aq;simp(disch:=omega) ;apply lG;clear lG;refine af λK5 lq=>?_;apply aj;refine ae λK hK=>?_;simp(disch:=omega)[yC,cL];apply hK;have fj:=k2.ok;have ho3:bN (J2++[.cells (y4 (x1,x2))]) T:=fj.snoc (by simp);have wC:=k2.more _ ho3;have agq:(J2++[aA.cells (y4 (x1,x2))]).length=J2.length+1:=by simp
     obtain⟨Xa,F3⟩:∃i,i=J2.length:=⟨_,rfl⟩
     rw[<-F3] at wC;simp only[<-F3];have l13:Xa<(J2++[aA.cells (y4 (x1,x2))]).length:=by omega
     have WL:H.length<(J2++[aA.cells (y4 (x1,x2))]).length:=by omega
     have agd:Cy<(J2++[aA.cells (y4 (x1,x2))]).length:=by omega
     clear k2 Xw;generalize J2++[aA.cells (y4 (x1,x2))]=J3 at *;have lb3:=wC.below;have lh3:=wC.pre.le;refine aI ⟨[(1,.int .i64 f),(2,.int .i64 lo),(3,.int .i64 hi),(4,.ptr H.length 0),(9,Ga),(11,.ptr Cy 0),(13,.ptr Xa 0),(19,.sl aO.length (dH aO) .none),(20,.int .i64 (aO.length:Nat)),(21,.int .i64 (i:Nat)),(26,.sl xs.length (bA xs) .none),(27,.int .i64 (xs.length:Nat)),(28,.int .i64 (k:Nat))],J3,T⟩ (ag [] [] (by simp) (by simp) (by simpa using lh3) (by simp) ho3 (by simp[lb3];omega)) ?_;refine P9 aO xs H.length (agE _) f lo hi cf i k H.length Cy Xa (.sl xs.length (bA xs) .none) (x1,x2) tM wC (by simp) (by simp) (by omega) WL _ λe J' pj a1 a2 a3=>?_;have a1':=a1.less;have lb4:=a1'.below;have lh4:=a1'.pre.le;refine lq _ (aI ⟨[(1,.int .i64 f),(2,.int .i64 lo),(3,.int .i64 hi),(4,.ptr H.length 0),(9,pj),(11,.ptr Cy 0),(19,.sl aO.length (dH aO) .none),(20,.int .i64 (aO.length:Nat)),(21,.int .i64 (i:Nat)),(26,.sl xs.length (bA xs) .none),(27,.int .i64 (xs.length:Nat)),(28,.int .i64 (k:Nat))],J',T⟩ (ag [] [] (by simp) (by simp) (by simpa using lh4) (by simp) a1.ok a3) ?_);refine aC λK hK=>?_;simp(disch:=omega) ;apply hK;refine⟨(k+1,J',pj),⟨by show k+1<=_;omega,by rw[Vz];exact a1',by show H.length<J'.length;omega,by show Cy<J'.length;omega⟩,by show xs.length-(k+1)<xs.length-k;omega,?_⟩;refine ag [] [] ?_ ?_ ?_ ?_ a1.ok ?_
     all_goals simp[lb4]
     all_goals omega
    ·simp  at fX;have Jp:k=xs.length:=by omega
     subst Jp;rw[agZ,<-Gf] at k2;have Xx:=k2.less;have lb4:=Xx.below;have lh4:=Xx.pre.le;apply aG;simp(disch:=omega) ;refine bG _ (aI ⟨[(1,.int .i64 f),(2,.int .i64 lo),(3,.int .i64 hi),(4,.ptr H.length 0),(9,Ga),(19,.sl aO.length (dH aO) .none),(20,.int .i64 (aO.length:Nat)),(21,.int .i64 (i:Nat))],J2,T⟩ (ag [] [] (by simp) (by simp) (by simpa using lh4) (by simp) k2.ok (by simp[lb4];omega)) ?_);refine aC λK hK=>?_;simp(disch:=omega) ;apply hK;refine⟨(i+1,J2,Ga),⟨by show i+1<=_;omega,Xx,k3⟩,by show aO.length-(i+1)<aO.length-i;omega,?_⟩;refine ag [] [] ?_ ?_ ?_ ?_ k2.ok ?_
     all_goals simp[lb4]
     all_goals omega
  ·simp  at hk;have Cg:i=aO.length:=by omega
   subst Cg;rw[agZ] at g2;have mN:(tQ f lo hi aO).length<=1000000:=agJ (hlen aO hx) (by omega);generalize tQ f lo hi aO=d at *;have lh:=g2.pre.le;obtain⟨⟨S,hS,JJ⟩,qP,jC⟩:=g2;rcases hS with⟨rfl,rfl,rfl⟩|⟨ib,cap,r,rfl,Qy,hr,rfl⟩
   ·have cs:=KF J T .full;have cc:=B6 J T .full;apply aG;simp(disch:=omega) ;apply aP;clear aP;refine ae λK hK=>?_;simp(disch:=omega) ;refine ak (cs) ?_;simp(disch:=omega) ;apply hK;refine ae λK hK=>?_;simp(disch:=omega) ;refine ak (cc) ?_;simp(disch:=omega) ;apply hK;apply az;simp(disch:=omega) ;rw[hf];have hn:Nn []=[]:=ah3.2 λx hx=>by simpa using(EF [] x).1 hx
    exact⟨qP,hn,by rw[hn];rfl⟩
   ·have gi:=JJ.get (i:=ib) (b:=.cells (ints d++List.replicate r AV.top)) (by simp);have li:=(agC.1 gi).1;have cs:=OL d (List.replicate r .top) ib cap (by omega) J T gi;apply aG;simp(disch:=omega) ;apply aP;clear aP;refine ae λK hK=>?_;simp(disch:=omega) ;refine ak (cs) ?_;simp(disch:=omega) ;apply hK;have gi2:(J.set ib (.cells (ints (pw d)++List.replicate r AV.top)))[ib]?=some (.cells (ints (pw d)++List.replicate r AV.top)):=ag4 li;have cc:=Fu (pw d) (List.replicate r .top) ib cap (by rw[uk];omega) (J.set ib (.cells (ints (pw d)++List.replicate r AV.top))) T gi2 (HF _);rw[uk] at cc;refine ae λK hK=>?_;simp(disch:=omega) ;refine ak (cc) ?_;simp(disch:=omega) ;apply hK;apply az;simp(disch:=omega) ;rw[hf];exact⟨qP.set Qy _,ib,⟨rfl,rfl⟩,Qy,ints (List.replicate (d.length-(Lib.compact (pw d)).length) 0)++List.replicate r AV.top,by rw[ag4 li,<-Fh,agV];rfl⟩
end Go.Proofs.YtoejlmpbebjemaaGreat
