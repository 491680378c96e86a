/- slices.Sort and slices.Compact of integers on a box, by the library's contracts. A list of integers that grows in a box; segment.Between (layer 39): one number. segment.Between (layer 39).
  Conditions: lengths below 1000 or 1000, as each theorem says. -/
import Derived.Shelf.Sort.Plain
import Derived.Shelf.Slices.In.SortNone
import Derived.Shelf.Slices.CompactI
import Derived.Test.YtoejlmpbebjemaaGreatAmD
import Derived.Test.YtoejlmpbebjemaaGreatGV
import Derived.Test.YtoejlmpbebjemaaGreatGFA
set_option linter.all false
set_option maxRecDepth 100000
set_option maxHeartbeats 16000000
open List (getD_eq_getElem?_getD)
namespace Go.Proofs.YtoejlmpbebjemaaGreat
open Go.Proofs.Tryz(prog)
open Go Go.Am Go.Sort Go.Shelf Go.RowKit Go.Proofs
def TS:Ren:=⟨fun|125=>159|128=>197|129=>198|189=>161|215=>174|216=>169|257=>199|294=>231|295=>232|296=>233|297=>234|298=>235|299=>236|300=>237|301=>238|328=>250|329=>227|330=>228|331=>251|332=>252|343=>256|x=>x,
 fun|28=>53|46=>225|51=>256|53=>258|131=>180|182=>249|183=>250|218=>275|222=>236|228=>290|229=>291|x=>x,λx=>x⟩
def OX:Lays.n189 prog TS:=
 {
  mixed:=by kernel_rfl
  f125:=Tryz.func159.trans (congrArg some (by kernel_rfl))
  f128:=Tryz.func197.trans (congrArg some (by kernel_rfl))
  f129:=Tryz.func198.trans (congrArg some (by kernel_rfl))
  f189:=Tryz.func161.trans (congrArg some (by kernel_rfl))
  f215:=Tryz.func174.trans (congrArg some (by kernel_rfl))
  f216:=Tryz.func169.trans (congrArg some (by kernel_rfl))
  f257:=Tryz.func199.trans (congrArg some (by kernel_rfl))
  f294:=Tryz.func231.trans (congrArg some (by kernel_rfl))
  f295:=Tryz.func232.trans (congrArg some (by kernel_rfl))
  f296:=Tryz.func233.trans (congrArg some (by kernel_rfl))
  f297:=Tryz.func234.trans (congrArg some (by kernel_rfl))
  f298:=Tryz.func235.trans (congrArg some (by kernel_rfl))
  f299:=Tryz.func236.trans (congrArg some (by kernel_rfl))
  f300:=Tryz.func237.trans (congrArg some (by kernel_rfl))
  f301:=Tryz.func238.trans (congrArg some (by kernel_rfl))
  f328:=Tryz.func250.trans (congrArg some (by kernel_rfl))
  f329:=Tryz.func227.trans (congrArg some (by kernel_rfl))
  f330:=Tryz.func228.trans (congrArg some (by kernel_rfl))
  f331:=Tryz.func251.trans (congrArg some (by kernel_rfl))
  f332:=Tryz.func252.trans (congrArg some (by kernel_rfl))
  f343:=Tryz.func256.trans (congrArg some (by kernel_rfl))
  t0:=Tryz.underlying0
  a0:=Tryz.isAgg0
  z0:=Tryz.sizeOf0
  v0:=Tryz.zeroValue0
  t3:=Tryz.underlying3
  a3:=Tryz.isAgg3
  z3:=Tryz.sizeOf3
  v3:=Tryz.zeroValue3
  t4:=Tryz.underlying4
  a4:=Tryz.isAgg4
  z4:=Tryz.sizeOf4
  v4:=Tryz.zeroValue4
  t5:=Tryz.underlying5
  a5:=Tryz.isAgg5
  z5:=Tryz.sizeOf5
  v5:=Tryz.zeroValue5
  t9:=Tryz.underlying9
  a9:=Tryz.isAgg9
  z9:=Tryz.sizeOf9
  v9:=Tryz.zeroValue9
  t28:=Tryz.underlying53
  a28:=Tryz.isAgg53
  z28:=Tryz.sizeOf53
  v28:=Tryz.zeroValue53
  t46:=Tryz.underlying225
  a46:=Tryz.isAgg225
  z46:=Tryz.sizeOf225
  v46:=Tryz.zeroValue225
  t51:=Tryz.underlying256
  a51:=Tryz.isAgg256
  z51:=Tryz.sizeOf256
  v51:=Tryz.zeroValue256
  t53:=Tryz.underlying258
  a53:=Tryz.isAgg258
  z53:=Tryz.sizeOf258
  v53:=Tryz.zeroValue258
  t131:=Tryz.underlying180
  a131:=Tryz.isAgg180
  z131:=Tryz.sizeOf180
  v131:=Tryz.zeroValue180
  t182:=Tryz.underlying249
  a182:=Tryz.isAgg249
  z182:=Tryz.sizeOf249
  v182:=Tryz.zeroValue249
  t183:=Tryz.underlying250
  a183:=Tryz.isAgg250
  z183:=Tryz.sizeOf250
  v183:=Tryz.zeroValue250
  t218:=Tryz.underlying275
  a218:=Tryz.isAgg275
  z218:=Tryz.sizeOf275
  v218:=Tryz.zeroValue275
  t222:=Tryz.underlying236
  a222:=Tryz.isAgg236
  z222:=Tryz.sizeOf236
  v222:=Tryz.zeroValue236
  t228:=Tryz.underlying290
  a228:=Tryz.isAgg290
  z228:=Tryz.sizeOf290
  v228:=Tryz.zeroValue290
  t229:=Tryz.underlying291
  a229:=Tryz.isAgg291
  z229:=Tryz.sizeOf291
  v229:=Tryz.zeroValue291 }
def TV:Ren:=⟨fun|20=>162|x=>x,fun|22=>53|x=>x,λx=>x⟩
def W5 : Lays2.n20 prog TV :=
  { mixed := by kernel_rfl
    f20 := Tryz.func162.trans (congrArg some (by kernel_rfl))
    t0 := Tryz.underlying0
    a0 := Tryz.isAgg0
    z0 := Tryz.sizeOf0
    v0 := Tryz.zeroValue0
    t3 := Tryz.underlying3
    a3 := Tryz.isAgg3
    z3 := Tryz.sizeOf3
    v3 := Tryz.zeroValue3
    t4 := Tryz.underlying4
    a4 := Tryz.isAgg4
    z4 := Tryz.sizeOf4
    v4 := Tryz.zeroValue4
    t22 := Tryz.underlying53
    a22 := Tryz.isAgg53
    z22 := Tryz.sizeOf53
    v22 := Tryz.zeroValue53
    i3 := by kernel_rfl }
theorem Ss:Sc (λx:Int=>[Value.int .i64 x]) (λx=>[AV.int .i64 x]) 1 where
 pos:=by decide
 len _:=rfl
 Bi _:=rfl
 one x v hv:=by simp at hv;subst hv;rfl
 rep x j hj L N T w v:=by
  match j,hj with
  |0,_=>exact⟨λh=>by cases h;rfl,λh=>by subst h;exact .int _ _⟩
theorem qz (l:List Int):l.flatMap (λx=>[AV.int .i64 x])=ints l:=by
 induction l with
 |nil=>rfl
 |cons x r ih=>rw[ahy,ih];rfl
def Vq (d : Array Int) (t : Nat) (h : t < d.size) : (flatK (λx : Int => [Value.int .i64 x]) 1 d)[t]! = Value.int .i64 d[t]! := by
  rw [nY _ _ _ _ (by omega)];simp [Nat.mod_one]
def Ju (w : World) (b o : Nat) (d : Array Int) : putRowK (λx : Int => [Value.int .i64 x]) 1 w b o d = putRow (Value.int .i64) w b o d := by
  unfold putRowK putRow
  congr 1
  funext c
  unfold putCells
  congr 1
  funext k x
  rw [size_flatK, Nat.mul_one]
  by_cases h : o <= k /\ k < o + d.size
  · rw [ahs h, ahs h, Vq d (k - o) (by omega)]; rfl
  · rw [ahq h, ahq h]
def O1 {w : World} {b o : Nat} {d : Array Int} (h : HoldsK (λx : Int => [Value.int .i64 x]) 1 w b o d) : Holds (Value.int .i64) w b o d := λj hj => by
  obtain ⟨h1, h2⟩ := h j (by rw [size_flatK]; omega);rw [Vq d j hj] at h1;exact ⟨h1, h2⟩
def pC (l:List Int):List Int:=l.mergeSort λx y=>decide (x<=y)
def uA (l:List Int):(pC l).length=l.length:=ajq _
theorem qi {H:List az}{T:au}{L:Lay}{w:World}{ca:Array Value}{v:AV}(hl:ca.size=1)(hr:∀(j:Nat)(h:j<[v].length)(h':j<ca.size),aY L H.length T w ([v][j]'h) (ca[j]'h')):∃c,ca=#[c]/\aY L H.length T w v c:=by
 obtain⟨cl⟩:=ca
 match cl,hl with
 |[a],_=>exact⟨a,rfl,hr 0 (by simp) (by simp)⟩
def PD (zs:List Int)(rest:List AV)(i cap:Nat)(hl:zs.length<=1099511627776)(H:List az)(T:au)(hi:H[i]?=some (.cells (ints zs++rest))) :
  ar prog 161 [.bG i zs.length cap] H T (Is (.df []) (H.set i (.cells (ints (pC zs)++rest))) T):=by
 rw[<-qz] at hi;refine⟨λ_ _=>Tryz.call161 _ _,λL w ca hc jR hr=>?_⟩;obtain⟨c,rfl,zq⟩:=qi (by simpa using jR) hr;obtain⟨rfl,hcap,hlt⟩:=zq.iv;have nI:=Any.slices_Sort_int OX (L.bO i) 0 cap zs w (O1 (hc.xm Ss hi)) (hc.me hlt) (by omega);refine nI.mono ?_;rintro e w' ⟨rfl,n,os,rfl⟩;obtain⟨L',jt,dD,_⟩:=hc.sorted (n:=n) (os:=os) (l':=pC zs) Ss hi (uA zs);rw[qz] at jt dD;unfold sortWorldK at jt dD;rw[Ju] at jt dD;exact⟨_,_,T,L',_,⟨rfl,rfl,rfl⟩,rfl,jt,.df [] #[] rfl (λj hj=>by simp at hj),dD⟩
def Lx (H:List az)(T:au)(tg:Tag):ar prog 161 [.sl 0 [] tg] H T (Is (.df []) H T):=by
 refine⟨λ_ _=>Tryz.call161 _ _,λL w ca hc jR hr=>?_⟩;obtain⟨c,rfl,zq⟩:=qi (by simpa using jR) hr;obtain⟨a,cap,rfl,_⟩:=zq.fM;refine(Any.slices_Sort_int_none OX a cap w).mono ?_;rintro e w' ⟨rfl,rfl⟩;exact⟨_,H,T,L,_,⟨rfl,rfl,rfl⟩,rfl,hc,.df [] #[] rfl (λj hj=>by simp at hj),Ev.refl (ahj _) (ahj _)⟩
def FY (zs:List Int)(rest:List AV)(i cap:Nat)(hl:zs.length<=1099511627776)(H:List az)(T:au)(hi:H[i]?=some (.cells (ints zs++rest)))(hle:(Lib.compact zs).length<=zs.length) :
  ar prog 162 [.bG i zs.length cap] H T (Is (.bG i (Lib.compact zs).length cap) (H.set i (.cells (ints (Lib.compact zs++List.replicate (zs.length-(Lib.compact zs).length) 0)++rest))) T):=by
 rw[<-qz] at hi;refine⟨λ_ _=>Tryz.call162 _ _,λL w ca hc jR hr=>?_⟩;obtain⟨c,rfl,zq⟩:=qi (by simpa using jR) hr;obtain⟨rfl,hcap,hlt⟩:=zq.iv;have nI:=Any.slices_Compact_int W5 (L.bO i) 0 cap zs w (O1 (hc.xm Ss hi)) (by omega) hcap;refine nI.mono ?_;rintro e w' ⟨rfl,n,rfl⟩;obtain⟨L',jt,dD,qU⟩:=hc.sorted (n:=n) (os:=#[]) (l':=Lib.compact zs++List.replicate (zs.length-(Lib.compact zs).length) 0) Ss hi (by rw[ahk,ajU];omega);rw[qz] at jt dD;unfold sortWorldK at jt dD;rw[Ju,grow_empty] at jt dD;refine⟨_,_,T,L',_,⟨rfl,rfl,rfl⟩,rfl,jt,?_,dD⟩;rw[<-qU i hlt];exact .bG _ _ _ (by rw[aiE];exact hlt) (by omega)
attribute [-simp] getD_eq_getElem?_getD in
def Cv (H:List az)(T:au)(tg:Tag):ar prog 162 [.sl 0 [] tg] H T (Is (.sl 0 [] .none) H T):=by
 refine ar.cg ?_;refine ah 6 [] Tryz.ntmps162 Tryz.func162 rfl (λ_ _=>Tryz.call162 _ _) (by simp) (λHO=>?_);apply ae;intro K Z;simp(disch:=omega);apply Z;refine af λK1 aO=>?_;apply ae;intro K Z;simp(disch:=omega);apply Z;apply aG rfl;apply ae;intro K Z;simp(disch:=omega);apply Z;apply ay;simp(disch:=omega) ;exact⟨rfl,rfl,rfl⟩
open im eT cL
def afF (h:Nat)(d:List Int)(out:AV)(S:List (Nat×az)):Prop:=
 (d=[]/\out=.sl 0 [] .full/\S=[])\/∃i cap r,out=.bG i d.length cap/\h<=i/\d.length+r=cap/\S=[(i,.cells (ints d++List.replicate r AV.top))]
structure GI (H:List az)(T:au)(d:List Int)(R:List (Nat×az))(J:List az)(out:AV):Prop where
 bx:∃S,afF H.length d out S/\Has J (R++S)
 pre:gM H J
 ok:bJ J T
variable {H : List az} {T : au} {d : List Int} {R : List (Nat × az)} {J : List az} {out : AV}
def GI.nil (ho:bJ H T):GI H T [] [] H (.sl 0 [] .full):=⟨⟨[],.inl ⟨rfl,rfl,rfl⟩,⟨by simp,λp hp=>by simp at hp⟩⟩,⟨[],by simp⟩,ho⟩
def GI.more (h:GI H T d R J out)(b:az)(ho:bJ (J++[b]) T):GI H T d ((J.length,b)::R) (J++[b]) out:=by
 obtain⟨⟨S,h1,h2⟩,h3,h4⟩:=h;exact⟨⟨S,h1,(h2.new b).perm (ah6 _ _).symm⟩,h3.app _,ho⟩
def GI.less {x:Nat×az}(h:GI H T d (x::R) J out):GI H T d R J out:=by
 obtain⟨⟨S,h1,h2⟩,h3,h4⟩:=h;exact⟨⟨S,h1,h2.sub (aih _ _)⟩,h3,h4⟩
theorem GI.get (h:GI H T d R J out){i:Nat}{b:az}(hm:(i,b)∈R):J[i]?=some b:=by
 obtain⟨⟨S,h1,h2⟩,h3,h4⟩:=h;exact h2.get (ahG _ hm)
def GI.below (h:GI H T d R J out):Below J.length T.length out:=by
 obtain⟨⟨S,h1,h2⟩,h3,h4⟩:=h;rcases h1 with⟨_,rfl,_⟩|⟨i,cap,r,rfl,hi,hr,rfl⟩
 ·simp
 ·exact AY.2 (h2.lt (i:=i) (b:=.cells (ints d++List.replicate r AV.top)) (by simp))
def GI.first (h:GI H T [] R J (.sl 0 [] .full))(x:Int)(nc:Nat)(hn:1<=nc):GI H T [x] R (J++[.cells (.int .i64 x::List.replicate (nc-1) AV.top)]) (.bG J.length 1 nc):=by
 obtain⟨⟨S,h1,h2⟩,h3,h4⟩:=h;have hS:S=[]:=by
  rcases h1 with⟨_,_,h⟩|⟨i,cap,r,h,_⟩
  ·exact h
  ·cases h
 subst hS;rw[ahH] at h2;exact⟨⟨_,.inr ⟨J.length,nc,nc-1,rfl,h3.le,by simp only[aib];omega,rfl⟩,h2.new _⟩,h3.app _,h4.snoc (by simp)⟩
def GI.put {i cap r:Nat}(hb:Has J (R++[(i,.cells (ints d++List.replicate r AV.top))]))(hi:H.length<=i)(hr:d.length+r=cap)(h3:gM H J)(h4:bJ J T)(hle:d.length+1<=cap)(x:Int) :
  GI H T (d++[x]) R (J.set i (.cells ((ints d++List.replicate r AV.top).take d.length++[.int .i64 x]++(ints d++List.replicate r AV.top).drop (d.length+1)))) (.bG i (d.length+1) cap):=by
 have hl:(ints d).length=d.length:=by simp
 have e1:(ints d++List.replicate r AV.top).take d.length=ints d:=aij hl;have e2:(ints d++List.replicate r AV.top).drop (d.length+1)=List.replicate (r-1) AV.top:=by
  rw[<-List.drop_drop,List.drop_left' hl,List.drop_replicate]
 rw[e1,e2,eG];exact⟨⟨_,.inr ⟨i,cap,r-1,by simp,hi,by simp;omega,rfl⟩,by simpa using hb.set (A:=R) (B:=[]) (.cells (ints (d++[x])++List.replicate (r-1) AV.top))⟩,h3.set hi _,h4.set (by simp)⟩
def GI.grow {i r nc:Nat}(hb:Has J (R++[(i,.cells (ints d++List.replicate r AV.top))]))(h3:gM H J)(h4:bJ J T)(hn:d.length+1<=nc)(x:Int) :
  GI H T (d++[x]) R (J++[.cells ((ints d++List.replicate r AV.top).take d.length++[.int .i64 x]++List.replicate (nc-(d.length+1)) AV.top)]) (.bG J.length (d.length+1) nc):=by
 have hl:(ints d).length=d.length:=by simp
 have e1:(ints d++List.replicate r AV.top).take d.length=ints d:=aij hl;rw[e1,eG];exact⟨⟨_,.inr ⟨J.length,nc,nc-(d.length+1),by simp,h3.le,by simp;omega,rfl⟩,(hb.sub (List.sublist_append_left _ _)).new _⟩,h3.app _,h4.snoc (by simp)⟩
def Db (f lo hi:Int)(cf:Int)(x:Nm):Bool:=(cf==f&&decide (lo<=x.1))&&decide (x.1<=hi)
def o9 (f lo hi:Int)(cf:Int)(x:Nm):List Int:=if Db f lo hi cf x=true then [x.2] else []
attribute [-simp] getD_eq_getElem?_getD in
def QZ (aN:List Cl)(xs:List Nm)(nb:Nat)(gG:nb<=H.length)(f lo hi cf:Int)(vi vj b4 CW XW:Nat)(xv:AV)(x:Nm)(hd:d.length<=1099511627776)(hG:GI H T d R J out)
  (h11:(CW,.cells [.int .i64 cf,xv])∈R) (Gv:(XW,.cells (zk x))∈R) (l4:b4<H.length+1) (hR:b4<J.length) (Q:Exit->St->Prop)
  (go:∀(e:Env)(J':List az)(pt:AV),GI H T (d++o9 f lo hi cf x) R J' pt->J.length<=J'.length->bu J'.length T.length e [(1,.int .i64 f),(2,.int .i64 lo),(3,.int .i64 hi),(4,.ptr b4 0),(9,pt),(11,.ptr CW 0),(19,.sl aN.length (dJ aN) .none),(20,.int .i64 (aN.length:Nat)),(21,.int .i64 (vi:Nat)),(26,.sl xs.length (br xs) .none),(27,.int .i64 (xs.length:Nat)),(28,.int .i64 (vj:Nat))]->Q .normal ⟨e,J',T⟩) :
  AW ⟨prog,59,31,nb,T.length,[100052]⟩ (dY [1,1,1,0,1,0,0,1,1,0,0,1,1,0,0,1,1,0,0,1] (Tryz.f100.body.getD .skip)) Q ⟨[(1,.int .i64 f),(2,.int .i64 lo),(3,.int .i64 hi),(4,.ptr b4 0),(9,out),(11,.ptr CW 0),(13,.ptr XW 0),(19,.sl aN.length (dJ aN) .none),(20,.int .i64 (aN.length:Nat)),(21,.int .i64 (vi:Nat)),(26,.sl xs.length (br xs) .none),(27,.int .i64 (xs.length:Nat)),(28,.int .i64 (vj:Nat))],J,T⟩:=by
 conv=>arg 2;whnf
 have g11:=hG.get h11;have Km:=hG.get Gv;have UW:=aW g11;have Kn:=aW Km;have l11:=(ahh.1 g11).1;have l13:=(ahh.1 Km).1;have lb:=hG.below;have lJ:=hG.pre.le;obtain⟨x1,x2⟩:=x;have skip:Db f lo hi cf (x1,x2)=false->∀e:Env,bu J.length T.length e [(1,.int .i64 f),(2,.int .i64 lo),(3,.int .i64 hi),(4,.ptr b4 0),(9,out),(11,.ptr CW 0),(19,.sl aN.length (dJ aN) .none),(20,.int .i64 (aN.length:Nat)),(21,.int .i64 (vi:Nat)),(26,.sl xs.length (br xs) .none),(27,.int .i64 (xs.length:Nat)),(28,.int .i64 (vj:Nat))]->Q .normal ⟨e,J,T⟩:=λhb e he=>
  go e J out (by unfold o9;rw[hb];simpa using hG) (ahj _) he
 by_cases h1:cf=f
 rotate_left
 ·have b1:(cf==f)=false:=ah5.2 h1;refine ae λK hK=>?_;simp(disch:=omega)[UW,Kn,b1,h1];apply hK;apply aD rfl;apply aq;exact skip (by unfold Db;rw[b1];rfl) _ (by simp[lb];omega)
 have b1:(cf==f)=true:=by simpa using h1
 by_cases h2:lo<=x1
 rotate_left
 ·have b2:decide (lo<=x1)=false:=ahn h2;refine ae λK hK=>?_;simp(disch:=omega)[UW,Kn,b1,h1,b2,h2];apply hK;apply aD rfl;apply aq;exact skip (by unfold Db;simp only;rw[b1,b2];rfl) _ (by simp[lb];omega)
 have b2:decide (lo<=x1)=true:=ahm h2
 by_cases h3:x1<=hi
 rotate_left
 ·have b3:decide (x1<=hi)=false:=ahn h3;refine ae λK hK=>?_;simp(disch:=omega)[UW,Kn,b1,h1,b2,h2,b3,h3];apply hK;apply aD rfl;apply aq;exact skip (by unfold Db;simp only;rw[b1,b2,b3];rfl) _ (by simp[lb];omega)
 have b3:decide (x1<=hi)=true:=ahm h3;have afe:d++o9 f lo hi cf (x1,x2)=d++[x2]:=by unfold o9 Db;simp only;rw[b1,b2,b3];rfl
 rw[afe] at go;refine ae λK hK=>?_;simp(disch:=omega)[UW,Kn,b1,h1,b2,h2,b3,h3];apply hK;apply aG rfl;have h':=hG;obtain⟨⟨S,hS,KA⟩,qT,jK⟩:=hG;rcases hS with⟨rfl,rfl,rfl⟩|⟨i,cap,r,rfl,Rr,hr,rfl⟩
 ·have hg:=λnc hn=>GI.first h' x2 nc hn;refine aB λK hK=>?_;simp(disch:=omega)[Kn];intro nc hn;apply hK;have:=hg nc hn;refine go _ _ _ this (by simp) ?_;simp;omega
 ·have gi:=KA.get (i:=i) (b:=.cells (ints d++List.replicate r AV.top)) (by simp);have iY:=λhle=>GI.put KA Rr hr qT jK hle x2;have vl:=λnc hn=>GI.grow (nc:=nc) KA qT jK hn x2;refine aB λK hK=>?_;simp(disch:=omega)[Kn];refine⟨3,_,[.int .i64 x2],1,by kernel_rfl,gi,by simp;omega,by simp,by simp;omega,by omega,by kernel_rfl,by simp,λhle=>?_,λnc hlt lC=>?_⟩
  ·have hg:=iY hle;simp only[O9,Nat.mul_one];generalize hX:J.set i _=H2 at hg ⊢;have kP:=hg.below;have jH:J.length=H2.length:=by rw[<-hX,aiE]
   simp(disch:=omega) ;apply hK;refine go _ _ _ hg (by omega) ?_;simp[kP];omega
  ·have hg:=vl nc lC;simp only[O9,Nat.mul_one];generalize hX:J++[az.cells _]=H2 at hg ⊢;have kP:=hg.below;have jH:J.length+1=H2.length:=by rw[<-hX];simp
   have Np:=λe=>go e _ _ hg (by omega);clear vl iY hg go skip UW Kn gi KA jK qT h' g11 Km hX lb;generalize J.length=i2 at *;simp(disch:=omega) ;apply hK;refine Np _ ?_;simp[kP];omega
def Iw (l:List Int):(Lib.compact l).length<=l.length:=by
 unfold Lib.compact Lib.compactUpTo;rw[ahz];exact aho (ahU _ _) (by simp)
theorem oQ {l : List Int} (hs : l.Pairwise λx y => x <= y) : ∀ m, m <= l.length -> kz (Lib.compactUpTo l.toArray m) /\ (∀ x, x ∈ Lib.compactUpTo l.toArray m ↔ x ∈ l.take m) /\ ∀ x ∈ Lib.compactUpTo l.toArray m, 0 < m -> x <= l.getD (m - 1) 0
  | 0, _ => ⟨.nil, by simp [Lib.compactUpTo], by simp [Lib.compactUpTo]⟩
  | m + 1, h => by
    obtain ⟨h1, h2, h3⟩ := oQ hs m (by omega)
    have hm : l.toArray[m]! = l.getD m 0 := by simp [ahg]
    have hle : ∀ x ∈ Lib.compactUpTo l.toArray m, x <= l.getD m 0 := by
      intro x hx;rcases ahR m with h0 | h0
      · subst h0; simp [Lib.compactUpTo] at hx
      · refine Int.le_trans (h3 x hx h0) ?_;have := ahN.1 hs (m - 1) m (by omega) (by omega) (by omega);simpa [ahg, ahi (show m - 1 < l.length by omega), ahi (show m < l.length by omega)] using this
    have iH : l.take (m + 1) = l.take m ++ [l.getD m 0] := aU l m 0 (by omega)
    rw [Lib.compactUpTo_succ, iH, hm]
    cases hk : Lib.keeps l.toArray m with
    | true =>
      have nB : m = 0 \/ l.getD m 0 ≠ l.getD (m - 1) 0 := by
        unfold Lib.keeps at hk;have := ajk hk;rw [hm] at this;simpa [ahg] using this
      simp only [ai1]
      refine ⟨ai3.2 ⟨h1, by simp, λa ha b hb => ?_⟩, λx => by rw [ahw, ahw, h2 x], λx hx _ => ?_⟩
      · rw [ah0.1 hb]
        rcases nB with h0 | h0
        · subst h0; simp [Lib.compactUpTo] at ha
        · rcases ahR m with h0' | h0'
          · subst h0'; simp [Lib.compactUpTo] at ha
          · have g1 := h3 a ha h0';have := ahN.1 hs (m - 1) m (by omega) (by omega) (by omega);have g2 : l.getD (m - 1) 0 <= l.getD m 0 := by simpa [ahg, ahi (show m - 1 < l.length by omega), ahi (show m < l.length by omega)] using this
            omega
      · rw [aiP]
        rcases ahw.1 hx with hx | hx
        · exact hle x hx
        · rw [ah0.1 hx]; exact Int.le_refl _
    | false =>
      have nB : 0 < m /\ l.getD m 0 = l.getD (m - 1) 0 := by
        unfold Lib.keeps at hk;have := of_decide_eq_false hk;rw [hm] at this;refine ⟨by omega, ?_⟩;have := Classical.not_not.1 λh => this (.inr h);simpa [ahg] using this
      simp only [aik, ai5, ahH]
      refine ⟨h1, λx => ?_, λx hx _ => by rw [aiP]; exact hle x hx⟩
      rw [h2 x, ahw, ah0]
      refine ⟨.inl, λh => ?_⟩
      rcases h with h | rfl
      · exact h
      · rw [nB.2, <- h2]
        refine (h2 _).2 ?_;have : l.take m = l.take (m - 1) ++ [l.getD (m - 1) 0] := by
          have := aU l (m - 1) 0 (by omega)
          rwa [show m - 1 + 1 = m by omega] at this
        rw [this]; simp
def Lw (l:List Int)(x:Int):x∈pC l↔x∈l:=(ajl l _).mem_iff
def DW (l:List Int):(pC l).Pairwise λx y=>x<=y:=
 (ajc (le:=λx y=>decide (x<=y)) (λa b c h1 h2=>by simp only[ahv] at *;omega) (λa b=>by simp only[aic,ahv];omega) l).imp λh=>by simpa using h
def Oc (l:List Int):List Int:=Lib.compact (pC l)
def Q6 (l:List Int):kz (Oc l):=(oQ (DW l) _ (ahj _)).1
def Fa (l:List Int)(x:Int):x∈Oc l↔x∈l:=by
 have:=(oQ (DW l) _ (ahj _)).2.1 x;rw[ahE,Lw] at this;exact this
def NZ (f lo hi:Int)(c:Cl):List Int:=c.x.flatMap (o9 f lo hi c.f)
def hits (f lo hi:Int)(l:List Cl):List Int:=l.flatMap (NZ f lo hi)
def lg (s:Sg)(f lo hi:Int):List Int:=if aX s=true then Oc (hits f lo hi s.aN) else []
theorem xP (f lo hi cf:Int):∀x:List Nm,(x.flatMap (o9 f lo hi cf)).length<=x.length
 |[]=>ahj _
 |y::x=>by
  rw[ahy,ahk,ahS];have:=xP f lo hi cf x;have:(o9 f lo hi cf y).length<=1:=by unfold o9;split<;>simp
  omega
theorem EB (f lo hi:Int):∀l:List Cl,(∀c∈l,c.x.length<=1000)->(hits f lo hi l).length<=l.length*1000
 |[],_=>by simp[hits]
 |c::l,h=>by
  have h1:=EB f lo hi l λc hc=>h c (aiF _ hc);have h2:=xP f lo hi c.f c.x;have h3:=h c (by simp);unfold hits at h1 ⊢;rw[ahy,ahk,ahS,NZ];omega
attribute [-simp] getD_eq_getElem?_getD in
theorem Uq (s:Sg)(hs:ve s)(f lo hi:Int)(H:List az)(T:au):ar prog 100 [jS s,.int .i64 f,.int .i64 lo,.int .i64 hi] H T (Is (.sl (lg s f lo hi).length (ints (lg s f lo hi)) .none) H T):=by
 refine ar.Qy (by simp) ?_;have cv:=λH=>jW s hs H T;have hcl:=hs.c;have hx:=hs.x;refine ah 31 [100052] Tryz.ntmps100 Tryz.func100 rfl (λ_ _=>Tryz.call100 _ _) (by simp) (λHO=>?_);apply ae;intro K Z;simp(disch:=omega);apply Z;apply ae;intro K Z;simp(disch:=omega);apply Z;refine af λK1 aO=>?_;have ff:bJ (H++[.cells (dC s)]) T:=HO.snoc (by simp)
 cases hv:aX s with
 |false=>
  rw[hv] at cv;have hf:lg s f lo hi=[]:=by unfold lg;rw[hv];rfl
  refine ae λK hK=>?_;simp(disch:=omega) ;refine ak (cv _) ?_;simp(disch:=omega) ;apply hK;apply aG rfl;apply ae;intro K Z;simp(disch:=omega);apply Z;apply ay;simp(disch:=omega) ;exact⟨hf,by rw[hf];rfl⟩
 |true=>
 rw[hv] at cv;have hf:lg s f lo hi=Oc (hits f lo hi s.aN):=by unfold lg;rw[ahs hv]
 have hlen:=EB f lo hi;refine ae λK hK=>?_;simp(disch:=omega) ;refine ak (cv _) ?_;simp(disch:=omega) ;apply hK;apply aD rfl;apply aq;simp(disch:=omega) ;apply aO;clear aO;refine af λK1 aO=>?_;apply ae;intro K Z;simp(disch:=omega);apply Z;obtain⟨aA,bK,aN⟩:=s;simp only at hcl hx hf;have hG0:GI H T [] [] (H++[.cells (dC ⟨aA,bK,aN⟩)]) (.sl 0 [] .full):=((GI.nil HO).more _ ff).less;generalize lg ⟨aA,bK,aN⟩ f lo hi=res at *;have Gs:H.length<(H++[az.cells (dC ⟨aA,bK,aN⟩)]).length:=by simp
 generalize H++[az.cells (dC ⟨aA,bK,aN⟩)]=J0 at *;apply aj;refine aI (X:=Nat×List az×AV) (λx=>⟨[(1,.int .i64 f),(2,.int .i64 lo),(3,.int .i64 hi),(4,.ptr H.length 0),(9,x.2.2),(19,.sl aN.length (dJ aN) .none),(20,.int .i64 (aN.length:Nat)),(21,.int .i64 (x.1:Nat))],x.2.1,T⟩)
  (λx=>x.1<=aN.length/\GI H T (hits f lo hi (aN.take x.1)) [] x.2.1 x.2.2/\H.length<x.2.1.length) (λx=>aN.length-x.1) (0,J0,.sl 0 [] .full) ?_ ?_ ?_
 ·exact⟨ahu _,hG0,Gs⟩
 ·refine ag [] [] ?_ ?_ ?_ ?_ ff ?_
  all_goals simp
  all_goals omega
 ·rintro⟨i,J,out⟩ ⟨g1,g2,g3⟩;simp only at g1 g2 g3;have lb:=g2.below;apply ae;intro K Z;simp(disch:=omega);apply Z;refine af λK2 bc=>?_;refine aT rfl (λhk=>?_) (λhk=>?_)
  ·simp  at hk;have hcut:=xY aN i hk;have Ga:=hx _ (aS aN i c0 hk);have nu:=qA aN (NZ f lo hi) c0 i hk;have hdl:(hits f lo hi (aN.take i)).length<=1000000:=aho (hlen (aN.take i) λc hc=>hx c (ajw hc)) (by rw[ahJ];omega);generalize aN.getD i c0=c at *;obtain⟨cf,xs⟩:=c;simp only at hcut Ga;have GG:hits f lo hi (aN.take (i+1))=hits f lo hi (aN.take i)++xs.flatMap (o9 f lo hi cf):=nu;clear nu;generalize hits f lo hi (aN.take i)=d0 at *;apply aq;simp(disch:=omega) ;apply bc;clear bc;refine af λK3 bD=>?_;apply aj;refine ae λK hK=>?_;simp(disch:=omega)[hcut,nL];apply hK;have HOj:=g2.ok;have VQ:bJ (J++[.cells (ry ⟨cf,xs⟩)]) T:=HOj.snoc (by simp);have RZ:=g2.more _ VQ;have qN:(J++[az.cells (ry ⟨cf,xs⟩)]).length=J.length+1:=by simp
   have Zp:(J++[az.cells (ry ⟨cf,xs⟩)])[J.length]?=some (.cells (ry ⟨cf,xs⟩)):=by simp
   have UW:=aW Zp;obtain⟨CW,h11⟩:∃i,i=J.length:=⟨_,rfl⟩
   rw[<-h11] at UW RZ;simp only[<-h11];have ag3:(CW,az.cells (ry ⟨cf,xs⟩))∈[(CW,az.cells (ry ⟨cf,xs⟩))]:=by simp
   have l11:CW<(J++[az.cells (ry ⟨cf,xs⟩)]).length:=by omega
   have l4:H.length<(J++[az.cells (ry ⟨cf,xs⟩)]).length:=by omega
   clear Zp hG0 g2 lb;generalize J++[az.cells (ry ⟨cf,xs⟩)]=J1 at *;have lb:=RZ.below;have lh:=RZ.pre.le;refine aH ⟨[(1,.int .i64 f),(2,.int .i64 lo),(3,.int .i64 hi),(4,.ptr H.length 0),(9,out),(11,.ptr CW 0),(19,.sl aN.length (dJ aN) .none),(20,.int .i64 (aN.length:Nat)),(21,.int .i64 (i:Nat))],J1,T⟩ (ag [] [] (by simp) (by simp) (by simpa using lh) (by simp) VQ (by simp[lb];omega)) ?_;refine ae λK hK=>?_;simp(disch:=omega)[UW];apply hK;apply aj;refine aI (X:=Nat×List az×AV) (λx=>⟨[(1,.int .i64 f),(2,.int .i64 lo),(3,.int .i64 hi),(4,.ptr H.length 0),(9,x.2.2),(11,.ptr CW 0),(19,.sl aN.length (dJ aN) .none),(20,.int .i64 (aN.length:Nat)),(21,.int .i64 (i:Nat)),(26,.sl xs.length (br xs) .none),(27,.int .i64 (xs.length:Nat)),(28,.int .i64 (x.1:Nat))],x.2.1,T⟩)
    (λx=>x.1<=xs.length/\GI H T (d0++(xs.take x.1).flatMap (o9 f lo hi cf)) [(CW,.cells (ry ⟨cf,xs⟩))] x.2.1 x.2.2/\H.length<x.2.1.length/\CW<x.2.1.length) (λx=>xs.length-x.1) (0,J1,out) ?_ ?_ ?_
   ·exact⟨ahu _,by simpa using RZ,l4,l11⟩
   ·refine ag [] [] ?_ ?_ ?_ ?_ VQ ?_
    all_goals simp[lb]
    all_goals omega
   ·rintro⟨k,J2,GA⟩ ⟨k1,k2,k3,k4⟩;simp only at k1 k2 k3 k4;have Yh:=k2.below;apply ae;intro K Z;simp(disch:=omega);apply Z;refine af λK4 lN=>?_;refine aT rfl (λgq=>?_) (λgq=>?_)
    ·simp  at gq;have yO:=ia xs k gq;have Wt:=qA xs (o9 f lo hi cf) n0 k gq;have Wv:=xP f lo hi cf (xs.take k);rw[ahJ] at Wv;have Ws:d0++(xs.take (k+1)).flatMap (o9 f lo hi cf)=(d0++(xs.take k).flatMap (o9 f lo hi cf))++o9 f lo hi cf (xs.getD k n0):=by rw[Wt,ahA]
     have hd2:(d0++(xs.take k).flatMap (o9 f lo hi cf)).length<=1099511627776:=by rw[ahk];omega
     generalize d0++(xs.take k).flatMap (o9 f lo hi cf)=d2 at *;generalize xs.getD k n0=x at *;obtain⟨x1,x2⟩:=x;simp only at yO;apply aq;simp(disch:=omega) ;apply lN;clear lN;refine af λK5 lD=>?_;apply aj;refine ae λK hK=>?_;simp(disch:=omega)[yO,cH];apply hK;have fx:=k2.ok;have ho3:bJ (J2++[.cells (zk (x1,x2))]) T:=fx.snoc (by simp);have wN:=k2.more _ ho3;have ag5:(J2++[az.cells (zk (x1,x2))]).length=J2.length+1:=by simp
     obtain⟨XW,Gv⟩:∃i,i=J2.length:=⟨_,rfl⟩
     rw[<-Gv] at wN;simp only[<-Gv];have l13:XW<(J2++[az.cells (zk (x1,x2))]).length:=by omega
     have XB:H.length<(J2++[az.cells (zk (x1,x2))]).length:=by omega
     have agW:CW<(J2++[az.cells (zk (x1,x2))]).length:=by omega
     clear k2 Yh;generalize J2++[az.cells (zk (x1,x2))]=J3 at *;have lb3:=wN.below;have lh3:=wN.pre.le;refine aH ⟨[(1,.int .i64 f),(2,.int .i64 lo),(3,.int .i64 hi),(4,.ptr H.length 0),(9,GA),(11,.ptr CW 0),(13,.ptr XW 0),(19,.sl aN.length (dJ aN) .none),(20,.int .i64 (aN.length:Nat)),(21,.int .i64 (i:Nat)),(26,.sl xs.length (br xs) .none),(27,.int .i64 (xs.length:Nat)),(28,.int .i64 (k:Nat))],J3,T⟩ (ag [] [] (by simp) (by simp) (by simpa using lh3) (by simp) ho3 (by simp[lb3];omega)) ?_;refine QZ aN xs H.length (ahj _) f lo hi cf i k H.length CW XW (.sl xs.length (br xs) .none) (x1,x2) hd2 wN (by simp) (by simp) (by omega) XB _ λe J' pt a1 a2 a3=>?_;have a1':=a1.less;have lb4:=a1'.below;have lh4:=a1'.pre.le;refine lD _ (aH ⟨[(1,.int .i64 f),(2,.int .i64 lo),(3,.int .i64 hi),(4,.ptr H.length 0),(9,pt),(11,.ptr CW 0),(19,.sl aN.length (dJ aN) .none),(20,.int .i64 (aN.length:Nat)),(21,.int .i64 (i:Nat)),(26,.sl xs.length (br xs) .none),(27,.int .i64 (xs.length:Nat)),(28,.int .i64 (k:Nat))],J',T⟩ (ag [] [] (by simp) (by simp) (by simpa using lh4) (by simp) a1.ok a3) ?_);refine aB λK hK=>?_;simp(disch:=omega) ;apply hK;refine⟨(k+1,J',pt),⟨by show k+1<=_;omega,by rw[Ws];exact a1',by show H.length<J'.length;omega,by show CW<J'.length;omega⟩,by show xs.length-(k+1)<xs.length-k;omega,?_⟩;refine ag [] [] ?_ ?_ ?_ ?_ a1.ok ?_
     all_goals simp[lb4]
     all_goals omega
    ·simp  at gq;have Kg:k=xs.length:=by omega
     subst Kg;rw[ahE,<-GG] at k2;have Yi:=k2.less;have lb4:=Yi.below;have lh4:=Yi.pre.le;apply aF;simp(disch:=omega) ;refine bD _ (aH ⟨[(1,.int .i64 f),(2,.int .i64 lo),(3,.int .i64 hi),(4,.ptr H.length 0),(9,GA),(19,.sl aN.length (dJ aN) .none),(20,.int .i64 (aN.length:Nat)),(21,.int .i64 (i:Nat))],J2,T⟩ (ag [] [] (by simp) (by simp) (by simpa using lh4) (by simp) k2.ok (by simp[lb4];omega)) ?_);refine aB λK hK=>?_;simp(disch:=omega) ;apply hK;refine⟨(i+1,J2,GA),⟨by show i+1<=_;omega,Yi,k3⟩,by show aN.length-(i+1)<aN.length-i;omega,?_⟩;refine ag [] [] ?_ ?_ ?_ ?_ k2.ok ?_
     all_goals simp[lb4]
     all_goals omega
  ·simp  at hk;have CE:i=aN.length:=by omega
   subst CE;rw[ahE] at g2;have hdl:(hits f lo hi aN).length<=1000000:=aho (hlen aN hx) (by omega);generalize hits f lo hi aN=d at *;have lh:=g2.pre.le;obtain⟨⟨S,hS,KA⟩,qT,jK⟩:=g2;rcases hS with⟨rfl,rfl,rfl⟩|⟨ib,cap,r,rfl,Rr,hr,rfl⟩
   ·have cs:=Lx J T .full;have cc:=Cv J T .full;apply aF;simp(disch:=omega) ;apply aO;clear aO;refine ae λK hK=>?_;simp(disch:=omega) ;refine ak (cs) ?_;simp(disch:=omega) ;apply hK;refine ae λK hK=>?_;simp(disch:=omega) ;refine ak (cc) ?_;simp(disch:=omega) ;apply hK;apply ay;simp(disch:=omega) ;rw[hf];have hn:Oc []=[]:=aiJ.2 λx hx=>by simpa using(Fa [] x).1 hx
    exact⟨qT,hn,by rw[hn];rfl⟩
   ·have gi:=KA.get (i:=ib) (b:=.cells (ints d++List.replicate r AV.top)) (by simp);have li:=(ahh.1 gi).1;have cs:=PD d (List.replicate r .top) ib cap (by omega) J T gi;apply aF;simp(disch:=omega) ;apply aO;clear aO;refine ae λK hK=>?_;simp(disch:=omega) ;refine ak (cs) ?_;simp(disch:=omega) ;apply hK;have gi2:(J.set ib (.cells (ints (pC d)++List.replicate r AV.top)))[ib]?=some (.cells (ints (pC d)++List.replicate r AV.top)):=ahK li;have cc:=FY (pC d) (List.replicate r .top) ib cap (by rw[uA];omega) (J.set ib (.cells (ints (pC d)++List.replicate r AV.top))) T gi2 (Iw _);rw[uA] at cc;refine ae λK hK=>?_;simp(disch:=omega) ;refine ak (cc) ?_;simp(disch:=omega) ;apply hK;apply ay;simp(disch:=omega) ;rw[hf];exact⟨qT.set Rr _,ib,⟨rfl,rfl⟩,Rr,ints (List.replicate (d.length-(Lib.compact (pC d)).length) 0)++List.replicate r AV.top,by rw[ahK li,<-FM,ahA];rfl⟩
end Go.Proofs.YtoejlmpbebjemaaGreat
