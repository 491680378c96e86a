/- Small documents (layers 37, 39): the reference's Small and Few.
  Conditions: lengths that memory holds. -/
import Derived.Test.YtoejlmpbebjemaaGreatGBC
set_option linter.all false
set_option maxRecDepth 100000
set_option maxHeartbeats 4000000
namespace Go.Proofs.YtoejlmpbebjemaaGreat
open Go Go.Am ie eN
def Rx (zs:List Zn):Int:=zs.foldl (λn z=>IntKind.i64.wrap (n+IntKind.i64.wrap (1+(z.ws.length:Int)))) 0
def Gl (d:Dc):Bool:=decide (Rx d.zs<=60)&&decide (d.ns.length<=20)
def O6 (zs:List Zn)(k:Nat)(h:k<zs.length):Rx (zs.take (k+1))=IntKind.i64.wrap (Rx (zs.take k)+IntKind.i64.wrap (1+((zs.getD k z0).ws.length:Int))):=by
 unfold Rx;rw[aX zs k z0 h,ai8];rfl
attribute [-simp] List.getD_eq_getElem?_getD in
def WQ (d:Dc)(hs:pt d)(H:List aA)(T:au):aq Tryz.prog 12 [.agg (dY d)] H T (Is (.bool (Gl d)) H T):=by
 refine aq.bK ?_ zS;have jU:maxLen<=9223372036854775807:=zD;obtain⟨id,zs,ns⟩:=d;obtain⟨hz,hw,hn⟩:=hs;simp only at hz hw hn ⊢;have JU:=ahA hz jU;have Yx:=ahA hn jU;generalize hq:Gl ⟨id,zs,ns⟩=q;unfold Gl at hq;simp only at hq;refine ah 6 [] Tryz.ntmps12 Tryz.func12 rfl (λ_ _=>Tryz.call12 _ _) zS (λHO=>?_);refine af ?_;have eu:bM (H++[.cells (dY ⟨id,zs,ns⟩)]) T:=HO.snoc zS;refine af ?_;refine ae λK1 aN=>?_;refine af ?_;apply ag;refine aG (X:=Nat) (λi=>⟨[(1,.ptr H.length 0),(3,.int .i64 (Rx (zs.take i))),(4,.int .i64 (i:Nat))],H++[.cells (dY ⟨id,zs,ns⟩)],T⟩)
  (λi=>i<=zs.length) (λi=>zs.length-i) 0 ?_ ?_ ?_
 ·exact ahE _
 ·refine ak [] [] ?_ ?_ ?_ ?_ eu ?_
  all_goals simp[Rx]
 ·intro i g1;refine ae λK2 ba=>?_;refine af ?_;refine aV rfl (λhk=>?_) (λhk=>?_)
  ·simp  at hk;obtain⟨_,a2⟩:=wF zs i hk;have qC:=ahA (hw _ (aQ zs i z0 hk)).1 jU;have gV:=O6 zs i hk;generalize (zs.getD i z0).ws=ws at *;generalize Rx (zs.take i)=n at *;apply aj;refine zQ ?_;apply ba;clear ba;refine ae λK3 bH=>?_;apply ag;refine br λK hK=>?_;simp(disch:=omega)[a2,fW,hk];apply hK;apply bH;clear bH;refine aJ ?_;refine⟨i+1,by show i+1<=_;omega,by show zs.length-(i+1)<zs.length-i;omega,?_⟩;refine ak [] [] ?_ ?_ ?_ ?_ eu ?_
   all_goals simp[gV]
  ·simp  at hk;have yV:i=zs.length:=zO;subst yV;rw[ahO];apply aD;refine zQ ?_;apply aN;clear aN;generalize Rx zs=n at *
   by_cases h1:n<=60
   ·have b1:decide (n<=60)=true:=ahx h1
    by_cases h2:ns.length<=20
    ·have b2:decide ((ns.length:Int)<=20)=true:=ahx zO;apply ar;simp(disch:=omega)[b1,h1,b2,h2];refine aI ?_;rw[<-hq,b1,ahx h2];rfl
    ·have b2:decide ((ns.length:Int)<=20)=false:=ahy zO;apply ar;simp(disch:=omega)[b1,h1,b2,h2];refine aI ?_;rw[<-hq,b1,ahy h2];rfl
   ·have b1:decide (n<=60)=false:=ahy h1;apply ar;simp(disch:=omega)[b1,h1];refine aI ?_;rw[<-hq,b1];rfl
end Go.Proofs.YtoejlmpbebjemaaGreat
