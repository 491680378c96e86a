/- SameWords, Equal, SameDocuments of layer 37's reference, for equal arguments.
  Conditions: sizes, as the theorems say. -/
import Derived.Test.YtoejlmpbebjemaaGreatGA
import Derived.Test.YtoejlmpbebjemaaGreatGC
import Derived.Test.YtoejlmpbebjemaaGreatPA
set_option linter.all false
set_option maxRecDepth 100000
set_option maxHeartbeats 8000000
namespace Go.Proofs.YtoejlmpbebjemaaGreat
open Go Go.Am ie eN
attribute [-simp] List.getD_eq_getElem?_getD in
def Cz (a:List Wd)(ha:a.length<=maxLen)(H:List aA)(T:au):aq Tryz.prog 102 [.sl a.length (dX a) .none,.sl a.length (dX a) .none] H T (Is (.bool true) H T):=by
 refine aq.bK ?_ zS;have YJ:a.length<=9223372036854775807:=ahA ha zD;refine ah 6 [] Tryz.ntmps102 Tryz.func102 rfl (λ_ _=>Tryz.call102 _ _) zS (λHO=>?_);refine af ?_;refine ae λK1 aN=>?_;refine af ?_;apply aB rfl;apply aj;refine zQ ?_;apply aN;clear aN;refine ae λK1 aN=>?_;refine af ?_;apply ag;refine aG (X:=Nat) (λi=>⟨[(0,.sl a.length (dX a) .none),(1,.sl a.length (dX a) .none),(5,.int .i64 (i:Nat))],H,T⟩) (λi=>i<=a.length) (λi=>a.length-i) 0 ?_ ?_ ?_
 ·exact ahE _
 ·exact wk HO
 ·intro i hi;refine ae λK2 ba=>?_;refine af ?_;refine aV rfl (λhk=>?_) (λhk=>?_)
  ·simp  at hk;have bB:=tE a i hk;generalize a.getD i w0=x at *;obtain⟨x1,x2⟩:=x;simp only at bB;apply aj;refine zQ ?_;apply ba;clear ba;refine ae λK3 bH=>?_;apply ag;refine bC [] [] [] ?_;simp(disch:=omega)[bB,gG,hk];apply aB rfl;apply aj;refine zQ ?_;apply bH;clear bH;refine aJ ?_;refine⟨i+1,zO,zO,?_⟩;exact wk HO
  ·simp  at hk;apply aD;refine zQ ?_;apply aN;clear aN;refine af ?_;exact bu zC
attribute [-simp] List.getD_eq_getElem?_getD in
def FZ (d:Dc)(hd:pt d)(H:List aA)(T:au):aq Tryz.prog 50 [.agg (dY d),.agg (dY d)] H T (Is (.bool true) H T):=by
 refine aq.bK ?_ zS;obtain⟨h1,h2,h3⟩:=hd;obtain⟨id,zs,ns⟩:=d;simp only at h1 h2 h3;have JU:zs.length<=9223372036854775807:=ahA h1 zD;have Yx:ns.length<=9223372036854775807:=ahA h3 zD;have eu:bM H T->bM (H++[.cells (dY ⟨id,zs,ns⟩),.cells (dY ⟨id,zs,ns⟩)]) T:=λHO=>by
  have:=(HO.snoc (vs:=dY ⟨id,zs,ns⟩) zS).snoc (vs:=dY ⟨id,zs,ns⟩) zS;simpa using this
 refine ah 7 [] Tryz.ntmps50 Tryz.func50 rfl (λ_ _=>Tryz.call50 _ _) zS (λHO=>?_);have eu:=eu HO;refine af ?_;refine ae λK1 aN=>?_;refine af ?_;apply aB rfl;apply aj;refine zQ ?_;apply aN;clear aN;refine ae λK1 aN=>?_;refine af ?_;apply ag;refine aG (X:=Nat) (λi=>⟨[(2,.ptr H.length 0),(3,.ptr (H.length+1) 0),(5,.int .i64 (i:Nat))],H++[.cells (dY ⟨id,zs,ns⟩),.cells (dY ⟨id,zs,ns⟩)],T⟩) (λi=>i<=zs.length) (λi=>zs.length-i) 0 ?_ ?_ ?_
 ·exact ahE _
 ·exact wk eu
 ·intro i hi;refine ae λK2 ba=>?_;refine af ?_;refine aV rfl (λhk=>?_) (λhk=>?_)
  ·simp  at hk;obtain⟨x1,x2⟩:=wF zs i hk;have c:=λH=>Cz (zs.getD i z0).ws (h2 _ (aQ zs i z0 hk)).1 H T;generalize zs.getD i z0=z at *;obtain⟨zf,zw⟩:=z;simp only at x1 x2 c;apply aj;refine zQ ?_;apply ba;clear ba;refine ae λK3 bH=>?_;apply ag;refine bC [] [] [] ?_;simp(disch:=omega)[x1,x2,fW,hk];refine az (c _) rfl ?_;refine zQ ?_;apply aB rfl;apply aj;refine zQ ?_;apply bH;clear bH;refine aJ ?_;refine⟨i+1,zO,zO,?_⟩;exact wk eu
  ·simp  at hk;apply aD;refine zQ ?_;apply aN;clear aN;refine ae λK1 aN=>?_;refine af ?_;apply ag;refine aG (X:=Nat) (λi=>⟨[(2,.ptr H.length 0),(3,.ptr (H.length+1) 0),(6,.int .i64 (i:Nat))],H++[.cells (dY ⟨id,zs,ns⟩),.cells (dY ⟨id,zs,ns⟩)],T⟩) (λi=>i<=ns.length) (λi=>ns.length-i) 0 ?_ ?_ ?_
   ·exact ahE _
   ·exact wk eu
   ·intro j hj;refine ae λK2 ba=>?_;refine af ?_;refine aV rfl (λeL=>?_) (λeL=>?_)
    ·simp  at eL;have bB:=fH ns j eL;generalize ns.getD j n0=x at *;obtain⟨y1,y2⟩:=x;simp only at bB;apply aj;refine zQ ?_;apply ba;clear ba;refine ae λK3 bH=>?_;apply ag;refine bC [] [] [] ?_;simp(disch:=omega)[bB,cE,eL];apply aB rfl;apply aj;refine zQ ?_;apply bH;clear bH;refine aJ ?_;refine⟨j+1,zO,zO,?_⟩;exact wk eu
    ·simp  at eL;apply aD;refine zQ ?_;apply aN;clear aN;refine af ?_;exact bu zC
attribute [-simp] List.getD_eq_getElem?_getD in
def FI (l:List Dc)(hl:l.length<=maxLen)(hd:∀d∈l,pt d)(H:List aA)(T:au)(ta tb:Tag):aq Tryz.prog 37 [.sl l.length (aM l) ta,.sl l.length (aM l) tb] H T (Is (.bool true) H T):=by
 refine aq.bR ?_;refine aq.bK ?_ zS;have jY:l.length<=9223372036854775807:=ahA hl zD;refine ah 6 [] Tryz.ntmps37 Tryz.func37 rfl (λ_ _=>Tryz.call37 _ _) zS (λHO=>?_);refine af ?_;refine ae λK1 aN=>?_;refine af ?_;apply aB rfl;apply aj;refine zQ ?_;apply aN;clear aN;refine ae λK1 aN=>?_;refine af ?_;apply ag;refine aG (X:=Nat) (λi=>⟨[(0,.sl l.length (aM l) .none),(1,.sl l.length (aM l) .none),(5,.int .i64 (i:Nat))],H,T⟩) (λi=>i<=l.length) (λi=>l.length-i) 0 ?_ ?_ ?_
 ·exact ahE _
 ·exact wk HO
 ·intro i hi;refine ae λK2 ba=>?_;refine af ?_;refine aV rfl (λhk=>?_) (λhk=>?_)
  ·simp  at hk;have bB:=iw l i hk;have c:=λH=>FZ (l.getD i d0) (hd _ (aQ l i d0 hk)) H T;generalize l.getD i d0=x at *;apply aj;refine zQ ?_;apply ba;clear ba;refine ae λK3 bH=>?_;apply ag;refine bC [] [] [] ?_;simp(disch:=omega)[bB,bI,hk];refine az (c _) rfl ?_;refine zQ ?_;apply aB rfl;apply aj;refine zQ ?_;apply bH;clear bH;refine aJ ?_;refine⟨i+1,zO,zO,?_⟩;exact wk HO
  ·simp  at hk;apply aD;refine zQ ?_;apply aN;clear aN;refine af ?_;exact bu zC
end Go.Proofs.YtoejlmpbebjemaaGreat
