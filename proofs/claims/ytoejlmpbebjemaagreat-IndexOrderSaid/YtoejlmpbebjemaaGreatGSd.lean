/- Small documents (layers 37, 39): the reference's Small and Few.
  Conditions: lengths that memory holds. -/
import Derived.Test.YtoejlmpbebjemaaGreatGBC
set_option linter.all false
set_option maxRecDepth 100000
set_option maxHeartbeats 4000000
namespace Go.Proofs.YtoejlmpbebjemaaGreat
open Go Go.Am ia eN
def QL (zs:List Zn):Int:=zs.foldl (λn z=>IntKind.i64.wrap (n+IntKind.i64.wrap (1+(z.ws.length:Int)))) 0
def Ca (d:Dc):Bool:=decide (QL d.zs<=60)&&decide (d.ns.length<=20)
def CM (l:List Dc):Bool:=(List.range l.length).all (λi=>Ca (l.getD i d0))&&decide (l.length<=8)
def Oo (zs:List Zn)(k:Nat)(h:k<zs.length):QL (zs.take (k+1))=IntKind.i64.wrap (QL (zs.take k)+IntKind.i64.wrap (1+((zs.getD k z0).ws.length:Int))):=by
 unfold QL;rw[aV zs k z0 h,ail];rfl
attribute [-simp] List.getD_eq_getElem?_getD in
def V1 (d:Dc)(hs:oY d)(H:List aA)(T:au):ar Tryz.prog 12 [.agg (dO d)] H T (Is (.bool (Ca d)) H T):=by
 refine ar.bZ ?_ (by simp);have kC:maxLen<=9223372036854775807:=by decide
 obtain⟨id,zs,ns⟩:=d;obtain⟨hz,hw,hn⟩:=hs;simp only at hz hw hn ⊢;have Jn:=agJ hz kC;have XK:=agJ hn kC;generalize hq:Ca ⟨id,zs,ns⟩=q;unfold Ca at hq;simp only at hq;refine ah 6 [] Tryz.ntmps12 Tryz.func12 rfl (λ_ _=>Tryz.call12 _ _) (by simp) (λHO=>?_);apply ae;intro K Z;simp(disch:=omega);apply Z;have eV:bN (H++[.cells (dO ⟨id,zs,ns⟩)]) T:=HO.snoc (by simp);apply ae;intro K Z;simp(disch:=omega);apply Z;refine af λK1 aP=>?_;apply ae;intro K Z;simp(disch:=omega);apply Z;apply aj;refine aJ (X:=Nat) (λi=>⟨[(1,.ptr H.length 0),(3,.int .i64 (QL (zs.take i))),(4,.int .i64 (i:Nat))],H++[.cells (dO ⟨id,zs,ns⟩)],T⟩)
  (λi=>i<=zs.length) (λi=>zs.length-i) 0 ?_ ?_ ?_
 ·exact agP _
 ·refine ag [] [] ?_ ?_ ?_ ?_ eV ?_
  all_goals simp[QL]
 ·intro i g1;refine af λK2 bp=>?_;apply ae;intro K Z;simp(disch:=omega);apply Z;refine aU rfl (λhk=>?_) (λhk=>?_)
  ·simp  at hk;obtain⟨_,a2⟩:=vZ zs i hk;have sa:=agJ (hw _ (aT zs i z0 hk)).1 kC;have iz:=Oo zs i hk;generalize (zs.getD i z0).ws=ws at *;generalize QL (zs.take i)=n at *;apply aq;simp(disch:=omega) ;apply bp;clear bp;refine af λK3 bG=>?_;apply aj;refine aC λK hK=>?_;simp(disch:=omega)[a2,fN,hk];apply hK;apply bG;clear bG;refine aC λK hK=>?_;simp(disch:=omega) ;apply hK;refine⟨i+1,by show i+1<=_;omega,by show zs.length-(i+1)<zs.length-i;omega,?_⟩;refine ag [] [] ?_ ?_ ?_ ?_ eV ?_
   all_goals simp[iz]
  ·simp  at hk;have Cg:i=zs.length:=by omega
   subst Cg;rw[agZ];apply aG;simp(disch:=omega) ;apply aP;clear aP;generalize QL zs=n at *
   by_cases h1:n<=60
   ·have b1:decide (n<=60)=true:=agH h1
    by_cases h2:ns.length<=20
    ·have b2:decide ((ns.length:Int)<=20)=true:=agH (by omega);refine ae λK hK=>?_;simp(disch:=omega)[b1,h1,b2,h2];apply hK;apply az;simp(disch:=omega) ;rw[<-hq,b1,agH h2];rfl
    ·have b2:decide ((ns.length:Int)<=20)=false:=agI (by omega);refine ae λK hK=>?_;simp(disch:=omega)[b1,h1,b2,h2];apply hK;apply az;simp(disch:=omega) ;rw[<-hq,b1,agI h2];rfl
   ·have b1:decide (n<=60)=false:=agI h1;refine ae λK hK=>?_;simp(disch:=omega)[b1,h1];apply hK;apply az;simp(disch:=omega) ;rw[<-hq,b1];rfl
attribute [-simp] List.getD_eq_getElem?_getD in
theorem S9 (l:List Dc)(hl:l.length<=maxLen)(hs:∀d∈l,oY d)(H:List aA)(T:au)(tg:Tag):ar Tryz.prog 30 [.sl l.length (aN l) tg] H T (Is (.bool (CM l)) H T):=by
 refine ar.cF ?_;have kC:maxLen<=9223372036854775807:=by decide
 have jJ:=agJ hl kC;have bad:∀i,i<l.length->Ca (l.getD i d0)=false->CM l=false:=λi hi h=>by unfold CM;rw[mI hi h];rfl
 have wI:(∀i,i<l.length->Ca (l.getD i d0)=true)->CM l=decide (l.length<=8):=λh=>by unfold CM;rw[iJ h];rfl
 refine ah 4 [] Tryz.ntmps30 Tryz.func30 rfl (λ_ _=>Tryz.call30 _ _) (by simp) (λHO=>?_);apply ae;intro K Z;simp(disch:=omega);apply Z;refine af λK1 aP=>?_;apply ae;intro K Z;simp(disch:=omega);apply Z;apply aj;refine aJ (X:=Nat) (λi=>⟨[(0,.sl l.length (aN l) .none),(3,.int .i64 (i:Nat))],H,T⟩)
  (λi=>i<=l.length/\∀j,j<i->Ca (l.getD j d0)=true) (λi=>l.length-i) 0 ?_ ?_ ?_
 ·exact⟨agP _,λj hj=>absurd hj (ag9 _)⟩
 ·refine ag [] [] ?_ ?_ ?_ ?_ HO ?_
  all_goals simp
 ·rintro i ⟨g1,g2⟩;refine af λK2 bp=>?_;apply ae;intro K Z;simp(disch:=omega);apply Z;refine aU rfl (λhk=>?_) (λhk=>?_)
  ·simp  at hk;have bu:=fC l i hk;have c:=V1 (l.getD i d0) (hs _ (aT l i d0 hk)) H T;replace bad:=bad i hk;have sq:Ca (l.getD i d0)=true->∀j,j<i+1->Ca (l.getD j d0)=true:=λh j hj=>by
    rcases agM j i with h1|h1
    ·exact g2 j h1
    ·have:j=i:=by omega
     subst this;exact h
   generalize Ca (l.getD i d0)=b at *;apply aq;simp(disch:=omega) ;apply bp;clear bp;refine af λK3 bG=>?_;apply aj
   cases b with
   |false=>
    refine ae λK hK=>?_;simp(disch:=omega)[bu,bf,hk];refine ak (c) ?_;simp(disch:=omega) ;apply hK;apply aH rfl;apply ae;intro K Z;simp(disch:=omega);apply Z;apply az;simp(disch:=omega) ;rw[bad rfl];exact⟨rfl,rfl,rfl⟩
   |true=>
    refine ae λK hK=>?_;simp(disch:=omega)[bu,bf,hk];refine ak (c) ?_;simp(disch:=omega) ;apply hK;apply aF rfl;apply aq;simp(disch:=omega) ;apply bG;clear bG;refine aC λK hK=>?_;simp(disch:=omega) ;apply hK;refine⟨i+1,⟨by show i+1<=_;omega,sq rfl⟩,by show l.length-(i+1)<l.length-i;omega,?_⟩;refine ag [] [] ?_ ?_ ?_ ?_ HO ?_
    all_goals simp
  ·simp  at hk;apply aG;simp(disch:=omega) ;apply aP;clear aP;rw[wI λj hj=>g2 j (by omega)]
   by_cases h8:l.length<=8
   ·have b8:decide ((l.length:Int)<=8)=true:=agH (by omega);refine ae λK hK=>?_;simp(disch:=omega)[b8,h8];apply hK;apply az;simp(disch:=omega) ;exact⟨by rw[agH h8],rfl,rfl⟩
   ·have b8:decide ((l.length:Int)<=8)=false:=agI (by omega);refine ae λK hK=>?_;simp(disch:=omega)[b8,h8];apply hK;apply az;simp(disch:=omega) ;exact⟨by rw[agI h8],rfl,rfl⟩
end Go.Proofs.YtoejlmpbebjemaaGreat
