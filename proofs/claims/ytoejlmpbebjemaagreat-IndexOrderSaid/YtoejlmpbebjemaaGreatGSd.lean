/- Small documents (layers 37, 39): the reference's Small and Few.
  Conditions: lengths that memory holds. -/
import Derived.Test.YtoejlmpbebjemaaGreatGBC
set_option linter.all false
set_option maxRecDepth 100000
set_option maxHeartbeats 4000000
namespace Go.Proofs.YtoejlmpbebjemaaGreat
open Go Go.Am im eT
def RF (zs:List Zn):Int:=zs.foldl (λn z=>IntKind.i64.wrap (n+IntKind.i64.wrap (1+(z.ws.length:Int)))) 0
def Cy (d:Dc):Bool:=decide (RF d.zs<=60)&&decide (d.ns.length<=20)
def Df (l:List Dc):Bool:=(List.range l.length).all (λi=>Cy (l.getD i d0))&&decide (l.length<=8)
def Pg (zs:List Zn)(k:Nat)(h:k<zs.length):RF (zs.take (k+1))=IntKind.i64.wrap (RF (zs.take k)+IntKind.i64.wrap (1+((zs.getD k z0).ws.length:Int))):=by
 unfold RF;rw[aU zs k z0 h,ai0];rfl
attribute [-simp] List.getD_eq_getElem?_getD in
def WT (d:Dc)(hs:o5 d)(H:List az)(T:au):ar Tryz.prog 12 [.agg (dP d)] H T (Is (.bool (Cy d)) H T):=by
 refine ar.bV ?_ (by simp);have kH:maxLen<=9223372036854775807:=by decide
 obtain⟨id,zs,ns⟩:=d;obtain⟨hz,hw,hn⟩:=hs;simp only at hz hw hn ⊢;have hz':=aho hz kH;have Yv:=aho hn kH;generalize hq:Cy ⟨id,zs,ns⟩=q;unfold Cy at hq;simp only at hq;refine ah 6 [] Tryz.ntmps12 Tryz.func12 rfl (λ_ _=>Tryz.call12 _ _) (by simp) (λHO=>?_);apply ae;intro K Z;simp(disch:=omega);apply Z;have ff:bJ (H++[.cells (dP ⟨id,zs,ns⟩)]) T:=HO.snoc (by simp);apply ae;intro K Z;simp(disch:=omega);apply Z;refine af λK1 aO=>?_;apply ae;intro K Z;simp(disch:=omega);apply Z;apply aj;refine aI (X:=Nat) (λi=>⟨[(1,.ptr H.length 0),(3,.int .i64 (RF (zs.take i))),(4,.int .i64 (i:Nat))],H++[.cells (dP ⟨id,zs,ns⟩)],T⟩)
  (λi=>i<=zs.length) (λi=>zs.length-i) 0 ?_ ?_ ?_
 ·exact ahu _
 ·refine ag [] [] ?_ ?_ ?_ ?_ ff ?_
  all_goals simp[RF]
 ·intro i g1;refine af λK2 bc=>?_;apply ae;intro K Z;simp(disch:=omega);apply Z;refine aT rfl (λhk=>?_) (λhk=>?_)
  ·simp  at hk;obtain⟨_,a2⟩:=wk zs i hk;have sr:=aho (hw _ (aS zs i z0 hk)).1 kH;have iH:=Pg zs i hk;generalize (zs.getD i z0).ws=ws at *;generalize RF (zs.take i)=n at *;apply aq;simp(disch:=omega) ;apply bc;clear bc;refine af λK3 bD=>?_;apply aj;refine aB λK hK=>?_;simp(disch:=omega)[a2,fV,hk];apply hK;apply bD;clear bD;refine aB λK hK=>?_;simp(disch:=omega) ;apply hK;refine⟨i+1,by show i+1<=_;omega,by show zs.length-(i+1)<zs.length-i;omega,?_⟩;refine ag [] [] ?_ ?_ ?_ ?_ ff ?_
   all_goals simp[iH]
  ·simp  at hk;have CE:i=zs.length:=by omega
   subst CE;rw[ahE];apply aF;simp(disch:=omega) ;apply aO;clear aO;generalize RF zs=n at *
   by_cases h1:n<=60
   ·have b1:decide (n<=60)=true:=ahm h1
    by_cases h2:ns.length<=20
    ·have b2:decide ((ns.length:Int)<=20)=true:=ahm (by omega);refine ae λK hK=>?_;simp(disch:=omega)[b1,h1,b2,h2];apply hK;apply ay;simp(disch:=omega) ;rw[<-hq,b1,ahm h2];rfl
    ·have b2:decide ((ns.length:Int)<=20)=false:=ahn (by omega);refine ae λK hK=>?_;simp(disch:=omega)[b1,h1,b2,h2];apply hK;apply ay;simp(disch:=omega) ;rw[<-hq,b1,ahn h2];rfl
   ·have b1:decide (n<=60)=false:=ahn h1;refine ae λK hK=>?_;simp(disch:=omega)[b1,h1];apply hK;apply ay;simp(disch:=omega) ;rw[<-hq,b1];rfl
attribute [-simp] List.getD_eq_getElem?_getD in
theorem Ug (l:List Dc)(hl:l.length<=maxLen)(hs:∀d∈l,o5 d)(H:List az)(T:au)(tg:Tag):ar Tryz.prog 30 [.sl l.length (aM l) tg] H T (Is (.bool (Df l)) H T):=by
 refine ar.cg ?_;have kH:maxLen<=9223372036854775807:=by decide
 have jR:=aho hl kH;have bad:∀i,i<l.length->Cy (l.getD i d0)=false->Df l=false:=λi hi h=>by unfold Df;rw[mR hi h];rfl
 have wT:(∀i,i<l.length->Cy (l.getD i d0)=true)->Df l=decide (l.length<=8):=λh=>by unfold Df;rw[iQ h];rfl
 refine ah 4 [] Tryz.ntmps30 Tryz.func30 rfl (λ_ _=>Tryz.call30 _ _) (by simp) (λHO=>?_);apply ae;intro K Z;simp(disch:=omega);apply Z;refine af λK1 aO=>?_;apply ae;intro K Z;simp(disch:=omega);apply Z;apply aj;refine aI (X:=Nat) (λi=>⟨[(0,.sl l.length (aM l) .none),(3,.int .i64 (i:Nat))],H,T⟩)
  (λi=>i<=l.length/\∀j,j<i->Cy (l.getD j d0)=true) (λi=>l.length-i) 0 ?_ ?_ ?_
 ·exact⟨ahu _,λj hj=>absurd hj (ahO _)⟩
 ·refine ag [] [] ?_ ?_ ?_ ?_ HO ?_
  all_goals simp
 ·rintro i ⟨g1,g2⟩;refine af λK2 bc=>?_;apply ae;intro K Z;simp(disch:=omega);apply Z;refine aT rfl (λhk=>?_) (λhk=>?_)
  ·simp  at hk;have hcut:=fJ l i hk;have c:=WT (l.getD i d0) (hs _ (aS l i d0 hk)) H T;replace bad:=bad i hk;have sE:Cy (l.getD i d0)=true->∀j,j<i+1->Cy (l.getD j d0)=true:=λh j hj=>by
    rcases ahr j i with h1|h1
    ·exact g2 j h1
    ·have:j=i:=by omega
     subst this;exact h
   generalize Cy (l.getD i d0)=b at *;apply aq;simp(disch:=omega) ;apply bc;clear bc;refine af λK3 bD=>?_;apply aj
   cases b with
   |false=>
    refine ae λK hK=>?_;simp(disch:=omega)[hcut,ba,hk];refine ak (c) ?_;simp(disch:=omega) ;apply hK;apply aG rfl;apply ae;intro K Z;simp(disch:=omega);apply Z;apply ay;simp(disch:=omega) ;rw[bad rfl];exact⟨rfl,rfl,rfl⟩
   |true=>
    refine ae λK hK=>?_;simp(disch:=omega)[hcut,ba,hk];refine ak (c) ?_;simp(disch:=omega) ;apply hK;apply aD rfl;apply aq;simp(disch:=omega) ;apply bD;clear bD;refine aB λK hK=>?_;simp(disch:=omega) ;apply hK;refine⟨i+1,⟨by show i+1<=_;omega,sE rfl⟩,by show l.length-(i+1)<l.length-i;omega,?_⟩;refine ag [] [] ?_ ?_ ?_ ?_ HO ?_
    all_goals simp
  ·simp  at hk;apply aF;simp(disch:=omega) ;apply aO;clear aO;rw[wT λj hj=>g2 j (by omega)]
   by_cases h8:l.length<=8
   ·have b8:decide ((l.length:Int)<=8)=true:=ahm (by omega);refine ae λK hK=>?_;simp(disch:=omega)[b8,h8];apply hK;apply ay;simp(disch:=omega) ;exact⟨by rw[ahm h8],rfl,rfl⟩
   ·have b8:decide ((l.length:Int)<=8)=false:=ahn (by omega);refine ae λK hK=>?_;simp(disch:=omega)[b8,h8];apply hK;apply ay;simp(disch:=omega) ;exact⟨by rw[ahn h8],rfl,rfl⟩
end Go.Proofs.YtoejlmpbebjemaaGreat
