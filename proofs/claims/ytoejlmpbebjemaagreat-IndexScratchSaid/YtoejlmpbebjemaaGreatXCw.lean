/- The reference's Few and Current, of changes, and same (layer 40).
  Conditions: sizes, as the theorems say. -/
import Derived.Test.YtoejlmpbebjemaaGreatXCu
import Derived.Test.YtoejlmpbebjemaaGreatXZc
import Derived.Test.YtoejlmpbebjemaaGreatGSd
import Derived.Test.YtoejlmpbebjemaaGreatGZc
set_option linter.all false
set_option maxRecDepth 100000
set_option maxHeartbeats 4000000
namespace Go.Proofs.YtoejlmpbebjemaaGreat
open Go Go.Am ie cN eN
def Dp (l:List oI):Bool:=(List.range l.length).all (λi=>Gl (l.getD i o0).2)&&decide (l.length<=12)
def AM (l:List oI)(i:Nat)(h:i<l.length):((gF l).drop (i*4+1)).take 3=dY (l.getD i o0).2:=AN l i h
attribute [-simp] List.getD_eq_getElem?_getD in
theorem Qo (l:List oI)(hl:l.length<=maxLen)(hs:∀o∈l,pt o.2)(H:List aA)(T:au)(tg:Tag):aq Tryz.prog 11 [.sl l.length (gF l) tg] H T (Is (.bool (Dp l)) H T):=by
 refine aq.bR ?_;refine aq.bK ?_ zS;have hm:maxLen<=9223372036854775807:=zD;refine ah 4 [] Tryz.ntmps11 Tryz.func11 rfl (λ_ _=>Tryz.call11 _ _) zS (λHO=>?_);refine af ?_;refine ae λK1 aN=>?_;refine af ?_;apply ag;refine aG (X:=Nat) (λi=>⟨[(0,.sl l.length (gF l) .none),(3,.int .i64 (i:Nat))],H,T⟩) (λi=>i<=l.length/\∀j,j<i->Gl (l.getD j o0).2=true) (λi=>l.length-i) 0 ?_ ?_ ?_
 ·exact⟨ahE _,λj hj=>absurd hj (ahT _)⟩
 ·exact wk HO
 ·rintro i ⟨g1,g2⟩;refine ae λK2 ba=>?_
  by_cases hk:i<l.length
  ·have b1:decide ((i:Int)<(l.length:Int))=true:=ahx zO;have a3:=AM l i hk;have cs:=λH T=>WQ (l.getD i o0).2 (hs _ (aQ l i o0 hk)) H T;have Gy:Gl (l.getD i o0).2=true->∀j,j<i+1->Gl (l.getD j o0).2=true:=λh j hj=>by
    rcases ahD j i with h1|h1
    ·exact g2 j h1
    ·have:j=i:=zO;subst this;exact h
   have Wv:Gl (l.getD i o0).2=false->Dp l=false:=λh=>by unfold Dp;rw[kG hk h];rfl
   generalize (l.getD i o0).2=d at *;apply ar;simp(disch:=omega)[b1,hk];apply aC rfl;apply aj;apply ba;clear ba;refine ae λK3 bH=>?_;apply ag
   cases hb:Gl d with
   |false=>
    rw[hb] at cs;apply ar;simp(disch:=omega)[a3,hk,dV];refine ai (cs _ _) ?_;refine zQ ?_;apply aC rfl;refine af ?_;refine aI ?_;rw[Wv hb]
   |true=>
    rw[hb] at cs;apply ar;simp(disch:=omega)[a3,hk,dV];refine ai (cs _ _) ?_;refine zQ ?_;apply aB rfl;apply aj;apply bH;clear bH;refine aJ ?_;refine⟨i+1,⟨by show i+1<=_;omega,Gy hb⟩,by show l.length-(i+1)<l.length-i;omega,?_⟩;exact wk HO
  ·have b1:decide ((i:Int)<(l.length:Int))=false:=ahy zO;have:i=l.length:=zO;subst this;have e:Dp l=decide ((l.length:Int)<=12):=by
    unfold Dp;rw[gJ g2,aio]
    congr 1
    exact propext ⟨λh=>by omega,λh=>by omega⟩
   apply ar;simp(disch:=omega)[b1,hk];apply aB rfl;apply aD;refine zQ ?_;apply aN;clear aN;refine af ?_;refine aI ?_;rw[e]
   done
def aaC {l:List oI}(h:Dp l=true):l.length<=12/\∀o∈l,Gl o.2=true:=by
 unfold Dp at h;rw[ahG,ahH,ah3] at h;refine⟨h.2,λo ho=>?_⟩;obtain⟨i,hi,rfl⟩:=bP o0 ho;exact h.1 i (ahV.2 hi)
def QC (a:List Dc)(o:oI):(wm a o).length<=a.length+1:=by
 unfold wm;have:=ahX (λy:Dc=>!decide (y.id=o.2.id)) a
 split
 ·omega
 ·split
  ·rw[ahw,ain];omega
  ·omega
theorem yc:∀(l:List oI)(i:Nat),i<=l.length->(kL (l.take i)).length<=i
 |l,0,_=>by simp[kL]
 |l,i+1,h=>by
  have e:kL (l.take (i+1))=wm (kL (l.take i)) (l.getD i o0):=by
   unfold kL;rw[aX l i o0 h,ai8];rfl
  rw[e];have h1:=QC (kL (l.take i)) (l.getD i o0);have h2:=yc l i zO;omega
def pK (a:List Dc)(id:Int)(j:Nat):List Dc:=(a.take j).filter λy=>!decide (y.id=id)
def LQ {a:List Dc}(id:Int){j:Nat}(h:j<a.length):pK a id (j+1)=pK a id j++(if (a.getD j d0).id=id then [] else [a.getD j d0]):=by
 unfold pK;rw[aX a j d0 h,aij]
 congr 1
 by_cases hm:(a.getD j d0).id=id<;>simp[hm,-List.getD_eq_getElem?_getD]
attribute [-simp] List.getD_eq_getElem?_getD in
theorem Il (l:List oI)(hl:l.length<=1000)(hs:∀o∈l,pt o.2)(H:List aA)(T:au)(tg:Tag):aq Tryz.prog 35 [.sl l.length (gF l) tg] H T (Is (.sl (dQ (kL l)).length (aM (dQ (kL l))) .none) H T):=by
 refine aq.bR ?_;refine aq.bK ?_ zS;refine ah 7 [] Tryz.ntmps35 Tryz.func35 rfl (λ_ _=>Tryz.call35 _ _) zS (λHO=>?_);refine af ?_;refine af ?_;refine ae λK1 aN=>?_;refine af ?_;apply ag;refine aG (X:=Nat) (λi=>⟨[(0,.sl l.length (gF l) .none),(3,.sl (kL (l.take i)).length (aM (kL (l.take i))) .none),(4,.int .i64 (i:Nat))],H,T⟩) (λi=>i<=l.length) (λi=>l.length-i) 0 ?_ ?_ ?_
 ·exact ahE _
 ·refine ak [] [] ?_ ?_ ?_ ?_ HO ?_
  all_goals simp[kL,oc]
 ·intro i g1;refine ae λK2 ba=>?_
  by_cases hk:i<l.length
  ·have b1:decide ((i:Int)<(l.length:Int))=true:=ahx zO;obtain⟨a1,a2⟩:=Eu l i hk;have a3:=AM l i hk;have CP:=hs _ (aQ l i o0 hk);have cv:=λH T=>vF (l.getD i o0).2 CP H T;have kX:kL (l.take (i+1))=wm (kL (l.take i)) (l.getD i o0):=by
    unfold kL;rw[aX l i o0 hk,ai8];rfl
   have gg:=yc l i g1;generalize hgx:kL (l.take (i+1))=nx at *;generalize kL (l.take i)=acc at *;generalize l.getD i o0=o at *;obtain⟨dr,d⟩:=o;simp only at a1 a2 a3 CP cv;apply ar;simp(disch:=omega)[b1,hk];apply aC rfl;apply aj;apply ba;clear ba;refine ae λK3 bH=>?_;apply ag;have fin:∀e U,bA H.length T.length e [(0,.sl l.length (gF l) .none),(3,.sl nx.length (aM nx) .none),(4,.int .i64 (i:Nat))]->K3 ⟨e,H,T++U⟩:=by
    intro e U he;refine bH _ (aF ⟨[(0,.sl l.length (gF l) .none),(3,.sl nx.length (aM nx) .none),(4,.int .i64 (i:Nat))],H,T⟩ (ak [] U zS zS zS zS HO he) ?_);refine aJ ?_;refine⟨i+1,by show i+1<=_;omega,by show l.length-(i+1)<l.length-i;omega,?_⟩;refine ak [] [] ?_ ?_ ?_ ?_ HO ?_
    all_goals simp[hgx]
   clear bH;refine ae λK4 iQ=>?_;refine aK λK hK=>?_;have go:∀e,(dr=true\/aU d=true)->bA H.length T.length e [(0,.sl l.length (gF l) .none),(3,.sl acc.length (aM acc) .none),(4,.int .i64 (i:Nat)),(27,.bool false)]->K ⟨e,H,T⟩:=by
    intro e je he;refine hK _ (aF ⟨[(0,.sl l.length (gF l) .none),(3,.sl acc.length (aM acc) .none),(4,.int .i64 (i:Nat)),(27,.bool false)],H,T⟩ (ak [] [] zS zS zS zS HO he) ?_);clear hK he;apply aB rfl;apply aj;apply iQ;clear iQ;refine af ?_;refine ki 5 0 3 [] zO zS ?_;refine zQ ?_;refine ae λK4 iQ=>?_;refine af ?_;apply ag;have HOt:∀u:Nat×Nat,bM H (T++[u]):=λu=>HO.fS zS;refine aG (X:=Nat) (λj=>⟨[(0,.sl l.length (gF l) .none),(3,.sl acc.length (aM acc) .none),(4,.int .i64 (i:Nat)),(5,.sl (pK acc d.id j).length (aM (pK acc d.id j)) (.own T.length)),(6,.int .i64 (j:Nat))],H,T++[((pK acc d.id j).length*3,3)]⟩) (λj=>j<=acc.length) (λj=>acc.length-j) 0 ?_ ?_ ?_
    ·exact ahE _
    ·refine ak [] [] ?_ ?_ ?_ ?_ (HOt _) ?_
     all_goals simp[pK,oc]
    ·intro j q1;refine ae λK5 iT=>?_
     by_cases hj:j<acc.length
     ·have b2:decide ((j:Int)<(acc.length:Int))=true:=ahx zO;have bB:=iw acc j hj;have gA:=(kF acc j hj).1;have JW:=LQ (a:=acc) d.id hj;have hol:(pK acc d.id j).length<=1000:=by
       unfold pK;refine ahA (ahX _ _) ?_;rw[ahW];omega
      have hlen:=bI (pK acc d.id j);generalize Gy:pK acc d.id (j+1)=on at *;generalize pK acc d.id j=ot at *;generalize acc.getD j d0=y at *;apply ar;simp(disch:=omega)[b2,hj];apply aC rfl;apply aj;apply iT;clear iT;refine ae λK6 jZ=>?_;apply ag
      by_cases he:y.id=d.id
      ·have b3:(y.id==d.id)=true:=by simpa using he
       rw[ahF he,ahS] at JW;refine bC [] [0,0,0,0,0,0,0,0,0,0,0,0] [] ?_;simp(disch:=omega)[gA,hj,bI,a2,hk,dV,b3,he];refine aV rfl (λh=>absurd h (by simp[he])) (λh=>?_);apply aj;apply jZ;clear jZ;refine aJ ?_;refine⟨j+1,by show j+1<=_;omega,by show acc.length-(j+1)<acc.length-j;omega,?_⟩;refine ak [] [] ?_ ?_ ?_ ?_ (HOt _) ?_
       all_goals simp[Gy,JW]
      ·have b3:(y.id==d.id)=false:=by simpa using he
       rw[ahC he] at JW;refine bC [] [0,0,0,0,0,0,0,0,0,0,0,0] [] ?_;simp(disch:=omega)[gA,hj,bI,a2,hk,dV,b3,he];refine aV rfl (λh=>?_) (λh=>absurd h (by simp[he]));refine br λK hK=>?_;simp(disch:=omega)[bB,hj,bI,Ba];apply hK;apply jZ;clear jZ;refine aJ ?_;refine⟨j+1,by show j+1<=_;omega,by show acc.length-(j+1)<acc.length-j;omega,?_⟩;refine ak [] [] ?_ ?_ ?_ ?_ (HOt _) ?_
       all_goals simp[Gy,JW]
     ·have b2:decide ((j:Int)<(acc.length:Int))=false:=ahy zO;have:j=acc.length:=zO;subst this;have hof:pK acc d.id acc.length=acc.filter λy=>!decide (y.id=d.id):=by unfold pK;rw[ahO]
      have hol:(pK acc d.id acc.length).length<=1000:=by
       rw[hof];exact ahA (ahX _ _) zO
      have hlen:=bI (pK acc d.id acc.length);generalize pK acc d.id acc.length=ot at *;apply ar;simp(disch:=omega)[b2,hj];apply aB rfl;apply aD;refine zQ ?_;apply iQ;clear iQ;refine ae λK4 iQ=>?_
      cases dr with
      |true=>
       have e:nx=ot:=by rw[kX,hof];unfold wm;rw[ahF rfl]
       apply ar;simp(disch:=omega)[a1,hk,dV];apply aB rfl;apply aj;refine zQ ?_;apply iQ;clear iQ;refine aJ ?_;refine fin _ [_] ?_;simp[e]
      |false=>
       have hv:aU d=true:=je.resolve_left zS;have e:nx=ot++[d]:=by rw[kX,hof];unfold wm;rw[ahC zS,ahF hv]
       apply ar;simp(disch:=omega)[a1,hk,dV];apply aC rfl;refine br λK hK=>?_;simp(disch:=omega)[a3,hk,dV,Ba];apply hK;apply iQ;clear iQ;refine aJ ?_;refine fin _ [_] ?_;simp[e]
   cases dr with
   |true=>
    simp(disch:=omega)[a1,hk,dV];refine go _ (.inl rfl) ?_;simp
   |false=>
    cases hv:aU d with
    |true=>
     rw[hv] at cv;simp(disch:=omega)[a1,hk,dV,a3];refine ai (cv _ _) ?_;refine zQ ?_;refine go _ (.inr hv) ?_;simp
    |false=>
     rw[hv] at cv;simp(disch:=omega)[a1,hk,dV,a3];refine ai (cv _ _) ?_;refine zQ ?_;refine hK _ ?_;clear go hK K;apply aC rfl;apply aD;refine zQ ?_;have e:nx=acc:=by rw[kX];unfold wm;rw[ahC zS,ahC (by rw[hv];simp)]
     rw[<-List.append_nil T];refine fin _ [] ?_;simp[e]
  ·have b1:decide ((i:Int)<(l.length:Int))=false:=ahy zO;have:i=l.length:=zO;subst this;have gg:=yc l l.length (ahv _);rw[ahO] at gg;have cs:=λH T=>vI (kL l) zO H T .none;apply ar;simp(disch:=omega)[b1,hk];apply aB rfl;apply aD;refine zQ ?_;apply aN;clear aN;apply ar;refine zQ ?_;refine ai (cs _ _) ?_;refine zQ ?_;exact bu zC
end Go.Proofs.YtoejlmpbebjemaaGreat
