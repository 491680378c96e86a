/- Insertion sort and the stable sort of at most 20 documents in a box, for a comparison that is known of some documents.
  Conditions: at most 20 documents. -/
import Derived.Test.YtoejlmpbebjemaaGreatGA
set_option linter.all false
set_option maxRecDepth 100000
set_option maxHeartbeats 4000000
namespace V1
open eT
abbrev GE:=Nat×Dc
def ky (x:GE):Int:=-x.2.id
def Yf (a b:Nat):Bool:=decide (a<b)
abbrev ze:GE:=(0,d0)
def swp (d:List GE)(i j:Nat):List GE:=(d.set i (d.getD j ze)).set j (d.getD i ze)
def Te {d:List GE}{i j:Nat}(hi:i<d.length)(hj:j<d.length)(t:Nat):(swp d i j).getD t ze=if t=j then d.getD i ze else if t=i then d.getD j ze else d.getD t ze:=by
 unfold swp;rw[ahg,ajW]
 by_cases h1:t=j
 ·subst h1;rw[ahs rfl,ahs (by simpa using hj),ahs rfl];rfl
 ·rw[ahq (Ne.symm h1),ahq h1,ajW]
  by_cases h2:t=i
  ·subst h2;rw[ahs rfl,ahs hi,ahs rfl];rfl
  ·rw[ahq (Ne.symm h2),ahq h2,ahg]
def Pr {d:List GE}{i j:Nat}(hi:i<d.length)(hj:j<d.length):(swp d i j).Perm d:=by
 have h:=(Array.swap_perm (xs:=d.toArray) (i:=i) (j:=j) (by simpa using hi) (by simpa using hj)).toList;have e:(d.toArray.swap i j (by simpa using hi) (by simpa using hj)).toList=swp d i j:=by
  simp[Array.swap,swp,hi,hj]
 rw[e] at h;exact h
end V1
namespace Go.Proofs.YtoejlmpbebjemaaGreat
open Go Go.Am eT V1
def lV (l:List GE):List AV:=l.flatMap λe=>dP e.2
def JO:eu (λe:GE=>dP e.2) 3:=λ_=>rfl
def tD (l:List GE):(lV l).length=l.length*3:=bU JO l
@[simp] theorem acJ (n t:Nat) (l:List GE):aK n t (lV l):=fN (f:=λe:GE=>dP e.2) (λx=>by simp) l
def EF (l:List GE):lV l=aM (l.map (·.2)):=by simp[lV,aM,aix]
def O6 {d:List GE}{k:Nat}(rest:List AV)(h:k<d.length):((lV d++rest).drop (k*3)).take 3=dP (d.getD k ze).2:=by
 have hl:=tD d;rw[aju (by omega),air (by simp;omega)];exact fW JO d k ze h
theorem G4:∀(d:List GE)(k:Nat)(rest:List AV)(e:GE),k<d.length->(((lV d++rest).set (k*3) (.int .i64 e.2.id)).set (k*3+1) (.sl e.2.zs.length (fu e.2.zs) .none)).set (k*3+2) (.sl e.2.ns.length (br e.2.ns) .none)=lV (d.set k e)++rest
 |[],k,_,_,h=>by simp at h
 |x::d,0,rest,e,_=>by simp[lV]
 |x::d,k+1,rest,e,h=>by
  have ih:=G4 d k rest e (by simpa using h);rw[show (k+1)*3=k*3+1+1+1 by omega];simp only[lV,ahy,ajv,aiQ,List.set_cons_succ,ahA] at ih ⊢;rw[ih]
def Xh (d:List GE)(i j:Nat)(rest:List AV)(hi:i<d.length)(hj:j<d.length) :
  ((((((lV d++rest).set (i*3) (.int .i64 (d.getD j ze).2.id)).set (i*3+1) (.sl (d.getD j ze).2.zs.length (fu (d.getD j ze).2.zs) .none)).set (i*3+2) (.sl (d.getD j ze).2.ns.length (br (d.getD j ze).2.ns) .none)).set (j*3) (.int .i64 (d.getD i ze).2.id)).set (j*3+1) (.sl (d.getD i ze).2.zs.length (fu (d.getD i ze).2.zs) .none)).set (j*3+2) (.sl (d.getD i ze).2.ns.length (br (d.getD i ze).2.ns) .none)=lV (swp d i j)++rest:=by
 rw[G4 d i rest (d.getD j ze) hi,G4 _ j rest (d.getD i ze) (by simpa using hj)];rfl
def GM (P:Dc->Prop)(g:Nat):Prop:=∀(x y:Dc),P x->P y->∀(H:List az)(T:au),∃q:Int,ar Tryz.prog g [.agg (dP x),.agg (dP y)] H T (Is (.int .i64 q) H T)/\(q<0↔x.id<y.id)
def GM.at {P:Dc->Prop}{g:Nat}(h:GM P g)(x y:GE)(hx:P x.2)(hy:P y.2)(H:List az)(T:au):∃q:Int,ar Tryz.prog g [.agg (dP x.2),.agg (dP y.2)] H T (Is (.int .i64 q) H T)/\(q<0↔ky y<ky x):=by
 obtain⟨q,h1,h2⟩:=h x.2 y.2 hx hy H T;exact⟨q,h1,h2.trans (by unfold ky;omega)⟩
def WU {H:List az}{i:Nat}{x:az}(hi:H[i]?=some x):H.set i x=H:=by
 apply aja;intro j
 by_cases hj:i=j
 ·subst hj;rw[ahK (ahh.1 hi).1,hi]
 ·rw[ah7 hj]
def Vx (i:Nat)(rest:List AV)(H:List az)(T:au)(R:List GE->Prop):AV->List az->au->Prop:=λr H' T'=>r=.df []/\T'=T/\∃d',H'=H.set i (.cells (lV d'++rest))/\R d'
end Go.Proofs.YtoejlmpbebjemaaGreat
namespace V1
open Go.Proofs.YtoejlmpbebjemaaGreat
def fb (x y:GE):Bool:=decide ((ky y)<(ky x))||(decide ((ky x)=(ky y))&&Yf x.1 y.1)
def Vt {x y:GE}(h:fb x y=true):(ky y)<=(ky x):=by
 simp only[fb,aic,aht,ahv] at h;rcases h with h|h<;>omega
def Vs {x y:GE}(h:(ky y)<(ky x)):fb x y=true:=by simp[fb,h]
def aau {x y:GE}(h:(ky y)<=(ky x))(hw:Yf x.1 y.1=true):fb x y=true:=by
 rcases Int.lt_or_le (ky y) (ky x) with h1|h1
 ·exact Vs h1
 ·have:(ky x)=(ky y):=by omega
  simp[fb,this,hw]
def Od (d:List GE)(a b:Nat):Prop:=∀i j,a<=i->i<j->j<b->fb (d.getD i ze) (d.getD j ze)=true
def Wg (d:List GE)(a b:Nat):Prop:=∀i j,a<=i->i<j->j<b->Yf (d.getD i ze).1 (d.getD j ze).1=true
structure Sx (d d':List GE)(a b:Nat):Prop where
 perm:d'.Perm d
 out:∀t,t<a\/b<=t->d'.getD t ze=d.getD t ze
 frm:∀t,a<=t->t<b->∃u,a<=u/\u<b/\d'.getD t ze=d.getD u ze
theorem Sx.refl (d:List GE)(a b:Nat):Sx d d a b:=⟨.refl _,λ_ _=>rfl,λt h1 h2=>⟨t,h1,h2,rfl⟩⟩
theorem Sx.trans {d e f:List GE}{a b:Nat}(h:Sx d e a b)(k:Sx e f a b):Sx d f a b:=by
 refine⟨k.perm.trans h.perm,λt ht=>(k.out t ht).trans (h.out t ht),λt h1 h2=>?_⟩;obtain⟨u,g1,g2,g3⟩:=k.frm t h1 h2;obtain⟨v,g4,g5,g6⟩:=h.frm u g1 g2;exact⟨v,g4,g5,g3.trans g6⟩
def Sx.wide {d e:List GE}{a b a' b':Nat}(h:Sx d e a b)(ha:a'<=a)(hb:b<=b'):Sx d e a' b':=by
 refine⟨h.perm,λt ht=>h.out t (by omega),λt h1 h2=>?_⟩
 by_cases tY:a<=t/\t<b
 ·obtain⟨u,g1,g2,g3⟩:=h.frm t tY.1 tY.2;exact⟨u,by omega,by omega,g3⟩
 ·exact⟨t,h1,h2,h.out t (by omega)⟩
def Sx.len {d e:List GE}{a b:Nat}(h:Sx d e a b):e.length=d.length:=h.perm.length_eq
def NP (d d2:List GE)(j i:Nat):Prop:=∀t,d2.getD t ze=if t=j then d.getD i ze else if j<t/\t<=i then d.getD (t-1) ze else d.getD t ze
def NP.zero (d:List GE)(i:Nat):NP d d i i:=by
 intro t
 split
 ·rename_i h;rw[h]
 ·rw[ahq (by omega)]
def NP.step {d d2:List GE}{j i:Nat}(h:NP d d2 j i)(hj:0<j)(hji:j<=i)(hl:i<d2.length):NP d (swp d2 j (j-1)) (j-1) i:=by
 intro t;rw[Te (by omega) (by omega)]
 by_cases h1:t=j-1
 ·rw[ahs h1,ahs h1,h j,ahs rfl]
 ·rw[ahq h1,ahq h1]
  by_cases h2:t=j
  ·subst h2;rw[ahs rfl,ahs (by omega),h (t-1),ahq (by omega),ahq (by omega)]
  ·rw[ahq h2,h t,ahq h2]
   by_cases h3:j<t/\t<=i
   ·rw[ahs h3,ahs (by omega)]
   ·rw[ahq h3,ahq (by omega)]
def NP.seg {d d2:List GE}{j i:Nat}(h:NP d d2 j i)(hji:j<=i)(hp:d2.Perm d):Sx d d2 j (i+1):=by
 refine⟨hp,λt ht=>?_,λt h1 h2=>?_⟩
 ·rw[h t,ahq (by omega),ahq (by omega)]
 ·rw[h t]
  split
  ·exact⟨i,by omega,by omega,rfl⟩
  ·split
   ·exact⟨t-1,by omega,by omega,rfl⟩
   ·exact⟨t,h1,h2,rfl⟩
def NP.sorted {d d2:List GE}{a j i:Nat}(h:NP d d2 j i)(haj:a<=j)(hji:j<=i)(hs:Od d a i)(hw:∀t,a<=t->t<i->Yf (d.getD t ze).1 (d.getD i ze).1=true)
  (hlo:∀t,a<=t->t<j->(ky (d.getD i ze))<=(ky (d.getD t ze))) (hhi:∀t,j<=t->t<i->(ky (d.getD t ze))<(ky (d.getD i ze))):Od d2 a (i+1):=by
 intro p q h1 h2 h3;rw[h p,h q]
 by_cases q1:q=j
 ·rw[ahs q1,ahq (by omega),ahq (by omega)];exact aau (hlo p h1 (by omega)) (hw p h1 (by omega))
 ·rw[ahq q1]
  by_cases p1:p=j
  ·rw[ahs p1,ahs (by omega)];exact Vs (hhi (q-1) (by omega) (by omega))
  ·rw[ahq p1]
   by_cases p2:j<p
   ·rw[ahs (by omega),ahs (by omega)];exact hs _ _ (by omega) (by omega) (by omega)
   ·rw[ahq (by omega)]
    by_cases q2:j<q
    ·rw[ahs (by omega)];exact hs _ _ (by omega) (by omega) (by omega)
    ·rw[ahq (by omega)];exact hs _ _ (by omega) (by omega) (by omega)
end V1
namespace Go.Proofs.YtoejlmpbebjemaaGreat
open Go Go.Am eT V1
def cv (g:Nat):AV:=.fn g [] []
attribute [-simp] List.getD_eq_getElem?_getD in
def Ms {P:Dc->Prop}{g:Nat}(hg:GM P g)(d:List GE)(hP:∀e∈d,P e.2)(rest:List AV)(a b i:Nat)(hab:a<=b)(vO:b<=d.length)(hl:d.length<=1000)(hw:Wg d a b)(H:List az)(T:au)(hi:H[i]?=some (.cells (lV d++rest)))(hr:aK H.length T.length rest) :
  ar Tryz.prog 185 [.cK i 0 d.length,.int .i64 (a:Nat),.int .i64 (b:Nat),.fn g [] []] H T (Vx i rest H T (λd'=>Sx d d' a b/\Od d' a b)):=by
 have eN:=(ahh.1 hi).1;have Z6:=WU hi;refine ah 10 [] Tryz.ntmps185 Tryz.func185 rfl (λ_ _=>Tryz.call185 _ _) (by simp) (λHO=>?_);apply ae;intro K Z;simp(disch:=omega);apply Z;apply aj;have Sb:∀d2,bJ (H.set i (.cells (lV d2++rest))) T:=λk=>HO.set (by simp[hr]);refine aI (X:=List GE×Nat) (λx=>⟨[(0,.cK i 0 d.length),(1,.int .i64 (a:Nat)),(2,.int .i64 (b:Nat)),(3,.fn g [] []),(8,.int .i64 ((x.2:Int)+1))],H.set i (.cells (lV x.1++rest)),T⟩)
  (λx=>a<=x.2/\(x.2+1<=b\/(x.1=d/\b=a))/\Sx d x.1 a (x.2+1)/\Od x.1 a (x.2+1)) (λx=>b-x.2) (d,a) ?_ ?_ ?_
 ·exact⟨ahj _,(Nat.eq_or_lt_of_le hab).elim (λh=>.inr ⟨rfl,h.symm⟩) .inl,Sx.refl _ _ _,λi j h1 h2 h3=>by simp only at h3;omega⟩
 ·refine ag [] [] ?_ ?_ ?_ ?_ (Sb d) ?_
  all_goals simp[Z6,eN]
 ·rintro⟨d1,k⟩ ⟨h1,h2,h3,h4⟩;simp only at h1 h2 h3 h4;have u7:=h3.len;refine af λK2 bc=>?_
  by_cases hk:k+1<b
  ·have bk:decide (((k:Int)+1)<b)=true:=ahm (by omega);have bk':((k:Int)+1)<b:=by omega
   refine ae λK hK=>?_;simp(disch:=omega)[bk,bk'];apply hK;apply aG rfl;apply aq;simp(disch:=omega) ;apply bc;clear bc;refine af λK3 bD=>?_;apply aj;apply ae;intro K Z;simp(disch:=omega);apply Z;apply aj;have hwx:∀t,a<=t->t<k+1->Yf (d1.getD t ze).1 (d1.getD (k+1) ze).1=true:=λt g1 g2=>by
    obtain⟨u,u1,u2,u3⟩:=h3.frm t g1 g2;rw[u3,h3.out (k+1) (by omega)];exact hw u (k+1) u1 (by omega) hk
   refine aI (X:=List GE×Nat) (λx=>⟨[(0,.cK i 0 d.length),(1,.int .i64 (a:Nat)),(2,.int .i64 (b:Nat)),(3,.fn g [] []),(8,.int .i64 ((k:Int)+1)),(9,.int .i64 (x.2:Nat))],H.set i (.cells (lV x.1++rest)),T⟩)
    (λx=>a<=x.2/\x.2<=k+1/\NP d1 x.1 x.2 (k+1)/\x.1.Perm d1/\∀t,x.2<=t->t<k+1->(ky (d1.getD t ze))<(ky (d1.getD (k+1) ze))) (λx=>x.2) (d1,k+1) ?_ ?_ ?_
   ·exact⟨by simp only;omega,ahj _,NP.zero _ _,.refl _,λt g1 g2=>by simp only at g1;omega⟩
   ·refine ag [] [] ?_ ?_ ?_ ?_ (Sb d1) ?_
    all_goals simp[eN]
   ·rintro⟨d2,j⟩ ⟨g1,g2,g3,g4,g5⟩;simp only at g1 g2 g3 g4 g5;have jH:=g4.length_eq;have go:(∀t,a<=t->t<j->(ky (d1.getD (k+1) ze))<=(ky (d1.getD t ze)))->∀e,bu H.length T.length e [(0,.cK i 0 d.length),(1,.int .i64 (a:Nat)),(2,.int .i64 (b:Nat)),(3,.fn g [] []),(8,.int .i64 ((k:Int)+1))]->K3 ⟨e,H.set i (.cells (lV d2++rest)),T⟩:=by
     intro hlo e he;refine bD _ (aH ⟨[(0,.cK i 0 d.length),(1,.int .i64 (a:Nat)),(2,.int .i64 (b:Nat)),(3,.fn g [] []),(8,.int .i64 ((k:Int)+1))],H.set i (.cells (lV d2++rest)),T⟩ (ag [] [] (by simp) (by simp) (by simp) (by simp) (Sb d2) (by simpa using he)) ?_);refine aB λK hK=>?_;simp(disch:=omega) ;apply hK;refine⟨(d2,k+1),⟨by simp only;omega,.inl (by simp only;omega),(h3.wide (ahj _) (by omega)).trans ((g3.seg g2 g4).wide g1 (ahj _)),g3.sorted g1 g2 h4 hwx hlo g5⟩,by show b-(k+1)<b-k;omega,?_⟩;refine ag [] [] ?_ ?_ ?_ ?_ (Sb d2) ?_
     all_goals simp[eN]
    refine af λK4 lN=>?_
    by_cases hj:a<j
    ·have bj:decide ((a:Int)<j)=true:=ahm (by omega);have hc1:=O6 (d:=d2) (k:=j) rest (by omega);have hc2:=O6 (d:=d2) (k:=j-1) rest (by omega);have ej:((j:Int)-1)=((j-1:Nat):Int):=by omega
     have hx:d2.getD j ze=d1.getD (k+1) ze:=by rw[g3 j,ahs rfl]
     have hy:d2.getD (j-1) ze=d1.getD (j-1) ze:=by rw[g3 (j-1),ahq (by omega),ahq (by omega)]
     have hPm:∀t,t<d2.length->P (d2.getD t ze).2:=λt ht=>hP _ (h3.perm.mem_iff.1 (g4.mem_iff.1 (aS d2 t ze ht)));obtain⟨q,c,Bm⟩:=hg.at (d2.getD j ze) (d2.getD (j-1) ze) (hPm j (by omega)) (hPm (j-1) (by omega)) (H.set i (.cells (lV d2++rest))) T;rw[hx,hy] at Bm
     by_cases hq:q<0
     ·have bq:decide (q<0)=true:=ahm hq;have hsw:=Xh d2 j (j-1) rest (by omega) (by omega);refine aJ [] [] [] aw (by kernel_rfl) (by kernel_rfl) λK hK=>?_;simp(disch:=omega)[bj,hj,ej,hc1,hc2,tD,jH,eN];refine aC (c) rfl ?_;simp(disch:=omega)[bq,hq];apply hK;apply aG rfl;apply aq;simp(disch:=omega) ;apply lN;clear lN;refine af λK5 lD=>?_;apply aj;refine cT [15,17] [0,0,0,0,0,0,0,0,0,0,0,0,0,0,0,0,1,1] [[2,3,4],[]] aw (by kernel_rfl) (by kernel_rfl) λK hK=>?_;simp(disch:=omega)[ej,hc1,hc2,tD,jH,eN];rw[hsw];apply hK;apply lD;clear lD;refine aB λK hK=>?_;simp(disch:=omega)[ej];apply hK;refine⟨(swp d2 j (j-1),j-1),⟨by simp only;omega,by simp only;omega,g3.step (by omega) g2 (by omega),(Pr (by omega) (by omega)).trans g4,λt t1 t2=>?_⟩,by show j-1<j;omega,?_⟩
      ·simp only at t1;rcases ahr t j with e|e
       ·have:t=j-1:=by omega
        subst this;exact Bm.1 hq
       ·exact g5 t e t2
      ·refine ag [] [] ?_ ?_ ?_ ?_ (Sb _) ?_
       all_goals simp[eN]
     ·have bq:decide (q<0)=false:=ahn hq;refine aJ [] [] [] aw (by kernel_rfl) (by kernel_rfl) λK hK=>?_;simp(disch:=omega)[bj,hj,ej,hc1,hc2,tD,jH,eN];refine aC (c) rfl ?_;simp(disch:=omega)[bq,hq];apply hK;apply aD rfl;apply aF;simp(disch:=omega) ;refine go (λt t1 t2=>?_) _ ?_
      ·have e1:(ky (d1.getD (k+1) ze))<=(ky (d1.getD (j-1) ze)):=by
        rcases Int.lt_or_le (ky (d1.getD (j-1) ze)) (ky (d1.getD (k+1) ze)) with e|e
        ·exact absurd (Bm.2 e) hq
        ·exact e
       rcases ahr t (j-1) with e2|e2
       ·have:=Vt (h4 t (j-1) t1 e2 (by omega));omega
       ·have:t=j-1:=by omega
        subst this;exact e1
      ·simp[eN]
    ·have bj:decide ((a:Int)<j)=false:=ahn (by omega);refine aJ [] [] [] aw (by kernel_rfl) (by kernel_rfl) λK hK=>?_;simp(disch:=omega)[bj,hj];apply hK;apply aD rfl;apply aF;simp(disch:=omega) ;refine go (λt t1 t2=>by omega) _ ?_;simp[eN]
  ·have bk:decide (((k:Int)+1)<b)=false:=ahn (by omega);have bk':¬((k:Int)+1)<b:=by omega
   refine ae λK hK=>?_;simp(disch:=omega)[bk,bk'];apply hK;apply aD rfl;apply aF;simp(disch:=omega) ;refine⟨rfl,rfl,d1,rfl,?_⟩;rcases h2 with h2|⟨h2,h5⟩
   ·have:k+1=b:=by omega
    rw[<-this];exact⟨h3,h4⟩
   ·subst h2;subst h5;exact⟨Sx.refl _ _ _,λp q q1 q2 q3=>by omega⟩
attribute [-simp] List.getD_eq_getElem?_getD in
def Ll {P:Dc->Prop}{g:Nat}(hg:GM P g)(N:Nat)(hN:N<=19)(d:List GE)(hP:∀e∈d,P e.2)(rest:List AV)(i:Nat)(hd:d.length=N)(hw:Wg d 0 N)(H:List az)(T:au)(hi:H[i]?=some (.cells (lV d++rest)))(hr:aK H.length T.length rest) :
  ar Tryz.prog 156 [.cK i 0 N,.int .i64 (N:Nat),.fn g [] []] H T (Vx i rest H T (λd'=>Sx d d' 0 N/\Od d' 0 N)):=by
 have eN:=(ahh.1 hi).1;have c:=Ms hg d hP rest 0 N i (by omega) (by omega) (by omega) hw H T hi hr;rw[hd] at c;have b1:decide ((20:Int)<=(N:Int))=false:=ahn (by omega);have b2:¬20<=N:=by omega
 have b3:decide ((20:Int)<(N:Int))=false:=ahn (by omega);have b4:¬20<N:=by omega
 refine ah 10 [] Tryz.ntmps156 Tryz.func156 rfl (λ_ _=>Tryz.call156 _ _) (by simp) (λHO=>?_);apply ae;intro K Z;simp(disch:=omega);apply Z;apply ae;intro K Z;simp(disch:=omega);apply Z;refine af λK1 aO=>?_;apply aj;refine aI (X:=Nat) (λ_=>⟨[(0,.cK i 0 N),(1,.int .i64 (N:Nat)),(2,.fn g [] []),(6,.int .i64 20),(7,.int .i64 0),(8,.int .i64 20)],H,T⟩) (λ_=>True) (λ_=>0) 0 trivial ?_ ?_
 ·refine ag [] [] ?_ ?_ ?_ ?_ HO ?_
  all_goals simp[eN]
 ·intro k _;refine af λK2 bc=>?_;refine ae λK hK=>?_;simp(disch:=omega)[b1,b2];apply hK;apply aD rfl;apply aF;simp(disch:=omega) ;apply aO;clear aO;refine ae λK hK=>?_;simp(disch:=omega) ;refine⟨_,c,?_⟩;rintro v H' T' ⟨rfl,rfl,d2,rfl,k1,k2⟩;simp(disch:=omega) ;apply hK;have fx:bJ (H.set i (.cells (lV d2++rest))) T':=HO.set (by simp[hr]);apply aj;refine aI (X:=Nat) (λ_=>⟨[(1,.int .i64 (N:Nat)),(6,.int .i64 20)],H.set i (.cells (lV d2++rest)),T'⟩) (λ_=>True) (λ_=>0) 0 trivial ?_ ?_
  ·refine ag [] [] ?_ ?_ ?_ ?_ fx ?_
   all_goals simp
  ·intro k _;refine af λK3 bD=>?_;refine ae λK hK=>?_;simp(disch:=omega)[b3,b4];apply hK;apply aD rfl;apply aF;simp(disch:=omega) ;exact⟨rfl,rfl,d2,rfl,k1,k2⟩
end Go.Proofs.YtoejlmpbebjemaaGreat
