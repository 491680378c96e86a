/- Insertion sort and the stable sort of at most 20 documents in a box, for a comparison that is known of some documents.
  Conditions: at most 20 documents. -/
import Derived.Test.YtoejlmpbebjemaaGreatGA
set_option linter.all false
set_option maxRecDepth 100000
set_option maxHeartbeats 4000000
namespace VY
open eN
abbrev GE:=Nat×Dc
def ky (x:GE):Int:=-x.2.id
def Yh (a b:Nat):Bool:=decide (a<b)
abbrev ze:GE:=(0,d0)
def swp (d:List GE)(i j:Nat):List GE:=(d.set i (d.getD j ze)).set j (d.getD i ze)
def swp_get {d:List GE}{i j:Nat}(hi:i<d.length)(hj:j<d.length)(t:Nat):(swp d i j).getD t ze=if t=j then d.getD i ze else if t=i then d.getD j ze else d.getD t ze:=by
 unfold swp;rw[ahs,aj9]
 by_cases h1:t=j
 ·subst h1;rw[ahF rfl,ahF (zU hj),ahF rfl];rfl
 ·rw[ahC (Ne.symm h1),ahC h1,aj9]
  by_cases h2:t=i
  ·subst h2;rw[ahF rfl,ahF hi,ahF rfl];rfl
  ·rw[ahC (Ne.symm h2),ahC h2,ahs]
def Pc {d:List GE}{i j:Nat}(hi:i<d.length)(hj:j<d.length):(swp d i j).Perm d:=by
 have h:=(Array.swap_perm (xs:=d.toArray) (i:=i) (j:=j) (zU hi) (zU hj)).toList;have e:(d.toArray.swap i j (zU hi) (zU hj)).toList=swp d i j:=by
  simp[Array.swap,swp,hi,hj]
 rw[e] at h;exact h
end VY
namespace Go.Proofs.YtoejlmpbebjemaaGreat
open Go Go.Am eN VY
def mq (l:List GE):List AV:=l.flatMap λe=>dY e.2
def Jz:eE (λe:GE=>dY e.2) 3:=λ_=>rfl
def tP (l:List GE):(mq l).length=l.length*3:=cj Jz l
@[simp] theorem acO (n t:Nat) (l:List GE):aL n t (mq l):=fO (f:=λe:GE=>dY e.2) (λx=>by simp) l
def ET (l:List GE):mq l=aM (l.map (·.2)):=by simp[mq,aM,aiK]
def OV {d:List GE}{k:Nat}(rest:List AV)(h:k<d.length):((mq d++rest).drop (k*3)).take 3=dY (d.getD k ze).2:=by
 have hl:=tP d;rw[ajH zO,aiF (by simp;omega)];exact fX Jz d k ze h
theorem He:∀(d:List GE)(k:Nat)(rest:List AV)(e:GE),k<d.length->(((mq d++rest).set (k*3) (.int .i64 e.2.id)).set (k*3+1) (.sl e.2.zs.length (fy e.2.zs) .none)).set (k*3+2) (.sl e.2.ns.length (bG e.2.ns) .none)=mq (d.set k e)++rest
 |[],k,_,_,h=>by simp at h
 |x::d,0,rest,e,_=>by simp[mq]
 |x::d,k+1,rest,e,h=>by
  have ih:=He d k rest e (zU h);rw[show (k+1)*3=k*3+1+1+1 by omega];simp only[mq,ahK,ajI,ai3,List.set_cons_succ,ahM] at ih ⊢;rw[ih]
def Xe (d:List GE)(i j:Nat)(rest:List AV)(hi:i<d.length)(hj:j<d.length) :
  ((((((mq d++rest).set (i*3) (.int .i64 (d.getD j ze).2.id)).set (i*3+1) (.sl (d.getD j ze).2.zs.length (fy (d.getD j ze).2.zs) .none)).set (i*3+2) (.sl (d.getD j ze).2.ns.length (bG (d.getD j ze).2.ns) .none)).set (j*3) (.int .i64 (d.getD i ze).2.id)).set (j*3+1) (.sl (d.getD i ze).2.zs.length (fy (d.getD i ze).2.zs) .none)).set (j*3+2) (.sl (d.getD i ze).2.ns.length (bG (d.getD i ze).2.ns) .none)=mq (swp d i j)++rest:=by
 rw[He d i rest (d.getD j ze) hi,He _ j rest (d.getD i ze) (zU hj)];rfl
def GY (P:Dc->Prop)(g:Nat):Prop:=∀(x y:Dc),P x->P y->∀(H:List aA)(T:au),∃q:Int,aq Tryz.prog g [.agg (dY x),.agg (dY y)] H T (Is (.int .i64 q) H T)/\(q<0↔x.id<y.id)
def GY.at {P:Dc->Prop}{g:Nat}(h:GY P g)(x y:GE)(hx:P x.2)(hy:P y.2)(H:List aA)(T:au):∃q:Int,aq Tryz.prog g [.agg (dY x.2),.agg (dY y.2)] H T (Is (.int .i64 q) H T)/\(q<0↔ky y<ky x):=by
 obtain⟨q,h1,h2⟩:=h x.2 y.2 hx hy H T;exact⟨q,h1,h2.trans (by unfold ky;omega)⟩
def WR {H:List aA}{i:Nat}{x:aA}(hi:H[i]?=some x):H.set i x=H:=by
 apply ajn;intro j
 by_cases hj:i=j
 ·subst hj;rw[ahZ (aht.1 hi).1,hi]
 ·rw[ail hj]
def Vj (i:Nat)(rest:List AV)(H:List aA)(T:au)(R:List GE->Prop):AV->List aA->au->Prop:=λr H' T'=>r=.dn []/\T'=T/\∃d',H'=H.set i (.cells (mq d'++rest))/\R d'
end Go.Proofs.YtoejlmpbebjemaaGreat
namespace VY
open Go.Proofs.YtoejlmpbebjemaaGreat
def fb (x y:GE):Bool:=decide ((ky y)<(ky x))||(decide ((ky x)=(ky y))&&Yh x.1 y.1)
def Vf {x y:GE}(h:fb x y=true):(ky y)<=(ky x):=by
 simp only[fb,aiq,ahG,ahH] at h;rcases h with h|h<;>omega
def Ve {x y:GE}(h:(ky y)<(ky x)):fb x y=true:=by simp[fb,h]
def aaD {x y:GE}(h:(ky y)<=(ky x))(hw:Yh x.1 y.1=true):fb x y=true:=by
 rcases Int.lt_or_le (ky y) (ky x) with h1|h1
 ·exact Ve h1
 ·have:(ky x)=(ky y):=zO;simp[fb,this,hw]
def Od (d:List GE)(a b:Nat):Prop:=∀i j,a<=i->i<j->j<b->fb (d.getD i ze) (d.getD j ze)=true
def Wg (d:List GE)(a b:Nat):Prop:=∀i j,a<=i->i<j->j<b->Yh (d.getD i ze).1 (d.getD j ze).1=true
structure Sx (d d':List GE)(a b:Nat):Prop where
 perm:d'.Perm d
 out:∀t,t<a\/b<=t->d'.getD t ze=d.getD t ze
 frm:∀t,a<=t->t<b->∃u,a<=u/\u<b/\d'.getD t ze=d.getD u ze
theorem Sx.refl (d:List GE)(a b:Nat):Sx d d a b:=⟨.refl _,λ_ _=>rfl,λt h1 h2=>⟨t,h1,h2,rfl⟩⟩
theorem Sx.trans {d e f:List GE}{a b:Nat}(h:Sx d e a b)(k:Sx e f a b):Sx d f a b:=by
 refine⟨k.perm.trans h.perm,λt ht=>(k.out t ht).trans (h.out t ht),λt h1 h2=>?_⟩;obtain⟨u,g1,g2,g3⟩:=k.frm t h1 h2;obtain⟨v,g4,g5,g6⟩:=h.frm u g1 g2;exact⟨v,g4,g5,g3.trans g6⟩
def Sx.wide {d e:List GE}{a b a' b':Nat}(h:Sx d e a b)(ha:a'<=a)(hb:b<=b'):Sx d e a' b':=by
 refine⟨h.perm,λt ht=>h.out t zO,λt h1 h2=>?_⟩
 by_cases um:a<=t/\t<b
 ·obtain⟨u,g1,g2,g3⟩:=h.frm t um.1 um.2;exact⟨u,zO,zO,g3⟩
 ·exact⟨t,h1,h2,h.out t zO⟩
def Sx.len {d e:List GE}{a b:Nat}(h:Sx d e a b):e.length=d.length:=h.perm.length_eq
def NK (d d2:List GE)(j i:Nat):Prop:=∀t,d2.getD t ze=if t=j then d.getD i ze else if j<t/\t<=i then d.getD (t-1) ze else d.getD t ze
def NK.zero (d:List GE)(i:Nat):NK d d i i:=by
 intro t
 split
 ·rename_i h;rw[h]
 ·rw[ahC zO]
def NK.step {d d2:List GE}{j i:Nat}(h:NK d d2 j i)(hj:0<j)(rW:j<=i)(hl:i<d2.length):NK d (swp d2 j (j-1)) (j-1) i:=by
 intro t;rw[swp_get zO zO]
 by_cases h1:t=j-1
 ·rw[ahF h1,ahF h1,h j,ahF rfl]
 ·rw[ahC h1,ahC h1]
  by_cases h2:t=j
  ·subst h2;rw[ahF rfl,ahF zO,h (t-1),ahC zO,ahC zO]
  ·rw[ahC h2,h t,ahC h2]
   by_cases h3:j<t/\t<=i
   ·rw[ahF h3,ahF zO]
   ·rw[ahC h3,ahC zO]
def NK.seg {d d2:List GE}{j i:Nat}(h:NK d d2 j i)(rW:j<=i)(hp:d2.Perm d):Sx d d2 j (i+1):=by
 refine⟨hp,λt ht=>?_,λt h1 h2=>?_⟩
 ·rw[h t,ahC zO,ahC zO]
 ·rw[h t]
  split
  ·exact⟨i,zO,zO,rfl⟩
  ·split
   ·exact⟨t-1,zO,zO,rfl⟩
   ·exact⟨t,h1,h2,rfl⟩
def NK.sorted {d d2:List GE}{a j i:Nat}(h:NK d d2 j i)(haj:a<=j)(rW:j<=i)(hs:Od d a i)(hw:∀t,a<=t->t<i->Yh (d.getD t ze).1 (d.getD i ze).1=true)
  (Rb:∀t,a<=t->t<j->(ky (d.getD i ze))<=(ky (d.getD t ze))) (hhi:∀t,j<=t->t<i->(ky (d.getD t ze))<(ky (d.getD i ze))):Od d2 a (i+1):=by
 intro p q h1 h2 h3;rw[h p,h q]
 by_cases q1:q=j
 ·rw[ahF q1,ahC zO,ahC zO];exact aaD (Rb p h1 zO) (hw p h1 zO)
 ·rw[ahC q1]
  by_cases p1:p=j
  ·rw[ahF p1,ahF zO];exact Ve (hhi (q-1) zO zO)
  ·rw[ahC p1]
   by_cases p2:j<p
   ·rw[ahF zO,ahF zO];exact hs _ _ zO zO zO
   ·rw[ahC zO]
    by_cases q2:j<q
    ·rw[ahF zO];exact hs _ _ zO zO zO
    ·rw[ahC zO];exact hs _ _ zO zO zO
end VY
namespace Go.Proofs.YtoejlmpbebjemaaGreat
open Go Go.Am eN VY
def cv (g:Nat):AV:=.fn g [] []
attribute [-simp] List.getD_eq_getElem?_getD in
def Mk {P:Dc->Prop}{g:Nat}(hg:GY P g)(d:List GE)(hP:∀e∈d,P e.2)(rest:List AV)(a b i:Nat)(j9:a<=b)(vw:b<=d.length)(hl:d.length<=1000)(hw:Wg d a b)(H:List aA)(T:au)(hi:H[i]?=some (.cells (mq d++rest)))(hr:aL H.length T.length rest) :
  aq Tryz.prog 185 [.cV i 0 d.length,.int .i64 (a:Nat),.int .i64 (b:Nat),.fn g [] []] H T (Vj i rest H T (λd'=>Sx d d' a b/\Od d' a b)):=by
 have eM:=(aht.1 hi).1;have aaf:=WR hi;refine ah 10 [] Tryz.ntmps185 Tryz.func185 rfl (λ_ _=>Tryz.call185 _ _) zS (λHO=>?_);refine af ?_;apply ag;have R9:∀d2,bM (H.set i (.cells (mq d2++rest))) T:=λk=>HO.set (by simp[hr]);refine aG (X:=List GE×Nat) (λx=>⟨[(0,.cV i 0 d.length),(1,.int .i64 (a:Nat)),(2,.int .i64 (b:Nat)),(3,.fn g [] []),(8,.int .i64 ((x.2:Int)+1))],H.set i (.cells (mq x.1++rest)),T⟩)
  (λx=>a<=x.2/\(x.2+1<=b\/(x.1=d/\b=a))/\Sx d x.1 a (x.2+1)/\Od x.1 a (x.2+1)) (λx=>b-x.2) (d,a) ?_ ?_ ?_
 ·exact⟨ahv _,(Nat.eq_or_lt_of_le j9).elim (λh=>.inr ⟨rfl,h.symm⟩) .inl,Sx.refl _ _ _,λi j h1 h2 h3=>by simp only at h3;omega⟩
 ·refine ak [] [] ?_ ?_ ?_ ?_ (R9 d) ?_
  all_goals simp[aaf,eM]
 ·rintro⟨d1,k⟩ ⟨h1,h2,h3,h4⟩;simp only at h1 h2 h3 h4;have vq:=h3.len;refine ae λK2 ba=>?_
  by_cases hk:k+1<b
  ·have bk:decide (((k:Int)+1)<b)=true:=ahx zO;have bk':((k:Int)+1)<b:=zO;apply ar;simp(disch:=omega)[bk,bk'];apply aC rfl;apply aj;refine zQ ?_;apply ba;clear ba;refine ae λK3 bH=>?_;apply ag;refine af ?_;apply ag;have hwx:∀t,a<=t->t<k+1->Yh (d1.getD t ze).1 (d1.getD (k+1) ze).1=true:=λt g1 g2=>by
    obtain⟨u,u1,u2,u3⟩:=h3.frm t g1 g2;rw[u3,h3.out (k+1) zO];exact hw u (k+1) u1 zO hk
   refine aG (X:=List GE×Nat) (λx=>⟨[(0,.cV i 0 d.length),(1,.int .i64 (a:Nat)),(2,.int .i64 (b:Nat)),(3,.fn g [] []),(8,.int .i64 ((k:Int)+1)),(9,.int .i64 (x.2:Nat))],H.set i (.cells (mq x.1++rest)),T⟩)
    (λx=>a<=x.2/\x.2<=k+1/\NK d1 x.1 x.2 (k+1)/\x.1.Perm d1/\∀t,x.2<=t->t<k+1->(ky (d1.getD t ze))<(ky (d1.getD (k+1) ze))) (λx=>x.2) (d1,k+1) ?_ ?_ ?_
   ·exact⟨by simp only;omega,ahv _,NK.zero _ _,.refl _,λt g1 g2=>by simp only at g1;omega⟩
   ·refine ak [] [] ?_ ?_ ?_ ?_ (R9 d1) ?_
    all_goals simp[eM]
   ·rintro⟨d2,j⟩ ⟨g1,g2,g3,g4,g5⟩;simp only at g1 g2 g3 g4 g5;have jT:=g4.length_eq;have go:(∀t,a<=t->t<j->(ky (d1.getD (k+1) ze))<=(ky (d1.getD t ze)))->∀e,bA H.length T.length e [(0,.cV i 0 d.length),(1,.int .i64 (a:Nat)),(2,.int .i64 (b:Nat)),(3,.fn g [] []),(8,.int .i64 ((k:Int)+1))]->K3 ⟨e,H.set i (.cells (mq d2++rest)),T⟩:=by
     intro Rb e he;refine bH _ (aF ⟨[(0,.cV i 0 d.length),(1,.int .i64 (a:Nat)),(2,.int .i64 (b:Nat)),(3,.fn g [] []),(8,.int .i64 ((k:Int)+1))],H.set i (.cells (mq d2++rest)),T⟩ (wk (R9 d2) (zU he)) ?_);refine aJ ?_;refine⟨(d2,k+1),⟨by simp only;omega,.inl (by simp only;omega),(h3.wide (ahv _) zO).trans ((g3.seg g2 g4).wide g1 (ahv _)),g3.sorted g1 g2 h4 hwx Rb g5⟩,by show b-(k+1)<b-k;omega,?_⟩;refine ak [] [] ?_ ?_ ?_ ?_ (R9 d2) ?_
     all_goals simp[eM]
    refine ae λK4 iQ=>?_
    by_cases hj:a<j
    ·have bj:decide ((a:Int)<j)=true:=ahx zO;have IJ:=OV (d:=d2) (k:=j) rest zO;have pn:=OV (d:=d2) (k:=j-1) rest zO;have ej:((j:Int)-1)=((j-1:Nat):Int):=zO;have hx:d2.getD j ze=d1.getD (k+1) ze:=by rw[g3 j,ahF rfl]
     have hy:d2.getD (j-1) ze=d1.getD (j-1) ze:=by rw[g3 (j-1),ahC zO,ahC zO]
     have hPm:∀t,t<d2.length->P (d2.getD t ze).2:=λt ht=>hP _ (h3.perm.mem_iff.1 (g4.mem_iff.1 (aQ d2 t ze ht)));obtain⟨q,c,BG⟩:=hg.at (d2.getD j ze) (d2.getD (j-1) ze) (hPm j zO) (hPm (j-1) zO) (H.set i (.cells (mq d2++rest))) T;rw[hx,hy] at BG
     by_cases hq:q<0
     ·have bq:decide (q<0)=true:=ahx hq;have hsw:=Xe d2 j (j-1) rest zO zO;refine bC [] [] [] ?_;simp(disch:=omega)[bj,hj,ej,IJ,pn,tP,jT,eM];refine az (c) rfl ?_;simp(disch:=omega)[bq,hq];apply aC rfl;apply aj;refine zQ ?_;apply iQ;clear iQ;refine ae λK5 iT=>?_;apply ag;refine du [15,17] [0,0,0,0,0,0,0,0,0,0,0,0,0,0,0,0,1,1] [[2,3,4],[]] aO zK zK λK hK=>?_;simp(disch:=omega)[ej,IJ,pn,tP,jT,eM];rw[hsw];apply hK;apply iT;clear iT;refine br λK hK=>?_;simp(disch:=omega)[ej];apply hK;refine⟨(swp d2 j (j-1),j-1),⟨by simp only;omega,by simp only;omega,g3.step zO g2 zO,(Pc zO zO).trans g4,λt t1 t2=>?_⟩,by show j-1<j;omega,?_⟩
      ·simp only at t1;rcases ahD t j with e|e
       ·have:t=j-1:=zO;subst this;exact BG.1 hq
       ·exact g5 t e t2
      ·refine ak [] [] ?_ ?_ ?_ ?_ (R9 _) ?_
       all_goals simp[eM]
     ·have bq:decide (q<0)=false:=ahy hq;refine bC [] [] [] ?_;simp(disch:=omega)[bj,hj,ej,IJ,pn,tP,jT,eM];refine az (c) rfl ?_;simp(disch:=omega)[bq,hq];apply aB rfl;apply aD;refine zQ ?_;refine go (λt t1 t2=>?_) _ ?_
      ·have e1:(ky (d1.getD (k+1) ze))<=(ky (d1.getD (j-1) ze)):=by
        rcases Int.lt_or_le (ky (d1.getD (j-1) ze)) (ky (d1.getD (k+1) ze)) with e|e
        ·exact absurd (BG.2 e) hq
        ·exact e
       rcases ahD t (j-1) with e2|e2
       ·have:=Vf (h4 t (j-1) t1 e2 zO);omega
       ·have:t=j-1:=zO;subst this;exact e1
      ·simp[eM]
    ·have bj:decide ((a:Int)<j)=false:=ahy zO;refine bC [] [] [] ?_;simp(disch:=omega)[bj,hj];apply aB rfl;apply aD;refine zQ ?_;refine go (λt t1 t2=>by omega) _ ?_;simp[eM]
  ·have bk:decide (((k:Int)+1)<b)=false:=ahy zO;have bk':¬((k:Int)+1)<b:=zO;apply ar;simp(disch:=omega)[bk,bk'];apply aB rfl;apply aD;refine zQ ?_;refine⟨rfl,rfl,d1,rfl,?_⟩;rcases h2 with h2|⟨h2,h5⟩
   ·have:k+1=b:=zO;rw[<-this];exact⟨h3,h4⟩
   ·subst h2;subst h5;exact⟨Sx.refl _ _ _,λp q q1 q2 q3=>by omega⟩
attribute [-simp] List.getD_eq_getElem?_getD in
def Lc {P:Dc->Prop}{g:Nat}(hg:GY P g)(N:Nat)(hN:N<=19)(d:List GE)(hP:∀e∈d,P e.2)(rest:List AV)(i:Nat)(hd:d.length=N)(hw:Wg d 0 N)(H:List aA)(T:au)(hi:H[i]?=some (.cells (mq d++rest)))(hr:aL H.length T.length rest) :
  aq Tryz.prog 156 [.cV i 0 N,.int .i64 (N:Nat),.fn g [] []] H T (Vj i rest H T (λd'=>Sx d d' 0 N/\Od d' 0 N)):=by
 have eM:=(aht.1 hi).1;have c:=Mk hg d hP rest 0 N i zO zO zO hw H T hi hr;rw[hd] at c;have b1:decide ((20:Int)<=(N:Int))=false:=ahy zO;have b2:¬20<=N:=zO;have b3:decide ((20:Int)<(N:Int))=false:=ahy zO;have b4:¬20<N:=zO;refine ah 10 [] Tryz.ntmps156 Tryz.func156 rfl (λ_ _=>Tryz.call156 _ _) zS (λHO=>?_);refine af ?_;refine af ?_;refine ae λK1 aN=>?_;apply ag;refine aG (X:=Nat) (λ_=>⟨[(0,.cV i 0 N),(1,.int .i64 (N:Nat)),(2,.fn g [] []),(6,.int .i64 20),(7,.int .i64 0),(8,.int .i64 20)],H,T⟩) (λ_=>True) (λ_=>0) 0 trivial ?_ ?_
 ·refine ak [] [] ?_ ?_ ?_ ?_ HO ?_
  all_goals simp[eM]
 ·intro k _;apply hY;apply ar;simp(disch:=omega)[b1,b2];apply aB rfl;apply aD;refine zQ ?_;apply aN;clear aN;apply ar;refine zQ ?_;refine⟨_,c,?_⟩;rintro v H' T' ⟨rfl,rfl,d2,rfl,k1,k2⟩;refine zQ ?_;have eG:bM (H.set i (.cells (mq d2++rest))) T':=HO.set (by simp[hr]);apply ag;refine aG (X:=Nat) (λ_=>⟨[(1,.int .i64 (N:Nat)),(6,.int .i64 20)],H.set i (.cells (mq d2++rest)),T'⟩) (λ_=>True) (λ_=>0) 0 trivial ?_ ?_
  ·exact wk eG
  ·intro k _;apply hY;apply ar;simp(disch:=omega)[b3,b4];apply aB rfl;apply aD;refine zQ ?_;exact⟨rfl,rfl,d2,rfl,k1,k2⟩
end Go.Proofs.YtoejlmpbebjemaaGreat
