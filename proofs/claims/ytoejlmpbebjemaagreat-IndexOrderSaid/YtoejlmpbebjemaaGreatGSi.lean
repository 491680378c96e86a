/- Insertion sort and the stable sort of at most 20 documents in a box, for a comparison that is known of some documents.
  Conditions: at most 20 documents. -/
import Derived.Test.YtoejlmpbebjemaaGreatGA
set_option linter.all false
set_option maxRecDepth 100000
set_option maxHeartbeats 4000000
namespace Vb
open eN
abbrev GE:=Nat×Dc
def ky (x:GE):Int:=-x.2.id
def Xu (a b:Nat):Bool:=decide (a<b)
abbrev ze:GE:=(0,d0)
def swp (d:List GE)(i j:Nat):List GE:=(d.set i (d.getD j ze)).set j (d.getD i ze)
def swp_get {d:List GE}{i j:Nat}(hi:i<d.length)(hj:j<d.length)(t:Nat):(swp d i j).getD t ze=if t=j then d.getD i ze else if t=i then d.getD j ze else d.getD t ze:=by
 unfold swp;rw[agB,aji]
 by_cases h1:t=j
 ·subst h1;rw[agN rfl,agN (by simpa using hj),agN rfl];rfl
 ·rw[agL (Ne.symm h1),agL h1,aji]
  by_cases h2:t=i
  ·subst h2;rw[agN rfl,agN hi,agN rfl];rfl
  ·rw[agL (Ne.symm h2),agL h2,agB]
def OA {d:List GE}{i j:Nat}(hi:i<d.length)(hj:j<d.length):(swp d i j).Perm d:=by
 have h:=(Array.swap_perm (xs:=d.toArray) (i:=i) (j:=j) (by simpa using hi) (by simpa using hj)).toList;have e:(d.toArray.swap i j (by simpa using hi) (by simpa using hj)).toList=swp d i j:=by
  simp[Array.swap,swp,hi,hj]
 rw[e] at h;exact h
end Vb
namespace Go.Proofs.YtoejlmpbebjemaaGreat
open Go Go.Am eN Vb
def lM (l:List GE):List AV:=l.flatMap λe=>dO e.2
def I2:ep (λe:GE=>dO e.2) 3:=λ_=>rfl
def te (l:List GE):(lM l).length=l.length*3:=bY I2 l
@[simp] theorem abX (n t:Nat) (l:List GE):aM n t (lM l):=fG (f:=λe:GE=>dO e.2) (λx=>by simp) l
def Ea (l:List GE):lM l=aN (l.map (·.2)):=by simp[lM,aN,ahR]
def Oc {d:List GE}{k:Nat}(rest:List AV)(h:k<d.length):((lM d++rest).drop (k*3)).take 3=dO (d.getD k ze).2:=by
 have hl:=te d;rw[aiP (by omega),ahL (by simp;omega)];exact fO I2 d k ze h
theorem Gw:∀(d:List GE)(k:Nat)(rest:List AV)(e:GE),k<d.length->(((lM d++rest).set (k*3) (.int .i64 e.2.id)).set (k*3+1) (.sl e.2.zs.length (fg e.2.zs) .none)).set (k*3+2) (.sl e.2.ns.length (bA e.2.ns) .none)=lM (d.set k e)++rest
 |[],k,_,_,h=>by simp at h
 |x::d,0,rest,e,_=>by simp[lM]
 |x::d,k+1,rest,e,h=>by
  have ih:=Gw d k rest e (by simpa using h);rw[show (k+1)*3=k*3+1+1+1 by omega];simp only[lM,agT,aiQ,aic,List.set_cons_succ,agV] at ih ⊢;rw[ih]
def Wo (d:List GE)(i j:Nat)(rest:List AV)(hi:i<d.length)(hj:j<d.length) :
  ((((((lM d++rest).set (i*3) (.int .i64 (d.getD j ze).2.id)).set (i*3+1) (.sl (d.getD j ze).2.zs.length (fg (d.getD j ze).2.zs) .none)).set (i*3+2) (.sl (d.getD j ze).2.ns.length (bA (d.getD j ze).2.ns) .none)).set (j*3) (.int .i64 (d.getD i ze).2.id)).set (j*3+1) (.sl (d.getD i ze).2.zs.length (fg (d.getD i ze).2.zs) .none)).set (j*3+2) (.sl (d.getD i ze).2.ns.length (bA (d.getD i ze).2.ns) .none)=lM (swp d i j)++rest:=by
 rw[Gw d i rest (d.getD j ze) hi,Gw _ j rest (d.getD i ze) (by simpa using hj)];rfl
def Gk (P:Dc->Prop)(g:Nat):Prop:=∀(x y:Dc),P x->P y->∀(H:List aA)(T:au),∃q:Int,ar Tryz.prog g [.agg (dO x),.agg (dO y)] H T (Is (.int .i64 q) H T)/\(q<0↔x.id<y.id)
def Gk.at {P:Dc->Prop}{g:Nat}(h:Gk P g)(x y:GE)(hx:P x.2)(hy:P y.2)(H:List aA)(T:au):∃q:Int,ar Tryz.prog g [.agg (dO x.2),.agg (dO y.2)] H T (Is (.int .i64 q) H T)/\(q<0↔ky y<ky x):=by
 obtain⟨q,h1,h2⟩:=h x.2 y.2 hx hy H T;exact⟨q,h1,h2.trans (by unfold ky;omega)⟩
def V2 {H:List aA}{i:Nat}{x:aA}(hi:H[i]?=some x):H.set i x=H:=by
 apply aiw;intro j
 by_cases hj:i=j
 ·subst hj;rw[ag4 (agC.1 hi).1,hi]
 ·rw[ahs hj]
def Uz (i:Nat)(rest:List AV)(H:List aA)(T:au)(R:List GE->Prop):AV->List aA->au->Prop:=λr H' T'=>r=.df []/\T'=T/\∃d',H'=H.set i (.cells (lM d'++rest))/\R d'
end Go.Proofs.YtoejlmpbebjemaaGreat
namespace Vb
open Go.Proofs.YtoejlmpbebjemaaGreat
def fb (x y:GE):Bool:=decide ((ky y)<(ky x))||(decide ((ky x)=(ky y))&&Xu x.1 y.1)
def Uv {x y:GE}(h:fb x y=true):(ky y)<=(ky x):=by
 simp only[fb,ahx,agO,agQ] at h;rcases h with h|h<;>omega
def Uu {x y:GE}(h:(ky y)<(ky x)):fb x y=true:=by simp[fb,h]
def ZJ {x y:GE}(h:(ky y)<=(ky x))(hw:Xu x.1 y.1=true):fb x y=true:=by
 rcases Int.lt_or_le (ky y) (ky x) with h1|h1
 ·exact Uu h1
 ·have:(ky x)=(ky y):=by omega
  simp[fb,this,hw]
def Od (d:List GE)(a b:Nat):Prop:=∀i j,a<=i->i<j->j<b->fb (d.getD i ze) (d.getD j ze)=true
def Wg (d:List GE)(a b:Nat):Prop:=∀i j,a<=i->i<j->j<b->Xu (d.getD i ze).1 (d.getD j ze).1=true
structure Sx (d d':List GE)(a b:Nat):Prop where
 perm:d'.Perm d
 out:∀t,t<a\/b<=t->d'.getD t ze=d.getD t ze
 frm:∀t,a<=t->t<b->∃u,a<=u/\u<b/\d'.getD t ze=d.getD u ze
theorem Sx.refl (d:List GE)(a b:Nat):Sx d d a b:=⟨.refl _,λ_ _=>rfl,λt h1 h2=>⟨t,h1,h2,rfl⟩⟩
theorem Sx.trans {d e f:List GE}{a b:Nat}(h:Sx d e a b)(k:Sx e f a b):Sx d f a b:=by
 refine⟨k.perm.trans h.perm,λt ht=>(k.out t ht).trans (h.out t ht),λt h1 h2=>?_⟩;obtain⟨u,g1,g2,g3⟩:=k.frm t h1 h2;obtain⟨v,g4,g5,g6⟩:=h.frm u g1 g2;exact⟨v,g4,g5,g3.trans g6⟩
def Sx.wide {d e:List GE}{a b a' b':Nat}(h:Sx d e a b)(ha:a'<=a)(hb:b<=b'):Sx d e a' b':=by
 refine⟨h.perm,λt ht=>h.out t (by omega),λt h1 h2=>?_⟩
 by_cases tL:a<=t/\t<b
 ·obtain⟨u,g1,g2,g3⟩:=h.frm t tL.1 tL.2;exact⟨u,by omega,by omega,g3⟩
 ·exact⟨t,h1,h2,h.out t (by omega)⟩
def Sx.len {d e:List GE}{a b:Nat}(h:Sx d e a b):e.length=d.length:=h.perm.length_eq
def M0 (d d2:List GE)(j i:Nat):Prop:=∀t,d2.getD t ze=if t=j then d.getD i ze else if j<t/\t<=i then d.getD (t-1) ze else d.getD t ze
def M0.zero (d:List GE)(i:Nat):M0 d d i i:=by
 intro t
 split
 ·rename_i h;rw[h]
 ·rw[agL (by omega)]
def M0.step {d d2:List GE}{j i:Nat}(h:M0 d d2 j i)(hj:0<j)(rp:j<=i)(hl:i<d2.length):M0 d (swp d2 j (j-1)) (j-1) i:=by
 intro t;rw[swp_get (by omega) (by omega)]
 by_cases h1:t=j-1
 ·rw[agN h1,agN h1,h j,agN rfl]
 ·rw[agL h1,agL h1]
  by_cases h2:t=j
  ·subst h2;rw[agN rfl,agN (by omega),h (t-1),agL (by omega),agL (by omega)]
  ·rw[agL h2,h t,agL h2]
   by_cases h3:j<t/\t<=i
   ·rw[agN h3,agN (by omega)]
   ·rw[agL h3,agL (by omega)]
def M0.seg {d d2:List GE}{j i:Nat}(h:M0 d d2 j i)(rp:j<=i)(hp:d2.Perm d):Sx d d2 j (i+1):=by
 refine⟨hp,λt ht=>?_,λt h1 h2=>?_⟩
 ·rw[h t,agL (by omega),agL (by omega)]
 ·rw[h t]
  split
  ·exact⟨i,by omega,by omega,rfl⟩
  ·split
   ·exact⟨t-1,by omega,by omega,rfl⟩
   ·exact⟨t,h1,h2,rfl⟩
def M0.sorted {d d2:List GE}{a j i:Nat}(h:M0 d d2 j i)(haj:a<=j)(rp:j<=i)(hs:Od d a i)(hw:∀t,a<=t->t<i->Xu (d.getD t ze).1 (d.getD i ze).1=true)
  (Qv:∀t,a<=t->t<j->(ky (d.getD i ze))<=(ky (d.getD t ze))) (hhi:∀t,j<=t->t<i->(ky (d.getD t ze))<(ky (d.getD i ze))):Od d2 a (i+1):=by
 intro p q h1 h2 h3;rw[h p,h q]
 by_cases q1:q=j
 ·rw[agN q1,agL (by omega),agL (by omega)];exact ZJ (Qv p h1 (by omega)) (hw p h1 (by omega))
 ·rw[agL q1]
  by_cases p1:p=j
  ·rw[agN p1,agN (by omega)];exact Uu (hhi (q-1) (by omega) (by omega))
  ·rw[agL p1]
   by_cases p2:j<p
   ·rw[agN (by omega),agN (by omega)];exact hs _ _ (by omega) (by omega) (by omega)
   ·rw[agL (by omega)]
    by_cases q2:j<q
    ·rw[agN (by omega)];exact hs _ _ (by omega) (by omega) (by omega)
    ·rw[agL (by omega)];exact hs _ _ (by omega) (by omega) (by omega)
end Vb
namespace Go.Proofs.YtoejlmpbebjemaaGreat
open Go Go.Am eN Vb
def cv (g:Nat):AV:=.fn g [] []
attribute [-simp] List.getD_eq_getElem?_getD in
def LD {P:Dc->Prop}{g:Nat}(hg:Gk P g)(d:List GE)(hP:∀e∈d,P e.2)(rest:List AV)(a b i:Nat)(jK:a<=b)(vF:b<=d.length)(hl:d.length<=1000)(hw:Wg d a b)(H:List aA)(T:au)(hi:H[i]?=some (.cells (lM d++rest)))(hr:aM H.length T.length rest) :
  ar Tryz.prog 185 [.cN i 0 d.length,.int .i64 (a:Nat),.int .i64 (b:Nat),.fn g [] []] H T (Uz i rest H T (λd'=>Sx d d' a b/\Od d' a b)):=by
 have eH:=(agC.1 hi).1;have Zm:=V2 hi;refine ah 10 [] Tryz.ntmps185 Tryz.func185 rfl (λ_ _=>Tryz.call185 _ _) (by simp) (λHO=>?_);apply ae;intro K Z;simp(disch:=omega);apply Z;apply aj;have Rh:∀d2,bN (H.set i (.cells (lM d2++rest))) T:=λk=>HO.set (by simp[hr]);refine aJ (X:=List GE×Nat) (λx=>⟨[(0,.cN i 0 d.length),(1,.int .i64 (a:Nat)),(2,.int .i64 (b:Nat)),(3,.fn g [] []),(8,.int .i64 ((x.2:Int)+1))],H.set i (.cells (lM x.1++rest)),T⟩)
  (λx=>a<=x.2/\(x.2+1<=b\/(x.1=d/\b=a))/\Sx d x.1 a (x.2+1)/\Od x.1 a (x.2+1)) (λx=>b-x.2) (d,a) ?_ ?_ ?_
 ·exact⟨agE _,(Nat.eq_or_lt_of_le jK).elim (λh=>.inr ⟨rfl,h.symm⟩) .inl,Sx.refl _ _ _,λi j h1 h2 h3=>by simp only at h3;omega⟩
 ·refine ag [] [] ?_ ?_ ?_ ?_ (Rh d) ?_
  all_goals simp[Zm,eH]
 ·rintro⟨d1,k⟩ ⟨h1,h2,h3,h4⟩;simp only at h1 h2 h3 h4;have uT:=h3.len;refine af λK2 bp=>?_
  by_cases hk:k+1<b
  ·have bk:decide (((k:Int)+1)<b)=true:=agH (by omega);have bk':((k:Int)+1)<b:=by omega
   refine ae λK hK=>?_;simp(disch:=omega)[bk,bk'];apply hK;apply aH rfl;apply aq;simp(disch:=omega) ;apply bp;clear bp;refine af λK3 bG=>?_;apply aj;apply ae;intro K Z;simp(disch:=omega);apply Z;apply aj;have hwx:∀t,a<=t->t<k+1->Xu (d1.getD t ze).1 (d1.getD (k+1) ze).1=true:=λt g1 g2=>by
    obtain⟨u,u1,u2,u3⟩:=h3.frm t g1 g2;rw[u3,h3.out (k+1) (by omega)];exact hw u (k+1) u1 (by omega) hk
   refine aJ (X:=List GE×Nat) (λx=>⟨[(0,.cN i 0 d.length),(1,.int .i64 (a:Nat)),(2,.int .i64 (b:Nat)),(3,.fn g [] []),(8,.int .i64 ((k:Int)+1)),(9,.int .i64 (x.2:Nat))],H.set i (.cells (lM x.1++rest)),T⟩)
    (λx=>a<=x.2/\x.2<=k+1/\M0 d1 x.1 x.2 (k+1)/\x.1.Perm d1/\∀t,x.2<=t->t<k+1->(ky (d1.getD t ze))<(ky (d1.getD (k+1) ze))) (λx=>x.2) (d1,k+1) ?_ ?_ ?_
   ·exact⟨by simp only;omega,agE _,M0.zero _ _,.refl _,λt g1 g2=>by simp only at g1;omega⟩
   ·refine ag [] [] ?_ ?_ ?_ ?_ (Rh d1) ?_
    all_goals simp[eH]
   ·rintro⟨d2,j⟩ ⟨g1,g2,g3,g4,g5⟩;simp only at g1 g2 g3 g4 g5;have jy:=g4.length_eq;have go:(∀t,a<=t->t<j->(ky (d1.getD (k+1) ze))<=(ky (d1.getD t ze)))->∀e,bC H.length T.length e [(0,.cN i 0 d.length),(1,.int .i64 (a:Nat)),(2,.int .i64 (b:Nat)),(3,.fn g [] []),(8,.int .i64 ((k:Int)+1))]->K3 ⟨e,H.set i (.cells (lM d2++rest)),T⟩:=by
     intro Qv e he;refine bG _ (aI ⟨[(0,.cN i 0 d.length),(1,.int .i64 (a:Nat)),(2,.int .i64 (b:Nat)),(3,.fn g [] []),(8,.int .i64 ((k:Int)+1))],H.set i (.cells (lM d2++rest)),T⟩ (ag [] [] (by simp) (by simp) (by simp) (by simp) (Rh d2) (by simpa using he)) ?_);refine aC λK hK=>?_;simp(disch:=omega) ;apply hK;refine⟨(d2,k+1),⟨by simp only;omega,.inl (by simp only;omega),(h3.wide (agE _) (by omega)).trans ((g3.seg g2 g4).wide g1 (agE _)),g3.sorted g1 g2 h4 hwx Qv g5⟩,by show b-(k+1)<b-k;omega,?_⟩;refine ag [] [] ?_ ?_ ?_ ?_ (Rh d2) ?_
     all_goals simp[eH]
    refine af λK4 lG=>?_
    by_cases hj:a<j
    ·have bj:decide ((a:Int)<j)=true:=agH (by omega);have Ia:=Oc (d:=d2) (k:=j) rest (by omega);have oU:=Oc (d:=d2) (k:=j-1) rest (by omega);have ej:((j:Int)-1)=((j-1:Nat):Int):=by omega
     have hx:d2.getD j ze=d1.getD (k+1) ze:=by rw[g3 j,agN rfl]
     have hy:d2.getD (j-1) ze=d1.getD (j-1) ze:=by rw[g3 (j-1),agL (by omega),agL (by omega)]
     have hPm:∀t,t<d2.length->P (d2.getD t ze).2:=λt ht=>hP _ (h3.perm.mem_iff.1 (g4.mem_iff.1 (aT d2 t ze ht)));obtain⟨q,c,A6⟩:=hg.at (d2.getD j ze) (d2.getD (j-1) ze) (hPm j (by omega)) (hPm (j-1) (by omega)) (H.set i (.cells (lM d2++rest))) T;rw[hx,hy] at A6
     by_cases hq:q<0
     ·have bq:decide (q<0)=true:=agH hq;have hsw:=Wo d2 j (j-1) rest (by omega) (by omega);refine aK [] [] [] aw (by kernel_rfl) (by kernel_rfl) λK hK=>?_;simp(disch:=omega)[bj,hj,ej,Ia,oU,te,jy,eH];refine aD (c) rfl ?_;simp(disch:=omega)[bq,hq];apply hK;apply aH rfl;apply aq;simp(disch:=omega) ;apply lG;clear lG;refine af λK5 lq=>?_;apply aj;refine cT [15,17] [0,0,0,0,0,0,0,0,0,0,0,0,0,0,0,0,1,1] [[2,3,4],[]] aw (by kernel_rfl) (by kernel_rfl) λK hK=>?_;simp(disch:=omega)[ej,Ia,oU,te,jy,eH];rw[hsw];apply hK;apply lq;clear lq;refine aC λK hK=>?_;simp(disch:=omega)[ej];apply hK;refine⟨(swp d2 j (j-1),j-1),⟨by simp only;omega,by simp only;omega,g3.step (by omega) g2 (by omega),(OA (by omega) (by omega)).trans g4,λt t1 t2=>?_⟩,by show j-1<j;omega,?_⟩
      ·simp only at t1;rcases agM t j with e|e
       ·have:t=j-1:=by omega
        subst this;exact A6.1 hq
       ·exact g5 t e t2
      ·refine ag [] [] ?_ ?_ ?_ ?_ (Rh _) ?_
       all_goals simp[eH]
     ·have bq:decide (q<0)=false:=agI hq;refine aK [] [] [] aw (by kernel_rfl) (by kernel_rfl) λK hK=>?_;simp(disch:=omega)[bj,hj,ej,Ia,oU,te,jy,eH];refine aD (c) rfl ?_;simp(disch:=omega)[bq,hq];apply hK;apply aF rfl;apply aG;simp(disch:=omega) ;refine go (λt t1 t2=>?_) _ ?_
      ·have e1:(ky (d1.getD (k+1) ze))<=(ky (d1.getD (j-1) ze)):=by
        rcases Int.lt_or_le (ky (d1.getD (j-1) ze)) (ky (d1.getD (k+1) ze)) with e|e
        ·exact absurd (A6.2 e) hq
        ·exact e
       rcases agM t (j-1) with e2|e2
       ·have:=Uv (h4 t (j-1) t1 e2 (by omega));omega
       ·have:t=j-1:=by omega
        subst this;exact e1
      ·simp[eH]
    ·have bj:decide ((a:Int)<j)=false:=agI (by omega);refine aK [] [] [] aw (by kernel_rfl) (by kernel_rfl) λK hK=>?_;simp(disch:=omega)[bj,hj];apply hK;apply aF rfl;apply aG;simp(disch:=omega) ;refine go (λt t1 t2=>by omega) _ ?_;simp[eH]
  ·have bk:decide (((k:Int)+1)<b)=false:=agI (by omega);have bk':¬((k:Int)+1)<b:=by omega
   refine ae λK hK=>?_;simp(disch:=omega)[bk,bk'];apply hK;apply aF rfl;apply aG;simp(disch:=omega) ;refine⟨rfl,rfl,d1,rfl,?_⟩;rcases h2 with h2|⟨h2,h5⟩
   ·have:k+1=b:=by omega
    rw[<-this];exact⟨h3,h4⟩
   ·subst h2;subst h5;exact⟨Sx.refl _ _ _,λp q q1 q2 q3=>by omega⟩
attribute [-simp] List.getD_eq_getElem?_getD in
def Kr {P:Dc->Prop}{g:Nat}(hg:Gk P g)(N:Nat)(hN:N<=19)(d:List GE)(hP:∀e∈d,P e.2)(rest:List AV)(i:Nat)(hd:d.length=N)(hw:Wg d 0 N)(H:List aA)(T:au)(hi:H[i]?=some (.cells (lM d++rest)))(hr:aM H.length T.length rest) :
  ar Tryz.prog 156 [.cN i 0 N,.int .i64 (N:Nat),.fn g [] []] H T (Uz i rest H T (λd'=>Sx d d' 0 N/\Od d' 0 N)):=by
 have eH:=(agC.1 hi).1;have c:=LD hg d hP rest 0 N i (by omega) (by omega) (by omega) hw H T hi hr;rw[hd] at c;have b1:decide ((20:Int)<=(N:Int))=false:=agI (by omega);have b2:¬20<=N:=by omega
 have b3:decide ((20:Int)<(N:Int))=false:=agI (by omega);have b4:¬20<N:=by omega
 refine ah 10 [] Tryz.ntmps156 Tryz.func156 rfl (λ_ _=>Tryz.call156 _ _) (by simp) (λHO=>?_);apply ae;intro K Z;simp(disch:=omega);apply Z;apply ae;intro K Z;simp(disch:=omega);apply Z;refine af λK1 aP=>?_;apply aj;refine aJ (X:=Nat) (λ_=>⟨[(0,.cN i 0 N),(1,.int .i64 (N:Nat)),(2,.fn g [] []),(6,.int .i64 20),(7,.int .i64 0),(8,.int .i64 20)],H,T⟩) (λ_=>True) (λ_=>0) 0 trivial ?_ ?_
 ·refine ag [] [] ?_ ?_ ?_ ?_ HO ?_
  all_goals simp[eH]
 ·intro k _;refine af λK2 bp=>?_;refine ae λK hK=>?_;simp(disch:=omega)[b1,b2];apply hK;apply aF rfl;apply aG;simp(disch:=omega) ;apply aP;clear aP;refine ae λK hK=>?_;simp(disch:=omega) ;refine⟨_,c,?_⟩;rintro v H' T' ⟨rfl,rfl,d2,rfl,k1,k2⟩;simp(disch:=omega) ;apply hK;have fj:bN (H.set i (.cells (lM d2++rest))) T':=HO.set (by simp[hr]);apply aj;refine aJ (X:=Nat) (λ_=>⟨[(1,.int .i64 (N:Nat)),(6,.int .i64 20)],H.set i (.cells (lM d2++rest)),T'⟩) (λ_=>True) (λ_=>0) 0 trivial ?_ ?_
  ·refine ag [] [] ?_ ?_ ?_ ?_ fj ?_
   all_goals simp
  ·intro k _;refine af λK3 bG=>?_;refine ae λK hK=>?_;simp(disch:=omega)[b3,b4];apply hK;apply aF rfl;apply aG;simp(disch:=omega) ;exact⟨rfl,rfl,d2,rfl,k1,k2⟩
end Go.Proofs.YtoejlmpbebjemaaGreat
