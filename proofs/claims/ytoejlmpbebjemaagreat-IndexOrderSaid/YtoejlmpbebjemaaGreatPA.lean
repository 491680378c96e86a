/- Valid lists of layer 38. Valid lists of the reference of layer 38, and comparisons. The merging of two ascending lists: laws on lists. Merging in layer 38: what is done with an element. Merging in layer 38: the walk over two lists of numbers. Merging in layer 38: the walk over two lists of numbers. And, Or, Without of layer 38. Membership in the reference of layer 38. And and Without of the reference of layer 38, and that they are the program's. Or of the reference of layer 38, and that it is the program's.
  Conditions: lengths below 1000 or 5000, as each theorem says. -/
import Derived.Test.YtoejlmpbebjemaaGreatAmFacts
import Derived.Test.YtoejlmpbebjemaaGreatAmB
set_option linter.all false
set_option maxRecDepth 100000
set_option maxHeartbeats 4000000
open List (getD_eq_getElem?_getD)
namespace Go.Proofs.YtoejlmpbebjemaaGreat
open Go Go.Am
def aw:Tryz.prog.follows .mixedOrders=true:=by kernel_rfl
def lW (l:List Int)(lo hi:Int)(k:Nat):Bool:=decide (lo<=l.getD k 0)&&decide (l.getD k 0<=hi)&&(decide (k=0)||decide (l.getD (k-1) 0<l.getD k 0))
def oX (l:List Int)(lo hi:Int):Bool:=(List.range l.length).all (lW l lo hi)
def Tr {l:List Int}{lo hi:Int}{k:Nat}(hk:k<l.length)(h:lW l lo hi k=false):oX l lo hi=false:=by
 unfold oX;rw[List.all_eq_false];exact⟨k,by simpa using hk,by simp[h]⟩
def Je {l:List Int}{lo hi:Int}(h:∀j,j<l.length->lW l lo hi j=true):oX l lo hi=true:=by
 unfold oX;rw[aha];intro j hj;exact h j (by simpa using hj)
attribute [-simp] getD_eq_getElem?_getD in
theorem Oj (l:List Int)(lo hi:Int)(hl:l.length<=maxLen)(H:List aA)(T:au)(tg:Tag):ar Tryz.prog 115 [.sl l.length (ints l) tg,.int .i64 lo,.int .i64 hi] H T (Is (.bool (oX l lo hi)) H T):=by
 refine ar.cF ?_;have kC:maxLen<=9223372036854775807:=by decide
 have jJ:=agJ hl kC;refine ah 12 [] Tryz.ntmps115 Tryz.func115 rfl (λ_ _=>Tryz.call115 _ _) (by simp) (λHO=>?_);apply ae;intro K Z;simp(disch:=omega);apply Z;refine af λK1 aP=>?_;apply ae;intro K Z;simp(disch:=omega);apply Z;apply aj;refine aJ (X:=Nat) (λk=>⟨[(0,.sl l.length (ints l) .none),(1,.int .i64 lo),(2,.int .i64 hi),(9,.sl l.length (ints l) .none),(10,.int .i64 (l.length:Nat)),(11,.int .i64 (k:Nat))],H,T⟩) (λk=>k<=l.length/\∀j,j<k->lW l lo hi j=true) (λk=>l.length-k) 0 ?_ ?_ ?_
 ·exact⟨agP _,λj hj=>absurd hj (ag9 _)⟩
 ·refine ag [] [] ?_ ?_ ?_ ?_ HO ?_
  all_goals simp
 ·rintro k ⟨h1,h2⟩;apply ae;intro K Z;simp(disch:=omega);apply Z;refine af λK2 bp=>?_;refine aU rfl (λhk=>?_) (λhk=>?_)
  ·simp  at hk;apply aq;simp(disch:=omega) ;apply bp;clear bp;refine af λK3 bG=>?_;apply aj;refine ae λK hK=>?_;simp(disch:=omega)[bM];apply hK;refine ae λK hK=>?_;have key:∀e b,b=(!lW l lo hi k)->bC H.length T.length e [(0,.sl l.length (ints l) .none),(1,.int .i64 lo),(2,.int .i64 hi),(9,.sl l.length (ints l) .none),(10,.int .i64 (l.length:Nat)),(11,.int .i64 (k:Nat)),(36,.bool b)]->K ⟨e,H,T⟩:=by
    intro e b hb he;refine hK _ (aI ⟨[(0,.sl l.length (ints l) .none),(1,.int .i64 lo),(2,.int .i64 hi),(9,.sl l.length (ints l) .none),(10,.int .i64 (l.length:Nat)),(11,.int .i64 (k:Nat)),(36,.bool b)],H,T⟩ (ag [] [] (by simp) (by simp) (by simp) (by simp) HO he) ?_)
    cases jC:lW l lo hi k with
    |false=>
     rw[jC] at hb;subst hb;apply aH rfl;apply ae;intro K Z;simp(disch:=omega);apply Z;apply az;simp(disch:=omega) ;rw[Tr hk jC];exact⟨rfl,rfl,rfl⟩
    |true=>
     rw[jC] at hb;subst hb;apply aF rfl;apply aq;simp(disch:=omega) ;apply bG;clear bG;refine aC λK hK=>?_;simp(disch:=omega) ;apply hK;refine⟨k+1,⟨by show k+1<=_;omega,λj hj=>?_⟩,by show l.length-(k+1)<l.length-k;omega,?_⟩
     ·rcases agM j k with h3|h3
      ·exact h2 j h3
      ·have:j=k:=by omega
       subst this;exact jC
     ·refine ag [] [] ?_ ?_ ?_ ?_ HO ?_
      all_goals simp
   clear hK
   by_cases c1:l.getD k 0<lo
   ·have b1:decide (l.getD k 0<lo)=true:=by simpa using c1
    simp(disch:=omega)[b1,c1];refine key _ true ?_ (by simp);have:¬lo<=l.getD k 0:=by omega
    simp only[lW,agI this];rfl
   ·have b1:decide (l.getD k 0<lo)=false:=by simpa using c1
    by_cases c2:hi<l.getD k 0
    ·have b2:decide (hi<l.getD k 0)=true:=by simpa using c2
     simp(disch:=omega)[b1,c1,b2,c2];refine key _ true ?_ (by simp);have:¬l.getD k 0<=hi:=by omega
     simp only[lW,agI this,Bool.and_false];rfl
    ·have b2:decide (hi<l.getD k 0)=false:=by simpa using c2
     have e1:lo<=l.getD k 0:=by omega
     have e2:l.getD k 0<=hi:=by omega
     rcases ahc k with h0|h0
     ·subst h0;simp(disch:=omega)[b1,c1,b2,c2];refine key _ false ?_ (by simp);simp only[lW,agH e1,agH e2];rfl
     ·have b3:decide ((0:Int)<(k:Int))=true:=by simp;omega
      have c3:(0:Int)<k:=by omega
      have ek:((k:Int)-1).toNat=k-1:=by omega
      have jl:=bM (xs:=l) (k:=k-1) (by omega)
      by_cases c4:l.getD k 0<=l.getD (k-1) 0
      ·have b4:decide (l.getD k 0<=l.getD (k-1) 0)=true:=by simpa using c4
       simp(disch:=omega)[b1,c1,b2,c2,b3,c3,h0,ek,jl,b4,c4];refine key _ true ?_ (by simp);have e3:¬l.getD (k-1) 0<l.getD k 0:=by omega
       have e4:¬k=0:=by omega
       simp only[lW,agH e1,agH e2,agI e3,agI e4];rfl
      ·have b4:decide (l.getD k 0<=l.getD (k-1) 0)=false:=by simpa using c4
       simp(disch:=omega)[b1,c1,b2,c2,b3,c3,h0,ek,jl,b4,c4];refine key _ false ?_ (by simp);have e3:l.getD (k-1) 0<l.getD k 0:=by omega
       simp only[lW,agH e1,agH e2,agH e3,Bool.or_true];rfl
  ·simp  at hk;apply aG;simp(disch:=omega) ;apply aP;clear aP;apply ae;intro K Z;simp(disch:=omega);apply Z;apply az;simp(disch:=omega) ;rw[Je (λj hj=>h2 j (by omega))];exact⟨rfl,rfl,rfl⟩
attribute [-simp] getD_eq_getElem?_getD in
def iu (l:List Int)(hl:l.length<=maxLen)(H:List aA)(T:au)(tg:Tag):ar Tryz.prog 61 [.sl l.length (ints l) tg] H T (Is (.bool (oX l 1 1000000000)) H T):=by
 refine ah 3 [] Tryz.ntmps61 Tryz.func61 rfl (λ_ _=>Tryz.call61 _ _) (by simp) (λHO=>?_);apply ae;intro K Z;simp(disch:=omega);apply Z;refine ae λK hK=>?_;simp(disch:=omega) ;refine ak (Oj l 1 1000000000 hl H T tg) ?_;simp(disch:=omega) ;apply hK;apply az;simp(disch:=omega) ;exact⟨rfl,rfl,rfl⟩
def BE {α:Type}[DecidableEq α]{a b:List α}(d:α)(h:a.length=b.length)(hj:∀j,j<a.length->a.getD j d=b.getD j d):a=b:=by
 apply aiy h;intro i h1 h2;have:=hj i h1
 rwa [agB,agB,agD h1,agD h2] at this
attribute [-simp] getD_eq_getElem?_getD in
def pV (a b:List Int)(ha:a.length<=maxLen)(hb:b.length<=maxLen)(H:List aA)(T:au)(ta tb:Tag):ar Tryz.prog 44 [.sl a.length (ints a) ta,.sl b.length (ints b) tb] H T (Is (.bool (a==b)) H T):=by
 refine ar.cF ?_;have kC:maxLen<=9223372036854775807:=by decide
 have XW:=agJ ha kC;have yF:=agJ hb kC;refine ah 6 [] Tryz.ntmps44 Tryz.func44 rfl (λ_ _=>Tryz.call44 _ _) (by simp) (λHO=>?_);apply ae;intro K Z;simp(disch:=omega);apply Z;refine af λK1 aP=>?_;apply ae;intro K Z;simp(disch:=omega);apply Z;refine aU rfl (λh=>?_) (λh=>?_)
 ·simp  at h;apply ae;intro K Z;simp(disch:=omega);apply Z;apply az;simp(disch:=omega) ;have:(a==b)=false:=by simp;intro e;subst e;exact h rfl
  rw[this];exact⟨rfl,rfl,rfl⟩
 ·simp  at h;have hl:a.length=b.length:=by omega
  apply aq;simp(disch:=omega) ;apply aP;clear aP;refine af λK1 aP=>?_;apply ae;intro K Z;simp(disch:=omega);apply Z;apply aj;refine aJ (X:=Nat) (λi=>⟨[(0,.sl a.length (ints a) .none),(1,.sl b.length (ints b) .none),(5,.int .i64 (i:Nat))],H,T⟩) (λi=>i<=a.length/\∀j,j<i->a.getD j 0=b.getD j 0) (λi=>a.length-i) 0 ?_ ?_ ?_
  ·exact⟨by omega,λj hj=>by omega⟩
  ·refine ag [] [] ?_ ?_ ?_ ?_ HO ?_
   all_goals simp
  ·rintro i ⟨hi,hj⟩;refine af λK2 bp=>?_;apply ae;intro K Z;simp(disch:=omega);apply Z;refine aU rfl (λh=>?_) (λh=>?_)
   ·simp  at h;apply aq;simp(disch:=omega) ;apply bp;clear bp;refine af λK3 bG=>?_;apply aj
    by_cases he:a.getD i 0=b.getD i 0
    ·refine aK [] [] [] aw (by kernel_rfl) (by kernel_rfl) λK hK=>?_;simp(disch:=omega)[bM,he];apply hK;apply aF rfl;apply aq;simp(disch:=omega) ;apply bG;clear bG;refine aC λK hK=>?_;simp(disch:=omega) ;apply hK;refine⟨i+1,⟨by omega,λj bQ=>?_⟩,by omega,?_⟩
     ·rcases agM j i with h1|h1
      ·exact hj j h1
      ·have:j=i:=by omega
       subst this;exact he
     ·refine ag [] [] ?_ ?_ ?_ ?_ HO ?_
      all_goals simp
    ·have Ci:(a.getD i 0!=b.getD i 0)=true:=bne_iff_ne.2 he;refine aK [] [] [] aw (by kernel_rfl) (by kernel_rfl) λK hK=>?_;simp(disch:=omega)[bM,Ci];apply hK;apply aH rfl;apply ae;intro K Z;simp(disch:=omega);apply Z;apply az;simp(disch:=omega) ;have:(a==b)=false:=by simp;intro e;subst e;exact he rfl
     rw[this];exact⟨rfl,rfl,rfl⟩
   ·simp  at h;apply aG;simp(disch:=omega) ;apply aP;clear aP;apply ae;intro K Z;simp(disch:=omega);apply Z;apply az;simp(disch:=omega) ;refine⟨?_,rfl,rfl⟩;have:a=b:=BE 0 hl (λj bQ=>hj j (by omega));simp[this]
end Go.Proofs.YtoejlmpbebjemaaGreat
namespace cO
def jB {β:Type}(fA fB fAB:β->Int->β):Nat->List Int->List Int->β->β
 |0,_,_,o=>o
 |n+1,x::a,y::b,o=>if x<y then jB fA fB fAB n a (y::b) (fA o x) else if y<x then jB fA fB fAB n (x::a) b (fB o y) else jB fA fB fAB n a b (fAB o x)
 |n+1,x::a,[],o=>jB fA fB fAB n a [] (fA o x)
 |n+1,[],y::b,o=>jB fA fB fAB n [] b (fB o y)
 |_+1,[],[],o=>o
def kn (l:List Int):Prop:=l.Pairwise (·<·)
def mh {x:Int}{l:List Int}(h:kn (x::l)):kn l/\∀y∈l,x<y:=⟨(ahz.1 h).2,(ahz.1 h).1⟩
def snoc (o:List Int)(x:Int):List Int:=o++[x]
theorem IN (kA kB Ms:Bool):∀(n:Nat)(a b o:List Int),a.length+b.length<=n->kn a->kn b->
  jB (λo x=>if kA then o++[x] else o) (λo x=>if kB then o++[x] else o) (λo x=>if Ms then o++[x] else o) n a b o =
   o++jB (λo x=>if kA then o++[x] else o) (λo x=>if kB then o++[x] else o) (λo x=>if Ms then o++[x] else o) n a b []/\
  (∀z,z∈jB (λo x=>if kA then o++[x] else o) (λo x=>if kB then o++[x] else o) (λo x=>if Ms then o++[x] else o) n a b []↔
   (z∈a/\z∉b/\kA=true)\/(z∈b/\z∉a/\kB=true)\/(z∈a/\z∈b/\Ms=true))/\
  kn (jB (λo x=>if kA then o++[x] else o) (λo x=>if kB then o++[x] else o) (λo x=>if Ms then o++[x] else o) n a b []):=by
 intro n
 induction n with
 |zero=>
  intro a b o h _ _;have ha:a=[]:=ahe (by omega);have hb:b=[]:=ahe (by omega);subst ha;subst hb;exact⟨by simp[jB],by simp[jB],List.Pairwise.nil⟩
 |succ n ih=>
  intro a b o h ha hb;have put:∀(k:Bool)(x:Int)(a' b' o:List Int),a'.length+b'.length<=n->kn a'->kn b'->(∀z,z∈a'->x<z)->(∀z,z∈b'->x<z)->
    jB (λo x=>if kA then o++[x] else o) (λo x=>if kB then o++[x] else o) (λo x=>if Ms then o++[x] else o) n a' b' (if k then o++[x] else o) =
     o++jB (λo x=>if kA then o++[x] else o) (λo x=>if kB then o++[x] else o) (λo x=>if Ms then o++[x] else o) n a' b' (if k then ([]:List Int)++[x] else [])/\
    (∀z,z∈jB (λo x=>if kA then o++[x] else o) (λo x=>if kB then o++[x] else o) (λo x=>if Ms then o++[x] else o) n a' b' (if k then ([]:List Int)++[x] else [])↔
     (z=x/\k=true)\/(z∈a'/\z∉b'/\kA=true)\/(z∈b'/\z∉a'/\kB=true)\/(z∈a'/\z∈b'/\Ms=true))/\
    kn (jB (λo x=>if kA then o++[x] else o) (λo x=>if kB then o++[x] else o) (λo x=>if Ms then o++[x] else o) n a' b' (if k then ([]:List Int)++[x] else [])):=by
   intro k x a' b' o h' XW yF TF hxb;obtain⟨i1,i2,i3⟩:=ih a' b' [] h' XW yF;have j1:=λo=>(ih a' b' o h' XW yF).1;rw[j1 (if k then o++[x] else o),j1 (if k then ([]:List Int)++[x] else [])];generalize jB (λo x=>if kA then o++[x] else o) (λo x=>if kB then o++[x] else o) (λo x=>if Ms then o++[x] else o) n a' b' []=m at *;refine⟨?_,λz=>?_,?_⟩
   ·cases k<;>simp
   ·rw[agR,i2]
    cases k<;>simp
   ·cases k
    ·simpa using i3
    ·simp only[ain,aic,aiQ];refine ahz.2 ⟨λz hz=>?_,i3⟩;rcases (i2 z).1 hz with⟨h1,_⟩|⟨h1,_⟩|⟨h1,_⟩
     ·exact TF z h1
     ·exact hxb z h1
     ·exact TF z h1
  cases a with
  |nil=>
   cases b with
   |nil=>exact⟨by simp[jB],by simp[jB],List.Pairwise.nil⟩
   |cons y b=>
    obtain⟨h1,h2⟩:=mh hb;obtain⟨p1,p2,p3⟩:=put kB y [] b o (by simp at h ⊢;omega) List.Pairwise.nil h1 (λz hz=>by simp at hz) h2;refine⟨p1,λz=>?_,p3⟩;rw[jB,p2];simp
    by_cases e:z=y<;>simp[e]
  |cons x a=>
   obtain⟨h1,h2⟩:=mh ha
   cases b with
   |nil=>
    obtain⟨p1,p2,p3⟩:=put kA x a [] o (by simp at h ⊢;omega) h1 List.Pairwise.nil h2 (λz hz=>by simp at hz);refine⟨p1,λz=>?_,p3⟩;rw[jB,p2];simp
    by_cases e:z=x<;>simp[e]
   |cons y b=>
    obtain⟨h3,h4⟩:=mh hb;simp only[ahd] at h
    by_cases c1:x<y
    ·have XA:∀z,z∈y::b->x<z:=λz hz=>by
      rcases ag6.1 hz with rfl|hz
      ·exact c1
      ·have:=h4 z hz;omega
     obtain⟨p1,p2,p3⟩:=put kA x a (y::b) o (by simp;omega) h1 hb h2 XA;rw[jB,agN c1,jB,agN c1];refine⟨p1,λz=>?_,p3⟩;rw[p2]
     by_cases e:z=x
     ·subst e;have n1:z∉a:=λhz=>by have:=h2 z hz;omega
      have n2:z∉y::b:=λhz=>by have:=XA z hz;omega
      simp[n1,n2]
     ·simp[e]
    ·by_cases c2:y<x
     ·have TF:∀z,z∈x::a->y<z:=λz hz=>by
       rcases ag6.1 hz with rfl|hz
       ·exact c2
       ·have:=h2 z hz;omega
      obtain⟨p1,p2,p3⟩:=put kB y (x::a) b o (by simp;omega) ha h3 TF h4;rw[jB,agL c1,agN c2,jB,agL c1,agN c2];refine⟨p1,λz=>?_,p3⟩;rw[p2]
      by_cases e:z=y
      ·subst e;have n1:z∉b:=λhz=>by have:=h4 z hz;omega
       have n2:z∉x::a:=λhz=>by have:=TF z hz;omega
       simp[n1,n2]
      ·simp[e]
     ·have e0:x=y:=by omega
      subst e0;obtain⟨p1,p2,p3⟩:=put Ms x a b o (by omega) h1 h3 h2 h4;rw[jB,agL c1,agL c2,jB,agL c1,agL c2];refine⟨p1,λz=>?_,p3⟩;rw[p2]
      by_cases e:z=x
      ·subst e;have n1:z∉a:=λhz=>by have:=h2 z hz;omega
       have n2:z∉b:=λhz=>by have:=h4 z hz;omega
       simp[n1,n2]
      ·simp[e]
theorem jZ:∀(a b:List Int),kn a->kn b->(∀z,z∈a↔z∈b)->a=b:=by
 intro a
 induction a with
 |nil=>
  intro b _ _ h
  cases b with
  |nil=>rfl
  |cons y b=>have:=(h y).2 (by simp);simp at this
 |cons x a ih=>
  intro b ha hb h
  cases b with
  |nil=>have:=(h x).1 (by simp);simp at this
  |cons y b=>
   obtain⟨h1,h2⟩:=mh ha;obtain⟨h3,h4⟩:=mh hb;have e:x=y:=by
    have g1:=(h x).1 (by simp);have g2:=(h y).2 (by simp);rcases ag6.1 g1 with g1|g1
    ·exact g1
    ·rcases ag6.1 g2 with g2|g2
     ·exact g2.symm
     ·have:=h4 x g1;have:=h2 y g2;omega
   subst e
   congr 1
   refine ih b h1 h3 (λz=>?_);have:=h z
   constructor
   ·intro hz;have dN:z≠x:=by have:=h2 z hz;omega
    rcases ag6.1 (this.1 (by simp[hz])) with e|e
    ·exact absurd e dN
    ·exact e
   ·intro hz;have dN:z≠x:=by have:=h4 z hz;omega
    rcases ag6.1 (this.2 (by simp[hz])) with e|e
    ·exact absurd e dN
    ·exact e
end cO
namespace Go.Proofs.YtoejlmpbebjemaaGreat
open Go.Proofs.Tryz(prog)
open Go Go.Am
def si (out:List Int)(tk:Nat):AV:=if out=[] then .sl 0 [] .full else .sl out.length (ints out) (.own tk)
def SH (H:List aA)(g:Nat)(out:List Int)(tk:Nat):List aA:=H++[.cells [.fn g [] []],.cells [si out tk]]
def ST (T:au)(out:List Int):au:=if out=[] then T else T++[(out.length,1)]
theorem eE (l:List Int)(x:Int):ints l++[.int .i64 x]=ints (l++[x]):=by simp[ints]
attribute [-simp] getD_eq_getElem?_getD in
def dP (n:Int)(H:List aA)(T:au):ar prog 172 [.int .i64 n] H T (Is (.int .i64 n) H T):=by
 refine ah 3 [] Tryz.ntmps172 Tryz.func172 rfl (λ_ _=>Tryz.call172 _ _) (by simp) (λHO=>?_);apply ae;intro K Z;simp(disch:=omega);apply Z;apply ae;intro K Z;simp(disch:=omega);apply Z;apply az;simp(disch:=omega) ;exact⟨rfl,rfl,rfl⟩
attribute [-simp] getD_eq_getElem?_getD in
def Ts (p q:Bool)(H:List aA)(T:au):ar prog 118 [.bool p,.bool q] H T (Is (.bool (p&&q)) H T):=by
 refine ah 5 [] Tryz.ntmps118 Tryz.func118 rfl (λ_ _=>Tryz.call118 _ _) (by simp) (λHO=>?_);apply ae;intro K Z;simp(disch:=omega);apply Z
 cases p
 ·apply ae;intro K Z;simp(disch:=omega);apply Z;apply az;simp(disch:=omega) ;exact⟨rfl,rfl,rfl⟩
 ·apply ae;intro K Z;simp(disch:=omega);apply Z;apply az;simp(disch:=omega) ;exact⟨rfl,rfl,rfl⟩
attribute [-simp] getD_eq_getElem?_getD in
def V7 (p q:Bool)(H:List aA)(T:au):ar prog 119 [.bool p,.bool q] H T (Is (.bool true) H T):=by
 refine ah 5 [] Tryz.ntmps119 Tryz.func119 rfl (λ_ _=>Tryz.call119 _ _) (by simp) (λHO=>?_);apply ae;intro K Z;simp(disch:=omega);apply Z;apply ae;intro K Z;simp(disch:=omega);apply Z;apply az;simp(disch:=omega) ;exact⟨rfl,rfl,rfl⟩
attribute [-simp] getD_eq_getElem?_getD in
def ES (p q:Bool)(H:List aA)(T:au):ar prog 117 [.bool p,.bool q] H T (Is (.bool (!q)) H T):=by
 refine ah 5 [] Tryz.ntmps117 Tryz.func117 rfl (λ_ _=>Tryz.call117 _ _) (by simp) (λHO=>?_);apply ae;intro K Z;simp(disch:=omega);apply Z;apply ae;intro K Z;simp(disch:=omega);apply Z;apply az;simp(disch:=omega) ;exact⟨rfl,rfl,rfl⟩
attribute [-simp] getD_eq_getElem?_getD in
def Et (g:Nat)(kf:Bool->Bool->Bool)(hg:∀p q H T,ar prog g [.bool p,.bool q] H T (Is (.bool (kf p q)) H T))(out:List Int)(ho:out.length<=5000)(a:List Int)(i:Nat)(hi:i<a.length)(ha:a.length<=5000)(H:List aA)(T:au) :
  ar prog 173 [.dZ (ints a) i,.fV,.ptr H.length 0,.ptr (H.length+1) 0] (SH H g out T.length) (ST T out) (Is (.df []) (SH H g (if kf true false then out++[a.getD i 0] else out) T.length) (ST T (if kf true false then out++[a.getD i 0] else out))):=by
 have Mw:=bM (xs:=a) (k:=i) (by omega);have dN:out++[a.getD i 0]≠[]:=by simp
 have Cu:=eE out (a.getD i 0)
 cases TN:kf true false
 ·rw[agL (by decide)];have hc:=λH T=>hg true false H T;rw[TN] at hc;simp only[SH];generalize si out T.length=ob;generalize ST T out=TT;refine ah 7 [] Tryz.ntmps173 Tryz.func173 rfl (λ_ _=>Tryz.call173 _ _) (by simp) (λHO=>?_);apply ae;intro K Z;simp(disch:=omega);apply Z;refine af λK1 aP=>?_;apply ae;intro K Z;simp(disch:=omega);apply Z;apply aF rfl;apply aq;simp(disch:=omega) ;apply aP;clear aP;refine ae λK hK=>?_;simp(disch:=omega) ;refine ak (hc _ _) ?_;simp(disch:=omega) ;apply hK;apply aF rfl;apply aq;simp(disch:=omega) ;exact⟨rfl,rfl,rfl⟩
 ·rw[agN rfl];have hc:=λH T=>hg true false H T;rw[TN] at hc
  by_cases h0:out=[]
  ·subst h0;have e1:SH H g [] T.length=H++[.cells [.fn g [] []],.cells [.sl 0 [] .full]]:=rfl;have e2:SH H g ([]++[a.getD i 0]) T.length=H++[.cells [.fn g [] []],.cells [.sl 1 [.int .i64 (a.getD i 0)] (.own T.length)]]:=rfl;have e3:ST T []=T:=rfl;have e4:ST T ([]++[a.getD i 0])=T++[(1,1)]:=rfl;rw[e1,e2,e3,e4];refine ah 7 [] Tryz.ntmps173 Tryz.func173 rfl (λ_ _=>Tryz.call173 _ _) (by simp) (λHO=>?_);apply ae;intro K Z;simp(disch:=omega);apply Z;refine af λK1 aP=>?_;apply ae;intro K Z;simp(disch:=omega);apply Z;apply aF rfl;apply aq;simp(disch:=omega) ;apply aP;clear aP;refine ae λK hK=>?_;simp(disch:=omega) ;refine ak (hc _ _) ?_;simp(disch:=omega) ;apply hK;apply aH rfl;refine cT [5,6] [0,0,0,0,0,0,1] [[],[]] aw (by kernel_rfl) (by kernel_rfl) λK hK=>?_;simp(disch:=omega)[Mw];apply hK;exact⟨rfl,rfl,rfl⟩
  ·have e1:SH H g out T.length=H++[.cells [.fn g [] []],.cells [.sl out.length (ints out) (.own T.length)]]:=by simp[SH,si,h0]
   have e2:SH H g (out++[a.getD i 0]) T.length=H++[.cells [.fn g [] []],.cells [.sl (out.length+1) (ints (out++[a.getD i 0])) (.own T.length)]]:=by simp[SH,si]
   have e3:ST T out=T++[(out.length,1)]:=by simp[ST,h0]
   have e4:ST T (out++[a.getD i 0])=T++[(out.length+1,1)]:=by simp[ST]
   rw[e1,e2,e3,e4];refine ah 7 [] Tryz.ntmps173 Tryz.func173 rfl (λ_ _=>Tryz.call173 _ _) (by simp) (λHO=>?_);apply ae;intro K Z;simp(disch:=omega);apply Z;refine af λK1 aP=>?_;apply ae;intro K Z;simp(disch:=omega);apply Z;apply aF rfl;apply aq;simp(disch:=omega) ;apply aP;clear aP;refine ae λK hK=>?_;simp(disch:=omega) ;refine ak (hc _ _) ?_;simp(disch:=omega) ;apply hK;apply aH rfl;refine cT [5,6] [0,0,0,0,0,0,1] [[],[]] aw (by kernel_rfl) (by kernel_rfl) λK hK=>?_;simp(disch:=omega)[Mw,Cu];apply hK;exact⟨rfl,rfl,rfl⟩
attribute [-simp] getD_eq_getElem?_getD in
def Es (g:Nat)(kf:Bool->Bool->Bool)(hg:∀p q H T,ar prog g [.bool p,.bool q] H T (Is (.bool (kf p q)) H T))(out:List Int)(ho:out.length<=5000)(b:List Int)(j:Nat)(hj:j<b.length)(hb:b.length<=5000)(H:List aA)(T:au) :
  ar prog 173 [.fV,.dZ (ints b) j,.ptr H.length 0,.ptr (H.length+1) 0] (SH H g out T.length) (ST T out) (Is (.df []) (SH H g (if kf false true then out++[b.getD j 0] else out) T.length) (ST T (if kf false true then out++[b.getD j 0] else out))):=by
 have Mw:=bM (xs:=b) (k:=j) (by omega);have dN:out++[b.getD j 0]≠[]:=by simp
 have Cu:=eE out (b.getD j 0)
 cases TN:kf false true
 ·rw[agL (by decide)];have hc:=λH T=>hg false true H T;rw[TN] at hc;simp only[SH];generalize si out T.length=ob;generalize ST T out=TT;refine ah 7 [] Tryz.ntmps173 Tryz.func173 rfl (λ_ _=>Tryz.call173 _ _) (by simp) (λHO=>?_);apply ae;intro K Z;simp(disch:=omega);apply Z;refine af λK1 aP=>?_;apply ae;intro K Z;simp(disch:=omega);apply Z;apply aH rfl;refine aC λK hK=>?_;simp(disch:=omega) ;apply hK;apply aP;clear aP;refine ae λK hK=>?_;simp(disch:=omega) ;refine ak (hc _ _) ?_;simp(disch:=omega) ;apply hK;apply aF rfl;apply aq;simp(disch:=omega) ;exact⟨rfl,rfl,rfl⟩
 ·rw[agN rfl];have hc:=λH T=>hg false true H T;rw[TN] at hc
  by_cases h0:out=[]
  ·subst h0;have e1:SH H g [] T.length=H++[.cells [.fn g [] []],.cells [.sl 0 [] .full]]:=rfl;have e2:SH H g ([]++[b.getD j 0]) T.length=H++[.cells [.fn g [] []],.cells [.sl 1 [.int .i64 (b.getD j 0)] (.own T.length)]]:=rfl;have e3:ST T []=T:=rfl;have e4:ST T ([]++[b.getD j 0])=T++[(1,1)]:=rfl;rw[e1,e2,e3,e4];refine ah 7 [] Tryz.ntmps173 Tryz.func173 rfl (λ_ _=>Tryz.call173 _ _) (by simp) (λHO=>?_);apply ae;intro K Z;simp(disch:=omega);apply Z;refine af λK1 aP=>?_;apply ae;intro K Z;simp(disch:=omega);apply Z;apply aH rfl;refine aC λK hK=>?_;simp(disch:=omega) ;apply hK;apply aP;clear aP;refine ae λK hK=>?_;simp(disch:=omega) ;refine ak (hc _ _) ?_;simp(disch:=omega) ;apply hK;apply aH rfl;refine cT [5,6] [0,0,0,0,0,0,1] [[],[]] aw (by kernel_rfl) (by kernel_rfl) λK hK=>?_;simp(disch:=omega)[Mw];apply hK;exact⟨rfl,rfl,rfl⟩
  ·have e1:SH H g out T.length=H++[.cells [.fn g [] []],.cells [.sl out.length (ints out) (.own T.length)]]:=by simp[SH,si,h0]
   have e2:SH H g (out++[b.getD j 0]) T.length=H++[.cells [.fn g [] []],.cells [.sl (out.length+1) (ints (out++[b.getD j 0])) (.own T.length)]]:=by simp[SH,si]
   have e3:ST T out=T++[(out.length,1)]:=by simp[ST,h0]
   have e4:ST T (out++[b.getD j 0])=T++[(out.length+1,1)]:=by simp[ST]
   rw[e1,e2,e3,e4];refine ah 7 [] Tryz.ntmps173 Tryz.func173 rfl (λ_ _=>Tryz.call173 _ _) (by simp) (λHO=>?_);apply ae;intro K Z;simp(disch:=omega);apply Z;refine af λK1 aP=>?_;apply ae;intro K Z;simp(disch:=omega);apply Z;apply aH rfl;refine aC λK hK=>?_;simp(disch:=omega) ;apply hK;apply aP;clear aP;refine ae λK hK=>?_;simp(disch:=omega) ;refine ak (hc _ _) ?_;simp(disch:=omega) ;apply hK;apply aH rfl;refine cT [5,6] [0,0,0,0,0,0,1] [[],[]] aw (by kernel_rfl) (by kernel_rfl) λK hK=>?_;simp(disch:=omega)[Mw,Cu];apply hK;exact⟨rfl,rfl,rfl⟩
attribute [-simp] getD_eq_getElem?_getD in
def L4 (g:Nat)(kf:Bool->Bool->Bool)(hg:∀p q H T,ar prog g [.bool p,.bool q] H T (Is (.bool (kf p q)) H T))(out:List Int)(ho:out.length<=5000)(a:List Int)(i:Nat)(hi:i<a.length)(ha:a.length<=5000)(b:List Int)(j:Nat)(H:List aA)(T:au) :
  ar prog 173 [.dZ (ints a) i,.dZ (ints b) j,.ptr H.length 0,.ptr (H.length+1) 0] (SH H g out T.length) (ST T out) (Is (.df []) (SH H g (if kf true true then out++[a.getD i 0] else out) T.length) (ST T (if kf true true then out++[a.getD i 0] else out))):=by
 have Mw:=bM (xs:=a) (k:=i) (by omega);have dN:out++[a.getD i 0]≠[]:=by simp
 have Cu:=eE out (a.getD i 0)
 cases TN:kf true true
 ·rw[agL (by decide)];have hc:=λH T=>hg true true H T;rw[TN] at hc;simp only[SH];generalize si out T.length=ob;generalize ST T out=TT;refine ah 7 [] Tryz.ntmps173 Tryz.func173 rfl (λ_ _=>Tryz.call173 _ _) (by simp) (λHO=>?_);apply ae;intro K Z;simp(disch:=omega);apply Z;refine af λK1 aP=>?_;apply ae;intro K Z;simp(disch:=omega);apply Z;apply aF rfl;apply aq;simp(disch:=omega) ;apply aP;clear aP;refine ae λK hK=>?_;simp(disch:=omega) ;refine ak (hc _ _) ?_;simp(disch:=omega) ;apply hK;apply aF rfl;apply aq;simp(disch:=omega) ;exact⟨rfl,rfl,rfl⟩
 ·rw[agN rfl];have hc:=λH T=>hg true true H T;rw[TN] at hc
  by_cases h0:out=[]
  ·subst h0;have e1:SH H g [] T.length=H++[.cells [.fn g [] []],.cells [.sl 0 [] .full]]:=rfl;have e2:SH H g ([]++[a.getD i 0]) T.length=H++[.cells [.fn g [] []],.cells [.sl 1 [.int .i64 (a.getD i 0)] (.own T.length)]]:=rfl;have e3:ST T []=T:=rfl;have e4:ST T ([]++[a.getD i 0])=T++[(1,1)]:=rfl;rw[e1,e2,e3,e4];refine ah 7 [] Tryz.ntmps173 Tryz.func173 rfl (λ_ _=>Tryz.call173 _ _) (by simp) (λHO=>?_);apply ae;intro K Z;simp(disch:=omega);apply Z;refine af λK1 aP=>?_;apply ae;intro K Z;simp(disch:=omega);apply Z;apply aF rfl;apply aq;simp(disch:=omega) ;apply aP;clear aP;refine ae λK hK=>?_;simp(disch:=omega) ;refine ak (hc _ _) ?_;simp(disch:=omega) ;apply hK;apply aH rfl;refine cT [5,6] [0,0,0,0,0,0,1] [[],[]] aw (by kernel_rfl) (by kernel_rfl) λK hK=>?_;simp(disch:=omega)[Mw];apply hK;exact⟨rfl,rfl,rfl⟩
  ·have e1:SH H g out T.length=H++[.cells [.fn g [] []],.cells [.sl out.length (ints out) (.own T.length)]]:=by simp[SH,si,h0]
   have e2:SH H g (out++[a.getD i 0]) T.length=H++[.cells [.fn g [] []],.cells [.sl (out.length+1) (ints (out++[a.getD i 0])) (.own T.length)]]:=by simp[SH,si]
   have e3:ST T out=T++[(out.length,1)]:=by simp[ST,h0]
   have e4:ST T (out++[a.getD i 0])=T++[(out.length+1,1)]:=by simp[ST]
   rw[e1,e2,e3,e4];refine ah 7 [] Tryz.ntmps173 Tryz.func173 rfl (λ_ _=>Tryz.call173 _ _) (by simp) (λHO=>?_);apply ae;intro K Z;simp(disch:=omega);apply Z;refine af λK1 aP=>?_;apply ae;intro K Z;simp(disch:=omega);apply Z;apply aF rfl;apply aq;simp(disch:=omega) ;apply aP;clear aP;refine ae λK hK=>?_;simp(disch:=omega) ;refine ak (hc _ _) ?_;simp(disch:=omega) ;apply hK;apply aH rfl;refine cT [5,6] [0,0,0,0,0,0,1] [[],[]] aw (by kernel_rfl) (by kernel_rfl) λK hK=>?_;simp(disch:=omega)[Mw,Cu];apply hK;exact⟨rfl,rfl,rfl⟩
open cO
def di (l:List Int)(i:Nat)(h:i<l.length):l.drop i=l.getD i 0::l.drop (i+1):=by
 rw[ah5 h,agB,agD h];rfl
def MG (kf:Bool->Bool->Bool)(a b:List Int)(n i j:Nat)(o:List Int):List Int:=
 jB (λo x=>if kf true false then o++[x] else o) (λo x=>if kf false true then o++[x] else o) (λo x=>if kf true true then o++[x] else o) n (a.drop i) (b.drop j) o
section
variable {kf : Bool -> Bool -> Bool} {a b o : List Int} {n i j : Nat}
def ae3 (hn:0<n)(hi:i<a.length)(hj:j<b.length)(h:a.getD i 0<b.getD j 0):MG kf a b n i j o=MG kf a b (n-1) (i+1) j (if kf true false then o++[a.getD i 0] else o):=by
 obtain⟨m,rfl⟩:∃m,n=m+1:=⟨n-1,by omega⟩
 unfold MG;rw[di a i hi,di b j hj,jB,agN h];rfl
def ae2 (hn:0<n)(hi:i<a.length)(hj:j<b.length)(h:¬a.getD i 0<b.getD j 0)(h2:b.getD j 0<a.getD i 0):MG kf a b n i j o=MG kf a b (n-1) i (j+1) (if kf false true then o++[b.getD j 0] else o):=by
 obtain⟨m,rfl⟩:∃m,n=m+1:=⟨n-1,by omega⟩
 unfold MG;rw[di a i hi,di b j hj,jB,agL h,agN h2];rfl
def ZU (hn:0<n)(hi:i<a.length)(hj:j<b.length)(h:¬a.getD i 0<b.getD j 0)(h2:¬b.getD j 0<a.getD i 0):MG kf a b n i j o=MG kf a b (n-1) (i+1) (j+1) (if kf true true then o++[a.getD i 0] else o):=by
 obtain⟨m,rfl⟩:∃m,n=m+1:=⟨n-1,by omega⟩
 unfold MG;rw[di a i hi,di b j hj,jB,agL h,agL h2];rfl
def ZV (hn:0<n)(hi:i<a.length)(hj:j=b.length):MG kf a b n i j o=MG kf a b (n-1) (i+1) j (if kf true false then o++[a.getD i 0] else o):=by
 obtain⟨m,rfl⟩:∃m,n=m+1:=⟨n-1,by omega⟩
 unfold MG;rw[di a i hi,hj,ahH,jB];rfl
def ZT (hn:0<n)(hi:i=a.length)(hj:j<b.length):MG kf a b n i j o=MG kf a b (n-1) i (j+1) (if kf false true then o++[b.getD j 0] else o):=by
 obtain⟨m,rfl⟩:∃m,n=m+1:=⟨n-1,by omega⟩
 unfold MG;rw[di b j hj,hi,ahH,jB];rfl
def WA (hi:i=a.length)(hj:j=b.length):MG kf a b n i j o=o:=by
 unfold MG;rw[hi,hj,ahH,ahH]
 cases n<;>rfl
end
def ku (H:List aA)(g:Nat)(out:List Int)(tk:Nat):(SH H g out tk).length=H.length+2:=by simp[SH]
def rP (T:au)(out:List Int):T.length<=(ST T out).length:=by unfold ST;split<;>simp
def uc {H:List aA}{T:au}(h:bN H T)(g:Nat)(out:List Int):bN (SH H g out T.length) (ST T out):=by
 have e:SH H g out T.length=(H++[.cells [.fn g [] []]])++[.cells [si out T.length]]:=by simp[SH]
 rw[e];refine bN.snoc (bN.snoc (h.ko (rP T out)) (by simp)) ?_;unfold si ST
 split
 ·simp
 ·simp
def wX (k:Bool)(o:List Int)(x:Int)(m:Nat)(h:o.length+1<=m):(if k=true then o++[x] else o).length<=m:=by
 split
 ·simp only[agF,ahd,ahV];omega
 ·omega
attribute [-simp] getD_eq_getElem?_getD in
def Lq (g:Nat)(kf:Bool->Bool->Bool)(hg:∀p q H T,ar prog g [.bool p,.bool q] H T (Is (.bool (kf p q)) H T))(a b:List Int)(ha:a.length<=1000)(hb:b.length<=1000)(H:List aA)(T:au)(HO0:bN H T) :
  ar prog 171 [.sl a.length (ints a) .none,.sl b.length (ints b) .none,.fn 172 [] [],.fn 173 [] [.ptr H.length 0,.ptr (H.length+1) 0]] (SH H g [] T.length) T
   (Is (.df []) (SH H g (MG kf a b (a.length+b.length) 0 0 []) T.length) (ST T (MG kf a b (a.length+b.length) 0 0 []))):=by
 have e0:ST T []=T:=rfl;refine ah 11 [] Tryz.ntmps171 Tryz.func171 rfl (λ_ _=>Tryz.call171 _ _) (by simp) (λHO=>?_);clear HO;have HO:=HO0;apply ae;intro K Z;simp(disch:=omega);apply Z;apply aj;refine aJ (X:=Nat×Nat×Nat×List Int) (λx=>⟨[(0,.sl a.length (ints a) .none),(1,.sl b.length (ints b) .none),(2,.fn 172 [] []),(3,.fn 173 [] [.ptr H.length 0,.ptr (H.length+1) 0]),(8,.int .i64 (x.2.1:Nat)),(9,.int .i64 (x.2.2.1:Nat))],SH H g x.2.2.2 T.length,ST T x.2.2.2⟩)
  (λx=>x.2.1<=a.length/\x.2.2.1<=b.length/\(a.length-x.2.1)+(b.length-x.2.2.1)<=x.1/\MG kf a b (a.length+b.length) 0 0 []=MG kf a b x.1 x.2.1 x.2.2.1 x.2.2.2/\x.2.2.2.length<=x.2.1+x.2.2.1) (λx=>x.1) (a.length+b.length,0,0,[]) ?_ ?_ ?_
 ·exact⟨agP _,agP _,by simp only;omega,rfl,agP _⟩
 ·refine ag [] [] ?_ ?_ ?_ ?_ (uc HO g _) ?_
  ·simp
  ·simp[e0]
  ·simp[ku]
  ·exact rP T _
  ·simp[ku]
 ·rintro⟨n,i,j,out⟩ ⟨h1,h2,h3,h4,h5⟩;simp only at h1 h2 h3 h4 h5
  by_cases hi:i<a.length
  ·have bi:decide ((i:Int)<a.length)=true:=by simp;omega
   have ni:((i:Int)==a.length)=false:=by rw[ahq];omega
   have TD:¬i=a.length:=by omega
   by_cases hj:j<b.length
   ·have bj:decide ((j:Int)<b.length)=true:=by simp;omega
    have nj:((j:Int)==b.length)=false:=by rw[ahq];omega
    have H5:¬j=b.length:=by omega
    have hn:0<n:=by omega
    refine af λK2 bp=>?_;refine ae λK hK=>?_;simp(disch:=omega)[bi,bj,hi,hj];apply hK;apply aH rfl;apply aq;simp(disch:=omega) ;apply bp;clear bp;apply aj;apply aj
    by_cases c1:a.getD i 0<b.getD j 0
    ·have b1:decide (a.getD i 0<b.getD j 0)=true:=by simpa using c1
     have gA:=ae3 (kf:=kf) (o:=out) hn hi hj c1;refine aK [] [] [] aw (by kernel_rfl) (by kernel_rfl) λK hK=>?_;simp(disch:=omega)[bi,hi,nj,H5,bM];refine aD (dP _ _ _) rfl ?_;simp(disch:=omega)[bM];refine aD (dP _ _ _) rfl ?_;simp(disch:=omega)[b1,c1];apply hK;apply aH rfl;refine ae λK hK=>?_;simp(disch:=omega) ;refine ak (Et g kf hg out (by omega) a i hi (by omega) H T) ?_;simp(disch:=omega) ;apply hK;refine aC λK hK=>?_;simp(disch:=omega) ;apply hK;refine⟨(n-1,i+1,j,if kf true false=true then out++[a.getD i 0] else out),⟨by show i+1<=a.length;omega,by show j<=b.length;omega,by show (a.length-(i+1))+(b.length-(j))<=n-1;omega,by rw[h4,gA],wX _ _ _ _ (by show out.length+1<=(i+1)+(j);omega)⟩,by show n-1<n;omega,?_⟩;refine ag [] [] ?_ ?_ ?_ ?_ (uc HO g _) ?_
     ·simp
     ·simp
     ·simp[ku]
     ·exact rP T _
     ·simp[ku]
      try omega
    ·have b1:decide (a.getD i 0<b.getD j 0)=false:=by simpa using c1
     refine aK [] [] [] aw (by kernel_rfl) (by kernel_rfl) λK hK=>?_;simp(disch:=omega)[bi,hi,nj,H5,bM];refine aD (dP _ _ _) rfl ?_;simp(disch:=omega)[bM];refine aD (dP _ _ _) rfl ?_;simp(disch:=omega)[b1,c1];apply hK;apply aF rfl
     by_cases c2:b.getD j 0<a.getD i 0
     ·have b2:decide (b.getD j 0<a.getD i 0)=true:=by simpa using c2
      have gA:=ae2 (kf:=kf) (o:=out) hn hi hj c1 c2;refine aK [] [] [] aw (by kernel_rfl) (by kernel_rfl) λK hK=>?_;simp(disch:=omega)[ni,TD,bM];refine aD (dP _ _ _) rfl ?_;simp(disch:=omega)[bM];refine aD (dP _ _ _) rfl ?_;simp(disch:=omega)[b2,c2];apply hK;apply aH rfl;refine ae λK hK=>?_;simp(disch:=omega) ;refine ak (Es g kf hg out (by omega) b j hj (by omega) H T) ?_;simp(disch:=omega) ;apply hK;refine aC λK hK=>?_;simp(disch:=omega) ;apply hK;refine⟨(n-1,i,j+1,if kf false true=true then out++[b.getD j 0] else out),⟨by show i<=a.length;omega,by show j+1<=b.length;omega,by show (a.length-(i))+(b.length-(j+1))<=n-1;omega,by rw[h4,gA],wX _ _ _ _ (by show out.length+1<=(i)+(j+1);omega)⟩,by show n-1<n;omega,?_⟩;refine ag [] [] ?_ ?_ ?_ ?_ (uc HO g _) ?_
      ·simp
      ·simp
      ·simp[ku]
      ·exact rP T _
      ·simp[ku]
       try omega
     ·have b2:decide (b.getD j 0<a.getD i 0)=false:=by simpa using c2
      have gA:=ZU (kf:=kf) (o:=out) hn hi hj c1 c2;refine aK [] [] [] aw (by kernel_rfl) (by kernel_rfl) λK hK=>?_;simp(disch:=omega)[ni,TD,bM];refine aD (dP _ _ _) rfl ?_;simp(disch:=omega)[bM];refine aD (dP _ _ _) rfl ?_;simp(disch:=omega)[b2,c2];apply hK;apply aF rfl;refine aK [7] [0,0,0,0,0,0,0,0] [[]] aw (by kernel_rfl) (by kernel_rfl) λK hK=>?_;simp(disch:=omega) ;refine nX (L4 g kf hg out (by omega) a i hi (by omega) b j H T) rfl ?_;simp(disch:=omega) ;apply hK;refine aC λK hK=>?_;simp(disch:=omega) ;apply hK;refine⟨(n-1,i+1,j+1,if kf true true=true then out++[a.getD i 0] else out),⟨by show i+1<=a.length;omega,by show j+1<=b.length;omega,by show (a.length-(i+1))+(b.length-(j+1))<=n-1;omega,by rw[h4,gA],wX _ _ _ _ (by show out.length+1<=(i+1)+(j+1);omega)⟩,by show n-1<n;omega,?_⟩;refine ag [] [] ?_ ?_ ?_ ?_ (uc HO g _) ?_
      ·simp
      ·simp
      ·simp[ku]
      ·exact rP T _
      ·simp[ku]
       try omega
   ·have bj:decide ((j:Int)<b.length)=false:=by simp;omega
    have TO:j=b.length:=by omega
    have nj:((j:Int)==b.length)=true:=by simp;omega
    have hn:0<n:=by omega
    have gA:=ZV (kf:=kf) (o:=out) hn hi TO;refine af λK2 bp=>?_;refine ae λK hK=>?_;simp(disch:=omega)[bi,bj,hi,hj];apply hK;apply aH rfl;apply aq;simp(disch:=omega) ;apply bp;clear bp;apply aj;apply aj;have XO:(j:Int)=(b.length:Int):=by omega
    refine aK [] [] [] aw (by kernel_rfl) (by kernel_rfl) λK hK=>?_;simp(disch:=omega)[nj,XO];apply hK;apply aH rfl;refine ae λK hK=>?_;simp(disch:=omega) ;refine ak (Et g kf hg out (by omega) a i hi (by omega) H T) ?_;simp(disch:=omega) ;apply hK;refine aC λK hK=>?_;simp(disch:=omega) ;apply hK;refine⟨(n-1,i+1,j,if kf true false=true then out++[a.getD i 0] else out),⟨by show i+1<=a.length;omega,by show j<=b.length;omega,by show (a.length-(i+1))+(b.length-(j))<=n-1;omega,by rw[h4,gA],wX _ _ _ _ (by show out.length+1<=(i+1)+(j);omega)⟩,by show n-1<n;omega,?_⟩;refine ag [] [] ?_ ?_ ?_ ?_ (uc HO g _) ?_
    ·simp
    ·simp
    ·simp[ku]
    ·exact rP T _
    ·simp[ku]
     try omega
  ·have bi:decide ((i:Int)<a.length)=false:=by simp;omega
   have o9:i=a.length:=by omega
   by_cases hj:j<b.length
   ·have bj:decide ((j:Int)<b.length)=true:=by simp;omega
    have nj:((j:Int)==b.length)=false:=by rw[ahq];omega
    have H5:¬j=b.length:=by omega
    have ni:((i:Int)==a.length)=true:=by simp;omega
    have hn:0<n:=by omega
    have gA:=ZT (kf:=kf) (o:=out) hn o9 hj;refine af λK2 bp=>?_;refine ae λK hK=>?_;simp(disch:=omega)[bi,bj,hi,hj];apply hK;apply aH rfl;apply aq;simp(disch:=omega) ;apply bp;clear bp;apply aj;apply aj;refine aK [] [] [] aw (by kernel_rfl) (by kernel_rfl) λK hK=>?_;simp(disch:=omega)[nj,H5,bi,hi];apply hK;apply aF rfl;have XQ:(i:Int)=(a.length:Int):=by omega
    refine aK [] [] [] aw (by kernel_rfl) (by kernel_rfl) λK hK=>?_;simp(disch:=omega)[ni,XQ];apply hK;apply aH rfl;refine ae λK hK=>?_;simp(disch:=omega) ;refine ak (Es g kf hg out (by omega) b j hj (by omega) H T) ?_;simp(disch:=omega) ;apply hK;refine aC λK hK=>?_;simp(disch:=omega) ;apply hK;refine⟨(n-1,i,j+1,if kf false true=true then out++[b.getD j 0] else out),⟨by show i<=a.length;omega,by show j+1<=b.length;omega,by show (a.length-(i))+(b.length-(j+1))<=n-1;omega,by rw[h4,gA],wX _ _ _ _ (by show out.length+1<=(i)+(j+1);omega)⟩,by show n-1<n;omega,?_⟩;refine ag [] [] ?_ ?_ ?_ ?_ (uc HO g _) ?_
    ·simp
    ·simp
    ·simp[ku]
    ·exact rP T _
    ·simp[ku]
     try omega
   ·have bj:decide ((j:Int)<b.length)=false:=by simp;omega
    have mV:=WA (kf:=kf) (a:=a) (b:=b) (o:=out) (n:=n) o9 (show j=b.length by omega);rw[mV] at h4;refine af λK2 bp=>?_;refine ae λK hK=>?_;simp(disch:=omega)[bi,bj,hi,hj];apply hK;apply aF rfl;apply aG;simp(disch:=omega) ;rw[h4];exact⟨rfl,rfl,rfl⟩
def comb (kf:Bool->Bool->Bool)(a b:List Int):List Int:=
 if oX a 1 1000000000=true/\oX b 1 1000000000=true then MG kf a b (a.length+b.length) 0 0 [] else []
attribute [-simp] getD_eq_getElem?_getD in
def r7 (g:Nat)(kf:Bool->Bool->Bool)(hg:∀p q H T,ar prog g [.bool p,.bool q] H T (Is (.bool (kf p q)) H T))(a b:List Int)(ha:a.length<=1000)(hb:b.length<=1000)(H:List aA)(T:au)(ta tb:Tag) :
  ar prog 116 [.sl a.length (ints a) ta,.sl b.length (ints b) tb,.fn g [] []] H T (Is (.sl (comb kf a b).length (ints (comb kf a b)) .none) H T):=by
 refine ar.cF (ar.tZ ?_);refine ar.bZ ?_ (by simp);have kC:1000<=maxLen:=by decide
 refine ah 8 [] Tryz.ntmps116 Tryz.func116 rfl (λ_ _=>Tryz.call116 _ _) (by simp) (λHO=>?_);apply ae;intro K Z;simp(disch:=omega);apply Z;apply ae;intro K Z;simp(disch:=omega);apply Z;refine af λK1 aP=>?_;have c1:=iu a (by omega) (H++[.cells [.fn g [] []],.cells [.sl 0 [] .full]]) T .none;have c2:=iu b (by omega) (H++[.cells [.fn g [] []],.cells [.sl 0 [] .full]]) T .none
 cases hv:oX a 1 1000000000
 ·rw[hv] at c1;refine ae λK hK=>?_;simp(disch:=omega) ;refine ak (c1) ?_;simp(disch:=omega) ;apply hK;apply aH rfl;apply ae;intro K Z;simp(disch:=omega);apply Z;apply az;simp(disch:=omega) ;simp[comb,hv,ints]
 ·rw[hv] at c1
  cases hw:oX b 1 1000000000
  ·rw[hw] at c2;refine ae λK hK=>?_;simp(disch:=omega) ;refine ak (c1) ?_;simp(disch:=omega) ;refine ak (c2) ?_;simp(disch:=omega) ;apply hK;apply aH rfl;apply ae;intro K Z;simp(disch:=omega);apply Z;apply az;simp(disch:=omega) ;simp[comb,hw,ints]
  ·rw[hw] at c2;have c3:=Lq g kf hg a b ha hb H T HO;have hr:comb kf a b=MG kf a b (a.length+b.length) 0 0 []:=by unfold comb;rw[agN ⟨hv,hw⟩]
   rw[<-hr] at c3;have k1:(SH H g (comb kf a b) T.length)[H.length+1]?=some (.cells [si (comb kf a b) T.length]):=NY _ _ 1;have hH:∃rH,SH H g (comb kf a b) T.length=H++rH:=⟨_,rfl⟩
   have hT:∃rT,ST T (comb kf a b)=T++rT:=by unfold ST;split;exact⟨[],by simp⟩;exact⟨_,rfl⟩
   refine ae λK hK=>?_;simp(disch:=omega) ;refine ak (c1) ?_;simp(disch:=omega) ;refine ak (c2) ?_;simp(disch:=omega) ;apply hK;apply aF rfl;apply aq;simp(disch:=omega) ;apply aP;clear aP;refine ae λK hK=>?_;simp(disch:=omega) ;refine ak (c3) ?_;simp(disch:=omega) ;apply hK;refine ae λK hK=>?_;simp(disch:=omega)[k1];apply hK;apply az;simp(disch:=omega) ;generalize comb kf a b=r at *;refine⟨hH,hT,?_⟩;unfold si
   by_cases h0:r=[]
   ·subst h0;simp[ints]
   ·simp[h0]
attribute [-simp] getD_eq_getElem?_getD in
def Ol (a b:List Int)(ha:a.length<=1000)(hb:b.length<=1000)(H:List aA)(T:au)(ta tb:Tag):ar prog 64 [.sl a.length (ints a) ta,.sl b.length (ints b) tb] H T (Is (.sl (comb (λp q=>p&&q) a b).length (ints (comb (λp q=>p&&q) a b)) .none) H T):=by
 refine ar.bZ ?_ (by simp);refine ah 5 [] Tryz.ntmps64 Tryz.func64 rfl (λ_ _=>Tryz.call64 _ _) (by simp) (λHO=>?_);apply ae;intro K Z;simp(disch:=omega);apply Z;refine ae λK hK=>?_;simp(disch:=omega) ;refine ak (r7 _ (λp q=>p&&q) (λp q H T=>Ts p q H T) a b ha hb H T _ _) ?_;simp(disch:=omega) ;apply hK;apply az;simp(disch:=omega) 
attribute [-simp] getD_eq_getElem?_getD in
def Nt (a b:List Int)(ha:a.length<=1000)(hb:b.length<=1000)(H:List aA)(T:au)(ta tb:Tag):ar prog 65 [.sl a.length (ints a) ta,.sl b.length (ints b) tb] H T (Is (.sl (comb (λ_ _=>true) a b).length (ints (comb (λ_ _=>true) a b)) .none) H T):=by
 refine ar.bZ ?_ (by simp);refine ah 5 [] Tryz.ntmps65 Tryz.func65 rfl (λ_ _=>Tryz.call65 _ _) (by simp) (λHO=>?_);apply ae;intro K Z;simp(disch:=omega);apply Z;refine ae λK hK=>?_;simp(disch:=omega) ;refine ak (r7 _ (λ_ _=>true) (λp q H T=>V7 p q H T) a b ha hb H T _ _) ?_;simp(disch:=omega) ;apply hK;apply az;simp(disch:=omega) 
attribute [-simp] getD_eq_getElem?_getD in
def oG (a b:List Int)(ha:a.length<=1000)(hb:b.length<=1000)(H:List aA)(T:au)(ta tb:Tag):ar prog 62 [.sl a.length (ints a) ta,.sl b.length (ints b) tb] H T (Is (.sl (comb (λ_ q=>!q) a b).length (ints (comb (λ_ q=>!q) a b)) .none) H T):=by
 refine ar.bZ ?_ (by simp);refine ah 5 [] Tryz.ntmps62 Tryz.func62 rfl (λ_ _=>Tryz.call62 _ _) (by simp) (λHO=>?_);apply ae;intro K Z;simp(disch:=omega);apply Z;refine ae λK hK=>?_;simp(disch:=omega) ;refine ak (r7 _ (λ_ q=>!q) (λp q H T=>ES p q H T) a b ha hb H T _ _) ?_;simp(disch:=omega) ;apply hK;apply az;simp(disch:=omega) 
theorem kg {l:List Int}{lo hi:Int}(h:oX l lo hi=true):kn l:=by
 unfold oX at h;rw[aha] at h;have h1:∀k,k+1<l.length->l.getD k 0<l.getD (k+1) 0:=by
  intro k hk;have:=h (k+1) (by simpa using hk);unfold lW at this;simp only[agO,ahx,agQ,ah9] at this;rcases this.2 with h2|h2
  ·omega
  ·exact h2
 clear h
 induction l with
 |nil=>exact List.Pairwise.nil
 |cons x l ih=>
  have ht:kn l:=ih (λk hk=>by
   have:=h1 (k+1) (by simpa using hk);simpa using this)
  refine ahz.2 ⟨λy hy=>?_,ht⟩
  cases l with
  |nil=>simp at hy
  |cons z l=>
   have hz:=h1 0 (by simp);simp at hz;rcases ag6.1 hy with rfl|hy
   ·exact hz
   ·have:=(mh ht).2 y hy;omega
def Fk (a:List Int)(k:Nat)(p:Int->Bool)(h:k<a.length):(a.take (k+1)).filter p=if p (a.getD k 0)=true then (a.take k).filter p++[a.getD k 0] else (a.take k).filter p:=by
 have e:a.take (k+1)=a.take k++[a.getD k 0]:=by
  rw[ah0 h];simp[h]
 rw[e,aht]
 by_cases hp:p (a.getD k 0)=true
 ·rw[agN hp,ahQ hp];rfl
 ·rw[agL hp,ahK hp];simp
end Go.Proofs.YtoejlmpbebjemaaGreat
