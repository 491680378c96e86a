/- Valid lists of layer 38. Valid lists of the reference of layer 38, and comparisons. The merging of two ascending lists: laws on lists. Merging in layer 38: what is done with an element. Merging in layer 38: the walk over two lists of numbers. Merging in layer 38: the walk over two lists of numbers. And, Or, Without of layer 38. Membership in the reference of layer 38. And and Without of the reference of layer 38, and that they are the program's. Or of the reference of layer 38, and that it is the program's.
  Conditions: lengths below 1000 or 5000, as each theorem says. -/
import Derived.Test.YtoejlmpbebjemaaGreatAmFacts
import Derived.Test.YtoejlmpbebjemaaGreatAmB
set_option linter.all false
set_option maxRecDepth 100000
set_option maxHeartbeats 4000000
open List (getD_eq_getElem?_getD)
namespace Go.Proofs.YtoejlmpbebjemaaGreat
open Go Go.Am
def aw:Tryz.prog.follows .mixedOrders=true:=by kernel_rfl
def mc (l:List Int)(lo hi:Int)(k:Nat):Bool:=decide (lo<=l.getD k 0)&&decide (l.getD k 0<=hi)&&(decide (k=0)||decide (l.getD (k-1) 0<l.getD k 0))
def oZ (l:List Int)(lo hi:Int):Bool:=(List.range l.length).all (mc l lo hi)
def Ut {l:List Int}{lo hi:Int}{k:Nat}(hk:k<l.length)(h:mc l lo hi k=false):oZ l lo hi=false:=by
 unfold oZ;rw[List.all_eq_false];exact⟨k,by simpa using hk,by simp[h]⟩
def J6 {l:List Int}{lo hi:Int}(h:∀j,j<l.length->mc l lo hi j=true):oZ l lo hi=true:=by
 unfold oZ;rw[ahQ];intro j hj;exact h j (by simpa using hj)
attribute [-simp] getD_eq_getElem?_getD in
theorem Pc (l:List Int)(lo hi:Int)(hl:l.length<=maxLen)(H:List az)(T:au)(tg:Tag):ar Tryz.prog 115 [.sl l.length (ints l) tg,.int .i64 lo,.int .i64 hi] H T (Is (.bool (oZ l lo hi)) H T):=by
 refine ar.cg ?_;have kH:maxLen<=9223372036854775807:=by decide
 have jR:=aho hl kH;refine ah 12 [] Tryz.ntmps115 Tryz.func115 rfl (λ_ _=>Tryz.call115 _ _) (by simp) (λHO=>?_);apply ae;intro K Z;simp(disch:=omega);apply Z;refine af λK1 aO=>?_;apply ae;intro K Z;simp(disch:=omega);apply Z;apply aj;refine aI (X:=Nat) (λk=>⟨[(0,.sl l.length (ints l) .none),(1,.int .i64 lo),(2,.int .i64 hi),(9,.sl l.length (ints l) .none),(10,.int .i64 (l.length:Nat)),(11,.int .i64 (k:Nat))],H,T⟩) (λk=>k<=l.length/\∀j,j<k->mc l lo hi j=true) (λk=>l.length-k) 0 ?_ ?_ ?_
 ·exact⟨ahu _,λj hj=>absurd hj (ahO _)⟩
 ·refine ag [] [] ?_ ?_ ?_ ?_ HO ?_
  all_goals simp
 ·rintro k ⟨h1,h2⟩;apply ae;intro K Z;simp(disch:=omega);apply Z;refine af λK2 bc=>?_;refine aT rfl (λhk=>?_) (λhk=>?_)
  ·simp  at hk;apply aq;simp(disch:=omega) ;apply bc;clear bc;refine af λK3 bD=>?_;apply aj;refine ae λK hK=>?_;simp(disch:=omega)[bI];apply hK;refine ae λK hK=>?_;have key:∀e b,b=(!mc l lo hi k)->bu H.length T.length e [(0,.sl l.length (ints l) .none),(1,.int .i64 lo),(2,.int .i64 hi),(9,.sl l.length (ints l) .none),(10,.int .i64 (l.length:Nat)),(11,.int .i64 (k:Nat)),(36,.bool b)]->K ⟨e,H,T⟩:=by
    intro e b hb he;refine hK _ (aH ⟨[(0,.sl l.length (ints l) .none),(1,.int .i64 lo),(2,.int .i64 hi),(9,.sl l.length (ints l) .none),(10,.int .i64 (l.length:Nat)),(11,.int .i64 (k:Nat)),(36,.bool b)],H,T⟩ (ag [] [] (by simp) (by simp) (by simp) (by simp) HO he) ?_)
    cases jK:mc l lo hi k with
    |false=>
     rw[jK] at hb;subst hb;apply aG rfl;apply ae;intro K Z;simp(disch:=omega);apply Z;apply ay;simp(disch:=omega) ;rw[Ut hk jK];exact⟨rfl,rfl,rfl⟩
    |true=>
     rw[jK] at hb;subst hb;apply aD rfl;apply aq;simp(disch:=omega) ;apply bD;clear bD;refine aB λK hK=>?_;simp(disch:=omega) ;apply hK;refine⟨k+1,⟨by show k+1<=_;omega,λj hj=>?_⟩,by show l.length-(k+1)<l.length-k;omega,?_⟩
     ·rcases ahr j k with h3|h3
      ·exact h2 j h3
      ·have:j=k:=by omega
       subst this;exact jK
     ·refine ag [] [] ?_ ?_ ?_ ?_ HO ?_
      all_goals simp
   clear hK
   by_cases c1:l.getD k 0<lo
   ·have b1:decide (l.getD k 0<lo)=true:=by simpa using c1
    simp(disch:=omega)[b1,c1];refine key _ true ?_ (by simp);have:¬lo<=l.getD k 0:=by omega
    simp only[mc,ahn this];rfl
   ·have b1:decide (l.getD k 0<lo)=false:=by simpa using c1
    by_cases c2:hi<l.getD k 0
    ·have b2:decide (hi<l.getD k 0)=true:=by simpa using c2
     simp(disch:=omega)[b1,c1,b2,c2];refine key _ true ?_ (by simp);have:¬l.getD k 0<=hi:=by omega
     simp only[mc,ahn this,Bool.and_false];rfl
    ·have b2:decide (hi<l.getD k 0)=false:=by simpa using c2
     have e1:lo<=l.getD k 0:=by omega
     have e2:l.getD k 0<=hi:=by omega
     rcases ahR k with h0|h0
     ·subst h0;simp(disch:=omega)[b1,c1,b2,c2];refine key _ false ?_ (by simp);simp only[mc,ahm e1,ahm e2];rfl
     ·have b3:decide ((0:Int)<(k:Int))=true:=by simp;omega
      have c3:(0:Int)<k:=by omega
      have ek:((k:Int)-1).toNat=k-1:=by omega
      have jv:=bI (xs:=l) (k:=k-1) (by omega)
      by_cases c4:l.getD k 0<=l.getD (k-1) 0
      ·have b4:decide (l.getD k 0<=l.getD (k-1) 0)=true:=by simpa using c4
       simp(disch:=omega)[b1,c1,b2,c2,b3,c3,h0,ek,jv,b4,c4];refine key _ true ?_ (by simp);have e3:¬l.getD (k-1) 0<l.getD k 0:=by omega
       have e4:¬k=0:=by omega
       simp only[mc,ahm e1,ahm e2,ahn e3,ahn e4];rfl
      ·have b4:decide (l.getD k 0<=l.getD (k-1) 0)=false:=by simpa using c4
       simp(disch:=omega)[b1,c1,b2,c2,b3,c3,h0,ek,jv,b4,c4];refine key _ false ?_ (by simp);have e3:l.getD (k-1) 0<l.getD k 0:=by omega
       simp only[mc,ahm e1,ahm e2,ahm e3,Bool.or_true];rfl
  ·simp  at hk;apply aF;simp(disch:=omega) ;apply aO;clear aO;apply ae;intro K Z;simp(disch:=omega);apply Z;apply ay;simp(disch:=omega) ;rw[J6 (λj hj=>h2 j (by omega))];exact⟨rfl,rfl,rfl⟩
attribute [-simp] getD_eq_getElem?_getD in
def iD (l:List Int)(hl:l.length<=maxLen)(H:List az)(T:au)(tg:Tag):ar Tryz.prog 61 [.sl l.length (ints l) tg] H T (Is (.bool (oZ l 1 1000000000)) H T):=by
 refine ah 3 [] Tryz.ntmps61 Tryz.func61 rfl (λ_ _=>Tryz.call61 _ _) (by simp) (λHO=>?_);apply ae;intro K Z;simp(disch:=omega);apply Z;refine ae λK hK=>?_;simp(disch:=omega) ;refine ak (Pc l 1 1000000000 hl H T tg) ?_;simp(disch:=omega) ;apply hK;apply ay;simp(disch:=omega) ;exact⟨rfl,rfl,rfl⟩
def B5 {α:Type}[DecidableEq α]{a b:List α}(d:α)(h:a.length=b.length)(hj:∀j,j<a.length->a.getD j d=b.getD j d):a=b:=by
 apply ajd h;intro i h1 h2;have:=hj i h1
 rwa [ahg,ahg,ahi h1,ahi h2] at this
attribute [-simp] getD_eq_getElem?_getD in
def p9 (a b:List Int)(ha:a.length<=maxLen)(hb:b.length<=maxLen)(H:List az)(T:au)(ta tb:Tag):ar Tryz.prog 44 [.sl a.length (ints a) ta,.sl b.length (ints b) tb] H T (Is (.bool (a==b)) H T):=by
 refine ar.cg ?_;have kH:maxLen<=9223372036854775807:=by decide
 have ha':=aho ha kH;have hb':=aho hb kH;refine ah 6 [] Tryz.ntmps44 Tryz.func44 rfl (λ_ _=>Tryz.call44 _ _) (by simp) (λHO=>?_);apply ae;intro K Z;simp(disch:=omega);apply Z;refine af λK1 aO=>?_;apply ae;intro K Z;simp(disch:=omega);apply Z;refine aT rfl (λh=>?_) (λh=>?_)
 ·simp  at h;apply ae;intro K Z;simp(disch:=omega);apply Z;apply ay;simp(disch:=omega) ;have:(a==b)=false:=by simp;intro e;subst e;exact h rfl
  rw[this];exact⟨rfl,rfl,rfl⟩
 ·simp  at h;have hl:a.length=b.length:=by omega
  apply aq;simp(disch:=omega) ;apply aO;clear aO;refine af λK1 aO=>?_;apply ae;intro K Z;simp(disch:=omega);apply Z;apply aj;refine aI (X:=Nat) (λi=>⟨[(0,.sl a.length (ints a) .none),(1,.sl b.length (ints b) .none),(5,.int .i64 (i:Nat))],H,T⟩) (λi=>i<=a.length/\∀j,j<i->a.getD j 0=b.getD j 0) (λi=>a.length-i) 0 ?_ ?_ ?_
  ·exact⟨by omega,λj hj=>by omega⟩
  ·refine ag [] [] ?_ ?_ ?_ ?_ HO ?_
   all_goals simp
  ·rintro i ⟨hi,hj⟩;refine af λK2 bc=>?_;apply ae;intro K Z;simp(disch:=omega);apply Z;refine aT rfl (λh=>?_) (λh=>?_)
   ·simp  at h;apply aq;simp(disch:=omega) ;apply bc;clear bc;refine af λK3 bD=>?_;apply aj
    by_cases he:a.getD i 0=b.getD i 0
    ·refine aJ [] [] [] aw (by kernel_rfl) (by kernel_rfl) λK hK=>?_;simp(disch:=omega)[bI,he];apply hK;apply aD rfl;apply aq;simp(disch:=omega) ;apply bD;clear bD;refine aB λK hK=>?_;simp(disch:=omega) ;apply hK;refine⟨i+1,⟨by omega,λj hj'=>?_⟩,by omega,?_⟩
     ·rcases ahr j i with h1|h1
      ·exact hj j h1
      ·have:j=i:=by omega
       subst this;exact he
     ·refine ag [] [] ?_ ?_ ?_ ?_ HO ?_
      all_goals simp
    ·have CG:(a.getD i 0!=b.getD i 0)=true:=bne_iff_ne.2 he;refine aJ [] [] [] aw (by kernel_rfl) (by kernel_rfl) λK hK=>?_;simp(disch:=omega)[bI,CG];apply hK;apply aG rfl;apply ae;intro K Z;simp(disch:=omega);apply Z;apply ay;simp(disch:=omega) ;have:(a==b)=false:=by simp;intro e;subst e;exact he rfl
     rw[this];exact⟨rfl,rfl,rfl⟩
   ·simp  at h;apply aF;simp(disch:=omega) ;apply aO;clear aO;apply ae;intro K Z;simp(disch:=omega);apply Z;apply ay;simp(disch:=omega) ;refine⟨?_,rfl,rfl⟩;have:a=b:=B5 0 hl (λj hj'=>hj j (by omega));simp[this]
end Go.Proofs.YtoejlmpbebjemaaGreat
namespace cL
def jJ {β:Type}(fA fB fAB:β->Int->β):Nat->List Int->List Int->β->β
 |0,_,_,o=>o
 |n+1,x::a,y::b,o=>if x<y then jJ fA fB fAB n a (y::b) (fA o x) else if y<x then jJ fA fB fAB n (x::a) b (fB o y) else jJ fA fB fAB n a b (fAB o x)
 |n+1,x::a,[],o=>jJ fA fB fAB n a [] (fA o x)
 |n+1,[],y::b,o=>jJ fA fB fAB n [] b (fB o y)
 |_+1,[],[],o=>o
def kz (l:List Int):Prop:=l.Pairwise (·<·)
def mr {x:Int}{l:List Int}(h:kz (x::l)):kz l/\∀y∈l,x<y:=⟨(aie.1 h).2,(aie.1 h).1⟩
def snoc (o:List Int)(x:Int):List Int:=o++[x]
theorem JC (kA kB Nj:Bool):∀(n:Nat)(a b o:List Int),a.length+b.length<=n->kz a->kz b->
  jJ (λo x=>if kA then o++[x] else o) (λo x=>if kB then o++[x] else o) (λo x=>if Nj then o++[x] else o) n a b o =
   o++jJ (λo x=>if kA then o++[x] else o) (λo x=>if kB then o++[x] else o) (λo x=>if Nj then o++[x] else o) n a b []/\
  (∀z,z∈jJ (λo x=>if kA then o++[x] else o) (λo x=>if kB then o++[x] else o) (λo x=>if Nj then o++[x] else o) n a b []↔
   (z∈a/\z∉b/\kA=true)\/(z∈b/\z∉a/\kB=true)\/(z∈a/\z∈b/\Nj=true))/\
  kz (jJ (λo x=>if kA then o++[x] else o) (λo x=>if kB then o++[x] else o) (λo x=>if Nj then o++[x] else o) n a b []):=by
 intro n
 induction n with
 |zero=>
  intro a b o h _ _;have ha:a=[]:=ahT (by omega);have hb:b=[]:=ahT (by omega);subst ha;subst hb;exact⟨by simp[jJ],by simp[jJ],List.Pairwise.nil⟩
 |succ n ih=>
  intro a b o h ha hb;have put:∀(k:Bool)(x:Int)(a' b' o:List Int),a'.length+b'.length<=n->kz a'->kz b'->(∀z,z∈a'->x<z)->(∀z,z∈b'->x<z)->
    jJ (λo x=>if kA then o++[x] else o) (λo x=>if kB then o++[x] else o) (λo x=>if Nj then o++[x] else o) n a' b' (if k then o++[x] else o) =
     o++jJ (λo x=>if kA then o++[x] else o) (λo x=>if kB then o++[x] else o) (λo x=>if Nj then o++[x] else o) n a' b' (if k then ([]:List Int)++[x] else [])/\
    (∀z,z∈jJ (λo x=>if kA then o++[x] else o) (λo x=>if kB then o++[x] else o) (λo x=>if Nj then o++[x] else o) n a' b' (if k then ([]:List Int)++[x] else [])↔
     (z=x/\k=true)\/(z∈a'/\z∉b'/\kA=true)\/(z∈b'/\z∉a'/\kB=true)\/(z∈a'/\z∈b'/\Nj=true))/\
    kz (jJ (λo x=>if kA then o++[x] else o) (λo x=>if kB then o++[x] else o) (λo x=>if Nj then o++[x] else o) n a' b' (if k then ([]:List Int)++[x] else [])):=by
   intro k x a' b' o h' ha' hb' UG hxb;obtain⟨i1,i2,i3⟩:=ih a' b' [] h' ha' hb';have j1:=λo=>(ih a' b' o h' ha' hb').1;rw[j1 (if k then o++[x] else o),j1 (if k then ([]:List Int)++[x] else [])];generalize jJ (λo x=>if kA then o++[x] else o) (λo x=>if kB then o++[x] else o) (λo x=>if Nj then o++[x] else o) n a' b' []=m at *;refine⟨?_,λz=>?_,?_⟩
   ·cases k<;>simp
   ·rw[ahw,i2]
    cases k<;>simp
   ·cases k
    ·simpa using i3
    ·simp only[ai1,aiQ,ajv];refine aie.2 ⟨λz hz=>?_,i3⟩;rcases (i2 z).1 hz with⟨h1,_⟩|⟨h1,_⟩|⟨h1,_⟩
     ·exact UG z h1
     ·exact hxb z h1
     ·exact UG z h1
  cases a with
  |nil=>
   cases b with
   |nil=>exact⟨by simp[jJ],by simp[jJ],List.Pairwise.nil⟩
   |cons y b=>
    obtain⟨h1,h2⟩:=mr hb;obtain⟨p1,p2,p3⟩:=put kB y [] b o (by simp at h ⊢;omega) List.Pairwise.nil h1 (λz hz=>by simp at hz) h2;refine⟨p1,λz=>?_,p3⟩;rw[jJ,p2];simp
    by_cases e:z=y<;>simp[e]
  |cons x a=>
   obtain⟨h1,h2⟩:=mr ha
   cases b with
   |nil=>
    obtain⟨p1,p2,p3⟩:=put kA x a [] o (by simp at h ⊢;omega) h1 List.Pairwise.nil h2 (λz hz=>by simp at hz);refine⟨p1,λz=>?_,p3⟩;rw[jJ,p2];simp
    by_cases e:z=x<;>simp[e]
   |cons y b=>
    obtain⟨h3,h4⟩:=mr hb;simp only[ahS] at h
    by_cases c1:x<y
    ·have Yl:∀z,z∈y::b->x<z:=λz hz=>by
      rcases ahL.1 hz with rfl|hz
      ·exact c1
      ·have:=h4 z hz;omega
     obtain⟨p1,p2,p3⟩:=put kA x a (y::b) o (by simp;omega) h1 hb h2 Yl;rw[jJ,ahs c1,jJ,ahs c1];refine⟨p1,λz=>?_,p3⟩;rw[p2]
     by_cases e:z=x
     ·subst e;have n1:z∉a:=λhz=>by have:=h2 z hz;omega
      have n2:z∉y::b:=λhz=>by have:=Yl z hz;omega
      simp[n1,n2]
     ·simp[e]
    ·by_cases c2:y<x
     ·have UG:∀z,z∈x::a->y<z:=λz hz=>by
       rcases ahL.1 hz with rfl|hz
       ·exact c2
       ·have:=h2 z hz;omega
      obtain⟨p1,p2,p3⟩:=put kB y (x::a) b o (by simp;omega) ha h3 UG h4;rw[jJ,ahq c1,ahs c2,jJ,ahq c1,ahs c2];refine⟨p1,λz=>?_,p3⟩;rw[p2]
      by_cases e:z=y
      ·subst e;have n1:z∉b:=λhz=>by have:=h4 z hz;omega
       have n2:z∉x::a:=λhz=>by have:=UG z hz;omega
       simp[n1,n2]
      ·simp[e]
     ·have e0:x=y:=by omega
      subst e0;obtain⟨p1,p2,p3⟩:=put Nj x a b o (by omega) h1 h3 h2 h4;rw[jJ,ahq c1,ahq c2,jJ,ahq c1,ahq c2];refine⟨p1,λz=>?_,p3⟩;rw[p2]
      by_cases e:z=x
      ·subst e;have n1:z∉a:=λhz=>by have:=h2 z hz;omega
       have n2:z∉b:=λhz=>by have:=h4 z hz;omega
       simp[n1,n2]
      ·simp[e]
theorem j8:∀(a b:List Int),kz a->kz b->(∀z,z∈a↔z∈b)->a=b:=by
 intro a
 induction a with
 |nil=>
  intro b _ _ h
  cases b with
  |nil=>rfl
  |cons y b=>have:=(h y).2 (by simp);simp at this
 |cons x a ih=>
  intro b ha hb h
  cases b with
  |nil=>have:=(h x).1 (by simp);simp at this
  |cons y b=>
   obtain⟨h1,h2⟩:=mr ha;obtain⟨h3,h4⟩:=mr hb;have e:x=y:=by
    have g1:=(h x).1 (by simp);have g2:=(h y).2 (by simp);rcases ahL.1 g1 with g1|g1
    ·exact g1
    ·rcases ahL.1 g2 with g2|g2
     ·exact g2.symm
     ·have:=h4 x g1;have:=h2 y g2;omega
   subst e
   congr 1
   refine ih b h1 h3 (λz=>?_);have:=h z
   constructor
   ·intro hz;have hne:z≠x:=by have:=h2 z hz;omega
    rcases ahL.1 (this.1 (by simp[hz])) with e|e
    ·exact absurd e hne
    ·exact e
   ·intro hz;have hne:z≠x:=by have:=h4 z hz;omega
    rcases ahL.1 (this.2 (by simp[hz])) with e|e
    ·exact absurd e hne
    ·exact e
end cL
namespace Go.Proofs.YtoejlmpbebjemaaGreat
open Go.Proofs.Tryz(prog)
open Go Go.Am
def sB (out:List Int)(tk:Nat):AV:=if out=[] then .sl 0 [] .full else .sl out.length (ints out) (.own tk)
def SH (H:List az)(g:Nat)(out:List Int)(tk:Nat):List az:=H++[.cells [.fn g [] []],.cells [sB out tk]]
def ST (T:au)(out:List Int):au:=if out=[] then T else T++[(out.length,1)]
def eG (l:List Int)(x:Int):ints l++[.int .i64 x]=ints (l++[x]):=by simp[ints]
attribute [-simp] getD_eq_getElem?_getD in
def dQ (n:Int)(H:List az)(T:au):ar prog 172 [.int .i64 n] H T (Is (.int .i64 n) H T):=by
 refine ah 3 [] Tryz.ntmps172 Tryz.func172 rfl (λ_ _=>Tryz.call172 _ _) (by simp) (λHO=>?_);apply ae;intro K Z;simp(disch:=omega);apply Z;apply ae;intro K Z;simp(disch:=omega);apply Z;apply ay;simp(disch:=omega) ;exact⟨rfl,rfl,rfl⟩
attribute [-simp] getD_eq_getElem?_getD in
def Uu (p q:Bool)(H:List az)(T:au):ar prog 118 [.bool p,.bool q] H T (Is (.bool (p&&q)) H T):=by
 refine ah 5 [] Tryz.ntmps118 Tryz.func118 rfl (λ_ _=>Tryz.call118 _ _) (by simp) (λHO=>?_);apply ae;intro K Z;simp(disch:=omega);apply Z
 cases p
 ·apply ae;intro K Z;simp(disch:=omega);apply Z;apply ay;simp(disch:=omega) ;exact⟨rfl,rfl,rfl⟩
 ·apply ae;intro K Z;simp(disch:=omega);apply Z;apply ay;simp(disch:=omega) ;exact⟨rfl,rfl,rfl⟩
attribute [-simp] getD_eq_getElem?_getD in
def WZ (p q:Bool)(H:List az)(T:au):ar prog 119 [.bool p,.bool q] H T (Is (.bool true) H T):=by
 refine ah 5 [] Tryz.ntmps119 Tryz.func119 rfl (λ_ _=>Tryz.call119 _ _) (by simp) (λHO=>?_);apply ae;intro K Z;simp(disch:=omega);apply Z;apply ae;intro K Z;simp(disch:=omega);apply Z;apply ay;simp(disch:=omega) ;exact⟨rfl,rfl,rfl⟩
attribute [-simp] getD_eq_getElem?_getD in
def Fo (p q:Bool)(H:List az)(T:au):ar prog 117 [.bool p,.bool q] H T (Is (.bool (!q)) H T):=by
 refine ah 5 [] Tryz.ntmps117 Tryz.func117 rfl (λ_ _=>Tryz.call117 _ _) (by simp) (λHO=>?_);apply ae;intro K Z;simp(disch:=omega);apply Z;apply ae;intro K Z;simp(disch:=omega);apply Z;apply ay;simp(disch:=omega) ;exact⟨rfl,rfl,rfl⟩
attribute [-simp] getD_eq_getElem?_getD in
def EW (g:Nat)(kf:Bool->Bool->Bool)(hg:∀p q H T,ar prog g [.bool p,.bool q] H T (Is (.bool (kf p q)) H T))(out:List Int)(ho:out.length<=5000)(a:List Int)(i:Nat)(hi:i<a.length)(ha:a.length<=5000)(H:List az)(T:au) :
  ar prog 173 [.eh (ints a) i,.gn,.ptr H.length 0,.ptr (H.length+1) 0] (SH H g out T.length) (ST T out) (Is (.df []) (SH H g (if kf true false then out++[a.getD i 0] else out) T.length) (ST T (if kf true false then out++[a.getD i 0] else out))):=by
 have Nn:=bI (xs:=a) (k:=i) (by omega);have hne:out++[a.getD i 0]≠[]:=by simp
 have CS:=eG out (a.getD i 0)
 cases UM:kf true false
 ·rw[ahq (by decide)];have hc:=λH T=>hg true false H T;rw[UM] at hc;simp only[SH];generalize sB out T.length=ob;generalize ST T out=TT;refine ah 7 [] Tryz.ntmps173 Tryz.func173 rfl (λ_ _=>Tryz.call173 _ _) (by simp) (λHO=>?_);apply ae;intro K Z;simp(disch:=omega);apply Z;refine af λK1 aO=>?_;apply ae;intro K Z;simp(disch:=omega);apply Z;apply aD rfl;apply aq;simp(disch:=omega) ;apply aO;clear aO;refine ae λK hK=>?_;simp(disch:=omega) ;refine ak (hc _ _) ?_;simp(disch:=omega) ;apply hK;apply aD rfl;apply aq;simp(disch:=omega) ;exact⟨rfl,rfl,rfl⟩
 ·rw[ahs rfl];have hc:=λH T=>hg true false H T;rw[UM] at hc
  by_cases h0:out=[]
  ·subst h0;have e1:SH H g [] T.length=H++[.cells [.fn g [] []],.cells [.sl 0 [] .full]]:=rfl;have e2:SH H g ([]++[a.getD i 0]) T.length=H++[.cells [.fn g [] []],.cells [.sl 1 [.int .i64 (a.getD i 0)] (.own T.length)]]:=rfl;have e3:ST T []=T:=rfl;have e4:ST T ([]++[a.getD i 0])=T++[(1,1)]:=rfl;rw[e1,e2,e3,e4];refine ah 7 [] Tryz.ntmps173 Tryz.func173 rfl (λ_ _=>Tryz.call173 _ _) (by simp) (λHO=>?_);apply ae;intro K Z;simp(disch:=omega);apply Z;refine af λK1 aO=>?_;apply ae;intro K Z;simp(disch:=omega);apply Z;apply aD rfl;apply aq;simp(disch:=omega) ;apply aO;clear aO;refine ae λK hK=>?_;simp(disch:=omega) ;refine ak (hc _ _) ?_;simp(disch:=omega) ;apply hK;apply aG rfl;refine cT [5,6] [0,0,0,0,0,0,1] [[],[]] aw (by kernel_rfl) (by kernel_rfl) λK hK=>?_;simp(disch:=omega)[Nn];apply hK;exact⟨rfl,rfl,rfl⟩
  ·have e1:SH H g out T.length=H++[.cells [.fn g [] []],.cells [.sl out.length (ints out) (.own T.length)]]:=by simp[SH,sB,h0]
   have e2:SH H g (out++[a.getD i 0]) T.length=H++[.cells [.fn g [] []],.cells [.sl (out.length+1) (ints (out++[a.getD i 0])) (.own T.length)]]:=by simp[SH,sB]
   have e3:ST T out=T++[(out.length,1)]:=by simp[ST,h0]
   have e4:ST T (out++[a.getD i 0])=T++[(out.length+1,1)]:=by simp[ST]
   rw[e1,e2,e3,e4];refine ah 7 [] Tryz.ntmps173 Tryz.func173 rfl (λ_ _=>Tryz.call173 _ _) (by simp) (λHO=>?_);apply ae;intro K Z;simp(disch:=omega);apply Z;refine af λK1 aO=>?_;apply ae;intro K Z;simp(disch:=omega);apply Z;apply aD rfl;apply aq;simp(disch:=omega) ;apply aO;clear aO;refine ae λK hK=>?_;simp(disch:=omega) ;refine ak (hc _ _) ?_;simp(disch:=omega) ;apply hK;apply aG rfl;refine cT [5,6] [0,0,0,0,0,0,1] [[],[]] aw (by kernel_rfl) (by kernel_rfl) λK hK=>?_;simp(disch:=omega)[Nn,CS];apply hK;exact⟨rfl,rfl,rfl⟩
attribute [-simp] getD_eq_getElem?_getD in
def EV (g:Nat)(kf:Bool->Bool->Bool)(hg:∀p q H T,ar prog g [.bool p,.bool q] H T (Is (.bool (kf p q)) H T))(out:List Int)(ho:out.length<=5000)(b:List Int)(j:Nat)(hj:j<b.length)(hb:b.length<=5000)(H:List az)(T:au) :
  ar prog 173 [.gn,.eh (ints b) j,.ptr H.length 0,.ptr (H.length+1) 0] (SH H g out T.length) (ST T out) (Is (.df []) (SH H g (if kf false true then out++[b.getD j 0] else out) T.length) (ST T (if kf false true then out++[b.getD j 0] else out))):=by
 have Nn:=bI (xs:=b) (k:=j) (by omega);have hne:out++[b.getD j 0]≠[]:=by simp
 have CS:=eG out (b.getD j 0)
 cases UM:kf false true
 ·rw[ahq (by decide)];have hc:=λH T=>hg false true H T;rw[UM] at hc;simp only[SH];generalize sB out T.length=ob;generalize ST T out=TT;refine ah 7 [] Tryz.ntmps173 Tryz.func173 rfl (λ_ _=>Tryz.call173 _ _) (by simp) (λHO=>?_);apply ae;intro K Z;simp(disch:=omega);apply Z;refine af λK1 aO=>?_;apply ae;intro K Z;simp(disch:=omega);apply Z;apply aG rfl;refine aB λK hK=>?_;simp(disch:=omega) ;apply hK;apply aO;clear aO;refine ae λK hK=>?_;simp(disch:=omega) ;refine ak (hc _ _) ?_;simp(disch:=omega) ;apply hK;apply aD rfl;apply aq;simp(disch:=omega) ;exact⟨rfl,rfl,rfl⟩
 ·rw[ahs rfl];have hc:=λH T=>hg false true H T;rw[UM] at hc
  by_cases h0:out=[]
  ·subst h0;have e1:SH H g [] T.length=H++[.cells [.fn g [] []],.cells [.sl 0 [] .full]]:=rfl;have e2:SH H g ([]++[b.getD j 0]) T.length=H++[.cells [.fn g [] []],.cells [.sl 1 [.int .i64 (b.getD j 0)] (.own T.length)]]:=rfl;have e3:ST T []=T:=rfl;have e4:ST T ([]++[b.getD j 0])=T++[(1,1)]:=rfl;rw[e1,e2,e3,e4];refine ah 7 [] Tryz.ntmps173 Tryz.func173 rfl (λ_ _=>Tryz.call173 _ _) (by simp) (λHO=>?_);apply ae;intro K Z;simp(disch:=omega);apply Z;refine af λK1 aO=>?_;apply ae;intro K Z;simp(disch:=omega);apply Z;apply aG rfl;refine aB λK hK=>?_;simp(disch:=omega) ;apply hK;apply aO;clear aO;refine ae λK hK=>?_;simp(disch:=omega) ;refine ak (hc _ _) ?_;simp(disch:=omega) ;apply hK;apply aG rfl;refine cT [5,6] [0,0,0,0,0,0,1] [[],[]] aw (by kernel_rfl) (by kernel_rfl) λK hK=>?_;simp(disch:=omega)[Nn];apply hK;exact⟨rfl,rfl,rfl⟩
  ·have e1:SH H g out T.length=H++[.cells [.fn g [] []],.cells [.sl out.length (ints out) (.own T.length)]]:=by simp[SH,sB,h0]
   have e2:SH H g (out++[b.getD j 0]) T.length=H++[.cells [.fn g [] []],.cells [.sl (out.length+1) (ints (out++[b.getD j 0])) (.own T.length)]]:=by simp[SH,sB]
   have e3:ST T out=T++[(out.length,1)]:=by simp[ST,h0]
   have e4:ST T (out++[b.getD j 0])=T++[(out.length+1,1)]:=by simp[ST]
   rw[e1,e2,e3,e4];refine ah 7 [] Tryz.ntmps173 Tryz.func173 rfl (λ_ _=>Tryz.call173 _ _) (by simp) (λHO=>?_);apply ae;intro K Z;simp(disch:=omega);apply Z;refine af λK1 aO=>?_;apply ae;intro K Z;simp(disch:=omega);apply Z;apply aG rfl;refine aB λK hK=>?_;simp(disch:=omega) ;apply hK;apply aO;clear aO;refine ae λK hK=>?_;simp(disch:=omega) ;refine ak (hc _ _) ?_;simp(disch:=omega) ;apply hK;apply aG rfl;refine cT [5,6] [0,0,0,0,0,0,1] [[],[]] aw (by kernel_rfl) (by kernel_rfl) λK hK=>?_;simp(disch:=omega)[Nn,CS];apply hK;exact⟨rfl,rfl,rfl⟩
attribute [-simp] getD_eq_getElem?_getD in
def MT (g:Nat)(kf:Bool->Bool->Bool)(hg:∀p q H T,ar prog g [.bool p,.bool q] H T (Is (.bool (kf p q)) H T))(out:List Int)(ho:out.length<=5000)(a:List Int)(i:Nat)(hi:i<a.length)(ha:a.length<=5000)(b:List Int)(j:Nat)(H:List az)(T:au) :
  ar prog 173 [.eh (ints a) i,.eh (ints b) j,.ptr H.length 0,.ptr (H.length+1) 0] (SH H g out T.length) (ST T out) (Is (.df []) (SH H g (if kf true true then out++[a.getD i 0] else out) T.length) (ST T (if kf true true then out++[a.getD i 0] else out))):=by
 have Nn:=bI (xs:=a) (k:=i) (by omega);have hne:out++[a.getD i 0]≠[]:=by simp
 have CS:=eG out (a.getD i 0)
 cases UM:kf true true
 ·rw[ahq (by decide)];have hc:=λH T=>hg true true H T;rw[UM] at hc;simp only[SH];generalize sB out T.length=ob;generalize ST T out=TT;refine ah 7 [] Tryz.ntmps173 Tryz.func173 rfl (λ_ _=>Tryz.call173 _ _) (by simp) (λHO=>?_);apply ae;intro K Z;simp(disch:=omega);apply Z;refine af λK1 aO=>?_;apply ae;intro K Z;simp(disch:=omega);apply Z;apply aD rfl;apply aq;simp(disch:=omega) ;apply aO;clear aO;refine ae λK hK=>?_;simp(disch:=omega) ;refine ak (hc _ _) ?_;simp(disch:=omega) ;apply hK;apply aD rfl;apply aq;simp(disch:=omega) ;exact⟨rfl,rfl,rfl⟩
 ·rw[ahs rfl];have hc:=λH T=>hg true true H T;rw[UM] at hc
  by_cases h0:out=[]
  ·subst h0;have e1:SH H g [] T.length=H++[.cells [.fn g [] []],.cells [.sl 0 [] .full]]:=rfl;have e2:SH H g ([]++[a.getD i 0]) T.length=H++[.cells [.fn g [] []],.cells [.sl 1 [.int .i64 (a.getD i 0)] (.own T.length)]]:=rfl;have e3:ST T []=T:=rfl;have e4:ST T ([]++[a.getD i 0])=T++[(1,1)]:=rfl;rw[e1,e2,e3,e4];refine ah 7 [] Tryz.ntmps173 Tryz.func173 rfl (λ_ _=>Tryz.call173 _ _) (by simp) (λHO=>?_);apply ae;intro K Z;simp(disch:=omega);apply Z;refine af λK1 aO=>?_;apply ae;intro K Z;simp(disch:=omega);apply Z;apply aD rfl;apply aq;simp(disch:=omega) ;apply aO;clear aO;refine ae λK hK=>?_;simp(disch:=omega) ;refine ak (hc _ _) ?_;simp(disch:=omega) ;apply hK;apply aG rfl;refine cT [5,6] [0,0,0,0,0,0,1] [[],[]] aw (by kernel_rfl) (by kernel_rfl) λK hK=>?_;simp(disch:=omega)[Nn];apply hK;exact⟨rfl,rfl,rfl⟩
  ·have e1:SH H g out T.length=H++[.cells [.fn g [] []],.cells [.sl out.length (ints out) (.own T.length)]]:=by simp[SH,sB,h0]
   have e2:SH H g (out++[a.getD i 0]) T.length=H++[.cells [.fn g [] []],.cells [.sl (out.length+1) (ints (out++[a.getD i 0])) (.own T.length)]]:=by simp[SH,sB]
   have e3:ST T out=T++[(out.length,1)]:=by simp[ST,h0]
   have e4:ST T (out++[a.getD i 0])=T++[(out.length+1,1)]:=by simp[ST]
   rw[e1,e2,e3,e4];refine ah 7 [] Tryz.ntmps173 Tryz.func173 rfl (λ_ _=>Tryz.call173 _ _) (by simp) (λHO=>?_);apply ae;intro K Z;simp(disch:=omega);apply Z;refine af λK1 aO=>?_;apply ae;intro K Z;simp(disch:=omega);apply Z;apply aD rfl;apply aq;simp(disch:=omega) ;apply aO;clear aO;refine ae λK hK=>?_;simp(disch:=omega) ;refine ak (hc _ _) ?_;simp(disch:=omega) ;apply hK;apply aG rfl;refine cT [5,6] [0,0,0,0,0,0,1] [[],[]] aw (by kernel_rfl) (by kernel_rfl) λK hK=>?_;simp(disch:=omega)[Nn,CS];apply hK;exact⟨rfl,rfl,rfl⟩
open cL
def di (l:List Int)(i:Nat)(h:i<l.length):l.drop i=l.getD i 0::l.drop (i+1):=by
 rw[aiK h,ahg,ahi h];rfl
def MG (kf:Bool->Bool->Bool)(a b:List Int)(n i j:Nat)(o:List Int):List Int:=
 jJ (λo x=>if kf true false then o++[x] else o) (λo x=>if kf false true then o++[x] else o) (λo x=>if kf true true then o++[x] else o) n (a.drop i) (b.drop j) o
section
variable {kf : Bool -> Bool -> Bool} {a b o : List Int} {n i j : Nat}
def afL (hn:0<n)(hi:i<a.length)(hj:j<b.length)(h:a.getD i 0<b.getD j 0):MG kf a b n i j o=MG kf a b (n-1) (i+1) j (if kf true false then o++[a.getD i 0] else o):=by
 obtain⟨m,rfl⟩:∃m,n=m+1:=⟨n-1,by omega⟩
 unfold MG;rw[di a i hi,di b j hj,jJ,ahs h];rfl
def afK (hn:0<n)(hi:i<a.length)(hj:j<b.length)(h:¬a.getD i 0<b.getD j 0)(h2:b.getD j 0<a.getD i 0):MG kf a b n i j o=MG kf a b (n-1) i (j+1) (if kf false true then o++[b.getD j 0] else o):=by
 obtain⟨m,rfl⟩:∃m,n=m+1:=⟨n-1,by omega⟩
 unfold MG;rw[di a i hi,di b j hj,jJ,ahq h,ahs h2];rfl
def aaF (hn:0<n)(hi:i<a.length)(hj:j<b.length)(h:¬a.getD i 0<b.getD j 0)(h2:¬b.getD j 0<a.getD i 0):MG kf a b n i j o=MG kf a b (n-1) (i+1) (j+1) (if kf true true then o++[a.getD i 0] else o):=by
 obtain⟨m,rfl⟩:∃m,n=m+1:=⟨n-1,by omega⟩
 unfold MG;rw[di a i hi,di b j hj,jJ,ahq h,ahq h2];rfl
def aaG (hn:0<n)(hi:i<a.length)(hj:j=b.length):MG kf a b n i j o=MG kf a b (n-1) (i+1) j (if kf true false then o++[a.getD i 0] else o):=by
 obtain⟨m,rfl⟩:∃m,n=m+1:=⟨n-1,by omega⟩
 unfold MG;rw[di a i hi,hj,aim,jJ];rfl
def aaE (hn:0<n)(hi:i=a.length)(hj:j<b.length):MG kf a b n i j o=MG kf a b (n-1) i (j+1) (if kf false true then o++[b.getD j 0] else o):=by
 obtain⟨m,rfl⟩:∃m,n=m+1:=⟨n-1,by omega⟩
 unfold MG;rw[di b j hj,hi,aim,jJ];rfl
def Xr (hi:i=a.length)(hj:j=b.length):MG kf a b n i j o=o:=by
 unfold MG;rw[hi,hj,aim,aim]
 cases n<;>rfl
end
def kF (H:List az)(g:Nat)(out:List Int)(tk:Nat):(SH H g out tk).length=H.length+2:=by simp[SH]
def rR (T:au)(out:List Int):T.length<=(ST T out).length:=by unfold ST;split<;>simp
def uq {H:List az}{T:au}(h:bJ H T)(g:Nat)(out:List Int):bJ (SH H g out T.length) (ST T out):=by
 have e:SH H g out T.length=(H++[.cells [.fn g [] []]])++[.cells [sB out T.length]]:=by simp[SH]
 rw[e];refine bJ.snoc (bJ.snoc (h.kC (rR T out)) (by simp)) ?_;unfold sB ST
 split
 ·simp
 ·simp
def xk (k:Bool)(o:List Int)(x:Int)(m:Nat)(h:o.length+1<=m):(if k=true then o++[x] else o).length<=m:=by
 split
 ·simp only[ahk,ahS,aiB];omega
 ·omega
attribute [-simp] getD_eq_getElem?_getD in
def Mg (g:Nat)(kf:Bool->Bool->Bool)(hg:∀p q H T,ar prog g [.bool p,.bool q] H T (Is (.bool (kf p q)) H T))(a b:List Int)(ha:a.length<=1000)(hb:b.length<=1000)(H:List az)(T:au)(HO0:bJ H T) :
  ar prog 171 [.sl a.length (ints a) .none,.sl b.length (ints b) .none,.fn 172 [] [],.fn 173 [] [.ptr H.length 0,.ptr (H.length+1) 0]] (SH H g [] T.length) T
   (Is (.df []) (SH H g (MG kf a b (a.length+b.length) 0 0 []) T.length) (ST T (MG kf a b (a.length+b.length) 0 0 []))):=by
 have e0:ST T []=T:=rfl;refine ah 11 [] Tryz.ntmps171 Tryz.func171 rfl (λ_ _=>Tryz.call171 _ _) (by simp) (λHO=>?_);clear HO;have HO:=HO0;apply ae;intro K Z;simp(disch:=omega);apply Z;apply aj;refine aI (X:=Nat×Nat×Nat×List Int) (λx=>⟨[(0,.sl a.length (ints a) .none),(1,.sl b.length (ints b) .none),(2,.fn 172 [] []),(3,.fn 173 [] [.ptr H.length 0,.ptr (H.length+1) 0]),(8,.int .i64 (x.2.1:Nat)),(9,.int .i64 (x.2.2.1:Nat))],SH H g x.2.2.2 T.length,ST T x.2.2.2⟩)
  (λx=>x.2.1<=a.length/\x.2.2.1<=b.length/\(a.length-x.2.1)+(b.length-x.2.2.1)<=x.1/\MG kf a b (a.length+b.length) 0 0 []=MG kf a b x.1 x.2.1 x.2.2.1 x.2.2.2/\x.2.2.2.length<=x.2.1+x.2.2.1) (λx=>x.1) (a.length+b.length,0,0,[]) ?_ ?_ ?_
 ·exact⟨ahu _,ahu _,by simp only;omega,rfl,ahu _⟩
 ·refine ag [] [] ?_ ?_ ?_ ?_ (uq HO g _) ?_
  ·simp
  ·simp[e0]
  ·simp[kF]
  ·exact rR T _
  ·simp[kF]
 ·rintro⟨n,i,j,out⟩ ⟨h1,h2,h3,h4,h5⟩;simp only at h1 h2 h3 h4 h5
  by_cases hi:i<a.length
  ·have bi:decide ((i:Int)<a.length)=true:=by simp;omega
   have ni:((i:Int)==a.length)=false:=by rw[ah5];omega
   have UE:¬i=a.length:=by omega
   by_cases hj:j<b.length
   ·have bj:decide ((j:Int)<b.length)=true:=by simp;omega
    have nj:((j:Int)==b.length)=false:=by rw[ah5];omega
    have IW:¬j=b.length:=by omega
    have hn:0<n:=by omega
    refine af λK2 bc=>?_;refine ae λK hK=>?_;simp(disch:=omega)[bi,bj,hi,hj];apply hK;apply aG rfl;apply aq;simp(disch:=omega) ;apply bc;clear bc;apply aj;apply aj
    by_cases c1:a.getD i 0<b.getD j 0
    ·have b1:decide (a.getD i 0<b.getD j 0)=true:=by simpa using c1
     have hst:=afL (kf:=kf) (o:=out) hn hi hj c1;refine aJ [] [] [] aw (by kernel_rfl) (by kernel_rfl) λK hK=>?_;simp(disch:=omega)[bi,hi,nj,IW,bI];refine aC (dQ _ _ _) rfl ?_;simp(disch:=omega)[bI];refine aC (dQ _ _ _) rfl ?_;simp(disch:=omega)[b1,c1];apply hK;apply aG rfl;refine ae λK hK=>?_;simp(disch:=omega) ;refine ak (EW g kf hg out (by omega) a i hi (by omega) H T) ?_;simp(disch:=omega) ;apply hK;refine aB λK hK=>?_;simp(disch:=omega) ;apply hK;refine⟨(n-1,i+1,j,if kf true false=true then out++[a.getD i 0] else out),⟨by show i+1<=a.length;omega,by show j<=b.length;omega,by show (a.length-(i+1))+(b.length-(j))<=n-1;omega,by rw[h4,hst],xk _ _ _ _ (by show out.length+1<=(i+1)+(j);omega)⟩,by show n-1<n;omega,?_⟩;refine ag [] [] ?_ ?_ ?_ ?_ (uq HO g _) ?_
     ·simp
     ·simp
     ·simp[kF]
     ·exact rR T _
     ·simp[kF]
      try omega
    ·have b1:decide (a.getD i 0<b.getD j 0)=false:=by simpa using c1
     refine aJ [] [] [] aw (by kernel_rfl) (by kernel_rfl) λK hK=>?_;simp(disch:=omega)[bi,hi,nj,IW,bI];refine aC (dQ _ _ _) rfl ?_;simp(disch:=omega)[bI];refine aC (dQ _ _ _) rfl ?_;simp(disch:=omega)[b1,c1];apply hK;apply aD rfl
     by_cases c2:b.getD j 0<a.getD i 0
     ·have b2:decide (b.getD j 0<a.getD i 0)=true:=by simpa using c2
      have hst:=afK (kf:=kf) (o:=out) hn hi hj c1 c2;refine aJ [] [] [] aw (by kernel_rfl) (by kernel_rfl) λK hK=>?_;simp(disch:=omega)[ni,UE,bI];refine aC (dQ _ _ _) rfl ?_;simp(disch:=omega)[bI];refine aC (dQ _ _ _) rfl ?_;simp(disch:=omega)[b2,c2];apply hK;apply aG rfl;refine ae λK hK=>?_;simp(disch:=omega) ;refine ak (EV g kf hg out (by omega) b j hj (by omega) H T) ?_;simp(disch:=omega) ;apply hK;refine aB λK hK=>?_;simp(disch:=omega) ;apply hK;refine⟨(n-1,i,j+1,if kf false true=true then out++[b.getD j 0] else out),⟨by show i<=a.length;omega,by show j+1<=b.length;omega,by show (a.length-(i))+(b.length-(j+1))<=n-1;omega,by rw[h4,hst],xk _ _ _ _ (by show out.length+1<=(i)+(j+1);omega)⟩,by show n-1<n;omega,?_⟩;refine ag [] [] ?_ ?_ ?_ ?_ (uq HO g _) ?_
      ·simp
      ·simp
      ·simp[kF]
      ·exact rR T _
      ·simp[kF]
       try omega
     ·have b2:decide (b.getD j 0<a.getD i 0)=false:=by simpa using c2
      have hst:=aaF (kf:=kf) (o:=out) hn hi hj c1 c2;refine aJ [] [] [] aw (by kernel_rfl) (by kernel_rfl) λK hK=>?_;simp(disch:=omega)[ni,UE,bI];refine aC (dQ _ _ _) rfl ?_;simp(disch:=omega)[bI];refine aC (dQ _ _ _) rfl ?_;simp(disch:=omega)[b2,c2];apply hK;apply aD rfl;refine aJ [7] [0,0,0,0,0,0,0,0] [[]] aw (by kernel_rfl) (by kernel_rfl) λK hK=>?_;simp(disch:=omega) ;refine oa (MT g kf hg out (by omega) a i hi (by omega) b j H T) rfl ?_;simp(disch:=omega) ;apply hK;refine aB λK hK=>?_;simp(disch:=omega) ;apply hK;refine⟨(n-1,i+1,j+1,if kf true true=true then out++[a.getD i 0] else out),⟨by show i+1<=a.length;omega,by show j+1<=b.length;omega,by show (a.length-(i+1))+(b.length-(j+1))<=n-1;omega,by rw[h4,hst],xk _ _ _ _ (by show out.length+1<=(i+1)+(j+1);omega)⟩,by show n-1<n;omega,?_⟩;refine ag [] [] ?_ ?_ ?_ ?_ (uq HO g _) ?_
      ·simp
      ·simp
      ·simp[kF]
      ·exact rR T _
      ·simp[kF]
       try omega
   ·have bj:decide ((j:Int)<b.length)=false:=by simp;omega
    have hjb:j=b.length:=by omega
    have nj:((j:Int)==b.length)=true:=by simp;omega
    have hn:0<n:=by omega
    have hst:=aaG (kf:=kf) (o:=out) hn hi hjb;refine af λK2 bc=>?_;refine ae λK hK=>?_;simp(disch:=omega)[bi,bj,hi,hj];apply hK;apply aG rfl;apply aq;simp(disch:=omega) ;apply bc;clear bc;apply aj;apply aj;have hjz:(j:Int)=(b.length:Int):=by omega
    refine aJ [] [] [] aw (by kernel_rfl) (by kernel_rfl) λK hK=>?_;simp(disch:=omega)[nj,hjz];apply hK;apply aG rfl;refine ae λK hK=>?_;simp(disch:=omega) ;refine ak (EW g kf hg out (by omega) a i hi (by omega) H T) ?_;simp(disch:=omega) ;apply hK;refine aB λK hK=>?_;simp(disch:=omega) ;apply hK;refine⟨(n-1,i+1,j,if kf true false=true then out++[a.getD i 0] else out),⟨by show i+1<=a.length;omega,by show j<=b.length;omega,by show (a.length-(i+1))+(b.length-(j))<=n-1;omega,by rw[h4,hst],xk _ _ _ _ (by show out.length+1<=(i+1)+(j);omega)⟩,by show n-1<n;omega,?_⟩;refine ag [] [] ?_ ?_ ?_ ?_ (uq HO g _) ?_
    ·simp
    ·simp
    ·simp[kF]
    ·exact rR T _
    ·simp[kF]
     try omega
  ·have bi:decide ((i:Int)<a.length)=false:=by simp;omega
   have pj:i=a.length:=by omega
   by_cases hj:j<b.length
   ·have bj:decide ((j:Int)<b.length)=true:=by simp;omega
    have nj:((j:Int)==b.length)=false:=by rw[ah5];omega
    have IW:¬j=b.length:=by omega
    have ni:((i:Int)==a.length)=true:=by simp;omega
    have hn:0<n:=by omega
    have hst:=aaE (kf:=kf) (o:=out) hn pj hj;refine af λK2 bc=>?_;refine ae λK hK=>?_;simp(disch:=omega)[bi,bj,hi,hj];apply hK;apply aG rfl;apply aq;simp(disch:=omega) ;apply bc;clear bc;apply aj;apply aj;refine aJ [] [] [] aw (by kernel_rfl) (by kernel_rfl) λK hK=>?_;simp(disch:=omega)[nj,IW,bi,hi];apply hK;apply aD rfl;have Yy:(i:Int)=(a.length:Int):=by omega
    refine aJ [] [] [] aw (by kernel_rfl) (by kernel_rfl) λK hK=>?_;simp(disch:=omega)[ni,Yy];apply hK;apply aG rfl;refine ae λK hK=>?_;simp(disch:=omega) ;refine ak (EV g kf hg out (by omega) b j hj (by omega) H T) ?_;simp(disch:=omega) ;apply hK;refine aB λK hK=>?_;simp(disch:=omega) ;apply hK;refine⟨(n-1,i,j+1,if kf false true=true then out++[b.getD j 0] else out),⟨by show i<=a.length;omega,by show j+1<=b.length;omega,by show (a.length-(i))+(b.length-(j+1))<=n-1;omega,by rw[h4,hst],xk _ _ _ _ (by show out.length+1<=(i)+(j+1);omega)⟩,by show n-1<n;omega,?_⟩;refine ag [] [] ?_ ?_ ?_ ?_ (uq HO g _) ?_
    ·simp
    ·simp
    ·simp[kF]
    ·exact rR T _
    ·simp[kF]
     try omega
   ·have bj:decide ((j:Int)<b.length)=false:=by simp;omega
    have hend:=Xr (kf:=kf) (a:=a) (b:=b) (o:=out) (n:=n) pj (show j=b.length by omega);rw[hend] at h4;refine af λK2 bc=>?_;refine ae λK hK=>?_;simp(disch:=omega)[bi,bj,hi,hj];apply hK;apply aD rfl;apply aF;simp(disch:=omega) ;rw[h4];exact⟨rfl,rfl,rfl⟩
def comb (kf:Bool->Bool->Bool)(a b:List Int):List Int:=
 if oZ a 1 1000000000=true/\oZ b 1 1000000000=true then MG kf a b (a.length+b.length) 0 0 [] else []
attribute [-simp] getD_eq_getElem?_getD in
def si (g:Nat)(kf:Bool->Bool->Bool)(hg:∀p q H T,ar prog g [.bool p,.bool q] H T (Is (.bool (kf p q)) H T))(a b:List Int)(ha:a.length<=1000)(hb:b.length<=1000)(H:List az)(T:au)(ta tb:Tag) :
  ar prog 116 [.sl a.length (ints a) ta,.sl b.length (ints b) tb,.fn g [] []] H T (Is (.sl (comb kf a b).length (ints (comb kf a b)) .none) H T):=by
 refine ar.cg (ar.uk ?_);refine ar.bV ?_ (by simp);have kH:1000<=maxLen:=by decide
 refine ah 8 [] Tryz.ntmps116 Tryz.func116 rfl (λ_ _=>Tryz.call116 _ _) (by simp) (λHO=>?_);apply ae;intro K Z;simp(disch:=omega);apply Z;apply ae;intro K Z;simp(disch:=omega);apply Z;refine af λK1 aO=>?_;have c1:=iD a (by omega) (H++[.cells [.fn g [] []],.cells [.sl 0 [] .full]]) T .none;have c2:=iD b (by omega) (H++[.cells [.fn g [] []],.cells [.sl 0 [] .full]]) T .none
 cases hv:oZ a 1 1000000000
 ·rw[hv] at c1;refine ae λK hK=>?_;simp(disch:=omega) ;refine ak (c1) ?_;simp(disch:=omega) ;apply hK;apply aG rfl;apply ae;intro K Z;simp(disch:=omega);apply Z;apply ay;simp(disch:=omega) ;simp[comb,hv,ints]
 ·rw[hv] at c1
  cases hw:oZ b 1 1000000000
  ·rw[hw] at c2;refine ae λK hK=>?_;simp(disch:=omega) ;refine ak (c1) ?_;simp(disch:=omega) ;refine ak (c2) ?_;simp(disch:=omega) ;apply hK;apply aG rfl;apply ae;intro K Z;simp(disch:=omega);apply Z;apply ay;simp(disch:=omega) ;simp[comb,hw,ints]
  ·rw[hw] at c2;have c3:=Mg g kf hg a b ha hb H T HO;have hr:comb kf a b=MG kf a b (a.length+b.length) 0 0 []:=by unfold comb;rw[ahs ⟨hv,hw⟩]
   rw[<-hr] at c3;have k1:(SH H g (comb kf a b) T.length)[H.length+1]?=some (.cells [sB (comb kf a b) T.length]):=OU _ _ 1;have hH:∃rH,SH H g (comb kf a b) T.length=H++rH:=⟨_,rfl⟩
   have hT:∃rT,ST T (comb kf a b)=T++rT:=by unfold ST;split;exact⟨[],by simp⟩;exact⟨_,rfl⟩
   refine ae λK hK=>?_;simp(disch:=omega) ;refine ak (c1) ?_;simp(disch:=omega) ;refine ak (c2) ?_;simp(disch:=omega) ;apply hK;apply aD rfl;apply aq;simp(disch:=omega) ;apply aO;clear aO;refine ae λK hK=>?_;simp(disch:=omega) ;refine ak (c3) ?_;simp(disch:=omega) ;apply hK;refine ae λK hK=>?_;simp(disch:=omega)[k1];apply hK;apply ay;simp(disch:=omega) ;generalize comb kf a b=r at *;refine⟨hH,hT,?_⟩;unfold sB
   by_cases h0:r=[]
   ·subst h0;simp[ints]
   ·simp[h0]
attribute [-simp] getD_eq_getElem?_getD in
def Pd (a b:List Int)(ha:a.length<=1000)(hb:b.length<=1000)(H:List az)(T:au)(ta tb:Tag):ar prog 64 [.sl a.length (ints a) ta,.sl b.length (ints b) tb] H T (Is (.sl (comb (λp q=>p&&q) a b).length (ints (comb (λp q=>p&&q) a b)) .none) H T):=by
 refine ar.bV ?_ (by simp);refine ah 5 [] Tryz.ntmps64 Tryz.func64 rfl (λ_ _=>Tryz.call64 _ _) (by simp) (λHO=>?_);apply ae;intro K Z;simp(disch:=omega);apply Z;refine ae λK hK=>?_;simp(disch:=omega) ;refine ak (si _ (λp q=>p&&q) (λp q H T=>Uu p q H T) a b ha hb H T _ _) ?_;simp(disch:=omega) ;apply hK;apply ay;simp(disch:=omega) 
attribute [-simp] getD_eq_getElem?_getD in
def Ok (a b:List Int)(ha:a.length<=1000)(hb:b.length<=1000)(H:List az)(T:au)(ta tb:Tag):ar prog 65 [.sl a.length (ints a) ta,.sl b.length (ints b) tb] H T (Is (.sl (comb (λ_ _=>true) a b).length (ints (comb (λ_ _=>true) a b)) .none) H T):=by
 refine ar.bV ?_ (by simp);refine ah 5 [] Tryz.ntmps65 Tryz.func65 rfl (λ_ _=>Tryz.call65 _ _) (by simp) (λHO=>?_);apply ae;intro K Z;simp(disch:=omega);apply Z;refine ae λK hK=>?_;simp(disch:=omega) ;refine ak (si _ (λ_ _=>true) (λp q H T=>WZ p q H T) a b ha hb H T _ _) ?_;simp(disch:=omega) ;apply hK;apply ay;simp(disch:=omega) 
attribute [-simp] getD_eq_getElem?_getD in
def oK (a b:List Int)(ha:a.length<=1000)(hb:b.length<=1000)(H:List az)(T:au)(ta tb:Tag):ar prog 62 [.sl a.length (ints a) ta,.sl b.length (ints b) tb] H T (Is (.sl (comb (λ_ q=>!q) a b).length (ints (comb (λ_ q=>!q) a b)) .none) H T):=by
 refine ar.bV ?_ (by simp);refine ah 5 [] Tryz.ntmps62 Tryz.func62 rfl (λ_ _=>Tryz.call62 _ _) (by simp) (λHO=>?_);apply ae;intro K Z;simp(disch:=omega);apply Z;refine ae λK hK=>?_;simp(disch:=omega) ;refine ak (si _ (λ_ q=>!q) (λp q H T=>Fo p q H T) a b ha hb H T _ _) ?_;simp(disch:=omega) ;apply hK;apply ay;simp(disch:=omega) 
theorem ko {l:List Int}{lo hi:Int}(h:oZ l lo hi=true):kz l:=by
 unfold oZ at h;rw[ahQ] at h;have h1:∀k,k+1<l.length->l.getD k 0<l.getD (k+1) 0:=by
  intro k hk;have:=h (k+1) (by simpa using hk);unfold mc at this;simp only[aht,aic,ahv,aiP] at this;rcases this.2 with h2|h2
  ·omega
  ·exact h2
 clear h
 induction l with
 |nil=>exact List.Pairwise.nil
 |cons x l ih=>
  have ht:kz l:=ih (λk hk=>by
   have:=h1 (k+1) (by simpa using hk);simpa using this)
  refine aie.2 ⟨λy hy=>?_,ht⟩
  cases l with
  |nil=>simp at hy
  |cons z l=>
   have hz:=h1 0 (by simp);simp at hz;rcases ahL.1 hy with rfl|hy
   ·exact hz
   ·have:=(mr ht).2 y hy;omega
def FP (a:List Int)(k:Nat)(p:Int->Bool)(h:k<a.length):(a.take (k+1)).filter p=if p (a.getD k 0)=true then (a.take k).filter p++[a.getD k 0] else (a.take k).filter p:=by
 have e:a.take (k+1)=a.take k++[a.getD k 0]:=by
  rw[aiG h];simp[h]
 rw[e,ah8]
 by_cases hp:p (a.getD k 0)=true
 ·rw[ahs hp,aiw hp];rfl
 ·rw[ahq hp,aiq hp];simp
end Go.Proofs.YtoejlmpbebjemaaGreat
