/- Valid lists of layer 38. Valid lists of the reference of layer 38, and comparisons. The merging of two ascending lists: laws on lists. Merging in layer 38: what is done with an element. Merging in layer 38: the walk over two lists of numbers. Merging in layer 38: the walk over two lists of numbers. And, Or, Without of layer 38. Membership in the reference of layer 38. And and Without of the reference of layer 38, and that they are the program's. Or of the reference of layer 38, and that it is the program's.
  Conditions: lengths below 1000 or 5000, as each theorem says. -/
import Derived.Test.YtoejlmpbebjemaaGreatAmFacts
import Derived.Test.YtoejlmpbebjemaaGreatAmB
set_option linter.all false
set_option maxRecDepth 100000
set_option maxHeartbeats 4000000

open List (getD_eq_getElem?_getD)
namespace Go.Proofs.YtoejlmpbebjemaaGreat
open Go.Proofs.Tryz(prog)
open Go Go.Am
def aO:prog.follows .mixedOrders=true:=zK
def im (l:List Int)(lo hi:Int)(k:Nat):Bool:=decide (lo<=l.getD k 0)&&decide (l.getD k 0<=hi)&&(decide (k=0)||decide (l.getD (k-1) 0<l.getD k 0))
def jI (l:List Int)(lo hi:Int):Bool:=(List.range l.length).all (im l lo hi)
def JK {l:List Int}{lo hi:Int}{k:Nat}(hk:k<l.length)(h:im l lo hi k=false):jI l lo hi=false:=by
 unfold jI;rw[List.all_eq_false];exact⟨k,by simpa using hk,by simp[h]⟩
def Ct {l:List Int}{lo hi:Int}(h:∀j,j<l.length->im l lo hi j=true):jI l lo hi=true:=by
 unfold jI;rw[ah3];intro j hj;exact h j (zU hj)
attribute [-simp] getD_eq_getElem?_getD in
theorem O1 (l:List Int)(lo hi:Int)(hl:l.length<=maxLen)(H:List aA)(T:au)(tg:Tag):aq prog 115 [.sl l.length (ints l) tg,.int .i64 lo,.int .i64 hi] H T (Is (.bool (jI l lo hi)) H T):=by
 refine aq.bR ?_;have jU:maxLen<=9223372036854775807:=zD;have jY:=ahA hl jU;refine ah 12 [] Tryz.ntmps115 Tryz.func115 rfl (λ_ _=>Tryz.call115 _ _) zS (λHO=>?_);refine af ?_;refine ae λK1 aN=>?_;refine af ?_;apply ag;refine aG (X:=Nat) (λk=>⟨[(0,.sl l.length (ints l) .none),(1,.int .i64 lo),(2,.int .i64 hi),(9,.sl l.length (ints l) .none),(10,.int .i64 (l.length:Nat)),(11,.int .i64 (k:Nat))],H,T⟩) (λk=>k<=l.length/\∀j,j<k->im l lo hi j=true) (λk=>l.length-k) 0 ?_ ?_ ?_
 ·exact⟨ahE _,λj hj=>absurd hj (ahT _)⟩
 ·exact wk HO
 ·rintro k ⟨h1,h2⟩;refine af ?_;refine ae λK2 ba=>?_;refine aV rfl (λhk=>?_) (λhk=>?_)
  ·simp  at hk;apply aj;refine zQ ?_;apply ba;clear ba;refine ae λK3 bH=>?_;apply ag;apply ar;simp(disch:=omega)[aS];refine aK λK hK=>?_;have key:∀e b,b=(!im l lo hi k)->bA H.length T.length e [(0,.sl l.length (ints l) .none),(1,.int .i64 lo),(2,.int .i64 hi),(9,.sl l.length (ints l) .none),(10,.int .i64 (l.length:Nat)),(11,.int .i64 (k:Nat)),(36,.bool b)]->K ⟨e,H,T⟩:=by
    intro e b hb he;refine hK _ (aF ⟨[(0,.sl l.length (ints l) .none),(1,.int .i64 lo),(2,.int .i64 hi),(9,.sl l.length (ints l) .none),(10,.int .i64 (l.length:Nat)),(11,.int .i64 (k:Nat)),(36,.bool b)],H,T⟩ (ak [] [] zS zS zS zS HO he) ?_)
    cases je:im l lo hi k with
    |false=>
     rw[je] at hb;subst hb;apply aC rfl;refine af ?_;refine aI ?_;rw[JK hk je];exact⟨rfl,rfl,rfl⟩
    |true=>
     rw[je] at hb;subst hb;apply aB rfl;apply aj;refine zQ ?_;apply bH;clear bH;refine aJ ?_;refine⟨k+1,⟨by show k+1<=_;omega,λj hj=>?_⟩,by show l.length-(k+1)<l.length-k;omega,?_⟩
     ·rcases ahD j k with h3|h3
      ·exact h2 j h3
      ·have:j=k:=zO;subst this;exact je
     ·exact wk HO
   clear hK
   by_cases c1:l.getD k 0<lo
   ·have b1:decide (l.getD k 0<lo)=true:=by simpa using c1
    simp(disch:=omega)[b1,c1];refine key _ true ?_ zS;have:¬lo<=l.getD k 0:=zO;simp only[im,ahy this];rfl
   ·have b1:decide (l.getD k 0<lo)=false:=by simpa using c1
    by_cases c2:hi<l.getD k 0
    ·have b2:decide (hi<l.getD k 0)=true:=by simpa using c2
     simp(disch:=omega)[b1,c1,b2,c2];refine key _ true ?_ zS;have:¬l.getD k 0<=hi:=zO;simp only[im,ahy this,Bool.and_false];rfl
    ·have b2:decide (hi<l.getD k 0)=false:=by simpa using c2
     have e1:lo<=l.getD k 0:=zO;have e2:l.getD k 0<=hi:=zO;rcases ah0 k with h0|h0
     ·subst h0;simp(disch:=omega)[b1,c1,b2,c2];refine key _ false ?_ zS;simp only[im,ahx e1,ahx e2];rfl
     ·have b3:decide ((0:Int)<(k:Int))=true:=by simp;omega
      have c3:(0:Int)<k:=zO;have ek:((k:Int)-1).toNat=k-1:=zO;have gA:=aS (xs:=l) (k:=k-1) zO
      by_cases c4:l.getD k 0<=l.getD (k-1) 0
      ·have b4:decide (l.getD k 0<=l.getD (k-1) 0)=true:=by simpa using c4
       simp(disch:=omega)[b1,c1,b2,c2,b3,c3,h0,ek,gA,b4,c4];refine key _ true ?_ zS;have e3:¬l.getD (k-1) 0<l.getD k 0:=zO;have e4:¬k=0:=zO;simp only[im,ahx e1,ahx e2,ahy e3,ahy e4];rfl
      ·have b4:decide (l.getD k 0<=l.getD (k-1) 0)=false:=by simpa using c4
       simp(disch:=omega)[b1,c1,b2,c2,b3,c3,h0,ek,gA,b4,c4];refine key _ false ?_ zS;have e3:l.getD (k-1) 0<l.getD k 0:=zO;simp only[im,ahx e1,ahx e2,ahx e3,Bool.or_true];rfl
  ·simp  at hk;apply aD;refine zQ ?_;apply aN;clear aN;refine af ?_;refine aI ?_;rw[Ct (λj hj=>h2 j zO)];exact⟨rfl,rfl,rfl⟩
attribute [-simp] getD_eq_getElem?_getD in
def iN (l:List Int)(hl:l.length<=maxLen)(H:List aA)(T:au)(tg:Tag):aq prog 61 [.sl l.length (ints l) tg] H T (Is (.bool (jI l 1 1000000000)) H T):=by
 refine ah 3 [] Tryz.ntmps61 Tryz.func61 rfl (λ_ _=>Tryz.call61 _ _) zS (λHO=>?_);refine af ?_;apply ar;refine zQ ?_;refine ai (O1 l 1 1000000000 hl H T tg) ?_;refine zQ ?_;refine aI ?_;exact⟨rfl,rfl,rfl⟩
attribute [-simp] getD_eq_getElem?_getD in
theorem JL (l:List Int)(lo hi:Int)(hl:l.length<=maxLen)(H:List aA)(T:au)(tg:Tag):aq prog 140 [.sl l.length (ints l) tg,.int .i64 lo,.int .i64 hi] H T (Is (.bool (jI l lo hi)) H T):=by
 refine aq.bR ?_;have jU:maxLen<=9223372036854775807:=zD;have jY:=ahA hl jU;refine ah 8 [] Tryz.ntmps140 Tryz.func140 rfl (λ_ _=>Tryz.call140 _ _) zS (λHO=>?_);refine af ?_;refine ae λK1 aN=>?_;refine af ?_;apply ag;refine aG (X:=Nat) (λk=>⟨[(0,.sl l.length (ints l) .none),(1,.int .i64 lo),(2,.int .i64 hi),(7,.int .i64 (k:Nat))],H,T⟩) (λk=>k<=l.length/\∀j,j<k->im l lo hi j=true) (λk=>l.length-k) 0 ?_ ?_ ?_
 ·exact⟨ahE _,λj hj=>absurd hj (ahT _)⟩
 ·exact wk HO
 ·rintro k ⟨h1,h2⟩;refine ae λK2 ba=>?_;refine af ?_;refine aV rfl (λhk=>?_) (λhk=>?_)
  ·simp  at hk;apply aj;refine zQ ?_;apply ba;clear ba;refine ae λK3 bH=>?_;apply ag;refine cQ [] [] [] aO zK zK λK hK=>?_;have key:∀e b,b=(!im l lo hi k)->bA H.length T.length e [(0,.sl l.length (ints l) .none),(1,.int .i64 lo),(2,.int .i64 hi),(7,.int .i64 (k:Nat)),(43,.bool b)]->K ⟨e,H,T⟩:=by
    intro e b hb he;refine hK _ (aF ⟨[(0,.sl l.length (ints l) .none),(1,.int .i64 lo),(2,.int .i64 hi),(7,.int .i64 (k:Nat)),(43,.bool b)],H,T⟩ (ak [] [] zS zS zS zS HO he) ?_)
    cases je:im l lo hi k with
    |false=>
     rw[je] at hb;subst hb;apply aC rfl;refine af ?_;refine aI ?_;rw[JK hk je];exact⟨rfl,rfl,rfl⟩
    |true=>
     rw[je] at hb;subst hb;apply aB rfl;apply aj;refine zQ ?_;apply bH;clear bH;refine aJ ?_;refine⟨k+1,⟨by show k+1<=_;omega,λj hj=>?_⟩,by show l.length-(k+1)<l.length-k;omega,?_⟩
     ·rcases ahD j k with h3|h3
      ·exact h2 j h3
      ·have:j=k:=zO;subst this;exact je
     ·exact wk HO
   clear hK
   by_cases c1:l.getD k 0<lo
   ·have b1:decide (l.getD k 0<lo)=true:=by simpa using c1
    simp(disch:=omega)[aS,b1,c1];refine key _ true ?_ zS;have:¬lo<=l.getD k 0:=zO;simp only[im,ahy this];rfl
   ·have b1:decide (l.getD k 0<lo)=false:=by simpa using c1
    by_cases c2:hi<l.getD k 0
    ·have b2:decide (hi<l.getD k 0)=true:=by simpa using c2
     simp(disch:=omega)[aS,b1,c1,b2,c2];refine key _ true ?_ zS;have:¬l.getD k 0<=hi:=zO;simp only[im,ahy this,Bool.and_false];rfl
    ·have b2:decide (hi<l.getD k 0)=false:=by simpa using c2
     have e1:lo<=l.getD k 0:=zO;have e2:l.getD k 0<=hi:=zO;rcases ah0 k with h0|h0
     ·subst h0;simp(disch:=omega)[aS,b1,c1,b2,c2];refine key _ false ?_ zS;simp only[im,ahx e1,ahx e2];rfl
     ·have b3:decide ((0:Int)<(k:Int))=true:=by simp;omega
      have c3:(0:Int)<k:=zO;have ek:((k:Int)-1).toNat=k-1:=zO;have gA:=aS (xs:=l) (k:=k-1) zO
      by_cases c4:l.getD k 0<=l.getD (k-1) 0
      ·have b4:decide (l.getD k 0<=l.getD (k-1) 0)=true:=by simpa using c4
       simp(disch:=omega)[aS,b1,c1,b2,c2,b3,c3,h0,ek,gA,b4,c4];refine key _ true ?_ zS;have e3:¬l.getD (k-1) 0<l.getD k 0:=zO;have e4:¬k=0:=zO;simp only[im,ahx e1,ahx e2,ahy e3,ahy e4];rfl
      ·have b4:decide (l.getD k 0<=l.getD (k-1) 0)=false:=by simpa using c4
       simp(disch:=omega)[aS,b1,c1,b2,c2,b3,c3,h0,ek,gA,b4,c4];refine key _ false ?_ zS;have e3:l.getD (k-1) 0<l.getD k 0:=zO;simp only[im,ahx e1,ahx e2,ahx e3,Bool.or_true];rfl
  ·simp  at hk;apply aD;refine zQ ?_;apply aN;clear aN;refine af ?_;refine aI ?_;rw[Ct (λj hj=>h2 j zO)];exact⟨rfl,rfl,rfl⟩
attribute [-simp] getD_eq_getElem?_getD in
def eV (l:List Int)(hl:l.length<=maxLen)(H:List aA)(T:au)(tg:Tag):aq prog 76 [.sl l.length (ints l) tg] H T (Is (.bool (jI l 1 1000000000)) H T):=by
 refine ah 3 [] Tryz.ntmps76 Tryz.func76 rfl (λ_ _=>Tryz.call76 _ _) zS (λHO=>?_);refine af ?_;apply ar;refine zQ ?_;refine ai (JL l 1 1000000000 hl H T tg) ?_;refine zQ ?_;refine aI ?_;exact⟨rfl,rfl,rfl⟩
def Cj {α:Type}[DecidableEq α]{a b:List α}(d:α)(h:a.length=b.length)(hj:∀j,j<a.length->a.getD j d=b.getD j d):a=b:=by
 apply ajq h;intro i h1 h2;have:=hj i h1
 rwa [ahs,ahs,ahu h1,ahu h2] at this
attribute [-simp] getD_eq_getElem?_getD in
def qu (a b:List Int)(ha:a.length<=maxLen)(hb:b.length<=maxLen)(H:List aA)(T:au)(ta tb:Tag):aq prog 44 [.sl a.length (ints a) ta,.sl b.length (ints b) tb] H T (Is (.bool (a==b)) H T):=by
 refine aq.bR ?_;have jU:maxLen<=9223372036854775807:=zD;have YJ:=ahA ha jU;have wZ:=ahA hb jU;refine ah 6 [] Tryz.ntmps44 Tryz.func44 rfl (λ_ _=>Tryz.call44 _ _) zS (λHO=>?_);refine af ?_;refine ae λK1 aN=>?_;refine af ?_;refine aV rfl (λh=>?_) (λh=>?_)
 ·simp  at h;refine af ?_;refine aI ?_;have:(a==b)=false:=by simp;intro e;subst e;exact h rfl
  rw[this];exact⟨rfl,rfl,rfl⟩
 ·simp  at h;have hl:a.length=b.length:=zO;apply aj;refine zQ ?_;apply aN;clear aN;refine ae λK1 aN=>?_;refine af ?_;apply ag;refine aG (X:=Nat) (λi=>⟨[(0,.sl a.length (ints a) .none),(1,.sl b.length (ints b) .none),(5,.int .i64 (i:Nat))],H,T⟩) (λi=>i<=a.length/\∀j,j<i->a.getD j 0=b.getD j 0) (λi=>a.length-i) 0 ?_ ?_ ?_
  ·exact⟨zO,λj hj=>by omega⟩
  ·exact wk HO
  ·rintro i ⟨hi,hj⟩;refine ae λK2 ba=>?_;refine af ?_;refine aV rfl (λh=>?_) (λh=>?_)
   ·simp  at h;apply aj;refine zQ ?_;apply ba;clear ba;refine ae λK3 bH=>?_;apply ag
    by_cases he:a.getD i 0=b.getD i 0
    ·refine bC [] [] [] ?_;simp(disch:=omega)[aS,he];apply aB rfl;apply aj;refine zQ ?_;apply bH;clear bH;refine aJ ?_;refine⟨i+1,⟨zO,λj bU=>?_⟩,zO,?_⟩
     ·rcases ahD j i with h1|h1
      ·exact hj j h1
      ·have:j=i:=zO;subst this;exact he
     ·exact wk HO
    ·have CW:(a.getD i 0!=b.getD i 0)=true:=bne_iff_ne.2 he;refine bC [] [] [] ?_;simp(disch:=omega)[aS,CW];apply aC rfl;refine af ?_;refine aI ?_;have:(a==b)=false:=by simp;intro e;subst e;exact he rfl
     rw[this];exact⟨rfl,rfl,rfl⟩
   ·simp  at h;apply aD;refine zQ ?_;apply aN;clear aN;refine af ?_;refine aI ?_;refine⟨?_,rfl,rfl⟩;have:a=b:=Cj 0 hl (λj bU=>hj j zO);simp[this]
end Go.Proofs.YtoejlmpbebjemaaGreat
namespace cN
def jX {β:Type}(fA fB fAB:β->Int->β):Nat->List Int->List Int->β->β
 |0,_,_,o=>o
 |n+1,x::a,y::b,o=>if x<y then jX fA fB fAB n a (y::b) (fA o x) else if y<x then jX fA fB fAB n (x::a) b (fB o y) else jX fA fB fAB n a b (fAB o x)
 |n+1,x::a,[],o=>jX fA fB fAB n a [] (fA o x)
 |n+1,[],y::b,o=>jX fA fB fAB n [] b (fB o y)
 |_+1,[],[],o=>o
def kI (l:List Int):Prop:=l.Pairwise (·<·)
def mM {x:Int}{l:List Int}(h:kI (x::l)):kI l/\∀y∈l,x<y:=⟨(ait.1 h).2,(ait.1 h).1⟩
def snoc (o:List Int)(x:Int):List Int:=o++[x]
theorem B9 (kA kB Na:Bool):∀(n:Nat)(a b o:List Int),a.length+b.length<=n->kI a->kI b->
  jX (λo x=>if kA then o++[x] else o) (λo x=>if kB then o++[x] else o) (λo x=>if Na then o++[x] else o) n a b o =
   o++jX (λo x=>if kA then o++[x] else o) (λo x=>if kB then o++[x] else o) (λo x=>if Na then o++[x] else o) n a b []/\
  (∀z,z∈jX (λo x=>if kA then o++[x] else o) (λo x=>if kB then o++[x] else o) (λo x=>if Na then o++[x] else o) n a b []↔
   (z∈a/\z∉b/\kA=true)\/(z∈b/\z∉a/\kB=true)\/(z∈a/\z∈b/\Na=true))/\
  kI (jX (λo x=>if kA then o++[x] else o) (λo x=>if kB then o++[x] else o) (λo x=>if Na then o++[x] else o) n a b []):=by
 intro n
 induction n with
 |zero=>
  intro a b o h _ _;have ha:a=[]:=ah5 zO;have hb:b=[]:=ah5 zO;subst ha;subst hb;exact⟨by simp[jX],by simp[jX],List.Pairwise.nil⟩
 |succ n ih=>
  intro a b o h ha hb;have put:∀(k:Bool)(x:Int)(a' b' o:List Int),a'.length+b'.length<=n->kI a'->kI b'->(∀z,z∈a'->x<z)->(∀z,z∈b'->x<z)->
    jX (λo x=>if kA then o++[x] else o) (λo x=>if kB then o++[x] else o) (λo x=>if Na then o++[x] else o) n a' b' (if k then o++[x] else o) =
     o++jX (λo x=>if kA then o++[x] else o) (λo x=>if kB then o++[x] else o) (λo x=>if Na then o++[x] else o) n a' b' (if k then ([]:List Int)++[x] else [])/\
    (∀z,z∈jX (λo x=>if kA then o++[x] else o) (λo x=>if kB then o++[x] else o) (λo x=>if Na then o++[x] else o) n a' b' (if k then ([]:List Int)++[x] else [])↔
     (z=x/\k=true)\/(z∈a'/\z∉b'/\kA=true)\/(z∈b'/\z∉a'/\kB=true)\/(z∈a'/\z∈b'/\Na=true))/\
    kI (jX (λo x=>if kA then o++[x] else o) (λo x=>if kB then o++[x] else o) (λo x=>if Na then o++[x] else o) n a' b' (if k then ([]:List Int)++[x] else [])):=by
   intro k x a' b' o h' YJ wZ Us hxb;obtain⟨i1,i2,i3⟩:=ih a' b' [] h' YJ wZ;have j1:=λo=>(ih a' b' o h' YJ wZ).1;rw[j1 (if k then o++[x] else o),j1 (if k then ([]:List Int)++[x] else [])];generalize jX (λo x=>if kA then o++[x] else o) (λo x=>if kB then o++[x] else o) (λo x=>if Na then o++[x] else o) n a' b' []=m at *;refine⟨?_,λz=>?_,?_⟩
   ·cases k<;>simp
   ·rw[ahI,i2]
    cases k<;>simp
   ·cases k
    ·simpa using i3
    ·simp only[ajc,ai3,ajI];refine ait.2 ⟨λz hz=>?_,i3⟩;rcases (i2 z).1 hz with⟨h1,_⟩|⟨h1,_⟩|⟨h1,_⟩
     ·exact Us z h1
     ·exact hxb z h1
     ·exact Us z h1
  cases a with
  |nil=>
   cases b with
   |nil=>exact⟨by simp[jX],by simp[jX],List.Pairwise.nil⟩
   |cons y b=>
    obtain⟨h1,h2⟩:=mM hb;obtain⟨p1,p2,p3⟩:=put kB y [] b o (by simp at h ⊢;omega) List.Pairwise.nil h1 (λz hz=>by simp at hz) h2;refine⟨p1,λz=>?_,p3⟩;rw[jX,p2];simp
    by_cases e:z=y<;>simp[e]
  |cons x a=>
   obtain⟨h1,h2⟩:=mM ha
   cases b with
   |nil=>
    obtain⟨p1,p2,p3⟩:=put kA x a [] o (by simp at h ⊢;omega) h1 List.Pairwise.nil h2 (λz hz=>by simp at hz);refine⟨p1,λz=>?_,p3⟩;rw[jX,p2];simp
    by_cases e:z=x<;>simp[e]
   |cons y b=>
    obtain⟨h3,h4⟩:=mM hb;simp only[ahY] at h
    by_cases c1:x<y
    ·have Yn:∀z,z∈y::b->x<z:=λz hz=>by
      rcases ah4.1 hz with rfl|hz
      ·exact c1
      ·have:=h4 z hz;omega
     obtain⟨p1,p2,p3⟩:=put kA x a (y::b) o (by simp;omega) h1 hb h2 Yn;rw[jX,ahF c1,jX,ahF c1];refine⟨p1,λz=>?_,p3⟩;rw[p2]
     by_cases e:z=x
     ·subst e;have n1:z∉a:=λhz=>by have:=h2 z hz;omega
      have n2:z∉y::b:=λhz=>by have:=Yn z hz;omega
      simp[n1,n2]
     ·simp[e]
    ·by_cases c2:y<x
     ·have Us:∀z,z∈x::a->y<z:=λz hz=>by
       rcases ah4.1 hz with rfl|hz
       ·exact c2
       ·have:=h2 z hz;omega
      obtain⟨p1,p2,p3⟩:=put kB y (x::a) b o (by simp;omega) ha h3 Us h4;rw[jX,ahC c1,ahF c2,jX,ahC c1,ahF c2];refine⟨p1,λz=>?_,p3⟩;rw[p2]
      by_cases e:z=y
      ·subst e;have n1:z∉b:=λhz=>by have:=h4 z hz;omega
       have n2:z∉x::a:=λhz=>by have:=Us z hz;omega
       simp[n1,n2]
      ·simp[e]
     ·have e0:x=y:=zO;subst e0;obtain⟨p1,p2,p3⟩:=put Na x a b o zO h1 h3 h2 h4;rw[jX,ahC c1,ahC c2,jX,ahC c1,ahC c2];refine⟨p1,λz=>?_,p3⟩;rw[p2]
      by_cases e:z=x
      ·subst e;have n1:z∉a:=λhz=>by have:=h2 z hz;omega
       have n2:z∉b:=λhz=>by have:=h4 z hz;omega
       simp[n1,n2]
      ·simp[e]
theorem jc:∀(a b:List Int),kI a->kI b->(∀z,z∈a↔z∈b)->a=b:=by
 intro a
 induction a with
 |nil=>
  intro b _ _ h
  cases b with
  |nil=>rfl
  |cons y b=>have:=(h y).2 zS;simp at this
 |cons x a ih=>
  intro b ha hb h
  cases b with
  |nil=>have:=(h x).1 zS;simp at this
  |cons y b=>
   obtain⟨h1,h2⟩:=mM ha;obtain⟨h3,h4⟩:=mM hb;have e:x=y:=by
    have g1:=(h x).1 zS;have g2:=(h y).2 zS;rcases ah4.1 g1 with g1|g1
    ·exact g1
    ·rcases ah4.1 g2 with g2|g2
     ·exact g2.symm
     ·have:=h4 x g1;have:=h2 y g2;omega
   subst e
   congr 1
   refine ih b h1 h3 (λz=>?_);have:=h z
   constructor
   ·intro hz;have dM:z≠x:=by have:=h2 z hz;omega
    rcases ah4.1 (this.1 (by simp[hz])) with e|e
    ·exact absurd e dM
    ·exact e
   ·intro hz;have dM:z≠x:=by have:=h4 z hz;omega
    rcases ah4.1 (this.2 (by simp[hz])) with e|e
    ·exact absurd e dM
    ·exact e
end cN
namespace Go.Proofs.YtoejlmpbebjemaaGreat
open Go.Proofs.Tryz(prog)
open Go Go.Am
def sP (out:List Int)(tk:Nat):AV:=if out=[] then .sl 0 [] .full else .sl out.length (ints out) (.own tk)
def SH (H:List aA)(g:Nat)(out:List Int)(tk:Nat):List aA:=H++[.cells [.fn g [] []],.cells [sP out tk]]
def ST (T:au)(out:List Int):au:=if out=[] then T else T++[(out.length,1)]
theorem cJ (l:List Int)(x:Int):ints l++[.int .i64 x]=ints (l++[x]):=by simp[ints]
attribute [-simp] getD_eq_getElem?_getD in
def dW (n:Int)(H:List aA)(T:au):aq prog 172 [.int .i64 n] H T (Is (.int .i64 n) H T):=by
 refine ah 3 [] Tryz.ntmps172 Tryz.func172 rfl (λ_ _=>Tryz.call172 _ _) zS (λHO=>?_);refine af ?_;refine af ?_;refine aI ?_;exact⟨rfl,rfl,rfl⟩
attribute [-simp] getD_eq_getElem?_getD in
def Uh (p q:Bool)(H:List aA)(T:au):aq prog 118 [.bool p,.bool q] H T (Is (.bool (p&&q)) H T):=by
 refine ah 5 [] Tryz.ntmps118 Tryz.func118 rfl (λ_ _=>Tryz.call118 _ _) zS (λHO=>?_);refine af ?_
 cases p
 ·refine af ?_;refine aI ?_;exact⟨rfl,rfl,rfl⟩
 ·refine af ?_;refine aI ?_;exact⟨rfl,rfl,rfl⟩
attribute [-simp] getD_eq_getElem?_getD in
def WZ (p q:Bool)(H:List aA)(T:au):aq prog 119 [.bool p,.bool q] H T (Is (.bool true) H T):=by
 refine ah 5 [] Tryz.ntmps119 Tryz.func119 rfl (λ_ _=>Tryz.call119 _ _) zS (λHO=>?_);refine af ?_;refine af ?_;refine aI ?_;exact⟨rfl,rfl,rfl⟩
attribute [-simp] getD_eq_getElem?_getD in
def FB (p q:Bool)(H:List aA)(T:au):aq prog 117 [.bool p,.bool q] H T (Is (.bool (!q)) H T):=by
 refine ah 5 [] Tryz.ntmps117 Tryz.func117 rfl (λ_ _=>Tryz.call117 _ _) zS (λHO=>?_);refine af ?_;refine af ?_;refine aI ?_;exact⟨rfl,rfl,rfl⟩
attribute [-simp] getD_eq_getElem?_getD in
def Fe (g:Nat)(kf:Bool->Bool->Bool)(hg:∀p q H T,aq prog g [.bool p,.bool q] H T (Is (.bool (kf p q)) H T))(out:List Int)(ho:out.length<=5000)(a:List Int)(i:Nat)(hi:i<a.length)(ha:a.length<=5000)(H:List aA)(T:au) :
  aq prog 173 [.eB (ints a) i,.gq,.ptr H.length 0,.ptr (H.length+1) 0] (SH H g out T.length) (ST T out) (Is (.dn []) (SH H g (if kf true false then out++[a.getD i 0] else out) T.length) (ST T (if kf true false then out++[a.getD i 0] else out))):=by
 have Nf:=aS (xs:=a) (k:=i) zO;have dM:out++[a.getD i 0]≠[]:=zS;have C7:=cJ out (a.getD i 0)
 cases Uy:kf true false
 ·rw[ahC zD];have hc:=λH T=>hg true false H T;rw[Uy] at hc;simp only[SH];generalize sP out T.length=ob;generalize ST T out=TT;refine ah 7 [] Tryz.ntmps173 Tryz.func173 rfl (λ_ _=>Tryz.call173 _ _) zS (λHO=>?_);refine af ?_;refine ae λK1 aN=>?_;refine af ?_;apply aB rfl;apply aj;refine zQ ?_;apply aN;clear aN;apply ar;refine zQ ?_;refine ai (hc _ _) ?_;refine zQ ?_;apply aB rfl;apply aj;refine zQ ?_;exact⟨rfl,rfl,rfl⟩
 ·rw[ahF rfl];have hc:=λH T=>hg true false H T;rw[Uy] at hc
  by_cases h0:out=[]
  ·subst h0;have e1:SH H g [] T.length=H++[.cells [.fn g [] []],.cells [.sl 0 [] .full]]:=rfl;have e2:SH H g ([]++[a.getD i 0]) T.length=H++[.cells [.fn g [] []],.cells [.sl 1 [.int .i64 (a.getD i 0)] (.own T.length)]]:=rfl;have e3:ST T []=T:=rfl;have e4:ST T ([]++[a.getD i 0])=T++[(1,1)]:=rfl;rw[e1,e2,e3,e4];refine ah 7 [] Tryz.ntmps173 Tryz.func173 rfl (λ_ _=>Tryz.call173 _ _) zS (λHO=>?_);refine af ?_;refine ae λK1 aN=>?_;refine af ?_;apply aB rfl;apply aj;refine zQ ?_;apply aN;clear aN;apply ar;refine zQ ?_;refine ai (hc _ _) ?_;refine zQ ?_;apply aC rfl;refine du [5,6] [0,0,0,0,0,0,1] [[],[]] aO zK zK λK hK=>?_;simp(disch:=omega)[Nf];apply hK;exact⟨rfl,rfl,rfl⟩
  ·have e1:SH H g out T.length=H++[.cells [.fn g [] []],.cells [.sl out.length (ints out) (.own T.length)]]:=by simp[SH,sP,h0]
   have e2:SH H g (out++[a.getD i 0]) T.length=H++[.cells [.fn g [] []],.cells [.sl (out.length+1) (ints (out++[a.getD i 0])) (.own T.length)]]:=by simp[SH,sP]
   have e3:ST T out=T++[(out.length,1)]:=by simp[ST,h0]
   have e4:ST T (out++[a.getD i 0])=T++[(out.length+1,1)]:=by simp[ST]
   rw[e1,e2,e3,e4];refine ah 7 [] Tryz.ntmps173 Tryz.func173 rfl (λ_ _=>Tryz.call173 _ _) zS (λHO=>?_);refine af ?_;refine ae λK1 aN=>?_;refine af ?_;apply aB rfl;apply aj;refine zQ ?_;apply aN;clear aN;apply ar;refine zQ ?_;refine ai (hc _ _) ?_;refine zQ ?_;apply aC rfl;refine du [5,6] [0,0,0,0,0,0,1] [[],[]] aO zK zK λK hK=>?_;simp(disch:=omega)[Nf,C7];apply hK;exact⟨rfl,rfl,rfl⟩
attribute [-simp] getD_eq_getElem?_getD in
def Fc (g:Nat)(kf:Bool->Bool->Bool)(hg:∀p q H T,aq prog g [.bool p,.bool q] H T (Is (.bool (kf p q)) H T))(out:List Int)(ho:out.length<=5000)(b:List Int)(j:Nat)(hj:j<b.length)(hb:b.length<=5000)(H:List aA)(T:au) :
  aq prog 173 [.gq,.eB (ints b) j,.ptr H.length 0,.ptr (H.length+1) 0] (SH H g out T.length) (ST T out) (Is (.dn []) (SH H g (if kf false true then out++[b.getD j 0] else out) T.length) (ST T (if kf false true then out++[b.getD j 0] else out))):=by
 have Nf:=aS (xs:=b) (k:=j) zO;have dM:out++[b.getD j 0]≠[]:=zS;have C7:=cJ out (b.getD j 0)
 cases Uy:kf false true
 ·rw[ahC zD];have hc:=λH T=>hg false true H T;rw[Uy] at hc;simp only[SH];generalize sP out T.length=ob;generalize ST T out=TT;refine ah 7 [] Tryz.ntmps173 Tryz.func173 rfl (λ_ _=>Tryz.call173 _ _) zS (λHO=>?_);refine af ?_;refine ae λK1 aN=>?_;refine af ?_;apply aC rfl;refine aJ ?_;apply aN;clear aN;apply ar;refine zQ ?_;refine ai (hc _ _) ?_;refine zQ ?_;apply aB rfl;apply aj;refine zQ ?_;exact⟨rfl,rfl,rfl⟩
 ·rw[ahF rfl];have hc:=λH T=>hg false true H T;rw[Uy] at hc
  by_cases h0:out=[]
  ·subst h0;have e1:SH H g [] T.length=H++[.cells [.fn g [] []],.cells [.sl 0 [] .full]]:=rfl;have e2:SH H g ([]++[b.getD j 0]) T.length=H++[.cells [.fn g [] []],.cells [.sl 1 [.int .i64 (b.getD j 0)] (.own T.length)]]:=rfl;have e3:ST T []=T:=rfl;have e4:ST T ([]++[b.getD j 0])=T++[(1,1)]:=rfl;rw[e1,e2,e3,e4];refine ah 7 [] Tryz.ntmps173 Tryz.func173 rfl (λ_ _=>Tryz.call173 _ _) zS (λHO=>?_);refine af ?_;refine ae λK1 aN=>?_;refine af ?_;apply aC rfl;refine aJ ?_;apply aN;clear aN;apply ar;refine zQ ?_;refine ai (hc _ _) ?_;refine zQ ?_;apply aC rfl;refine du [5,6] [0,0,0,0,0,0,1] [[],[]] aO zK zK λK hK=>?_;simp(disch:=omega)[Nf];apply hK;exact⟨rfl,rfl,rfl⟩
  ·have e1:SH H g out T.length=H++[.cells [.fn g [] []],.cells [.sl out.length (ints out) (.own T.length)]]:=by simp[SH,sP,h0]
   have e2:SH H g (out++[b.getD j 0]) T.length=H++[.cells [.fn g [] []],.cells [.sl (out.length+1) (ints (out++[b.getD j 0])) (.own T.length)]]:=by simp[SH,sP]
   have e3:ST T out=T++[(out.length,1)]:=by simp[ST,h0]
   have e4:ST T (out++[b.getD j 0])=T++[(out.length+1,1)]:=by simp[ST]
   rw[e1,e2,e3,e4];refine ah 7 [] Tryz.ntmps173 Tryz.func173 rfl (λ_ _=>Tryz.call173 _ _) zS (λHO=>?_);refine af ?_;refine ae λK1 aN=>?_;refine af ?_;apply aC rfl;refine aJ ?_;apply aN;clear aN;apply ar;refine zQ ?_;refine ai (hc _ _) ?_;refine zQ ?_;apply aC rfl;refine du [5,6] [0,0,0,0,0,0,1] [[],[]] aO zK zK λK hK=>?_;simp(disch:=omega)[Nf,C7];apply hK;exact⟨rfl,rfl,rfl⟩
attribute [-simp] getD_eq_getElem?_getD in
def MM (g:Nat)(kf:Bool->Bool->Bool)(hg:∀p q H T,aq prog g [.bool p,.bool q] H T (Is (.bool (kf p q)) H T))(out:List Int)(ho:out.length<=5000)(a:List Int)(i:Nat)(hi:i<a.length)(ha:a.length<=5000)(b:List Int)(j:Nat)(H:List aA)(T:au) :
  aq prog 173 [.eB (ints a) i,.eB (ints b) j,.ptr H.length 0,.ptr (H.length+1) 0] (SH H g out T.length) (ST T out) (Is (.dn []) (SH H g (if kf true true then out++[a.getD i 0] else out) T.length) (ST T (if kf true true then out++[a.getD i 0] else out))):=by
 have Nf:=aS (xs:=a) (k:=i) zO;have dM:out++[a.getD i 0]≠[]:=zS;have C7:=cJ out (a.getD i 0)
 cases Uy:kf true true
 ·rw[ahC zD];have hc:=λH T=>hg true true H T;rw[Uy] at hc;simp only[SH];generalize sP out T.length=ob;generalize ST T out=TT;refine ah 7 [] Tryz.ntmps173 Tryz.func173 rfl (λ_ _=>Tryz.call173 _ _) zS (λHO=>?_);refine af ?_;refine ae λK1 aN=>?_;refine af ?_;apply aB rfl;apply aj;refine zQ ?_;apply aN;clear aN;apply ar;refine zQ ?_;refine ai (hc _ _) ?_;refine zQ ?_;apply aB rfl;apply aj;refine zQ ?_;exact⟨rfl,rfl,rfl⟩
 ·rw[ahF rfl];have hc:=λH T=>hg true true H T;rw[Uy] at hc
  by_cases h0:out=[]
  ·subst h0;have e1:SH H g [] T.length=H++[.cells [.fn g [] []],.cells [.sl 0 [] .full]]:=rfl;have e2:SH H g ([]++[a.getD i 0]) T.length=H++[.cells [.fn g [] []],.cells [.sl 1 [.int .i64 (a.getD i 0)] (.own T.length)]]:=rfl;have e3:ST T []=T:=rfl;have e4:ST T ([]++[a.getD i 0])=T++[(1,1)]:=rfl;rw[e1,e2,e3,e4];refine ah 7 [] Tryz.ntmps173 Tryz.func173 rfl (λ_ _=>Tryz.call173 _ _) zS (λHO=>?_);refine af ?_;refine ae λK1 aN=>?_;refine af ?_;apply aB rfl;apply aj;refine zQ ?_;apply aN;clear aN;apply ar;refine zQ ?_;refine ai (hc _ _) ?_;refine zQ ?_;apply aC rfl;refine du [5,6] [0,0,0,0,0,0,1] [[],[]] aO zK zK λK hK=>?_;simp(disch:=omega)[Nf];apply hK;exact⟨rfl,rfl,rfl⟩
  ·have e1:SH H g out T.length=H++[.cells [.fn g [] []],.cells [.sl out.length (ints out) (.own T.length)]]:=by simp[SH,sP,h0]
   have e2:SH H g (out++[a.getD i 0]) T.length=H++[.cells [.fn g [] []],.cells [.sl (out.length+1) (ints (out++[a.getD i 0])) (.own T.length)]]:=by simp[SH,sP]
   have e3:ST T out=T++[(out.length,1)]:=by simp[ST,h0]
   have e4:ST T (out++[a.getD i 0])=T++[(out.length+1,1)]:=by simp[ST]
   rw[e1,e2,e3,e4];refine ah 7 [] Tryz.ntmps173 Tryz.func173 rfl (λ_ _=>Tryz.call173 _ _) zS (λHO=>?_);refine af ?_;refine ae λK1 aN=>?_;refine af ?_;apply aB rfl;apply aj;refine zQ ?_;apply aN;clear aN;apply ar;refine zQ ?_;refine ai (hc _ _) ?_;refine zQ ?_;apply aC rfl;refine du [5,6] [0,0,0,0,0,0,1] [[],[]] aO zK zK λK hK=>?_;simp(disch:=omega)[Nf,C7];apply hK;exact⟨rfl,rfl,rfl⟩
open cN
def dw (l:List Int)(i:Nat)(h:i<l.length):l.drop i=l.getD i 0::l.drop (i+1):=by
 rw[aiW h,ahs,ahu h];rfl
def MG (kf:Bool->Bool->Bool)(a b:List Int)(n i j:Nat)(o:List Int):List Int:=
 jX (λo x=>if kf true false then o++[x] else o) (λo x=>if kf false true then o++[x] else o) (λo x=>if kf true true then o++[x] else o) n (a.drop i) (b.drop j) o
section
variable {kf : Bool -> Bool -> Bool} {a b o : List Int} {n i j : Nat}
def ZS (hn:0<n)(hi:i<a.length)(hj:j<b.length)(h:a.getD i 0<b.getD j 0):MG kf a b n i j o=MG kf a b (n-1) (i+1) j (if kf true false then o++[a.getD i 0] else o):=by
 obtain⟨m,rfl⟩:∃m,n=m+1:=⟨n-1,zO⟩
 unfold MG;rw[dw a i hi,dw b j hj,jX,ahF h];rfl
def ZR (hn:0<n)(hi:i<a.length)(hj:j<b.length)(h:¬a.getD i 0<b.getD j 0)(h2:b.getD j 0<a.getD i 0):MG kf a b n i j o=MG kf a b (n-1) i (j+1) (if kf false true then o++[b.getD j 0] else o):=by
 obtain⟨m,rfl⟩:∃m,n=m+1:=⟨n-1,zO⟩
 unfold MG;rw[dw a i hi,dw b j hj,jX,ahC h,ahF h2];rfl
def Vl (hn:0<n)(hi:i<a.length)(hj:j<b.length)(h:¬a.getD i 0<b.getD j 0)(h2:¬b.getD j 0<a.getD i 0):MG kf a b n i j o=MG kf a b (n-1) (i+1) (j+1) (if kf true true then o++[a.getD i 0] else o):=by
 obtain⟨m,rfl⟩:∃m,n=m+1:=⟨n-1,zO⟩
 unfold MG;rw[dw a i hi,dw b j hj,jX,ahC h,ahC h2];rfl
def Vm (hn:0<n)(hi:i<a.length)(hj:j=b.length):MG kf a b n i j o=MG kf a b (n-1) (i+1) j (if kf true false then o++[a.getD i 0] else o):=by
 obtain⟨m,rfl⟩:∃m,n=m+1:=⟨n-1,zO⟩
 unfold MG;rw[dw a i hi,hj,aiB,jX];rfl
def Vk (hn:0<n)(hi:i=a.length)(hj:j<b.length):MG kf a b n i j o=MG kf a b (n-1) i (j+1) (if kf false true then o++[b.getD j 0] else o):=by
 obtain⟨m,rfl⟩:∃m,n=m+1:=⟨n-1,zO⟩
 unfold MG;rw[dw b j hj,hi,aiB,jX];rfl
def O3 (hi:i=a.length)(hj:j=b.length):MG kf a b n i j o=o:=by
 unfold MG;rw[hi,hj,aiB,aiB]
 cases n<;>rfl
end
def ll (H:List aA)(g:Nat)(out:List Int)(tk:Nat):(SH H g out tk).length=H.length+2:=by simp[SH]
def sr (T:au)(out:List Int):T.length<=(ST T out).length:=by unfold ST;split<;>simp
def uD {H:List aA}{T:au}(h:bM H T)(g:Nat)(out:List Int):bM (SH H g out T.length) (ST T out):=by
 have e:SH H g out T.length=(H++[.cells [.fn g [] []]])++[.cells [sP out T.length]]:=by simp[SH]
 rw[e];refine bM.snoc (bM.snoc (h.fS (sr T out)) zS) ?_;unfold sP ST
 split
 ·simp
 ·simp
def xA (k:Bool)(o:List Int)(x:Int)(m:Nat)(h:o.length+1<=m):(if k=true then o++[x] else o).length<=m:=by
 split
 ·simp only[ahw,ahY,ais];omega
 ·omega
attribute [-simp] getD_eq_getElem?_getD in
def L7 (g:Nat)(kf:Bool->Bool->Bool)(hg:∀p q H T,aq prog g [.bool p,.bool q] H T (Is (.bool (kf p q)) H T))(a b:List Int)(ha:a.length<=1000)(hb:b.length<=1000)(H:List aA)(T:au)(HO0:bM H T) :
  aq prog 171 [.sl a.length (ints a) .none,.sl b.length (ints b) .none,.fn 172 [] [],.fn 173 [] [.ptr H.length 0,.ptr (H.length+1) 0]] (SH H g [] T.length) T
   (Is (.dn []) (SH H g (MG kf a b (a.length+b.length) 0 0 []) T.length) (ST T (MG kf a b (a.length+b.length) 0 0 []))):=by
 have e0:ST T []=T:=rfl;refine ah 11 [] Tryz.ntmps171 Tryz.func171 rfl (λ_ _=>Tryz.call171 _ _) zS (λHO=>?_);clear HO;have HO:=HO0;refine af ?_;apply ag;refine aG (X:=Nat×Nat×Nat×List Int) (λx=>⟨[(0,.sl a.length (ints a) .none),(1,.sl b.length (ints b) .none),(2,.fn 172 [] []),(3,.fn 173 [] [.ptr H.length 0,.ptr (H.length+1) 0]),(8,.int .i64 (x.2.1:Nat)),(9,.int .i64 (x.2.2.1:Nat))],SH H g x.2.2.2 T.length,ST T x.2.2.2⟩)
  (λx=>x.2.1<=a.length/\x.2.2.1<=b.length/\(a.length-x.2.1)+(b.length-x.2.2.1)<=x.1/\MG kf a b (a.length+b.length) 0 0 []=MG kf a b x.1 x.2.1 x.2.2.1 x.2.2.2/\x.2.2.2.length<=x.2.1+x.2.2.1) (λx=>x.1) (a.length+b.length,0,0,[]) ?_ ?_ ?_
 ·exact⟨ahE _,ahE _,by simp only;omega,rfl,ahE _⟩
 ·refine ak [] [] ?_ ?_ ?_ ?_ (uD HO g _) ?_
  ·simp
  ·simp[e0]
  ·simp[ll]
  ·exact sr T _
  ·simp[ll]
 ·rintro⟨n,i,j,out⟩ ⟨h1,h2,h3,h4,h5⟩;simp only at h1 h2 h3 h4 h5
  by_cases hi:i<a.length
  ·have bi:decide ((i:Int)<a.length)=true:=by simp;omega
   have ni:((i:Int)==a.length)=false:=by rw[ah8];omega
   have Ns:¬i=a.length:=zO
   by_cases hj:j<b.length
   ·have bj:decide ((j:Int)<b.length)=true:=by simp;omega
    have nj:((j:Int)==b.length)=false:=by rw[ah8];omega
    have Bl:¬j=b.length:=zO;have hn:0<n:=zO;refine ae λK2 ba=>?_;apply ar;simp(disch:=omega)[bi,bj,hi,hj];apply aC rfl;apply aj;refine zQ ?_;apply ba;clear ba;apply ag;apply ag
    by_cases c1:a.getD i 0<b.getD j 0
    ·have b1:decide (a.getD i 0<b.getD j 0)=true:=by simpa using c1
     have fe:=ZS (kf:=kf) (o:=out) hn hi hj c1;refine bC [] [] [] ?_;simp(disch:=omega)[bi,hi,nj,Bl,aS];refine az (dW _ _ _) rfl ?_;simp(disch:=omega)[aS];refine az (dW _ _ _) rfl ?_;simp(disch:=omega)[b1,c1];apply aC rfl;apply ar;refine zQ ?_;refine ai (Fe g kf hg out zO a i hi zO H T) ?_;refine zQ ?_;refine aJ ?_;refine⟨(n-1,i+1,j,if kf true false=true then out++[a.getD i 0] else out),⟨by show i+1<=a.length;omega,by show j<=b.length;omega,by show (a.length-(i+1))+(b.length-(j))<=n-1;omega,by rw[h4,fe],xA _ _ _ _ (by show out.length+1<=(i+1)+(j);omega)⟩,by show n-1<n;omega,?_⟩;refine ak [] [] ?_ ?_ ?_ ?_ (uD HO g _) ?_
     ·simp
     ·simp
     ·simp[ll]
     ·exact sr T _
     ·simp[ll]
      try omega
    ·have b1:decide (a.getD i 0<b.getD j 0)=false:=by simpa using c1
     refine bC [] [] [] ?_;simp(disch:=omega)[bi,hi,nj,Bl,aS];refine az (dW _ _ _) rfl ?_;simp(disch:=omega)[aS];refine az (dW _ _ _) rfl ?_;simp(disch:=omega)[b1,c1];apply aB rfl
     by_cases c2:b.getD j 0<a.getD i 0
     ·have b2:decide (b.getD j 0<a.getD i 0)=true:=by simpa using c2
      have fe:=ZR (kf:=kf) (o:=out) hn hi hj c1 c2;refine bC [] [] [] ?_;simp(disch:=omega)[ni,Ns,aS];refine az (dW _ _ _) rfl ?_;simp(disch:=omega)[aS];refine az (dW _ _ _) rfl ?_;simp(disch:=omega)[b2,c2];apply aC rfl;apply ar;refine zQ ?_;refine ai (Fc g kf hg out zO b j hj zO H T) ?_;refine zQ ?_;refine aJ ?_;refine⟨(n-1,i,j+1,if kf false true=true then out++[b.getD j 0] else out),⟨by show i<=a.length;omega,by show j+1<=b.length;omega,by show (a.length-(i))+(b.length-(j+1))<=n-1;omega,by rw[h4,fe],xA _ _ _ _ (by show out.length+1<=(i)+(j+1);omega)⟩,by show n-1<n;omega,?_⟩;refine ak [] [] ?_ ?_ ?_ ?_ (uD HO g _) ?_
      ·simp
      ·simp
      ·simp[ll]
      ·exact sr T _
      ·simp[ll]
       try omega
     ·have b2:decide (b.getD j 0<a.getD i 0)=false:=by simpa using c2
      have fe:=Vl (kf:=kf) (o:=out) hn hi hj c1 c2;refine bC [] [] [] ?_;simp(disch:=omega)[ni,Ns,aS];refine az (dW _ _ _) rfl ?_;simp(disch:=omega)[aS];refine az (dW _ _ _) rfl ?_;simp(disch:=omega)[b2,c2];apply aB rfl;refine bC [7] [0,0,0,0,0,0,0,0] [[]] ?_;refine zQ ?_;refine oA (MM g kf hg out zO a i hi zO b j H T) rfl ?_;refine zQ ?_;refine aJ ?_;refine⟨(n-1,i+1,j+1,if kf true true=true then out++[a.getD i 0] else out),⟨by show i+1<=a.length;omega,by show j+1<=b.length;omega,by show (a.length-(i+1))+(b.length-(j+1))<=n-1;omega,by rw[h4,fe],xA _ _ _ _ (by show out.length+1<=(i+1)+(j+1);omega)⟩,by show n-1<n;omega,?_⟩;refine ak [] [] ?_ ?_ ?_ ?_ (uD HO g _) ?_
      ·simp
      ·simp
      ·simp[ll]
      ·exact sr T _
      ·simp[ll]
       try omega
   ·have bj:decide ((j:Int)<b.length)=false:=by simp;omega
    have Rh:j=b.length:=zO;have nj:((j:Int)==b.length)=true:=by simp;omega
    have hn:0<n:=zO;have fe:=Vm (kf:=kf) (o:=out) hn hi Rh;refine ae λK2 ba=>?_;apply ar;simp(disch:=omega)[bi,bj,hi,hj];apply aC rfl;apply aj;refine zQ ?_;apply ba;clear ba;apply ag;apply ag;have VK:(j:Int)=(b.length:Int):=zO;refine bC [] [] [] ?_;simp(disch:=omega)[nj,VK];apply aC rfl;apply ar;refine zQ ?_;refine ai (Fe g kf hg out zO a i hi zO H T) ?_;refine zQ ?_;refine aJ ?_;refine⟨(n-1,i+1,j,if kf true false=true then out++[a.getD i 0] else out),⟨by show i+1<=a.length;omega,by show j<=b.length;omega,by show (a.length-(i+1))+(b.length-(j))<=n-1;omega,by rw[h4,fe],xA _ _ _ _ (by show out.length+1<=(i+1)+(j);omega)⟩,by show n-1<n;omega,?_⟩;refine ak [] [] ?_ ?_ ?_ ?_ (uD HO g _) ?_
    ·simp
    ·simp
    ·simp[ll]
    ·exact sr T _
    ·simp[ll]
     try omega
  ·have bi:decide ((i:Int)<a.length)=false:=by simp;omega
   have nC:i=a.length:=zO
   by_cases hj:j<b.length
   ·have bj:decide ((j:Int)<b.length)=true:=by simp;omega
    have nj:((j:Int)==b.length)=false:=by rw[ah8];omega
    have Bl:¬j=b.length:=zO;have ni:((i:Int)==a.length)=true:=by simp;omega
    have hn:0<n:=zO;have fe:=Vk (kf:=kf) (o:=out) hn nC hj;refine ae λK2 ba=>?_;apply ar;simp(disch:=omega)[bi,bj,hi,hj];apply aC rfl;apply aj;refine zQ ?_;apply ba;clear ba;apply ag;apply ag;refine bC [] [] [] ?_;simp(disch:=omega)[nj,Bl,bi,hi];apply aB rfl;have VM:(i:Int)=(a.length:Int):=zO;refine bC [] [] [] ?_;simp(disch:=omega)[ni,VM];apply aC rfl;apply ar;refine zQ ?_;refine ai (Fc g kf hg out zO b j hj zO H T) ?_;refine zQ ?_;refine aJ ?_;refine⟨(n-1,i,j+1,if kf false true=true then out++[b.getD j 0] else out),⟨by show i<=a.length;omega,by show j+1<=b.length;omega,by show (a.length-(i))+(b.length-(j+1))<=n-1;omega,by rw[h4,fe],xA _ _ _ _ (by show out.length+1<=(i)+(j+1);omega)⟩,by show n-1<n;omega,?_⟩;refine ak [] [] ?_ ?_ ?_ ?_ (uD HO g _) ?_
    ·simp
    ·simp
    ·simp[ll]
    ·exact sr T _
    ·simp[ll]
     try omega
   ·have bj:decide ((j:Int)<b.length)=false:=by simp;omega
    have mn:=O3 (kf:=kf) (a:=a) (b:=b) (o:=out) (n:=n) nC (show j=b.length by omega);rw[mn] at h4;apply hY;apply ar;simp(disch:=omega)[bi,bj,hi,hj];apply aB rfl;apply aD;refine zQ ?_;rw[h4];exact⟨rfl,rfl,rfl⟩
def comb (kf:Bool->Bool->Bool)(a b:List Int):List Int:=
 if jI a 1 1000000000=true/\jI b 1 1000000000=true then MG kf a b (a.length+b.length) 0 0 [] else []
attribute [-simp] getD_eq_getElem?_getD in
def sH (g:Nat)(kf:Bool->Bool->Bool)(hg:∀p q H T,aq prog g [.bool p,.bool q] H T (Is (.bool (kf p q)) H T))(a b:List Int)(ha:a.length<=1000)(hb:b.length<=1000)(H:List aA)(T:au)(ta tb:Tag) :
  aq prog 116 [.sl a.length (ints a) ta,.sl b.length (ints b) tb,.fn g [] []] H T (Is (.sl (comb kf a b).length (ints (comb kf a b)) .none) H T):=by
 refine aq.bR (aq.mC ?_);refine aq.bK ?_ zS;have jU:1000<=maxLen:=zD;refine ah 8 [] Tryz.ntmps116 Tryz.func116 rfl (λ_ _=>Tryz.call116 _ _) zS (λHO=>?_);refine af ?_;refine af ?_;refine ae λK1 aN=>?_;have c1:=iN a zO (H++[.cells [.fn g [] []],.cells [.sl 0 [] .full]]) T .none;have c2:=iN b zO (H++[.cells [.fn g [] []],.cells [.sl 0 [] .full]]) T .none
 cases hv:jI a 1 1000000000
 ·rw[hv] at c1;apply ar;refine zQ ?_;refine ai (c1) ?_;refine zQ ?_;apply aC rfl;refine af ?_;refine aI ?_;simp[comb,hv,ints]
 ·rw[hv] at c1
  cases hw:jI b 1 1000000000
  ·rw[hw] at c2;apply ar;refine zQ ?_;refine ai (c1) ?_;refine zQ ?_;refine ai (c2) ?_;refine zQ ?_;apply aC rfl;refine af ?_;refine aI ?_;simp[comb,hw,ints]
  ·rw[hw] at c2;have c3:=L7 g kf hg a b ha hb H T HO;have hr:comb kf a b=MG kf a b (a.length+b.length) 0 0 []:=by unfold comb;rw[ahF ⟨hv,hw⟩]
   rw[<-hr] at c3;have k1:(SH H g (comb kf a b) T.length)[H.length+1]?=some (.cells [sP (comb kf a b) T.length]):=OJ _ _ 1;have hH:∃rH,SH H g (comb kf a b) T.length=H++rH:=⟨_,rfl⟩
   have hT:∃rT,ST T (comb kf a b)=T++rT:=by unfold ST;split;exact⟨[],zS⟩;exact⟨_,rfl⟩
   apply ar;refine zQ ?_;refine ai (c1) ?_;refine zQ ?_;refine ai (c2) ?_;refine zQ ?_;apply aB rfl;apply aj;refine zQ ?_;apply aN;clear aN;apply ar;refine zQ ?_;refine ai (c3) ?_;refine zQ ?_;apply ar;simp(disch:=omega)[k1];refine aI ?_;generalize comb kf a b=r at *;refine⟨hH,hT,?_⟩;unfold sP
   by_cases h0:r=[]
   ·subst h0;simp[ints]
   ·simp[h0]
attribute [-simp] getD_eq_getElem?_getD in
def O2 (a b:List Int)(ha:a.length<=1000)(hb:b.length<=1000)(H:List aA)(T:au)(ta tb:Tag):aq prog 64 [.sl a.length (ints a) ta,.sl b.length (ints b) tb] H T (Is (.sl (comb (λp q=>p&&q) a b).length (ints (comb (λp q=>p&&q) a b)) .none) H T):=by
 refine aq.bK ?_ zS;refine ah 5 [] Tryz.ntmps64 Tryz.func64 rfl (λ_ _=>Tryz.call64 _ _) zS (λHO=>?_);refine af ?_;apply ar;refine zQ ?_;refine ai (sH _ (λp q=>p&&q) (λp q H T=>Uh p q H T) a b ha hb H T _ _) ?_;refine zQ ?_;exact bu zC
attribute [-simp] getD_eq_getElem?_getD in
def Oa (a b:List Int)(ha:a.length<=1000)(hb:b.length<=1000)(H:List aA)(T:au)(ta tb:Tag):aq prog 65 [.sl a.length (ints a) ta,.sl b.length (ints b) tb] H T (Is (.sl (comb (λ_ _=>true) a b).length (ints (comb (λ_ _=>true) a b)) .none) H T):=by
 refine aq.bK ?_ zS;refine ah 5 [] Tryz.ntmps65 Tryz.func65 rfl (λ_ _=>Tryz.call65 _ _) zS (λHO=>?_);refine af ?_;apply ar;refine zQ ?_;refine ai (sH _ (λ_ _=>true) (λp q H T=>WZ p q H T) a b ha hb H T _ _) ?_;refine zQ ?_;exact bu zC
attribute [-simp] getD_eq_getElem?_getD in
def oX (a b:List Int)(ha:a.length<=1000)(hb:b.length<=1000)(H:List aA)(T:au)(ta tb:Tag):aq prog 62 [.sl a.length (ints a) ta,.sl b.length (ints b) tb] H T (Is (.sl (comb (λ_ q=>!q) a b).length (ints (comb (λ_ q=>!q) a b)) .none) H T):=by
 refine aq.bK ?_ zS;refine ah 5 [] Tryz.ntmps62 Tryz.func62 rfl (λ_ _=>Tryz.call62 _ _) zS (λHO=>?_);refine af ?_;apply ar;refine zQ ?_;refine ai (sH _ (λ_ q=>!q) (λp q H T=>FB p q H T) a b ha hb H T _ _) ?_;refine zQ ?_;exact bu zC
theorem iY {l:List Int}{lo hi:Int}(h:jI l lo hi=true):kI l:=by
 unfold jI at h;rw[ah3] at h;have h1:∀k,k+1<l.length->l.getD k 0<l.getD (k+1) 0:=by
  intro k hk;have:=h (k+1) (zU hk);unfold im at this;simp only[ahG,aiq,ahH,ai1] at this;rcases this.2 with h2|h2
  ·omega
  ·exact h2
 clear h
 induction l with
 |nil=>exact List.Pairwise.nil
 |cons x l ih=>
  have ht:kI l:=ih (λk hk=>by
   have:=h1 (k+1) (zU hk);simpa using this)
  refine ait.2 ⟨λy hy=>?_,ht⟩
  cases l with
  |nil=>simp at hy
  |cons z l=>
   have hz:=h1 0 zS;simp at hz;rcases ah4.1 hy with rfl|hy
   ·exact hz
   ·have:=(mM ht).2 y hy;omega
attribute [-simp] getD_eq_getElem?_getD in
def BN (l:List Int)(n:Int)(hl:l.length<=maxLen)(H:List aA)(T:au)(tg:Tag):aq prog 109 [.sl l.length (ints l) tg,.int .i64 n] H T (Is (.bool (decide (n∈l))) H T):=by
 refine aq.bR ?_;have jU:maxLen<=9223372036854775807:=zD;have jY:=ahA hl jU;refine ah 6 [] Tryz.ntmps109 Tryz.func109 rfl (λ_ _=>Tryz.call109 _ _) zS (λHO=>?_);refine af ?_;refine ae λK1 aN=>?_;refine af ?_;apply ag;refine aG (X:=Nat) (λk=>⟨[(0,.sl l.length (ints l) .none),(1,.int .i64 n),(5,.int .i64 (k:Nat))],H,T⟩) (λk=>k<=l.length/\∀j,j<k->l.getD j 0≠n) (λk=>l.length-k) 0 ?_ ?_ ?_
 ·exact⟨ahE _,λj hj=>absurd hj (ahT _)⟩
 ·exact wk HO
 ·rintro k ⟨h1,h2⟩;refine ae λK2 ba=>?_;refine af ?_;refine aV rfl (λhk=>?_) (λhk=>?_)
  ·simp  at hk;apply aj;refine zQ ?_;apply ba;clear ba;refine ae λK3 bH=>?_;apply ag
   by_cases hc:l.getD k 0=n
   ·have b:(l.getD k 0==n)=true:=by simpa using hc
    have hm:n∈l:=by
     rw[<-hc,ahs,ahu hk];exact ah2 hk
    apply ar;simp(disch:=omega)[aS,b];apply aC rfl;refine af ?_;refine aI ?_;rw[ahx hm];exact⟨rfl,rfl,rfl⟩
   ·have b:(l.getD k 0==n)=false:=by simpa using hc
    apply ar;simp(disch:=omega)[aS,b];apply aB rfl;apply aj;refine zQ ?_;apply bH;clear bH;refine aJ ?_;refine⟨k+1,⟨by show k+1<=_;omega,λj hj=>?_⟩,by show l.length-(k+1)<l.length-k;omega,?_⟩
    ·rcases ahD j k with h3|h3
     ·exact h2 j h3
     ·have:j=k:=zO;subst this;exact hc
    ·exact wk HO
  ·simp  at hk;have hm:¬n∈l:=by
    intro hm;obtain⟨j,hj,e⟩:=ahN.1 hm;have:=h2 j zO;rw[ahs,ahu hj] at this;exact this e
   apply aD;refine zQ ?_;apply aN;clear aN;refine af ?_;refine aI ?_;rw[ahy hm];exact⟨rfl,rfl,rfl⟩
def jN (f:Bool->Bool)(a b:List Int):List Int:=
 if jI a 1 1000000000=true/\jI b 1 1000000000=true then a.filter (λx=>f (decide (x∈b))) else []
def qz (a:List Int)(k:Nat)(p:Int->Bool)(h:k<a.length):(a.take (k+1)).filter p=if p (a.getD k 0)=true then (a.take k).filter p++[a.getD k 0] else (a.take k).filter p:=by
 have e:a.take (k+1)=a.take k++[a.getD k 0]:=by
  rw[aiS h];simp[h]
 rw[e,aij]
 by_cases hp:p (a.getD k 0)=true
 ·rw[ahF hp,aiI hp];rfl
 ·rw[ahC hp,aiE hp];simp
attribute [-simp] getD_eq_getElem?_getD in
def aeI (a b:List Int)(ha:a.length<=1000)(hb:b.length<=1000)(H:List aA)(T:au)(ta tb:Tag):aq prog 107 [.sl a.length (ints a) ta,.sl b.length (ints b) tb] H T (Is (.sl (jN (λm=>m) a b).length (ints (jN (λm=>m) a b)) .none) H T):=by
 refine aq.bR (aq.mC ?_);refine aq.bK ?_ zS;have jU:1000<=maxLen:=zD;have c1:=eV a zO H T .none;have c2:=eV b zO H T .none;refine ah 7 [] Tryz.ntmps107 Tryz.func107 rfl (λ_ _=>Tryz.call107 _ _) zS (λHO=>?_);refine af ?_;refine af ?_;refine ae λK1 aN=>?_
 cases hv:jI a 1 1000000000
 ·rw[hv] at c1;apply ar;refine zQ ?_;refine ai (c1) ?_;refine zQ ?_;apply aC rfl;refine af ?_;refine aI ?_;simp[jN,hv,ints]
 ·rw[hv] at c1
  cases hw:jI b 1 1000000000
  ·rw[hw] at c2;apply ar;refine zQ ?_;refine ai (c1) ?_;refine zQ ?_;refine ai (c2) ?_;refine zQ ?_;apply aC rfl;refine af ?_;refine aI ?_;simp[jN,hw,ints]
  ·rw[hw] at c2;have hr:jN (λm=>m) a b=a.filter (λx=>(λm=>m) (decide (x∈b))):=by unfold jN;rw[ahF ⟨hv,hw⟩]
   apply ar;refine zQ ?_;refine ai (c1) ?_;refine zQ ?_;refine ai (c2) ?_;refine zQ ?_;apply aB rfl;apply aj;refine zQ ?_;apply aN;clear aN;refine ae λK1 aN=>?_;refine af ?_;apply ag;refine ki 5 0 1 [] zO zS ?_;refine aG (X:=Nat) (λk=>⟨[(0,.sl a.length (ints a) .none),(1,.sl b.length (ints b) .none),(5,.sl ((a.take k).filter (λx=>(λm=>m) (decide (x∈b)))).length (ints ((a.take k).filter (λx=>(λm=>m) (decide (x∈b))))) (.own T.length)),(6,.int .i64 (k:Nat))],H,T++[(((a.take k).filter (λx=>(λm=>m) (decide (x∈b)))).length,1)]⟩) (λk=>k<=a.length) (λk=>a.length-k) 0 ?_ ?_ ?_
   ·exact ahE _
   ·exact wk (HO.fS zS)
   ·intro k JX;have hlen:((a.take k).filter (λx=>(λm=>m) (decide (x∈b)))).length<=k:=by
     refine ahA (ahX _ _) ?_;rw[ahW];omega
    refine ae λK2 ba=>?_;refine af ?_;refine aV rfl (λhk=>?_) (λhk=>?_)
    ·simp  at hk;have fe:=qz a k (λx=>(λm=>m) (decide (x∈b))) hk;have c3:=BN b (a.getD k 0) zO H (T++[(((a.take k).filter (λx=>(λm=>m) (decide (x∈b)))).length,1)]) .none;generalize (a.take k).filter (λx=>(λm=>m) (decide (x∈b)))=out at *;apply aj;refine zQ ?_;apply ba;clear ba;refine ae λK3 bH=>?_;apply ag
     cases hm:decide (a.getD k 0∈b)
     ·rw[hm] at c3 fe;apply ar;simp(disch:=omega)[aS];refine ai (c3) ?_;refine zQ ?_;apply aB rfl;apply aj;refine zQ ?_;apply bH;clear bH;refine aJ ?_;refine⟨k+1,by show k+1<=_;omega,by show a.length-(k+1)<a.length-k;omega,?_⟩;rw[fe];refine ak [] [] ?_ ?_ ?_ ?_ (HO.fS zS) ?_
      all_goals simp[cJ]
     ·rw[hm] at c3 fe;apply ar;simp(disch:=omega)[aS];refine ai (c3) ?_;refine zQ ?_;apply aC rfl;refine br λK hK=>?_;simp(disch:=omega)[aS];apply hK;apply bH;clear bH;refine aJ ?_;refine⟨k+1,by show k+1<=_;omega,by show a.length-(k+1)<a.length-k;omega,?_⟩;rw[fe];refine ak [] [] ?_ ?_ ?_ ?_ (HO.fS zS) ?_
      all_goals simp[cJ]
    ·simp  at hk;have Rf:k=a.length:=zO;subst Rf;rw[ahO];apply aD;refine zQ ?_;apply aN;clear aN;refine af ?_;refine aI ?_;rw[hr];exact⟨rfl,rfl⟩
attribute [-simp] getD_eq_getElem?_getD in
def FA (a b:List Int)(ha:a.length<=1000)(hb:b.length<=1000)(H:List aA)(T:au)(ta tb:Tag):aq prog 58 [.sl a.length (ints a) ta,.sl b.length (ints b) tb] H T (Is (.sl (jN (λm=>!m) a b).length (ints (jN (λm=>!m) a b)) .none) H T):=by
 refine aq.bR (aq.mC ?_);refine aq.bK ?_ zS;have jU:1000<=maxLen:=zD;have c1:=eV a zO H T .none;have c2:=eV b zO H T .none;refine ah 7 [] Tryz.ntmps58 Tryz.func58 rfl (λ_ _=>Tryz.call58 _ _) zS (λHO=>?_);refine af ?_;refine af ?_;refine ae λK1 aN=>?_
 cases hv:jI a 1 1000000000
 ·rw[hv] at c1;apply ar;refine zQ ?_;refine ai (c1) ?_;refine zQ ?_;apply aC rfl;refine af ?_;refine aI ?_;simp[jN,hv,ints]
 ·rw[hv] at c1
  cases hw:jI b 1 1000000000
  ·rw[hw] at c2;apply ar;refine zQ ?_;refine ai (c1) ?_;refine zQ ?_;refine ai (c2) ?_;refine zQ ?_;apply aC rfl;refine af ?_;refine aI ?_;simp[jN,hw,ints]
  ·rw[hw] at c2;have hr:jN (λm=>!m) a b=a.filter (λx=>(λm=>!m) (decide (x∈b))):=by unfold jN;rw[ahF ⟨hv,hw⟩]
   apply ar;refine zQ ?_;refine ai (c1) ?_;refine zQ ?_;refine ai (c2) ?_;refine zQ ?_;apply aB rfl;apply aj;refine zQ ?_;apply aN;clear aN;refine ae λK1 aN=>?_;refine af ?_;apply ag;refine ki 5 0 1 [] zO zS ?_;refine aG (X:=Nat) (λk=>⟨[(0,.sl a.length (ints a) .none),(1,.sl b.length (ints b) .none),(5,.sl ((a.take k).filter (λx=>(λm=>!m) (decide (x∈b)))).length (ints ((a.take k).filter (λx=>(λm=>!m) (decide (x∈b))))) (.own T.length)),(6,.int .i64 (k:Nat))],H,T++[(((a.take k).filter (λx=>(λm=>!m) (decide (x∈b)))).length,1)]⟩) (λk=>k<=a.length) (λk=>a.length-k) 0 ?_ ?_ ?_
   ·exact ahE _
   ·exact wk (HO.fS zS)
   ·intro k JX;have hlen:((a.take k).filter (λx=>(λm=>!m) (decide (x∈b)))).length<=k:=by
     refine ahA (ahX _ _) ?_;rw[ahW];omega
    refine ae λK2 ba=>?_;refine af ?_;refine aV rfl (λhk=>?_) (λhk=>?_)
    ·simp  at hk;have fe:=qz a k (λx=>(λm=>!m) (decide (x∈b))) hk;have c3:=BN b (a.getD k 0) zO H (T++[(((a.take k).filter (λx=>(λm=>!m) (decide (x∈b)))).length,1)]) .none;generalize (a.take k).filter (λx=>(λm=>!m) (decide (x∈b)))=out at *;apply aj;refine zQ ?_;apply ba;clear ba;refine ae λK3 bH=>?_;apply ag
     cases hm:decide (a.getD k 0∈b)
     ·rw[hm] at c3 fe;apply ar;simp(disch:=omega)[aS];refine ai (c3) ?_;refine zQ ?_;apply aC rfl;refine br λK hK=>?_;simp(disch:=omega)[aS];apply hK;apply bH;clear bH;refine aJ ?_;refine⟨k+1,by show k+1<=_;omega,by show a.length-(k+1)<a.length-k;omega,?_⟩;rw[fe];refine ak [] [] ?_ ?_ ?_ ?_ (HO.fS zS) ?_
      all_goals simp[cJ]
     ·rw[hm] at c3 fe;apply ar;simp(disch:=omega)[aS];refine ai (c3) ?_;refine zQ ?_;apply aB rfl;apply aj;refine zQ ?_;apply bH;clear bH;refine aJ ?_;refine⟨k+1,by show k+1<=_;omega,by show a.length-(k+1)<a.length-k;omega,?_⟩;rw[fe];refine ak [] [] ?_ ?_ ?_ ?_ (HO.fS zS) ?_
      all_goals simp[cJ]
    ·simp  at hk;have Rf:k=a.length:=zO;subst Rf;rw[ahO];apply aD;refine zQ ?_;apply aN;clear aN;refine af ?_;refine aI ?_;rw[hr];exact⟨rfl,rfl⟩
def Hq (a b:List Int):comb (λ_ q=>!q) a b=jN (λm=>!m) a b:=by
 unfold comb jN
 split
 ·rename_i h;have ha:=iY h.1;have hb:=iY h.2;obtain⟨_,g2,g3⟩:=B9 true false false (a.length+b.length) a b [] (ahv _) ha hb;refine jc _ _ g3 (ha.filter _) (λz=>?_);refine(g2 z).trans ?_;simp
 ·rfl
attribute [-simp] getD_eq_getElem?_getD in
def L3 (a b:List Int)(ha:a.length<=1000)(hb:b.length<=1000)(H:List aA)(T:au)(ta tb:Tag) :
  aq prog 163 [.sl a.length (ints a) ta,.sl b.length (ints b) tb] H T
   (Is (.sl (MG (λ_ _=>true) a b (a.length+b.length) 0 0 []).length (ints (MG (λ_ _=>true) a b (a.length+b.length) 0 0 [])) .none) H T):=by
 refine aq.bR (aq.mC ?_);refine aq.bK ?_ zS;refine ah 9 [] Tryz.ntmps163 Tryz.func163 rfl (λ_ _=>Tryz.call163 _ _) zS (λHO=>?_);refine af ?_;refine af ?_;refine af ?_;refine ae λK1 aN=>?_;apply ag;refine ki 5 0 1 [] zO zS ?_;refine aG (X:=Nat×Nat×Nat×List Int) (λx=>⟨[(0,.sl a.length (ints a) .none),(1,.sl b.length (ints b) .none),(5,.sl x.2.2.2.length (ints x.2.2.2) (.own T.length)),(6,.int .i64 (x.2.1:Nat)),(7,.int .i64 (x.2.2.1:Nat))],H,T++[(x.2.2.2.length,1)]⟩)
  (λx=>x.2.1<=a.length/\x.2.2.1<=b.length/\(a.length-x.2.1)+(b.length-x.2.2.1)<=x.1/\MG (λ_ _=>true) a b (a.length+b.length) 0 0 []=MG (λ_ _=>true) a b x.1 x.2.1 x.2.2.1 x.2.2.2/\x.2.2.2.length<=x.2.1+x.2.2.1) (λx=>x.1) (a.length+b.length,0,0,[]) ?_ ?_ ?_
 ·exact⟨ahE _,ahE _,by simp only;omega,rfl,ahE _⟩
 ·exact wk (HO.fS zS)
 ·rintro⟨n,i,j,out⟩ ⟨h1,h2,h3,h4,h5⟩;simp only at h1 h2 h3 h4 h5
  by_cases hi:i<a.length
  ·have bi:decide ((i:Int)<a.length)=true:=by simp;omega
   have ni:((i:Int)==a.length)=false:=by rw[ah8];omega
   have Ns:¬i=a.length:=zO
   by_cases hj:j<b.length
   ·have bj:decide ((j:Int)<b.length)=true:=by simp;omega
    have nj:((j:Int)==b.length)=false:=by rw[ah8];omega
    have Bl:¬j=b.length:=zO;have hn:0<n:=zO;refine ae λK2 ba=>?_;apply ar;simp(disch:=omega)[bi,bj,hi,hj];apply aC rfl;apply aj;refine zQ ?_;apply ba;clear ba;apply ag;apply ag
    by_cases c1:a.getD i 0<b.getD j 0
    ·have b1:decide (a.getD i 0<b.getD j 0)=true:=by simpa using c1
     have fe:=ZS (kf:=(λ_ _=>true)) (o:=out) hn hi hj c1;refine bC [] [] [] ?_;simp(disch:=omega)[bi,hi,nj,Bl,aS,b1,c1];apply aC rfl;apply ar;simp(disch:=omega)[aS];refine aJ ?_;refine⟨(n-1,i+1,j,out++[a.getD i 0]),⟨by show i+1<=a.length;omega,by show j<=b.length;omega,by show (a.length-(i+1))+(b.length-(j))<=n-1;omega,by rw[h4,fe];rfl,by show (out++[a.getD i 0]).length<=(i+1)+(j);simp only[ahw,ahY,ais];omega⟩,by show n-1<n;omega,?_⟩;refine ak [] [] ?_ ?_ ?_ ?_ (HO.fS zS) ?_
     ·simp
     ·simp
     ·simp
     ·simp
     ·simp[cJ]
      try omega
    ·have b1:decide (a.getD i 0<b.getD j 0)=false:=by simpa using c1
     refine bC [] [] [] ?_;simp(disch:=omega)[bi,hi,nj,Bl,aS,b1,c1];apply aB rfl
     by_cases c2:b.getD j 0<a.getD i 0
     ·have b2:decide (b.getD j 0<a.getD i 0)=true:=by simpa using c2
      have fe:=ZR (kf:=(λ_ _=>true)) (o:=out) hn hi hj c1 c2;refine bC [] [] [] ?_;simp(disch:=omega)[ni,Ns,aS,b2,c2];apply aC rfl;apply ar;simp(disch:=omega)[aS];refine aJ ?_;refine⟨(n-1,i,j+1,out++[b.getD j 0]),⟨by show i<=a.length;omega,by show j+1<=b.length;omega,by show (a.length-(i))+(b.length-(j+1))<=n-1;omega,by rw[h4,fe];rfl,by show (out++[b.getD j 0]).length<=(i)+(j+1);simp only[ahw,ahY,ais];omega⟩,by show n-1<n;omega,?_⟩;refine ak [] [] ?_ ?_ ?_ ?_ (HO.fS zS) ?_
      ·simp
      ·simp
      ·simp
      ·simp
      ·simp[cJ]
       try omega
     ·have b2:decide (b.getD j 0<a.getD i 0)=false:=by simpa using c2
      have fe:=Vl (kf:=(λ_ _=>true)) (o:=out) hn hi hj c1 c2;refine bC [] [] [] ?_;simp(disch:=omega)[ni,Ns,aS,b2,c2];apply aB rfl;apply ar;simp(disch:=omega)[aS];refine aJ ?_;refine⟨(n-1,i+1,j+1,out++[a.getD i 0]),⟨by show i+1<=a.length;omega,by show j+1<=b.length;omega,by show (a.length-(i+1))+(b.length-(j+1))<=n-1;omega,by rw[h4,fe];rfl,by show (out++[a.getD i 0]).length<=(i+1)+(j+1);simp only[ahw,ahY,ais];omega⟩,by show n-1<n;omega,?_⟩;refine ak [] [] ?_ ?_ ?_ ?_ (HO.fS zS) ?_
      ·simp
      ·simp
      ·simp
      ·simp
      ·simp[cJ]
       try omega
   ·have bj:decide ((j:Int)<b.length)=false:=by simp;omega
    have Rh:j=b.length:=zO;have nj:((j:Int)==b.length)=true:=by simp;omega
    have VK:(j:Int)=(b.length:Int):=zO;have hn:0<n:=zO;have fe:=Vm (kf:=(λ_ _=>true)) (o:=out) hn hi Rh;refine ae λK2 ba=>?_;apply ar;simp(disch:=omega)[bi,bj,hi,hj];apply aC rfl;apply aj;refine zQ ?_;apply ba;clear ba;apply ag;apply ag;refine bC [] [] [] ?_;simp(disch:=omega)[nj,VK];apply aC rfl;apply ar;simp(disch:=omega)[aS];refine aJ ?_;refine⟨(n-1,i+1,j,out++[a.getD i 0]),⟨by show i+1<=a.length;omega,by show j<=b.length;omega,by show (a.length-(i+1))+(b.length-(j))<=n-1;omega,by rw[h4,fe];rfl,by show (out++[a.getD i 0]).length<=(i+1)+(j);simp only[ahw,ahY,ais];omega⟩,by show n-1<n;omega,?_⟩;refine ak [] [] ?_ ?_ ?_ ?_ (HO.fS zS) ?_
    ·simp
    ·simp
    ·simp
    ·simp
    ·simp[cJ]
     try omega
  ·have bi:decide ((i:Int)<a.length)=false:=by simp;omega
   have nC:i=a.length:=zO
   by_cases hj:j<b.length
   ·have bj:decide ((j:Int)<b.length)=true:=by simp;omega
    have nj:((j:Int)==b.length)=false:=by rw[ah8];omega
    have Bl:¬j=b.length:=zO;have ni:((i:Int)==a.length)=true:=by simp;omega
    have VM:(i:Int)=(a.length:Int):=zO;have hn:0<n:=zO;have fe:=Vk (kf:=(λ_ _=>true)) (o:=out) hn nC hj;refine ae λK2 ba=>?_;apply ar;simp(disch:=omega)[bi,bj,hi,hj];apply aC rfl;apply aj;refine zQ ?_;apply ba;clear ba;apply ag;apply ag;refine bC [] [] [] ?_;simp(disch:=omega)[nj,Bl,bi,hi];apply aB rfl;refine bC [] [] [] ?_;simp(disch:=omega)[ni,VM];apply aC rfl;apply ar;simp(disch:=omega)[aS];refine aJ ?_;refine⟨(n-1,i,j+1,out++[b.getD j 0]),⟨by show i<=a.length;omega,by show j+1<=b.length;omega,by show (a.length-(i))+(b.length-(j+1))<=n-1;omega,by rw[h4,fe];rfl,by show (out++[b.getD j 0]).length<=(i)+(j+1);simp only[ahw,ahY,ais];omega⟩,by show n-1<n;omega,?_⟩;refine ak [] [] ?_ ?_ ?_ ?_ (HO.fS zS) ?_
    ·simp
    ·simp
    ·simp
    ·simp
    ·simp[cJ]
     try omega
   ·have bj:decide ((j:Int)<b.length)=false:=by simp;omega
    have mn:=O3 (kf:=(λ_ _=>true)) (a:=a) (b:=b) (o:=out) (n:=n) nC (show j=b.length by omega);rw[mn] at h4;apply hY;apply ar;simp(disch:=omega)[bi,bj,hi,hj];apply aB rfl;apply aD;refine zQ ?_;apply aN;clear aN;refine af ?_;refine aI ?_;rw[h4];exact⟨rfl,rfl⟩
attribute [-simp] getD_eq_getElem?_getD in
def WY (a b:List Int)(ha:a.length<=1000)(hb:b.length<=1000)(H:List aA)(T:au):aq prog 101 [.sl a.length (ints a) .none,.sl b.length (ints b) .none] H T (Is (.sl (comb (λ_ _=>true) a b).length (ints (comb (λ_ _=>true) a b)) .none) H T):=by
 refine aq.bK ?_ zS;have jU:1000<=maxLen:=zD;have c1:=eV a zO H T .none;have c2:=eV b zO H T .none;refine ah 5 [] Tryz.ntmps101 Tryz.func101 rfl (λ_ _=>Tryz.call101 _ _) zS (λHO=>?_);refine af ?_;refine ae λK1 aN=>?_
 cases hv:jI a 1 1000000000
 ·rw[hv] at c1;apply ar;refine zQ ?_;refine ai (c1) ?_;refine zQ ?_;apply aC rfl;refine af ?_;refine aI ?_;simp[comb,hv,ints]
 ·rw[hv] at c1
  cases hw:jI b 1 1000000000
  ·rw[hw] at c2;apply ar;refine zQ ?_;refine ai (c1) ?_;refine zQ ?_;refine ai (c2) ?_;refine zQ ?_;apply aC rfl;refine af ?_;refine aI ?_;simp[comb,hw,ints]
  ·rw[hw] at c2;have hr:comb (λ_ _=>true) a b=MG (λ_ _=>true) a b (a.length+b.length) 0 0 []:=by unfold comb;rw[ahF ⟨hv,hw⟩]
   have c3:=L3 a b ha hb H T .none .none;rw[<-hr] at c3;apply ar;refine zQ ?_;refine ai (c1) ?_;refine zQ ?_;refine ai (c2) ?_;refine zQ ?_;apply aB rfl;apply aj;refine zQ ?_;apply aN;clear aN;apply ar;refine zQ ?_;refine ai (c3) ?_;refine zQ ?_;exact bu zC
end Go.Proofs.YtoejlmpbebjemaaGreat
