/- Posting lists: what is kept of them by a test on positions; laws on lists. What is kept of a posting: the function that filtered gives to merge. Merging of posting lists in layer 38. filtered of layer 38, and Near. Lists of posting lists in layer 38, and which of them are valid. Phrase of layer 38. The example of the document of layer 38 holds. At and Near of the reference of layer 38. Phrase of the reference of layer 38. PostingSets: the walk. And, Or, Without obey the laws of sets. Merging of lists of numbers in layer 38, for any function that takes the numbers. The parts of Union in layer 38: copies, joined. The union of posting lists: going through both is the same as collecting the positions of each document. Union of layer 38. Union of the reference of layer 38. Docs, Seek and Count of layer 38 and of its reference. seek of layer 38: by doubling steps, which are halved again. Posting lists: which of them are equal; the postings of some documents. Only of layer 38 and of its reference. Valid posting lists: they are their documents and positions; the laws of Union, Phrase, Near.
  Conditions: as the theorems say. -/
import Derived.Test.YtoejlmpbebjemaaGreatPA
import Derived.Test.YtoejlmpbebjemaaGreatPB
import Derived.Test.YtoejlmpbebjemaaGreatAmC
set_option linter.all false
set_option maxRecDepth 100000
set_option maxHeartbeats 4000000
open Nat (pow_succ)
open List (getD_eq_getElem?_getD)
namespace cO
abbrev PL:=List (Int×List Int)
def posOf:PL->Int->List Int
 |[],_=>[]
 |p::l,d=>if p.1=d then p.2 else posOf l d
def y5 {β:Type}(fA fB:β->(Int×List Int)->β)(fAB:β->(Int×List Int)->(Int×List Int)->β):Nat->PL->PL->β->β
 |0,_,_,o=>o
 |n+1,x::a,y::b,o=>if x.1<y.1 then y5 fA fB fAB n a (y::b) (fA o x) else if y.1<x.1 then y5 fA fB fAB n (x::a) b (fB o y) else y5 fA fB fAB n a b (fAB o x y)
 |n+1,x::a,[],o=>y5 fA fB fAB n a [] (fA o x)
 |n+1,[],y::b,o=>y5 fA fB fAB n [] b (fB o y)
 |_+1,[],[],o=>o
def kY (l:PL):Prop:=kn (l.map (·.1))
def jf {x:Int×List Int}{l:PL}(h:kY (x::l)):kY l/\∀y∈l,x.1<y.1:=by
 obtain⟨h1,h2⟩:=mh h;exact⟨h1,λy hy=>h2 _ (agG.2 ⟨y,hy,rfl⟩)⟩
def cV {p:Int×List Int}{l:PL}{d:Int}(h:p.1≠d):posOf (p::l) d=posOf l d:=by simp[posOf,h]
def dI {p:Int×List Int}{l:PL}:posOf (p::l) p.1=p.2:=by simp[posOf]
theorem rV {l:PL}{d:Int}(h:∀p∈l,p.1≠d):posOf l d=[]:=by
 induction l with
 |nil=>rfl
 |cons p l ih=>rw[cV (h p (by simp)),ih (λq hq=>h q (by simp[hq]))]
end cO
namespace Go.Proofs.YtoejlmpbebjemaaGreat
open Go.Proofs.Tryz(prog)
open Go Go.Am cO
def CA (T:au)(out:PL):au:=T++[(out.length*2,2)]
def BO (T:au)(out:PL):(CA T out).length=T.length+1:=by simp[CA]
attribute [-simp] getD_eq_getElem?_getD in
def pE (p:Int×List Int)(H:List aA)(T:au):ar prog 144 [.agg [.int .i64 p.1,.sl p.2.length (ints p.2) .none]] H T (Is (.int .i64 p.1) H T):=by
 refine ar.bZ ?_ (by simp);refine ah 3 [] Tryz.ntmps144 Tryz.func144 rfl (λ_ _=>Tryz.call144 _ _) (by simp) (λHO=>?_);apply ae;intro K Z;simp(disch:=omega);apply Z;apply ae;intro K Z;simp(disch:=omega);apply Z;apply az;simp(disch:=omega) 
def gX (l:PL)(i:Nat)(h:i<l.length):l.drop i=l.getD i (0,[])::l.drop (i+1):=by
 rw[ah5 h,agB,agD h];rfl
def MP {β:Type}(fA fB:β->(Int×List Int)->β)(fAB:β->(Int×List Int)->(Int×List Int)->β)(a b:PL)(n i j:Nat)(o:β):β:=y5 fA fB fAB n (a.drop i) (b.drop j) o
section
variable {β : Type} {fA fB : β -> (Int × List Int) -> β} {fAB : β -> (Int × List Int) -> (Int × List Int) -> β} {a b : PL} {o : β} {n i j : Nat}
def aeZ (hn:0<n)(hi:i<a.length)(hj:j<b.length)(h:(a.getD i (0,[])).1<(b.getD j (0,[])).1):MP fA fB fAB a b n i j o=MP fA fB fAB a b (n-1) (i+1) j (fA o (a.getD i (0,[]))):=by
 obtain⟨m,rfl⟩:∃m,n=m+1:=⟨n-1,by omega⟩
 unfold MP;rw[gX a i hi,gX b j hj,y5,agN h];rfl
def aeY (hn:0<n)(hi:i<a.length)(hj:j<b.length)(h:¬(a.getD i (0,[])).1<(b.getD j (0,[])).1)(h2:(b.getD j (0,[])).1<(a.getD i (0,[])).1):MP fA fB fAB a b n i j o=MP fA fB fAB a b (n-1) i (j+1) (fB o (b.getD j (0,[]))):=by
 obtain⟨m,rfl⟩:∃m,n=m+1:=⟨n-1,by omega⟩
 unfold MP;rw[gX a i hi,gX b j hj,y5,agL h,agN h2];rfl
def ZO (hn:0<n)(hi:i<a.length)(hj:j<b.length)(h:¬(a.getD i (0,[])).1<(b.getD j (0,[])).1)(h2:¬(b.getD j (0,[])).1<(a.getD i (0,[])).1):MP fA fB fAB a b n i j o=MP fA fB fAB a b (n-1) (i+1) (j+1) (fAB o (a.getD i (0,[])) (b.getD j (0,[]))):=by
 obtain⟨m,rfl⟩:∃m,n=m+1:=⟨n-1,by omega⟩
 unfold MP;rw[gX a i hi,gX b j hj,y5,agL h,agL h2];rfl
def ZP (hn:0<n)(hi:i<a.length)(hj:j=b.length):MP fA fB fAB a b n i j o=MP fA fB fAB a b (n-1) (i+1) j (fA o (a.getD i (0,[]))):=by
 obtain⟨m,rfl⟩:∃m,n=m+1:=⟨n-1,by omega⟩
 unfold MP;rw[gX a i hi,hj,ahH,y5];rfl
def ZN (hn:0<n)(hi:i=a.length)(hj:j<b.length):MP fA fB fAB a b n i j o=MP fA fB fAB a b (n-1) i (j+1) (fB o (b.getD j (0,[]))):=by
 obtain⟨m,rfl⟩:∃m,n=m+1:=⟨n-1,by omega⟩
 unfold MP;rw[gX b j hj,hi,ahH,y5];rfl
def Wx (hi:i=a.length)(hj:j=b.length):MP fA fB fAB a b n i j o=o:=by
 unfold MP;rw[hi,hj,ahH,ahH]
 cases n<;>rfl
end
attribute [-simp] getD_eq_getElem?_getD in
def Ln {β:Type}(g:Nat)(cz:List AV)(fA fB:β->(Int×List Int)->β)(fAB:β->(Int×List Int)->(Int×List Int)->β)(S:β->List aA)(U:β->au)(I:Nat->β->Prop)(N M:Nat)(o0:β)
  (a b:PL) (ha:a.length<=1000) (hb:b.length<=1000) (hS:∀o,(S o).length=N) (hU:∀o,(U o).length=M) (qL:aM N M cz) (jC:∀n o,I n o->bN (S o) (U o)) (h0:I 0 o0)
  (cA:∀n i o,i<a.length->n<=2000->I n o->ar prog g ([.dZ (bD a) (i*2),.fV]++cz) (S o) (U o) (Is (.df []) (S (fA o (a.getD i (0,[])))) (U (fA o (a.getD i (0,[]))))))
  (cB:∀n j o,j<b.length->n<=2000->I n o->ar prog g ([.fV,.dZ (bD b) (j*2)]++cz) (S o) (U o) (Is (.df []) (S (fB o (b.getD j (0,[])))) (U (fB o (b.getD j (0,[]))))))
  (cAB:∀n i j o,i<a.length->j<b.length->n<=2000->I n o->ar prog g ([.dZ (bD a) (i*2),.dZ (bD b) (j*2)]++cz) (S o) (U o) (Is (.df []) (S (fAB o (a.getD i (0,[])) (b.getD j (0,[])))) (U (fAB o (a.getD i (0,[])) (b.getD j (0,[]))))))
  (iA:∀n i o,i<a.length->I n o->I (n+1) (fA o (a.getD i (0,[])))) (iB:∀n j o,j<b.length->I n o->I (n+1) (fB o (b.getD j (0,[])))) (Xy:∀n i j o,i<a.length->j<b.length->I n o->I (n+2) (fAB o (a.getD i (0,[])) (b.getD j (0,[])))) :
  ar prog 143 [.sl a.length (bD a) .none,.sl b.length (bD b) .none,.fn 144 [] [],.fn g [] cz] (S o0) (U o0)
   (Is (.df []) (S (MP fA fB fAB a b (a.length+b.length) 0 0 o0)) (U (MP fA fB fAB a b (a.length+b.length) 0 0 o0))):=by
 refine ah 11 [] Tryz.ntmps143 Tryz.func143 rfl (λ_ _=>Tryz.call143 _ _) (by simp) (λHO=>?_);apply ae;intro K Z;simp(disch:=omega);apply Z;apply aj;refine aJ (X:=Nat×Nat×Nat×β) (λx=>⟨[(0,.sl a.length (bD a) .none),(1,.sl b.length (bD b) .none),(2,.fn 144 [] []),(3,.fn g [] cz),(8,.int .i64 (x.2.1:Nat)),(9,.int .i64 (x.2.2.1:Nat))],S x.2.2.2,U x.2.2.2⟩)
  (λx=>x.2.1<=a.length/\x.2.2.1<=b.length/\(a.length-x.2.1)+(b.length-x.2.2.1)<=x.1/\MP fA fB fAB a b (a.length+b.length) 0 0 o0=MP fA fB fAB a b x.1 x.2.1 x.2.2.1 x.2.2.2/\I (x.2.1+x.2.2.1) x.2.2.2) (λx=>x.1) (a.length+b.length,0,0,o0) ?_ ?_ ?_
 ·exact⟨agP _,agP _,by simp only;omega,rfl,h0⟩
 ·refine ag [] [] ?_ ?_ ?_ ?_ HO ?_
  ·simp
  ·simp
  ·simp
  ·simp
  ·simp[hS,hU,qL]
 ·rintro⟨n,i,j,out⟩ ⟨h1,h2,h3,h4,h5⟩;simp only at h1 h2 h3 h4 h5
  by_cases hi:i<a.length
  ·have bi:decide ((i:Int)<a.length)=true:=by simp;omega
   have ni:((i:Int)==a.length)=false:=by rw[ahq];omega
   have TD:¬i=a.length:=by omega
   have QZ:=mb a i hi
   by_cases hj:j<b.length
   ·have bj:decide ((j:Int)<b.length)=true:=by simp;omega
    have nj:((j:Int)==b.length)=false:=by rw[ahq];omega
    have H5:¬j=b.length:=by omega
    have QY:=mb b j hj;have hn:0<n:=by omega
    refine af λK2 bp=>?_;refine ae λK hK=>?_;simp(disch:=omega)[bi,bj,hi,hj];apply hK;apply aH rfl;apply aq;simp(disch:=omega) ;apply bp;clear bp;apply aj;apply aj
    by_cases c1:(a.getD i (0,[])).1<(b.getD j (0,[])).1
    ·have b1:decide ((a.getD i (0,[])).1<(b.getD j (0,[])).1)=true:=by simpa using c1
     have gA:=aeZ (fA:=fA) (fB:=fB) (fAB:=fAB) (o:=out) hn hi hj c1;refine aK [] [] [] aw (by kernel_rfl) (by kernel_rfl) λK hK=>?_;simp(disch:=omega)[bi,hi,nj,H5,QZ,bB];refine aD (pE _ _ _) rfl ?_;simp(disch:=omega)[QY,bB];refine aD (pE _ _ _) rfl ?_;simp(disch:=omega)[b1,c1];apply hK;apply aH rfl;refine ae λK hK=>?_;simp(disch:=omega)[bB];refine ak (cA (i+j) i out hi (by omega) h5) ?_;simp(disch:=omega) ;apply hK;refine aC λK hK=>?_;simp(disch:=omega) ;apply hK;refine⟨(n-1,i+1,j,fA out (a.getD i (0,[]))),⟨by show i+1<=a.length;omega,by show j<=b.length;omega,by show (a.length-(i+1))+(b.length-(j))<=n-1;omega,h4.trans gA,(show I (i+1+j) _ by rw[show i+1+j=i+j+1 by omega];exact iA _ i out hi h5)⟩,by show n-1<n;omega,?_⟩;refine ag [] [] ?_ ?_ ?_ ?_ (jC _ _ ((show I (i+1+j) _ by rw[show i+1+j=i+j+1 by omega];exact iA _ i out hi h5))) ?_
     ·simp
     ·simp
     ·simp[hS]
     ·simp[hU]
     ·simp[hS,hU,qL]
      try omega
    ·have b1:decide ((a.getD i (0,[])).1<(b.getD j (0,[])).1)=false:=by simpa using c1
     refine aK [] [] [] aw (by kernel_rfl) (by kernel_rfl) λK hK=>?_;simp(disch:=omega)[bi,hi,nj,H5,QZ,bB];refine aD (pE _ _ _) rfl ?_;simp(disch:=omega)[QY,bB];refine aD (pE _ _ _) rfl ?_;simp(disch:=omega)[b1,c1];apply hK;apply aF rfl
     by_cases c2:(b.getD j (0,[])).1<(a.getD i (0,[])).1
     ·have b2:decide ((b.getD j (0,[])).1<(a.getD i (0,[])).1)=true:=by simpa using c2
      have gA:=aeY (fA:=fA) (fB:=fB) (fAB:=fAB) (o:=out) hn hi hj c1 c2;refine aK [] [] [] aw (by kernel_rfl) (by kernel_rfl) λK hK=>?_;simp(disch:=omega)[ni,TD,QY,bB,hj];refine aD (pE _ _ _) rfl ?_;simp(disch:=omega)[QZ,bB];refine aD (pE _ _ _) rfl ?_;simp(disch:=omega)[b2,c2];apply hK;apply aH rfl;refine ae λK hK=>?_;simp(disch:=omega)[bB];refine ak (cB (i+j) j out hj (by omega) h5) ?_;simp(disch:=omega) ;apply hK;refine aC λK hK=>?_;simp(disch:=omega) ;apply hK;refine⟨(n-1,i,j+1,fB out (b.getD j (0,[]))),⟨by show i<=a.length;omega,by show j+1<=b.length;omega,by show (a.length-(i))+(b.length-(j+1))<=n-1;omega,h4.trans gA,(show I (i+(j+1)) _ from iB _ j out hj h5)⟩,by show n-1<n;omega,?_⟩;refine ag [] [] ?_ ?_ ?_ ?_ (jC _ _ ((show I (i+(j+1)) _ from iB _ j out hj h5))) ?_
      ·simp
      ·simp
      ·simp[hS]
      ·simp[hU]
      ·simp[hS,hU,qL]
       try omega
     ·have b2:decide ((b.getD j (0,[])).1<(a.getD i (0,[])).1)=false:=by simpa using c2
      have gA:=ZO (fA:=fA) (fB:=fB) (fAB:=fAB) (o:=out) hn hi hj c1 c2;refine aK [] [] [] aw (by kernel_rfl) (by kernel_rfl) λK hK=>?_;simp(disch:=omega)[ni,TD,QY,bB,hj];refine aD (pE _ _ _) rfl ?_;simp(disch:=omega)[QZ,bB];refine aD (pE _ _ _) rfl ?_;simp(disch:=omega)[b2,c2];apply hK;apply aF rfl;refine aK [7] [0,0,0,0,0,0,0,0] [[]] aw (by kernel_rfl) (by kernel_rfl) λK hK=>?_;simp(disch:=omega)[bB,hi,hj];refine nX (cAB (i+j) i j out hi hj (by omega) h5) rfl ?_;simp(disch:=omega) ;apply hK;refine aC λK hK=>?_;simp(disch:=omega) ;apply hK;refine⟨(n-1,i+1,j+1,fAB out (a.getD i (0,[])) (b.getD j (0,[]))),⟨by show i+1<=a.length;omega,by show j+1<=b.length;omega,by show (a.length-(i+1))+(b.length-(j+1))<=n-1;omega,h4.trans gA,(show I (i+1+(j+1)) _ by rw[show i+1+(j+1)=i+j+2 by omega];exact Xy _ i j out hi hj h5)⟩,by show n-1<n;omega,?_⟩;refine ag [] [] ?_ ?_ ?_ ?_ (jC _ _ ((show I (i+1+(j+1)) _ by rw[show i+1+(j+1)=i+j+2 by omega];exact Xy _ i j out hi hj h5))) ?_
      ·simp
      ·simp
      ·simp[hS]
      ·simp[hU]
      ·simp[hS,hU,qL]
       try omega
   ·have bj:decide ((j:Int)<b.length)=false:=by simp;omega
    have TO:j=b.length:=by omega
    have nj:((j:Int)==b.length)=true:=by simp;omega
    have hn:0<n:=by omega
    have gA:=ZP (fA:=fA) (fB:=fB) (fAB:=fAB) (o:=out) hn hi TO;refine af λK2 bp=>?_;refine ae λK hK=>?_;simp(disch:=omega)[bi,bj,hi,hj];apply hK;apply aH rfl;apply aq;simp(disch:=omega) ;apply bp;clear bp;apply aj;apply aj;have XO:(j:Int)=(b.length:Int):=by omega
    refine aK [] [] [] aw (by kernel_rfl) (by kernel_rfl) λK hK=>?_;simp(disch:=omega)[nj,XO];apply hK;apply aH rfl;refine ae λK hK=>?_;simp(disch:=omega)[bB];refine ak (cA (i+j) i out hi (by omega) h5) ?_;simp(disch:=omega) ;apply hK;refine aC λK hK=>?_;simp(disch:=omega) ;apply hK;refine⟨(n-1,i+1,j,fA out (a.getD i (0,[]))),⟨by show i+1<=a.length;omega,by show j<=b.length;omega,by show (a.length-(i+1))+(b.length-(j))<=n-1;omega,h4.trans gA,(show I (i+1+j) _ by rw[show i+1+j=i+j+1 by omega];exact iA _ i out hi h5)⟩,by show n-1<n;omega,?_⟩;refine ag [] [] ?_ ?_ ?_ ?_ (jC _ _ ((show I (i+1+j) _ by rw[show i+1+j=i+j+1 by omega];exact iA _ i out hi h5))) ?_
    ·simp
    ·simp
    ·simp[hS]
    ·simp[hU]
    ·simp[hS,hU,qL]
     try omega
  ·have bi:decide ((i:Int)<a.length)=false:=by simp;omega
   have o9:i=a.length:=by omega
   by_cases hj:j<b.length
   ·have bj:decide ((j:Int)<b.length)=true:=by simp;omega
    have nj:((j:Int)==b.length)=false:=by rw[ahq];omega
    have H5:¬j=b.length:=by omega
    have ni:((i:Int)==a.length)=true:=by simp;omega
    have hn:0<n:=by omega
    have gA:=ZN (fA:=fA) (fB:=fB) (fAB:=fAB) (o:=out) hn o9 hj;refine af λK2 bp=>?_;refine ae λK hK=>?_;simp(disch:=omega)[bi,bj,hi,hj];apply hK;apply aH rfl;apply aq;simp(disch:=omega) ;apply bp;clear bp;apply aj;apply aj;refine aK [] [] [] aw (by kernel_rfl) (by kernel_rfl) λK hK=>?_;simp(disch:=omega)[nj,H5,bi,hi];apply hK;apply aF rfl;have XQ:(i:Int)=(a.length:Int):=by omega
    refine aK [] [] [] aw (by kernel_rfl) (by kernel_rfl) λK hK=>?_;simp(disch:=omega)[ni,XQ];apply hK;apply aH rfl;refine ae λK hK=>?_;simp(disch:=omega)[bB];refine ak (cB (i+j) j out hj (by omega) h5) ?_;simp(disch:=omega) ;apply hK;refine aC λK hK=>?_;simp(disch:=omega) ;apply hK;refine⟨(n-1,i,j+1,fB out (b.getD j (0,[]))),⟨by show i<=a.length;omega,by show j+1<=b.length;omega,by show (a.length-(i))+(b.length-(j+1))<=n-1;omega,h4.trans gA,(show I (i+(j+1)) _ from iB _ j out hj h5)⟩,by show n-1<n;omega,?_⟩;refine ag [] [] ?_ ?_ ?_ ?_ (jC _ _ ((show I (i+(j+1)) _ from iB _ j out hj h5))) ?_
    ·simp
    ·simp
    ·simp[hS]
    ·simp[hU]
    ·simp[hS,hU,qL]
     try omega
   ·have bj:decide ((j:Int)<b.length)=false:=by simp;omega
    have mV:=Wx (fA:=fA) (fB:=fB) (fAB:=fAB) (a:=a) (b:=b) (o:=out) (n:=n) o9 (show j=b.length by omega);rw[mV] at h4;refine af λK2 bp=>?_;refine ae λK hK=>?_;simp(disch:=omega)[bi,bj,hi,hj];apply hK;apply aF rfl;apply aG;simp(disch:=omega) ;rw[h4];exact⟨rfl,rfl,rfl⟩
theorem qq {b:PL}{y:Int×List Int}(hs:kY b)(h:y∈b):posOf b y.1=y.2:=by
 induction b with
 |nil=>simp at h
 |cons z b ih=>
  obtain⟨h1,h2⟩:=jf hs;rcases ag6.1 h with rfl|h
  ·exact dI
  ·have:=h2 y h;rw[cV (by omega)];exact ih h1 h
theorem cU {l:PL}(h:dS l=true):kY l/\(∀p∈l,1<=p.1/\p.1<=1000000000)/\∀p∈l,p.2≠[]/\kn p.2/\∀q∈p.2,0<=q/\q<=1000000:=by
 have bounds:∀(l:List Int)(lo hi:Int),oX l lo hi=true->∀q∈l,lo<=q/\q<=hi:=λl lo hi h q hq=>by
  obtain⟨j,hj,e⟩:=mc 0 hq;unfold oX at h;rw[aha] at h;have:=h j (by simpa using hj);unfold lW at this;simp only[agO,agQ] at this;rw[e] at this;exact this.1
 unfold dS at h;rw[agO] at h;obtain⟨h1,h2⟩:=h;refine⟨kg h1,λp hp=>bounds _ _ _ h1 _ (agG.2 ⟨p,hp,rfl⟩),λp hp=>?_⟩;have h3:nD p=false:=by
  cases hb:nD p with
  |false=>rfl
  |true=>
   have:l.any nD=true:=aij.2 ⟨p,hp,hb⟩;rw[this] at h2;simp at h2
 unfold nD at h3;rw[ai5] at h3;have h4:oX p.2 0 1000000=true:=by simpa using h3.2
 refine⟨λe=>?_,kg h4,bounds _ _ _ h4⟩;have:=h3.1;rw[e] at this;simp at this
def xo {l:PL}{d:Int}(h:¬d∈l.map (·.1)):posOf l d=[]:=rV λp hp e=>h (agG.2 ⟨p,hp,e⟩)
theorem V8 {fA fB fAB:List Int->Int->List Int}(hA:∀o x,(fA o x).length<=o.length+1)(hB:∀o x,(fB o x).length<=o.length+1)(hAB:∀o x,(fAB o x).length<=o.length+1) :
  ∀(n:Nat)(a b o:List Int),(jB fA fB fAB n a b o).length<=o.length+a.length+b.length:=by
 intro n
 induction n with
 |zero=>intro a b o;simp only[jB];omega
 |succ n ih=>
  intro a b o
  cases a with
  |nil=>
   cases b with
   |nil=>simp only[jB];omega
   |cons y b=>have:=ih [] b (fB o y);have:=hB o y;simp only[jB,ahd];omega
  |cons x a=>
   cases b with
   |nil=>have:=ih a [] (fA o x);have:=hA o x;simp only[jB,ahd];omega
   |cons y b=>
    have e1:=ih a (y::b) (fA o x);have e2:=ih (x::a) b (fB o y);have e3:=ih a b (fAB o x);have:=hA o x;have:=hB o y;have:=hAB o x;simp only[ahd] at e1 e2 ⊢;rw[jB]
    split
    ·omega
    ·split
     ·omega
     ·omega
def tr (kf:Bool->Bool->Bool)(a b:List Int):(comb kf a b).length<=a.length+b.length:=by
 have st:∀(k:Bool)(o:List Int)(x:Int),(if k=true then o++[x] else o).length<=o.length+1:=λk o x=>by split<;>simp
 unfold comb
 split
 ·have:=V8 (fA:=λo x=>if kf true false then o++[x] else o) (fB:=λo x=>if kf false true then o++[x] else o) (fAB:=λo x=>if kf true true then o++[x] else o) (λo x=>st _ o x) (λo x=>st _ o x) (λo x=>st _ o x) (a.length+b.length) a b [];simp only[ahV,ahO] at this;exact this
 ·simp
def V (l:List Int):Prop:=oX l 1 1000000000=true
def HW {l:List Int}{lo hi:Int}(h:oX l lo hi=true):∀q∈l,lo<=q/\q<=hi:=λq hq=>by
 obtain⟨j,hj,e⟩:=mc 0 hq;unfold oX at h;rw[aha] at h;have:=h j (by simpa using hj);unfold lW at this;simp only[agO,agQ] at this;rw[e] at this;exact this.1
def mY {l:List Int}{lo hi:Int}(h:kn l)(hb:∀q∈l,lo<=q/\q<=hi):oX l lo hi=true:=by
 refine Je λj hj=>?_;have hbj:=hb _ (vJ l j 0 hj);unfold lW;simp only[agO,agQ,ahx];refine⟨hbj,?_⟩;rcases ahc j with h0|h0
 ·exact .inl h0
 ·exact .inr (qh h (by omega) hj)
def jc (kf:Bool->Bool->Bool){a b:List Int}(ha:V a)(hb:V b):kn (comb kf a b)/\∀z,z∈comb kf a b↔(z∈a/\z∉b/\kf true false=true)\/(z∈b/\z∉a/\kf false true=true)\/(z∈a/\z∈b/\kf true true=true):=by
 obtain⟨_,g2,g3⟩:=IN (kf true false) (kf false true) (kf true true) (a.length+b.length) a b [] (agE _) (kg ha) (kg hb);have e:comb kf a b=jB (λo x=>if kf true false then o++[x] else o) (λo x=>if kf false true then o++[x] else o) (λo x=>if kf true true then o++[x] else o) (a.length+b.length) a b []:=by
  unfold comb;rw[agN ⟨ha,hb⟩];rfl
 rw[e];exact⟨g3,g2⟩
def An (a b:List Int):List Int:=comb (λp q=>p&&q) a b
section
variable {a b c : List Int} (ha : V a) (hb : V b) (hc : V c)
include ha hb
include hc
end
def Jk {β:Type}(fA fB:β->Int->β)(fAB:β->Int->Int->β):Nat->List Int->List Int->β->β
 |0,_,_,o=>o
 |n+1,x::a,y::b,o=>if x<y then Jk fA fB fAB n a (y::b) (fA o x) else if y<x then Jk fA fB fAB n (x::a) b (fB o y) else Jk fA fB fAB n a b (fAB o x y)
 |n+1,x::a,[],o=>Jk fA fB fAB n a [] (fA o x)
 |n+1,[],y::b,o=>Jk fA fB fAB n [] b (fB o y)
 |_+1,[],[],o=>o
@[simp] theorem fy (l:List Int):(ints l).length=l.length:=by simp[ints]
def MI {β:Type}(fA fB:β->Int->β)(fAB:β->Int->Int->β)(a b:List Int)(n i j:Nat)(o:β):β:=Jk fA fB fAB n (a.drop i) (b.drop j) o
section
variable {β : Type} {fA fB : β -> Int -> β} {fAB : β -> Int -> Int -> β} {a b : List Int} {o : β} {n i j : Nat}
def ae1 (hn:0<n)(hi:i<a.length)(hj:j<b.length)(h:a.getD i 0<b.getD j 0):MI fA fB fAB a b n i j o=MI fA fB fAB a b (n-1) (i+1) j (fA o (a.getD i 0)):=by
 obtain⟨m,rfl⟩:∃m,n=m+1:=⟨n-1,by omega⟩
 unfold MI;rw[di a i hi,di b j hj,Jk,agN h];rfl
def ae0 (hn:0<n)(hi:i<a.length)(hj:j<b.length)(h:¬a.getD i 0<b.getD j 0)(h2:b.getD j 0<a.getD i 0):MI fA fB fAB a b n i j o=MI fA fB fAB a b (n-1) i (j+1) (fB o (b.getD j 0)):=by
 obtain⟨m,rfl⟩:∃m,n=m+1:=⟨n-1,by omega⟩
 unfold MI;rw[di a i hi,di b j hj,Jk,agL h,agN h2];rfl
def ZR (hn:0<n)(hi:i<a.length)(hj:j<b.length)(h:¬a.getD i 0<b.getD j 0)(h2:¬b.getD j 0<a.getD i 0):MI fA fB fAB a b n i j o=MI fA fB fAB a b (n-1) (i+1) (j+1) (fAB o (a.getD i 0) (b.getD j 0)):=by
 obtain⟨m,rfl⟩:∃m,n=m+1:=⟨n-1,by omega⟩
 unfold MI;rw[di a i hi,di b j hj,Jk,agL h,agL h2];rfl
def ZS (hn:0<n)(hi:i<a.length)(hj:j=b.length):MI fA fB fAB a b n i j o=MI fA fB fAB a b (n-1) (i+1) j (fA o (a.getD i 0)):=by
 obtain⟨m,rfl⟩:∃m,n=m+1:=⟨n-1,by omega⟩
 unfold MI;rw[di a i hi,hj,ahH,Jk];rfl
def ZQ (hn:0<n)(hi:i=a.length)(hj:j<b.length):MI fA fB fAB a b n i j o=MI fA fB fAB a b (n-1) i (j+1) (fB o (b.getD j 0)):=by
 obtain⟨m,rfl⟩:∃m,n=m+1:=⟨n-1,by omega⟩
 unfold MI;rw[di b j hj,hi,ahH,Jk];rfl
def Wy (hi:i=a.length)(hj:j=b.length):MI fA fB fAB a b n i j o=o:=by
 unfold MI;rw[hi,hj,ahH,ahH]
 cases n<;>rfl
end
attribute [-simp] getD_eq_getElem?_getD in
def Lo {β:Type}(g:Nat)(cz:List AV)(fA fB:β->Int->β)(fAB:β->Int->Int->β)(S:β->List aA)(U:β->au)(I:Nat->β->Prop)(N M:Nat)(o0:β)
  (a b:List Int) (ha:a.length<=1000) (hb:b.length<=1000) (hS:∀o,(S o).length=N) (hU:∀o,(U o).length=M) (qL:aM N M cz) (jC:∀n o,I n o->bN (S o) (U o)) (h0:I 0 o0)
  (cA:∀n i o,i<a.length->n<=2000->I n o->ar prog g ([.dZ (ints a) i,.fV]++cz) (S o) (U o) (Is (.df []) (S (fA o (a.getD i 0))) (U (fA o (a.getD i 0)))))
  (cB:∀n j o,j<b.length->n<=2000->I n o->ar prog g ([.fV,.dZ (ints b) j]++cz) (S o) (U o) (Is (.df []) (S (fB o (b.getD j 0))) (U (fB o (b.getD j 0)))))
  (cAB:∀n i j o,i<a.length->j<b.length->n<=2000->I n o->ar prog g ([.dZ (ints a) i,.dZ (ints b) j]++cz) (S o) (U o) (Is (.df []) (S (fAB o (a.getD i 0) (b.getD j 0))) (U (fAB o (a.getD i 0) (b.getD j 0)))))
  (iA:∀n i o,i<a.length->I n o->I (n+1) (fA o (a.getD i 0))) (iB:∀n j o,j<b.length->I n o->I (n+1) (fB o (b.getD j 0))) (Xy:∀n i j o,i<a.length->j<b.length->I n o->I (n+2) (fAB o (a.getD i 0) (b.getD j 0))) :
  ar prog 171 [.sl a.length (ints a) .none,.sl b.length (ints b) .none,.fn 172 [] [],.fn g [] cz] (S o0) (U o0)
   (Is (.df []) (S (MI fA fB fAB a b (a.length+b.length) 0 0 o0)) (U (MI fA fB fAB a b (a.length+b.length) 0 0 o0))):=by
 refine ah 11 [] Tryz.ntmps171 Tryz.func171 rfl (λ_ _=>Tryz.call171 _ _) (by simp) (λHO=>?_);apply ae;intro K Z;simp(disch:=omega);apply Z;apply aj;refine aJ (X:=Nat×Nat×Nat×β) (λx=>⟨[(0,.sl a.length (ints a) .none),(1,.sl b.length (ints b) .none),(2,.fn 172 [] []),(3,.fn g [] cz),(8,.int .i64 (x.2.1:Nat)),(9,.int .i64 (x.2.2.1:Nat))],S x.2.2.2,U x.2.2.2⟩)
  (λx=>x.2.1<=a.length/\x.2.2.1<=b.length/\(a.length-x.2.1)+(b.length-x.2.2.1)<=x.1/\MI fA fB fAB a b (a.length+b.length) 0 0 o0=MI fA fB fAB a b x.1 x.2.1 x.2.2.1 x.2.2.2/\I (x.2.1+x.2.2.1) x.2.2.2) (λx=>x.1) (a.length+b.length,0,0,o0) ?_ ?_ ?_
 ·exact⟨agP _,agP _,by simp only;omega,rfl,h0⟩
 ·refine ag [] [] ?_ ?_ ?_ ?_ HO ?_
  ·simp
  ·simp
  ·simp
  ·simp
  ·simp[hS,hU,qL]
 ·rintro⟨n,i,j,out⟩ ⟨h1,h2,h3,h4,h5⟩;simp only at h1 h2 h3 h4 h5
  by_cases hi:i<a.length
  ·have bi:decide ((i:Int)<a.length)=true:=by simp;omega
   have ni:((i:Int)==a.length)=false:=by rw[ahq];omega
   have TD:¬i=a.length:=by omega
   have QZ:=bM (xs:=a) (k:=i) hi
   by_cases hj:j<b.length
   ·have bj:decide ((j:Int)<b.length)=true:=by simp;omega
    have nj:((j:Int)==b.length)=false:=by rw[ahq];omega
    have H5:¬j=b.length:=by omega
    have QY:=bM (xs:=b) (k:=j) hj;have hn:0<n:=by omega
    refine af λK2 bp=>?_;refine ae λK hK=>?_;simp(disch:=omega)[bi,bj,hi,hj];apply hK;apply aH rfl;apply aq;simp(disch:=omega) ;apply bp;clear bp;apply aj;apply aj
    by_cases c1:a.getD i 0<b.getD j 0
    ·have b1:decide (a.getD i 0<b.getD j 0)=true:=by simpa using c1
     have gA:=ae1 (fA:=fA) (fB:=fB) (fAB:=fAB) (o:=out) hn hi hj c1;refine aK [] [] [] aw (by kernel_rfl) (by kernel_rfl) λK hK=>?_;simp(disch:=omega)[bi,hi,nj,H5,QZ,fy];refine aD (dP _ _ _) rfl ?_;simp(disch:=omega)[QY,fy];refine aD (dP _ _ _) rfl ?_;simp(disch:=omega)[b1,c1];apply hK;apply aH rfl;refine ae λK hK=>?_;simp(disch:=omega)[fy];refine ak (cA (i+j) i out hi (by omega) h5) ?_;simp(disch:=omega) ;apply hK;refine aC λK hK=>?_;simp(disch:=omega) ;apply hK;refine⟨(n-1,i+1,j,fA out (a.getD i 0)),⟨by show i+1<=a.length;omega,by show j<=b.length;omega,by show (a.length-(i+1))+(b.length-(j))<=n-1;omega,h4.trans gA,(show I (i+1+j) _ by rw[show i+1+j=i+j+1 by omega];exact iA _ i out hi h5)⟩,by show n-1<n;omega,?_⟩;refine ag [] [] ?_ ?_ ?_ ?_ (jC _ _ ((show I (i+1+j) _ by rw[show i+1+j=i+j+1 by omega];exact iA _ i out hi h5))) ?_
     ·simp
     ·simp
     ·simp[hS]
     ·simp[hU]
     ·simp[hS,hU,qL]
      try omega
    ·have b1:decide (a.getD i 0<b.getD j 0)=false:=by simpa using c1
     refine aK [] [] [] aw (by kernel_rfl) (by kernel_rfl) λK hK=>?_;simp(disch:=omega)[bi,hi,nj,H5,QZ,fy];refine aD (dP _ _ _) rfl ?_;simp(disch:=omega)[QY,fy];refine aD (dP _ _ _) rfl ?_;simp(disch:=omega)[b1,c1];apply hK;apply aF rfl
     by_cases c2:b.getD j 0<a.getD i 0
     ·have b2:decide (b.getD j 0<a.getD i 0)=true:=by simpa using c2
      have gA:=ae0 (fA:=fA) (fB:=fB) (fAB:=fAB) (o:=out) hn hi hj c1 c2;refine aK [] [] [] aw (by kernel_rfl) (by kernel_rfl) λK hK=>?_;simp(disch:=omega)[ni,TD,QY,fy,hj];refine aD (dP _ _ _) rfl ?_;simp(disch:=omega)[QZ,fy];refine aD (dP _ _ _) rfl ?_;simp(disch:=omega)[b2,c2];apply hK;apply aH rfl;refine ae λK hK=>?_;simp(disch:=omega)[fy];refine ak (cB (i+j) j out hj (by omega) h5) ?_;simp(disch:=omega) ;apply hK;refine aC λK hK=>?_;simp(disch:=omega) ;apply hK;refine⟨(n-1,i,j+1,fB out (b.getD j 0)),⟨by show i<=a.length;omega,by show j+1<=b.length;omega,by show (a.length-(i))+(b.length-(j+1))<=n-1;omega,h4.trans gA,(show I (i+(j+1)) _ from iB _ j out hj h5)⟩,by show n-1<n;omega,?_⟩;refine ag [] [] ?_ ?_ ?_ ?_ (jC _ _ ((show I (i+(j+1)) _ from iB _ j out hj h5))) ?_
      ·simp
      ·simp
      ·simp[hS]
      ·simp[hU]
      ·simp[hS,hU,qL]
       try omega
     ·have b2:decide (b.getD j 0<a.getD i 0)=false:=by simpa using c2
      have gA:=ZR (fA:=fA) (fB:=fB) (fAB:=fAB) (o:=out) hn hi hj c1 c2;refine aK [] [] [] aw (by kernel_rfl) (by kernel_rfl) λK hK=>?_;simp(disch:=omega)[ni,TD,QY,fy,hj];refine aD (dP _ _ _) rfl ?_;simp(disch:=omega)[QZ,fy];refine aD (dP _ _ _) rfl ?_;simp(disch:=omega)[b2,c2];apply hK;apply aF rfl;refine aK [7] [0,0,0,0,0,0,0,0] [[]] aw (by kernel_rfl) (by kernel_rfl) λK hK=>?_;simp(disch:=omega)[fy,hi,hj];refine nX (cAB (i+j) i j out hi hj (by omega) h5) rfl ?_;simp(disch:=omega) ;apply hK;refine aC λK hK=>?_;simp(disch:=omega) ;apply hK;refine⟨(n-1,i+1,j+1,fAB out (a.getD i 0) (b.getD j 0)),⟨by show i+1<=a.length;omega,by show j+1<=b.length;omega,by show (a.length-(i+1))+(b.length-(j+1))<=n-1;omega,h4.trans gA,(show I (i+1+(j+1)) _ by rw[show i+1+(j+1)=i+j+2 by omega];exact Xy _ i j out hi hj h5)⟩,by show n-1<n;omega,?_⟩;refine ag [] [] ?_ ?_ ?_ ?_ (jC _ _ ((show I (i+1+(j+1)) _ by rw[show i+1+(j+1)=i+j+2 by omega];exact Xy _ i j out hi hj h5))) ?_
      ·simp
      ·simp
      ·simp[hS]
      ·simp[hU]
      ·simp[hS,hU,qL]
       try omega
   ·have bj:decide ((j:Int)<b.length)=false:=by simp;omega
    have TO:j=b.length:=by omega
    have nj:((j:Int)==b.length)=true:=by simp;omega
    have hn:0<n:=by omega
    have gA:=ZS (fA:=fA) (fB:=fB) (fAB:=fAB) (o:=out) hn hi TO;refine af λK2 bp=>?_;refine ae λK hK=>?_;simp(disch:=omega)[bi,bj,hi,hj];apply hK;apply aH rfl;apply aq;simp(disch:=omega) ;apply bp;clear bp;apply aj;apply aj;have XO:(j:Int)=(b.length:Int):=by omega
    refine aK [] [] [] aw (by kernel_rfl) (by kernel_rfl) λK hK=>?_;simp(disch:=omega)[nj,XO];apply hK;apply aH rfl;refine ae λK hK=>?_;simp(disch:=omega)[fy];refine ak (cA (i+j) i out hi (by omega) h5) ?_;simp(disch:=omega) ;apply hK;refine aC λK hK=>?_;simp(disch:=omega) ;apply hK;refine⟨(n-1,i+1,j,fA out (a.getD i 0)),⟨by show i+1<=a.length;omega,by show j<=b.length;omega,by show (a.length-(i+1))+(b.length-(j))<=n-1;omega,h4.trans gA,(show I (i+1+j) _ by rw[show i+1+j=i+j+1 by omega];exact iA _ i out hi h5)⟩,by show n-1<n;omega,?_⟩;refine ag [] [] ?_ ?_ ?_ ?_ (jC _ _ ((show I (i+1+j) _ by rw[show i+1+j=i+j+1 by omega];exact iA _ i out hi h5))) ?_
    ·simp
    ·simp
    ·simp[hS]
    ·simp[hU]
    ·simp[hS,hU,qL]
     try omega
  ·have bi:decide ((i:Int)<a.length)=false:=by simp;omega
   have o9:i=a.length:=by omega
   by_cases hj:j<b.length
   ·have bj:decide ((j:Int)<b.length)=true:=by simp;omega
    have nj:((j:Int)==b.length)=false:=by rw[ahq];omega
    have H5:¬j=b.length:=by omega
    have ni:((i:Int)==a.length)=true:=by simp;omega
    have hn:0<n:=by omega
    have gA:=ZQ (fA:=fA) (fB:=fB) (fAB:=fAB) (o:=out) hn o9 hj;refine af λK2 bp=>?_;refine ae λK hK=>?_;simp(disch:=omega)[bi,bj,hi,hj];apply hK;apply aH rfl;apply aq;simp(disch:=omega) ;apply bp;clear bp;apply aj;apply aj;refine aK [] [] [] aw (by kernel_rfl) (by kernel_rfl) λK hK=>?_;simp(disch:=omega)[nj,H5,bi,hi];apply hK;apply aF rfl;have XQ:(i:Int)=(a.length:Int):=by omega
    refine aK [] [] [] aw (by kernel_rfl) (by kernel_rfl) λK hK=>?_;simp(disch:=omega)[ni,XQ];apply hK;apply aH rfl;refine ae λK hK=>?_;simp(disch:=omega)[fy];refine ak (cB (i+j) j out hj (by omega) h5) ?_;simp(disch:=omega) ;apply hK;refine aC λK hK=>?_;simp(disch:=omega) ;apply hK;refine⟨(n-1,i,j+1,fB out (b.getD j 0)),⟨by show i<=a.length;omega,by show j+1<=b.length;omega,by show (a.length-(i))+(b.length-(j+1))<=n-1;omega,h4.trans gA,(show I (i+(j+1)) _ from iB _ j out hj h5)⟩,by show n-1<n;omega,?_⟩;refine ag [] [] ?_ ?_ ?_ ?_ (jC _ _ ((show I (i+(j+1)) _ from iB _ j out hj h5))) ?_
    ·simp
    ·simp
    ·simp[hS]
    ·simp[hU]
    ·simp[hS,hU,qL]
     try omega
   ·have bj:decide ((j:Int)<b.length)=false:=by simp;omega
    have mV:=Wy (fA:=fA) (fB:=fB) (fAB:=fAB) (a:=a) (b:=b) (o:=out) (n:=n) o9 (show j=b.length by omega);rw[mV] at h4;refine af λK2 bp=>?_;refine ae λK hK=>?_;simp(disch:=omega)[bi,bj,hi,hj];apply hK;apply aF rfl;apply aG;simp(disch:=omega) ;rw[h4];exact⟨rfl,rfl,rfl⟩
attribute [-simp] getD_eq_getElem?_getD in
def uO (l:List Int)(hl:l.length<=5000)(H:List aA)(T:au):ar prog 146 [.sl l.length (ints l) .none] H T (Is (.sl l.length (ints l) .none) H T):=by
 refine ar.cut H T (agE _) (agE _) id (by simp) ?_;refine ah 3 [] Tryz.ntmps146 Tryz.func146 rfl (λ_ _=>Tryz.call146 _ _) (by simp) (λHO=>?_);apply ae;intro K Z;simp(disch:=omega);apply Z;refine af λK1 aP=>?_;refine ae λK hK=>?_;simp(disch:=omega) ;refine⟨hK _ ?_,λhe=>hK _ ?_⟩
 ·apply aF rfl;apply aq;simp(disch:=omega) ;apply aP;clear aP;apply ae;intro K Z;simp(disch:=omega);apply Z;apply az;simp(disch:=omega) 
 ·apply aH rfl;apply ae;intro K Z;simp(disch:=omega);apply Z;apply az;simp(disch:=omega)[he]
def SJ (H:List aA)(out:List Int)(tk:Nat):List aA:=H++[.cells [.sl out.length (ints out) (.own tk)]]
def TJ (T:au)(out:List Int):au:=T++[(out.length,1)]
def Ww (H:List aA)(out:List Int)(tk:Nat):(SJ H out tk).length=H.length+1:=by simp[SJ]
def GB (T:au)(out:List Int):(TJ T out).length=T.length+1:=by simp[TJ]
def Wl {H:List aA}{T:au}(h:bN H T)(out:List Int):bN (SJ H out T.length) (TJ T out):=bN.snoc (h.ko (by rw[GB];omega)) (by simp[GB])
attribute [-simp] getD_eq_getElem?_getD in
def D0 (a:List Int)(i:Nat)(hi:i<a.length)(v:AV)(out:List Int)(ho:out.length<=5000)(H:List aA)(T:au) :
  ar prog 183 [.dZ (ints a) i,v,.ptr H.length 0] (SJ H out T.length) (TJ T out) (Is (.df []) (SJ H (out++[a.getD i 0]) T.length) (TJ T (out++[a.getD i 0]))):=by
 have Mw:=bM (xs:=a) (k:=i) hi;have Cu:=eE out (a.getD i 0);simp only[SJ,TJ];refine ah 5 [] Tryz.ntmps183 Tryz.func183 rfl (λ_ _=>Tryz.call183 _ _) (by simp) (λHO=>?_);refine af λK1 aP=>?_;apply ae;intro K Z;simp(disch:=omega);apply Z;apply aF rfl;apply aq;simp(disch:=omega) ;apply aP;clear aP;refine cT [5,6] [0,0,0,0,0,0,1] [[],[]] aw (by kernel_rfl) (by kernel_rfl) λK hK=>?_;simp(disch:=omega)[Mw,Cu,hi];apply hK;exact⟨rfl,by simp,by simp⟩
attribute [-simp] getD_eq_getElem?_getD in
def Pw (b:List Int)(j:Nat)(hj:j<b.length)(out:List Int)(ho:out.length<=5000)(H:List aA)(T:au) :
  ar prog 183 [.fV,.dZ (ints b) j,.ptr H.length 0] (SJ H out T.length) (TJ T out) (Is (.df []) (SJ H (out++[b.getD j 0]) T.length) (TJ T (out++[b.getD j 0]))):=by
 have Mw:=bM (xs:=b) (k:=j) hj;have Cu:=eE out (b.getD j 0);simp only[SJ,TJ];refine ah 5 [] Tryz.ntmps183 Tryz.func183 rfl (λ_ _=>Tryz.call183 _ _) (by simp) (λHO=>?_);refine af λK1 aP=>?_;apply ae;intro K Z;simp(disch:=omega);apply Z;apply aH rfl;refine aC λK hK=>?_;simp(disch:=omega) ;apply hK;apply aP;clear aP;refine cT [5,6] [0,0,0,0,0,0,1] [[],[]] aw (by kernel_rfl) (by kernel_rfl) λK hK=>?_;simp(disch:=omega)[Mw,Cu,hj];apply hK;exact⟨rfl,by simp,by simp⟩
def jn (a b:List Int):List Int:=MG (λ_ _=>true) a b (a.length+b.length) 0 0 []
theorem SE (fA fB:List Int->Int->List Int):∀(n:Nat)(a b o:List Int),Jk fA fB (λo x _=>fA o x) n a b o=jB fA fB fA n a b o:=by
 intro n
 induction n with
 |zero=>intro a b o;rfl
 |succ n ih=>
  intro a b o
  cases a with
  |nil=>cases b with
   |nil=>rfl
   |cons y b=>exact ih _ _ _
  |cons x a=>cases b with
   |nil=>exact ih _ _ _
   |cons y b=>simp only[Jk,jB,ih]
attribute [-simp] getD_eq_getElem?_getD in
def LA (a b:List Int)(ha:a.length<=1000)(hb:b.length<=1000)(H:List aA)(T:au)(ta tb:Tag) :
  ar prog 147 [.sl a.length (ints a) ta,.sl b.length (ints b) tb] H T (Is (.sl (jn a b).length (ints (jn a b)) .none) H T):=by
 refine ar.cF (ar.tZ ?_);refine ar.bZ ?_ (by simp);have yI:MI (fun(o:List Int) x=>o++[x]) (λo x=>o++[x]) (λo x _=>o++[x]) a b (a.length+b.length) 0 0 []=jn a b:=SE _ _ _ _ _ _;have c:=λHO:bN H T=>Lo (β:=List Int) 183 [.ptr H.length 0] (λo x=>o++[x]) (λo x=>o++[x]) (λo x _=>o++[x])
  (λo=>SJ H o T.length) (λo=>TJ T o) (λn o=>o.length<=n) (H.length+1) (T.length+1) [] a b ha hb (λo=>Ww _ _ _) (λo=>GB _ _) (by simp)
  (λn o _=>Wl HO o) (agP _)
  (λn i o hi hn h=>D0 a i hi _ o (by omega) H T) (λn j o hj hn h=>Pw b j hj o (by omega) H T)
  (λn i j o hi hj hn h=>D0 a i hi _ o (by omega) H T)
  (λn i o _ h=>by simp;omega) (λn j o _ h=>by simp;omega) (λn i j o _ _ h=>by simp;omega)
 rw[yI] at c;generalize jn a b=r at *;have k1:(SJ H r T.length)[H.length]?=some (.cells [.sl r.length (ints r) (.own T.length)]):=by simp[SJ]
 have hH:∃rH,SJ H r T.length=H++rH:=⟨_,rfl⟩
 have hT:∃rT,TJ T r=T++rT:=⟨_,rfl⟩
 refine ah 6 [] Tryz.ntmps147 Tryz.func147 rfl (λ_ _=>Tryz.call147 _ _) (by simp) (λHO=>?_);have c1:=c HO;apply ae;intro K Z;simp(disch:=omega);apply Z;apply ae;intro K Z;simp(disch:=omega);apply Z;refine Jc 1 H 0 [] (by omega) (by simp) ?_;refine ae λK hK=>?_;simp(disch:=omega) ;refine ak (c1) ?_;simp(disch:=omega) ;apply hK;refine ae λK hK=>?_;simp(disch:=omega)[k1];apply hK;apply az;simp(disch:=omega) ;exact⟨hH,hT⟩
def jF (o:List Int)(x:Int):List Int:=if (λ_ _=>true:Bool->Bool->Bool) true false then o++[x] else o
def sN {a b:List Int}(ha:kn a)(hb:kn b)(n:Nat)(hn:a.length+b.length<=n)(o:List Int):jB jF jF jF n a b o=o++jB jF jF jF n a b []/\
  (∀z,z∈jB jF jF jF n a b []↔z∈a\/z∈b)/\kn (jB jF jF jF n a b []):=by
 obtain⟨g1,g2,g3⟩:=IN true true true n a b o hn ha hb;refine⟨g1,λz=>?_,g3⟩;refine(g2 z).trans ?_
 by_cases h1:z∈a<;>by_cases h2:z∈b<;>simp[h1,h2]
def pC {a b:List Int}(ha:kn a)(hb:kn b)(z:Int):z∈jn a b↔z∈a\/z∈b:=(sN ha hb _ (agE _) []).2.1 z
def wY {a b:List Int}(ha:kn a)(hb:kn b):kn (jn a b):=(sN ha hb _ (agE _) []).2.2
def SS {a b:List Int}(ha:kn a)(hb:kn b){n:Nat}(hn:a.length+b.length<=n):jB jF jF jF n a b []=jn a b:=by
 refine jZ _ _ (sN ha hb n hn []).2.2 (wY ha hb) λz=>?_;rw[(sN ha hb n hn []).2.1,pC ha hb]
def IT {a:List Int}(ha:kn a):jn a []=a:=jZ _ _ (wY ha List.Pairwise.nil) ha λz=>by rw[pC ha List.Pairwise.nil];simp
def IU {a:List Int}(ha:kn a):jn [] a=a:=jZ _ _ (wY List.Pairwise.nil ha) ha λz=>by rw[pC List.Pairwise.nil ha];simp
def AL (a b:PL)(d:Int):Int×List Int:=(d,jn (posOf a d) (posOf b d))
def MJ (a b:PL):PL:=(jn (aB a) (aB b)).map (AL a b)
def Ay (p:Int×List Int)(l:PL):aB (p::l)=p.1::aB l:=rfl
def DD {l:PL}{d:Int}(h:∀p∈l,d<p.1):posOf l d=[]:=rV λp hp e=>by have:=h p hp;omega
theorem Lm:∀(n:Nat)(a b o:PL),a.length+b.length<=n->kY a->kY b->(∀p∈a,kn p.2)->(∀p∈b,kn p.2)->
  y5 (λo x=>o++[x]) (λo y=>o++[y]) (λo x y=>o++[(x.1,jn x.2 y.2)]) n a b o=o++(jB jF jF jF n (aB a) (aB b) []).map (AL a b):=by
 intro n
 induction n with
 |zero=>
  intro a b o h _ _ _ _;have ha:a=[]:=ahe (by omega);subst ha;simp[y5,jB]
 |succ n ih=>
  intro a b o h ha hb pa pb;have step:∀(a' b':PL)(q:Int×List Int),kn (aB a')->kn (aB b')->(aB a').length+(aB b').length<=n->AL a b q.1=q->(∀d,d∈aB a'\/d∈aB b'->AL a' b' d=AL a b d)->
    (o++[q])++(jB jF jF jF n (aB a') (aB b') []).map (AL a' b')=o++(jB jF jF jF n (aB a') (aB b') [q.1]).map (AL a b):=by
   intro a' b' q g1 g2 g3 g4 g5;obtain⟨k1,k2,_⟩:=sN g1 g2 n g3 [q.1];rw[k1,agS,agV]
   congr 1
   have:(jB jF jF jF n (aB a') (aB b') []).map (AL a' b')=(jB jF jF jF n (aB a') (aB b') []).map (AL a b):=ahh λd hd=>g5 d ((k2 d).1 hd);rw[this];simp[g4]
  have mN:∀l:PL,(aB l).length=l.length:=λl=>by simp[aB]
  cases a with
  |nil=>
   cases b with
   |nil=>simp[y5,jB,aB]
   |cons y b=>
    obtain⟨h3,h4⟩:=jf hb;rw[y5,ih [] b _ (by simp at h ⊢;omega) ha h3 pa (λp hp=>pb p (by simp[hp])),step [] b y ha h3 (by rw[mN,mN];simp at h ⊢;omega)]
    ·rfl
    ·unfold AL;rw[dI,show posOf [] y.1=[] from rfl,IU (pb y (by simp))]
    ·intro d hd;have:y.1≠d:=by
      rcases hd with hd|hd
      ·simp[aB] at hd
      ·obtain⟨p,hp,e⟩:=agG.1 hd;have:=h4 p hp;omega
     unfold AL;rw[cV this]
  |cons x a=>
   obtain⟨h1,h2⟩:=jf ha
   cases b with
   |nil=>
    rw[y5,ih a [] _ (by simp at h ⊢;omega) h1 hb (λp hp=>pa p (by simp[hp])) pb,step a [] x h1 hb (by rw[mN,mN];simp at h ⊢;omega)]
    ·rfl
    ·unfold AL;rw[dI,show posOf [] x.1=[] from rfl,IT (pa x (by simp))]
    ·intro d hd;have:x.1≠d:=by
      rcases hd with hd|hd
      ·obtain⟨p,hp,e⟩:=agG.1 hd;have:=h2 p hp;omega
      ·simp[aB] at hd
     unfold AL;rw[cV this]
   |cons y b=>
    obtain⟨h3,h4⟩:=jf hb;simp only[ahd] at h;rw[Ay x a,Ay y b]
    by_cases c1:x.1<y.1
    ·have XA:∀p∈y::b,x.1<p.1:=λp hp=>by
      rcases ag6.1 hp with rfl|hp
      ·exact c1
      ·have:=h4 p hp;omega
     rw[y5,agN c1,ih a (y::b) _ (by simp;omega) h1 hb (λp hp=>pa p (by simp[hp])) pb,step a (y::b) x h1 hb (by rw[mN,mN];simp;omega),jB,agN c1]
     ·rfl
     ·unfold AL;rw[dI,DD XA,IT (pa x (by simp))]
     ·intro d hd;have:x.1≠d:=by
       rcases hd with hd|hd
       ·obtain⟨p,hp,e⟩:=agG.1 hd;have:=h2 p hp;omega
       ·obtain⟨p,hp,e⟩:=agG.1 hd;have:=XA p hp;omega
      unfold AL;rw[cV (l:=a) this]
    ·by_cases c2:y.1<x.1
     ·have TF:∀p∈x::a,y.1<p.1:=λp hp=>by
       rcases ag6.1 hp with rfl|hp
       ·exact c2
       ·have:=h2 p hp;omega
      rw[y5,agL c1,agN c2,ih (x::a) b _ (by simp;omega) ha h3 pa (λp hp=>pb p (by simp[hp])),step (x::a) b y ha h3 (by rw[mN,mN];simp;omega),jB,agL c1,agN c2]
      ·rfl
      ·unfold AL;rw[dI,DD TF,IU (pb y (by simp))]
      ·intro d hd;have:y.1≠d:=by
        rcases hd with hd|hd
        ·obtain⟨p,hp,e⟩:=agG.1 hd;have:=TF p hp;omega
        ·obtain⟨p,hp,e⟩:=agG.1 hd;have:=h4 p hp;omega
       unfold AL;rw[cV (l:=b) this]
     ·have e:x.1=y.1:=by omega
      rw[y5,agL c1,agL c2,ih a b _ (by omega) h1 h3 (λp hp=>pa p (by simp[hp])) (λp hp=>pb p (by simp[hp])),step a b (x.1,jn x.2 y.2) h1 h3 (by rw[mN,mN];omega),jB,agL c1,agL c2]
      ·rfl
      ·unfold AL;rw[dI,e,dI]
      ·intro d hd;have:x.1≠d:=by
        rcases hd with hd|hd
        ·obtain⟨p,hp,e⟩:=agG.1 hd;have:=h2 p hp;omega
        ·obtain⟨p,hp,e⟩:=agG.1 hd;have:=h4 p hp;omega
       unfold AL;rw[cV (l:=a) this,cV (l:=b) (by omega)]
def SD {a b:PL}(ha:kY a)(hb:kY b)(pa:∀p∈a,kn p.2)(pb:∀p∈b,kn p.2):y5 (λo x=>o++[x]) (λo y=>o++[y]) (λo x y=>o++[(x.1,jn x.2 y.2)]) (a.length+b.length) a b []=MJ a b:=by
 rw[Lm _ a b [] (agE _) ha hb pa pb,aic,SS (a:=aB a) (b:=aB b) ha hb (by simp[aB])];rfl
def SU (H:List aA)(out:PL)(tk:Nat):List aA:=H++[.cells [.sl out.length (bD out) (.own tk)]]
def Wv (H:List aA)(out:PL)(tk:Nat):(SU H out tk).length=H.length+1:=by simp[SU]
def Wk {H:List aA}{T:au}(h:bN H T)(out:PL):bN (SU H out T.length) (CA T out):=bN.snoc (h.ko (by rw[BO];omega)) (by simp[BO])
attribute [-simp] getD_eq_getElem?_getD in
def V0 (a:PL)(i:Nat)(hi:i<a.length)(ha:(a.getD i (0,[])).2.length<=5000)(out:PL)(ho:out.length<=5000)(H:List aA)(T:au) :
  ar prog 145 [.dZ (bD a) (i*2),.fV,.ptr H.length 0] (SU H out T.length) (CA T out) (Is (.df []) (SU H (out++[a.getD i (0,[])]) T.length) (CA T (out++[a.getD i (0,[])]))):=by
 have o9:=jW a i hi;have c:=uO (a.getD i (0,[])).2 ha (SU H out T.length) (CA T out);have tI:=nN out (a.getD i (0,[])).1 (a.getD i (0,[])).2;rw[show ((a.getD i (0,[])).1,(a.getD i (0,[])).2)=a.getD i (0,[]) from rfl] at tI;generalize a.getD i (0,[])=x at *;simp only[SU,CA] at c ⊢;refine ah 3 [] Tryz.ntmps145 Tryz.func145 rfl (λ_ _=>Tryz.call145 _ _) (by simp) (λHO=>?_);apply aj;apply ae;intro K Z;simp(disch:=omega);apply Z;apply aF rfl;apply ae;intro K Z;simp(disch:=omega);apply Z;apply aH rfl;refine cT [12,13] [0,0,0,0,0,0,0,0,0,0,0,0,0,1] [[],[]] aw (by kernel_rfl) (by kernel_rfl) λK hK=>?_;simp(disch:=omega)[o9.1,o9.2,bB,tI,hi];refine aD (c) rfl ?_;simp(disch:=omega)[o9.1,o9.2,bB,tI,hi];apply hK;exact⟨rfl,by simp,by simp⟩
attribute [-simp] getD_eq_getElem?_getD in
def VZ (b:PL)(j:Nat)(hj:j<b.length)(hb:(b.getD j (0,[])).2.length<=5000)(out:PL)(ho:out.length<=5000)(H:List aA)(T:au) :
  ar prog 145 [.fV,.dZ (bD b) (j*2),.ptr H.length 0] (SU H out T.length) (CA T out) (Is (.df []) (SU H (out++[b.getD j (0,[])]) T.length) (CA T (out++[b.getD j (0,[])]))):=by
 have o9:=jW b j hj;have c:=uO (b.getD j (0,[])).2 hb (SU H out T.length) (CA T out);have tI:=nN out (b.getD j (0,[])).1 (b.getD j (0,[])).2;rw[show ((b.getD j (0,[])).1,(b.getD j (0,[])).2)=b.getD j (0,[]) from rfl] at tI;generalize b.getD j (0,[])=x at *;simp only[SU,CA] at c ⊢;refine ah 3 [] Tryz.ntmps145 Tryz.func145 rfl (λ_ _=>Tryz.call145 _ _) (by simp) (λHO=>?_);apply aj;apply ae;intro K Z;simp(disch:=omega);apply Z;apply aH rfl;refine cT [12,13] [0,0,0,0,0,0,0,0,0,0,0,0,0,1] [[],[]] aw (by kernel_rfl) (by kernel_rfl) λK hK=>?_;simp(disch:=omega)[o9.1,o9.2,bB,tI,hj];refine aD (c) rfl ?_;simp(disch:=omega)[o9.1,o9.2,bB,tI,hj];apply hK;exact⟨rfl,by simp,by simp⟩
attribute [-simp] getD_eq_getElem?_getD in
def R5 (a b:PL)(i j:Nat)(hi:i<a.length)(hj:j<b.length)(ha:(a.getD i (0,[])).2.length<=1000)(hb:(b.getD j (0,[])).2.length<=1000)(out:PL)(ho:out.length<=5000)(H:List aA)(T:au) :
  ar prog 145 [.dZ (bD a) (i*2),.dZ (bD b) (j*2),.ptr H.length 0] (SU H out T.length) (CA T out) (Is (.df []) (SU H (out++[((a.getD i (0,[])).1,jn (a.getD i (0,[])).2 (b.getD j (0,[])).2)]) T.length) (CA T (out++[((a.getD i (0,[])).1,jn (a.getD i (0,[])).2 (b.getD j (0,[])).2)]))):=by
 have o9:=jW a i hi;have TO:=jW b j hj;have c:=LA (a.getD i (0,[])).2 (b.getD j (0,[])).2 ha hb (SU H out T.length) (CA T out) .none .none;have tI:=nN out (a.getD i (0,[])).1 (jn (a.getD i (0,[])).2 (b.getD j (0,[])).2);generalize a.getD i (0,[])=x at *;generalize b.getD j (0,[])=y at *;generalize jn x.2 y.2=r at *;simp only[SU,CA] at c ⊢;refine ah 3 [] Tryz.ntmps145 Tryz.func145 rfl (λ_ _=>Tryz.call145 _ _) (by simp) (λHO=>?_);apply aj;apply ae;intro K Z;simp(disch:=omega);apply Z;apply aF rfl;apply ae;intro K Z;simp(disch:=omega);apply Z;apply aF rfl;refine cT [16,17] [0,0,0,0,0,0,0,0,0,0,0,0,0,0,0,0,0,1] [[],[]] aw (by kernel_rfl) (by kernel_rfl) λK hK=>?_;simp(disch:=omega)[o9.1,o9.2,TO.1,TO.2,bB,tI,hi,hj];refine aD (c) rfl ?_;simp(disch:=omega)[o9.1,o9.2,bB,tI,hi];apply hK;exact⟨rfl,by simp,by simp⟩
def iU (a b:PL):PL:=if dS a=true/\dS b=true then MJ a b else []
attribute [-simp] getD_eq_getElem?_getD in
theorem Dm (a b:PL)(ha:a.length<=1000)(hb:b.length<=1000)(UR:∀p∈a,p.2.length<=1000)(UQ:∀p∈b,p.2.length<=1000)(H:List aA)(T:au)(ta tb:Tag) :
  ar prog 80 [.sl a.length (bD a) ta,.sl b.length (bD b) tb] H T (Is (.sl (iU a b).length (bD (iU a b)) .none) H T):=by
 refine ar.cF (ar.tZ ?_);refine ar.bZ ?_ (by simp);have kC:1000<=maxLen:=by decide
 have c1:=ju a (by omega) (λp h=>agJ (UR p h) kC) (H++[.cells [.sl 0 [] .full]]) T .none;have c2:=ju b (by omega) (λp h=>agJ (UQ p h) kC) (H++[.cells [.sl 0 [] .full]]) T .none;refine ah 6 [] Tryz.ntmps80 Tryz.func80 rfl (λ_ _=>Tryz.call80 _ _) (by simp) (λHO=>?_);apply ae;intro K Z;simp(disch:=omega);apply Z;apply ae;intro K Z;simp(disch:=omega);apply Z;refine af λK1 aP=>?_
 cases Cs:dS a with
 |false=>
  rw[Cs] at c1;refine ae λK hK=>?_;simp(disch:=omega) ;refine ak (c1) ?_;simp(disch:=omega) ;apply hK;apply aH rfl;apply ae;intro K Z;simp(disch:=omega);apply Z;apply az;simp(disch:=omega) ;simp[iU,Cs,bD]
 |true=>
  rw[Cs] at c1
  cases XF:dS b with
  |false=>
   rw[XF] at c2;refine ae λK hK=>?_;simp(disch:=omega) ;refine ak (c1) ?_;simp(disch:=omega) ;refine ak (c2) ?_;simp(disch:=omega) ;apply hK;apply aH rfl;apply ae;intro K Z;simp(disch:=omega);apply Z;apply az;simp(disch:=omega) ;simp[iU,XF,bD]
  |true=>
   rw[XF] at c2;obtain⟨a1,a2,a3⟩:=cU Cs;obtain⟨e1,e2,e3⟩:=cU XF;have hr:iU a b=MJ a b:=by unfold iU;rw[agN ⟨Cs,XF⟩]
   have yI:MP (λo x=>o++[x]) (λo y=>o++[y]) (λo x y=>o++[(x.1,jn x.2 y.2)]) a b (a.length+b.length) 0 0 []=MJ a b:=SD a1 e1 (λp hp=>(a3 p hp).2.1) (λp hp=>(e3 p hp).2.1);have c:=Ln (β:=PL) 145 [.ptr H.length 0] (λo x=>o++[x]) (λo y=>o++[y]) (λo x y=>o++[(x.1,jn x.2 y.2)])
    (λo=>SU H o T.length) (λo=>CA T o) (λn o=>o.length<=n) (H.length+1) (T.length+1) [] a b ha hb (λo=>Wv _ _ _) (λo=>BO _ _) (by simp)
    (λn o _=>Wk HO o) (agP _)
    (λn i o hi hn h=>V0 a i hi (by have:=UR _ (vJ a i (0,[]) hi);omega) o (by omega) H T) (λn j o hj hn h=>VZ b j hj (by have:=UQ _ (vJ b j (0,[]) hj);omega) o (by omega) H T)
    (λn i j o hi hj hn h=>R5 a b i j hi hj (UR _ (vJ a i _ hi)) (UQ _ (vJ b j _ hj)) o (by omega) H T)
    (λn i o _ h=>by simp;omega) (λn j o _ h=>by simp;omega) (λn i j o _ _ h=>by simp;omega)
   rw[yI,<-hr] at c;generalize iU a b=r at *;have k1:(SU H r T.length)[H.length]?=some (.cells [.sl r.length (bD r) (.own T.length)]):=by simp[SU]
   have hH:∃rH,SU H r T.length=H++rH:=⟨_,rfl⟩
   have hT:∃rT,CA T r=T++rT:=⟨_,rfl⟩
   refine ae λK hK=>?_;simp(disch:=omega) ;refine ak (c1) ?_;simp(disch:=omega) ;refine ak (c2) ?_;simp(disch:=omega) ;apply hK;apply aF rfl;apply aq;simp(disch:=omega) ;apply aP;clear aP;refine Jc 2 H 0 [] (by omega) (by simp) ?_;refine ae λK hK=>?_;simp(disch:=omega) ;refine ak (c) ?_;simp(disch:=omega) ;apply hK;refine ae λK hK=>?_;simp(disch:=omega)[k1];apply hK;apply az;simp(disch:=omega) ;exact⟨hH,hT⟩
def sH (l:PL):List Int:=if dS l=true then aB l else []
attribute [-simp] getD_eq_getElem?_getD in
theorem Ek (l:PL)(hl:l.length<=5000)(hp:∀p∈l,p.2.length<=maxLen)(H:List aA)(T:au)(tg:Tag) :
  ar prog 56 [.sl l.length (bD l) tg] H T (Is (.sl (sH l).length (ints (sH l)) .none) H T):=by
 refine ar.cF ?_;refine ar.bZ ?_ (by simp);have c1:=ju l hl hp H T .none;have c2:=tE l hl H T .none;refine ah 3 [] Tryz.ntmps56 Tryz.func56 rfl (λ_ _=>Tryz.call56 _ _) (by simp) (λHO=>?_);apply ae;intro K Z;simp(disch:=omega);apply Z;refine af λK1 aP=>?_
 cases hv:dS l with
 |false=>
  rw[hv] at c1;refine ae λK hK=>?_;simp(disch:=omega) ;refine ak (c1) ?_;simp(disch:=omega) ;apply hK;apply aH rfl;apply ae;intro K Z;simp(disch:=omega);apply Z;apply az;simp(disch:=omega) ;simp[sH,hv,ints]
 |true=>
  rw[hv] at c1;have hd:(sH l)=aB l:=by unfold sH;rw[agN hv]
  refine ae λK hK=>?_;simp(disch:=omega) ;refine ak (c1) ?_;simp(disch:=omega) ;apply hK;apply aF rfl;apply aq;simp(disch:=omega) ;apply aP;clear aP;refine ae λK hK=>?_;simp(disch:=omega) ;refine ak (c2) ?_;simp(disch:=omega) ;apply hK;apply az;simp(disch:=omega) ;rw[hd];simp[aB]
def gH (l:PL)(d:Int):Nat:=(l.takeWhile (λp=>decide (p.1<d))).length
def xj (l:PL)(d:Int):gH l d<=l.length:=(List.takeWhile_sublist _).length_le
theorem pI {l:PL}(h:kY l)(d:Int):∀j,j<l.length->((l.getD j (0,[])).1<d↔j<gH l d):=by
 induction l with
 |nil=>intro j hj;simp at hj
 |cons p l ih=>
  obtain⟨h1,h2⟩:=jf h;intro j hj;unfold gH
  by_cases hp:p.1<d
  ·rw[List.takeWhile_cons_of_pos (by simpa using hp)]
   cases j with
   |zero=>simp[hp]
   |succ j=>
    have:=ih h1 j (by simpa using hj);unfold gH at this;simp only[List.getD_cons_succ,ahd];omega
  ·rw[List.takeWhile_cons_of_neg (by simpa using hp)]
   cases j with
   |zero=>simp;omega
   |succ j=>
    have:=h2 _ (vJ l j (0,[]) (by simpa using hj));simp only[List.getD_cons_succ,ahV];omega
attribute [-simp] getD_eq_getElem?_getD in
theorem Sb (l:PL)(f0:Nat)(d:Int)(hl:l.length<=5000)(hs:kY l)(hf:f0<=gH l d)(H:List aA)(T:au) :
  ar prog 148 [.sl l.length (bD l) .none,.int .i64 (f0:Nat),.int .i64 d] H T (Is (.int .i64 (gH l d:Nat)) H T):=by
 have hle:=xj l d;have aZ:=pI hs d;generalize gH l d=N at *;refine ah 8 [] Tryz.ntmps148 Tryz.func148 rfl (λ_ _=>Tryz.call148 _ _) (by simp) (λHO=>?_);apply ae;intro K Z;simp(disch:=omega);apply Z;apply ae;intro K Z;simp(disch:=omega);apply Z;refine af λK1 aP=>?_;apply aj;refine aJ (X:=Nat×Nat) (λx=>⟨[(0,.sl l.length (bD l) .none),(1,.int .i64 (x.1:Nat)),(2,.int .i64 d),(7,.int .i64 (x.2:Nat))],H,T⟩) (λx=>x.1<=N/\x.2<=x.1+1/\∃k,x.2=2 ^ k) (λx=>l.length-x.1) (f0,1) ?_ ?_ ?_
 ·exact⟨hf,by simp,0,rfl⟩
 ·refine ag [] [] ?_ ?_ ?_ ?_ HO ?_
  all_goals simp
 ·rintro⟨f,s⟩ ⟨h1,h2,k,h3⟩;simp only at h1 h2 h3;have afZ:0<s:=by rw[h3];exact Nat.two_pow_pos k
  have fin:N<f+s->∀e,bC H.length T.length e [(0,.sl l.length (bD l) .none),(1,.int .i64 (f:Nat)),(2,.int .i64 d),(7,.int .i64 (s:Nat))]->K1 ⟨e,H,T⟩:=λhN e he=>by
   refine aP _ (aI ⟨[(0,.sl l.length (bD l) .none),(1,.int .i64 (f:Nat)),(2,.int .i64 d),(7,.int .i64 (s:Nat))],H,T⟩ (ag [] [] (by simp) (by simp) (by simp) (by simp) HO he) ?_);refine af λK5 lq=>?_;apply aj;refine aJ (X:=Nat×Nat) (λx=>⟨[(0,.sl l.length (bD l) .none),(1,.int .i64 (x.1:Nat)),(2,.int .i64 d),(7,.int .i64 (x.2:Nat))],H,T⟩) (λx=>x.1<=N/\x.2<=5001/\(x.2=0/\x.1=N\/(∃k,x.2=2 ^ k)/\N<x.1+2*x.2)) (λx=>x.2) (f,s) ?_ ?_ ?_
   ·exact⟨h1,by simp only;omega,.inr ⟨⟨k,h3⟩,by simp only;omega⟩⟩
   ·refine ag [] [] ?_ ?_ ?_ ?_ HO ?_
    all_goals simp
   ·rintro⟨g,t⟩ ⟨g1,g2,g3⟩;simp only at g1 g2 g3;refine af λK6 oe=>?_;apply ae;intro K Z;simp(disch:=omega);apply Z;rcases g3 with⟨g3,g4⟩|⟨⟨m,g3⟩,g4⟩
    ·subst g3;subst g4;apply aF rfl;apply aG;simp(disch:=omega) ;apply lq;clear lq;apply ae;intro K Z;simp(disch:=omega);apply Z;apply az;simp(disch:=omega) ;exact⟨rfl,rfl,rfl⟩
    ·have afY:0<t:=by rw[g3];exact Nat.two_pow_pos m
     have hq:∀g':Nat,g'<=N->N<g'+t->(g'<=N/\t / 2<=5001/\(t / 2=0/\g'=N\/(∃k,t / 2=2 ^ k)/\N<g'+2*(t / 2))):=λg' q1 q2=>by
      refine⟨q1,by omega,?_⟩
      cases m with
      |zero=>simp at g3;subst g3;exact .inl ⟨rfl,by omega⟩
      |succ m=>
       have e:t / 2=2 ^ m:=by rw[g3,pow_succ];omega
       refine .inr ⟨⟨m,e⟩,?_⟩;rw[e];rw[g3,pow_succ] at q2;omega
     have TU:(t:Int) / 2=((t / 2:Nat):Int):=by omega
     refine aU rfl (λh=>?_) (λh=>absurd h (by simp;omega));apply aq;simp(disch:=omega) ;apply oe;clear oe;refine af λK7 Q4=>?_;apply aj
     by_cases c1:g+t<=l.length
     ·have b1:decide ((g:Int)+t<=l.length)=true:=by simp;omega
      have ek:((g:Int)+t-1).toNat=g+t-1:=by omega
      have jl:=(jW l (g+t-1) (by omega)).1;have kr:=aZ (g+t-1) (by omega);have Rf:((g:Int)+t<=l.length):=by omega
      by_cases c2:(l.getD (g+t-1) (0,[])).1<d
      ·have b2:decide ((l.getD (g+t-1) (0,[])).1<d)=true:=by simpa using c2
       have:=kr.1 c2;refine ae λK hK=>?_;simp(disch:=omega)[b1,Rf,ek,jl,bB,b2,c2];apply hK;apply aH rfl;refine aC λK hK=>?_;simp(disch:=omega) ;apply hK;apply Q4;clear Q4;refine aC λK hK=>?_;simp(disch:=omega) ;apply hK;refine⟨(g+t,t / 2),hq (g+t) (by omega) (by omega),by show t / 2<t;omega,?_⟩;refine ag [] [] ?_ ?_ ?_ ?_ HO ?_
       all_goals simp
      ·have b2:decide ((l.getD (g+t-1) (0,[])).1<d)=false:=by simpa using c2
       have:¬g+t-1<N:=λhh=>c2 (kr.2 hh);refine ae λK hK=>?_;simp(disch:=omega)[b1,Rf,ek,jl,bB,b2,c2];apply hK;apply aF rfl;apply aq;simp(disch:=omega) ;apply Q4;clear Q4;refine aC λK hK=>?_;simp(disch:=omega) ;apply hK;refine⟨(g,t / 2),hq g (by omega) (by omega),by show t / 2<t;omega,?_⟩;refine ag [] [] ?_ ?_ ?_ ?_ HO ?_
       all_goals simp
     ·have b1:decide ((g:Int)+t<=l.length)=false:=by simp;omega
      have Rf:¬((g:Int)+t<=l.length):=by omega
      refine ae λK hK=>?_;simp(disch:=omega)[b1,Rf];apply hK;apply aF rfl;apply aq;simp(disch:=omega) ;apply Q4;clear Q4;refine aC λK hK=>?_;simp(disch:=omega) ;apply hK;refine⟨(g,t / 2),hq g (by omega) (by omega),by show t / 2<t;omega,?_⟩;refine ag [] [] ?_ ?_ ?_ ?_ HO ?_
      all_goals simp
  clear aP;refine af λK2 bp=>?_
  by_cases c1:f+s<=l.length
  ·have b1:decide ((f:Int)+s<=l.length)=true:=by simp;omega
   have Rf:((f:Int)+s<=l.length):=by omega
   have ek:((f:Int)+s-1).toNat=f+s-1:=by omega
   have jl:=(jW l (f+s-1) (by omega)).1;have kr:=aZ (f+s-1) (by omega)
   by_cases c2:(l.getD (f+s-1) (0,[])).1<d
   ·have b2:decide ((l.getD (f+s-1) (0,[])).1<d)=true:=by simpa using c2
    have:=kr.1 c2;refine ae λK hK=>?_;simp(disch:=omega)[b1,Rf,ek,jl,bB,b2,c2];apply hK;apply aH rfl;apply aq;simp(disch:=omega) ;apply bp;clear bp;apply aj;apply ae;intro K Z;simp(disch:=omega);apply Z;refine aC λK hK=>?_;simp(disch:=omega) ;apply hK;refine⟨(f+s,s*2),⟨by show f+s<=N;omega,by show s*2<=f+s+1;omega,k+1,by show s*2=2 ^ (k+1);rw[h3,pow_succ]⟩,by show l.length-(f+s)<l.length-f;omega,?_⟩;refine ag [] [] ?_ ?_ ?_ ?_ HO ?_
    all_goals simp
   ·have b2:decide ((l.getD (f+s-1) (0,[])).1<d)=false:=by simpa using c2
    have:¬f+s-1<N:=λhh=>c2 (kr.2 hh);refine ae λK hK=>?_;simp(disch:=omega)[b1,Rf,ek,jl,bB,b2,c2];apply hK;apply aF rfl;apply aG;simp(disch:=omega) ;exact fin (by omega) _ (by simp)
  ·have b1:decide ((f:Int)+s<=l.length)=false:=by simp;omega
   have Rf:¬((f:Int)+s<=l.length):=by omega
   refine ae λK hK=>?_;simp(disch:=omega)[b1,Rf];apply hK;apply aF rfl;apply aG;simp(disch:=omega) ;exact fin (by omega) _ (by simp)
def r5 (p:Int×List Int)(l:PL):aB (p::l)=p.1::aB l:=rfl
theorem T7 {a:PL}(h:kY a):a=(aB a).map (λd=>(d,posOf a d)):=by
 induction a with
 |nil=>rfl
 |cons p a ih=>
  obtain⟨h1,h2⟩:=jf h;have e:(aB a).map (λd=>(d,posOf (p::a) d))=(aB a).map (λd=>(d,posOf a d)):=ahh λd hd=>by
   obtain⟨q,hq,e⟩:=agG.1 hd;have:=h2 q hq;rw[cV (by omega)]
  show p::a=(p.1,posOf (p::a) p.1)::(aB a).map (λd=>(d,posOf (p::a) d));rw[e,<-ih h1,dI]
def EE {a b:PL}(ha:kY a)(hb:kY b)(h1:∀d,d∈aB a↔d∈aB b)(h2:∀d,d∈aB a->posOf a d=posOf b d):a=b:=by
 have e:aB a=aB b:=jZ _ _ ha hb h1;rw[T7 ha,T7 hb,<-e];exact ahh λd hd=>by rw[h2 d hd]
def Cq (l:PL)(ds:List Int):PL:=(ds.filter (λd=>decide (d∈aB l))).map (λd=>(d,posOf l d))
def Xt (l:PL)(ds:List Int):PL:=l.filter (λp=>decide (p.1∈ds))
theorem BY {l:PL}(h:kY l)(f:Int->Bool)(d:Int)(hf:f d=true):posOf (l.filter (λp=>f p.1)) d=posOf l d:=by
 induction l with
 |nil=>rfl
 |cons p l ih=>
  obtain⟨h1,h2⟩:=jf h
  by_cases hp:f p.1=true
  ·rw[ahQ (p:=λp:Int×List Int=>f p.1) hp];unfold posOf;rw[ih h1]
  ·rw[ahK (p:=λp:Int×List Int=>f p.1) hp,ih h1,cV (λe=>hp (by rw[e];exact hf))]
theorem z7 (g:Int->List Int)(ds:List Int)(d:Int)(h:d∈ds):posOf (ds.map (λd=>(d,g d))) d=g d:=by
 induction ds with
 |nil=>simp at h
 |cons x ds ih=>
  show (if x=d then g x else posOf (ds.map (λd=>(d,g d))) d)=g d
  by_cases e:x=d
  ·rw[agN e,e]
  ·rw[agL e];rcases ag6.1 h with h|h
   ·exact absurd h.symm e
   ·exact ih h
def Ej (g:Int->List Int)(ds:List Int):aB (ds.map (λd=>(d,g d)))=ds:=by
 unfold aB;rw[ahG];exact List.map_id ds
theorem Fo (f:Int->Bool)(l:PL):aB (l.filter (λp=>f p.1))=(aB l).filter f:=by
 induction l with
 |nil=>rfl
 |cons p l ih=>
  by_cases hp:f p.1=true
  ·rw[ahQ (p:=λp:Int×List Int=>f p.1) hp,r5,r5,ahQ hp,ih]
  ·rw[ahK (p:=λp:Int×List Int=>f p.1) hp,r5,ahK hp,ih]
def Ze {l:PL}{ds:List Int}(hl:kY l)(hd:kn ds):Xt l ds=Cq l ds:=by
 have e1:aB (Xt l ds)=(aB l).filter (λd=>decide (d∈ds)):=Fo (λd=>decide (d∈ds)) l;have e2:aB (Cq l ds)=ds.filter (λd=>decide (d∈aB l)):=Ej _ _;refine EE ?_ ?_ (λd=>?_) λd h=>?_
 ·show kn (aB (Xt l ds));rw[e1];exact hl.filter _
 ·show kn (aB (Cq l ds));rw[e2];exact hd.filter _
 ·rw[e1,e2,ag0,ag0];simp[and_comm]
 ·rw[e1,ag0] at h;have h2:=aiF h.2;have g1:posOf (Xt l ds) d=posOf l d:=BY hl (λd=>decide (d∈ds)) d h.2;have g2:posOf (Cq l ds) d=posOf l d:=z7 (posOf l) _ d (ag0.2 ⟨h2,agH h.1⟩);rw[g1,g2]
def Ph (l:PL)(ds:List Int)(k:Nat)(h:k<ds.length):Cq l (ds.take (k+1))=Cq l (ds.take k)++(if ds.getD k 0∈aB l then [(ds.getD k 0,posOf l (ds.getD k 0))] else []):=by
 unfold Cq;rw[Fk ds k (λd=>decide (d∈aB l)) h]
 by_cases hm:ds.getD k 0∈aB l
 ·rw[agN (by simpa using hm),agN hm,agS];rfl
 ·rw[agL (by simpa using hm),agL hm,ag2]
def Sv (l:PL)(ds:List Int):(Cq l ds).length<=ds.length:=by
 unfold Cq;rw[agU];exact ahf _ _
def G0 {l:PL}(h:kY l){d e:Int}(hd:d<=e):gH l d<=gH l e:=by
 rcases agM (gH l e) (gH l d) with h1|h1
 ·exfalso;have hle:=xj l d;have:=(pI h d (gH l e) (by omega)).2 h1;have:=(pI h e (gH l e) (by omega)).1 (by omega);omega
 ·exact h1
def KI {l:PL}(h:kY l)(d:Int):d∈aB l↔gH l d<l.length/\(l.getD (gH l d) (0,[])).1=d:=by
 constructor
 ·intro hm;obtain⟨p,hp,e⟩:=agG.1 hm;obtain⟨j,hj,e2⟩:=mc (0,[]) hp;have hjd:(l.getD j (0,[])).1=d:=by rw[e2];exact e
  have n1:=pI h d j hj;have:gH l d<=j:=by omega
  have aZ:gH l d<l.length:=by omega
  refine⟨aZ,?_⟩;have n2:=pI h d _ aZ;rcases agM (gH l d) j with h3|h3
  ·have:(aB l).getD (gH l d) 0<(aB l).getD j 0:=qh h h3 (by simp[aB];omega);have g:∀k,k<l.length->(aB l).getD k 0=(l.getD k (0,[])).1:=λk hk=>by
    simp[aB,agB,ahJ,agD hk]
   rw[g _ aZ,g _ hj] at this;omega
  ·have:gH l d=j:=by omega
   rw[this];exact hjd
 ·rintro⟨h1,h2⟩;exact agG.2 ⟨_,vJ l _ (0,[]) h1,h2⟩
def K9 {l:PL}(h:kY l){k:Nat}(hk:k<l.length):posOf l (l.getD k (0,[])).1=(l.getD k (0,[])).2:=qq h (vJ l k _ hk)
def lR (l:PL)(ds:List Int):PL:=if dS l=true/\oX ds 1 1000000000=true then Cq l ds else []
attribute [-simp] getD_eq_getElem?_getD in
theorem Su (l:PL)(ds:List Int)(hl:l.length<=1000)(hp:∀p∈l,p.2.length<=1000)(hd:ds.length<=1000)(H:List aA)(T:au)(ta tb:Tag) :
  ar prog 81 [.sl l.length (bD l) ta,.sl ds.length (ints ds) tb] H T (Is (.sl (lR l ds).length (bD (lR l ds)) .none) H T):=by
 refine ar.cF (ar.tZ ?_);refine ar.bZ ?_ (by simp);have kC:1000<=maxLen:=by decide
 have c1:=ju l (by omega) (λp h=>agJ (hp p h) kC) H T .none;have c2:=iu ds (by omega) H T .none;refine ah 21 [] Tryz.ntmps81 Tryz.func81 rfl (λ_ _=>Tryz.call81 _ _) (by simp) (λHO=>?_);apply ae;intro K Z;simp(disch:=omega);apply Z;apply ae;intro K Z;simp(disch:=omega);apply Z;refine af λK1 aP=>?_
 cases hv:dS l with
 |false=>
  rw[hv] at c1;refine ae λK hK=>?_;simp(disch:=omega) ;refine ak (c1) ?_;simp(disch:=omega) ;apply hK;apply aH rfl;apply ae;intro K Z;simp(disch:=omega);apply Z;apply az;simp(disch:=omega) ;simp[lR,hv,bD]
 |true=>
  rw[hv] at c1
  cases hw:oX ds 1 1000000000 with
  |false=>
   rw[hw] at c2;refine ae λK hK=>?_;simp(disch:=omega) ;refine ak (c1) ?_;simp(disch:=omega) ;refine ak (c2) ?_;simp(disch:=omega) ;apply hK;apply aH rfl;apply ae;intro K Z;simp(disch:=omega);apply Z;apply az;simp(disch:=omega) ;simp[lR,hw,bD]
  |true=>
   rw[hw] at c2;obtain⟨a1,a2,a3⟩:=cU hv;have XS:=kg hw;have hr:lR l ds=Cq l ds:=by unfold lR;rw[agN ⟨hv,hw⟩]
   refine ae λK hK=>?_;simp(disch:=omega) ;refine ak (c1) ?_;simp(disch:=omega) ;refine ak (c2) ?_;simp(disch:=omega) ;apply hK;apply aF rfl;apply aq;simp(disch:=omega) ;apply aP;clear aP;apply ae;intro K Z;simp(disch:=omega);apply Z;refine af λK1 aP=>?_;apply ae;intro K Z;simp(disch:=omega);apply Z;apply aj;refine mX 5 0 2 [] (by omega) (by simp) ?_;refine aJ (X:=Nat×Nat) (λx=>⟨[(0,.sl l.length (bD l) .none),(5,.sl (Cq l (ds.take x.1)).length (bD (Cq l (ds.take x.1))) (.own T.length)),(6,.int .i64 (x.2:Nat)),(18,.sl ds.length (ints ds) .none),(19,.int .i64 (ds.length:Nat)),(20,.int .i64 (x.1:Nat))],H,T++[((Cq l (ds.take x.1)).length*2,2)]⟩) (λx=>x.1<=ds.length/\(x.1<ds.length->x.2<=gH l (ds.getD x.1 0))/\x.2<=1000) (λx=>ds.length-x.1) (0,0) ?_ ?_ ?_
   ·exact⟨agP _,λ_=>agP _,by simp⟩
   ·refine ag [] [] ?_ ?_ ?_ ?_ (HO.ko (by simp)) ?_
    all_goals simp[sX,Cq]
   ·rintro⟨k,at_⟩ ⟨h1,h2,h3⟩;simp only at h1 h2 h3;have hlen:=Sv l (ds.take k);rw[ag5] at hlen;apply ae;intro K Z;simp(disch:=omega);apply Z;refine af λK2 bp=>?_;refine aU rfl (λhk=>?_) (λhk=>?_)
    ·simp  at hk;have hgk:=bM (xs:=ds) (k:=k) hk;have gA:=Ph l ds k hk;have Qr:=KI a1 (ds.getD k 0);have WM:=xj l (ds.getD k 0);have c3:=Sb l at_ (ds.getD k 0) (by omega) a1 (h2 hk) H (T++[((Cq l (ds.take k)).length*2,2)]);have lF:k+1<ds.length->gH l (ds.getD k 0)<=gH l (ds.getD (k+1) 0):=λhh=>G0 a1 (Int.le_of_lt (qh XS (by omega) hh));have hpg:∀m,m<l.length->(l.getD m (0,[])).1=ds.getD k 0->posOf l (ds.getD k 0)=(l.getD m (0,[])).2:=λm hm e=>by rw[<-e];exact K9 a1 hm
     generalize Cq l (ds.take k)=out at *;generalize hdd:ds.getD k 0=d at *;generalize gH l d=N at *;apply aq;simp(disch:=omega) ;apply bp;clear bp;refine af λK3 bG=>?_;apply aj;refine ae λK hK=>?_;simp(disch:=omega)[hgk,hk];apply hK;refine ae λK hK=>?_;simp(disch:=omega) ;refine ak (c3) ?_;simp(disch:=omega) ;apply hK
     by_cases c1:N<l.length
     ·have b1:decide ((N:Int)<l.length)=true:=by simp;omega
      have jl:=jW l N c1;have zb:=hp _ (vJ l N (0,[]) c1);have aea:=hpg N c1;generalize l.getD N (0,[])=p at *
      by_cases c2:p.1=d
      ·have b2:(p.1==d)=true:=by simpa using c2
       have hm:d∈aB l:=Qr.2 ⟨c1,c2⟩;rw[agN hm,aea c2] at gA;have tI:=nN out d p.2;have c4:=uO p.2 (by omega) H (T++[(out.length*2,2)]);refine ae λK hK=>?_;simp(disch:=omega)[b1,c1,jl.1,bB,b2];apply hK;apply aH rfl;refine aC λK hK=>?_;simp(disch:=omega)[jl.2,bB,tI,c1];refine ak (c4) ?_;simp(disch:=omega)[tI,bB];apply hK;apply bG;clear bG;refine aC λK hK=>?_;simp(disch:=omega) ;apply hK;refine⟨(k+1,N),⟨by show k+1<=_;omega,lF,by show N<=1000;omega⟩,by show ds.length-(k+1)<ds.length-k;omega,?_⟩;simp only[gA];refine ag [] [] ?_ ?_ ?_ ?_ (HO.ko (by simp)) ?_
       all_goals simp
      ·have b2:(p.1==d)=false:=by simpa using c2
       have hm:¬d∈aB l:=λh=>c2 (Qr.1 h).2;rw[agL hm,ag2] at gA;refine ae λK hK=>?_;simp(disch:=omega)[b1,c1,jl.1,bB,b2];apply hK;apply aF rfl;apply aq;simp(disch:=omega) ;apply bG;clear bG;refine aC λK hK=>?_;simp(disch:=omega) ;apply hK;refine⟨(k+1,N),⟨by show k+1<=_;omega,lF,by show N<=1000;omega⟩,by show ds.length-(k+1)<ds.length-k;omega,?_⟩;simp only[gA];refine ag [] [] ?_ ?_ ?_ ?_ (HO.ko (by simp)) ?_
       all_goals simp
     ·have b1:decide ((N:Int)<l.length)=false:=by simp;omega
      have hm:¬d∈aB l:=λh=>c1 (Qr.1 h).1;rw[agL hm,ag2] at gA;refine ae λK hK=>?_;simp(disch:=omega)[b1,c1];apply hK;apply aF rfl;apply aq;simp(disch:=omega) ;apply bG;clear bG;refine aC λK hK=>?_;simp(disch:=omega) ;apply hK;refine⟨(k+1,N),⟨by show k+1<=_;omega,lF,by show N<=1000;omega⟩,by show ds.length-(k+1)<ds.length-k;omega,?_⟩;simp only[gA];refine ag [] [] ?_ ?_ ?_ ?_ (HO.ko (by simp)) ?_
      all_goals simp
    ·simp at hk;have:k=ds.length:=by omega
     subst this;rw[agZ];apply aG;simp(disch:=omega) ;apply aP;clear aP;apply ae;intro K Z;simp(disch:=omega);apply Z;apply az;simp(disch:=omega) ;rw[hr];exact⟨rfl,rfl⟩
def VL (l:PL):Prop:=dS l=true
def Ke {l:PL}(h1:kY l)(h2:∀p∈l,1<=p.1/\p.1<=1000000000)(h3:∀p∈l,p.2≠[]/\kn p.2/\∀q∈p.2,0<=q/\q<=1000000):VL l:=by
 unfold VL dS;rw[agO];refine⟨mY h1 λq hq=>?_,?_⟩
 ·obtain⟨p,hp,rfl⟩:=agG.1 hq;exact h2 p hp
 ·have:l.any nD=false:=by
   rw[aiv];intro p hp;obtain⟨g1,g2,g3⟩:=h3 p hp;have e:oX p.2 0 1000000=true:=mY g2 g3;simp[nD,e,g1]
  rw[this];rfl
theorem ua {l:PL}{d z:Int}(h:z∈posOf l d):∃p∈l,p.1=d/\posOf l d=p.2:=by
 induction l with
 |nil=>simp[posOf] at h
 |cons p l ih=>
  by_cases e:p.1=d
  ·subst e;exact⟨p,by simp,rfl,dI⟩
  ·rw[cV e] at h ⊢;obtain⟨q,g1,g2,g3⟩:=ih h;exact⟨q,by simp[g1],g2,g3⟩
theorem gy {l:PL}(h:VL l)(d:Int):kn (posOf l d):=by
 cases e:posOf l d with
 |nil=>exact List.Pairwise.nil
 |cons z r=>
  obtain⟨p,h1,_,h3⟩:=ua (l:=l) (d:=d) (z:=z) (by rw[e];simp);rw[<-e,h3];exact((cU h).2.2 p h1).2.1
def wj {l:PL}(h:VL l)(d:Int):d∈aB l↔∃z,z∈posOf l d:=by
 obtain⟨a1,a2,a3⟩:=cU h
 constructor
 ·intro hd;obtain⟨p,hp,rfl⟩:=agG.1 hd;rw[qq a1 hp];exact ah4 _ (a3 p hp).1
 ·rintro⟨z,hz⟩;obtain⟨p,h1,h2,_⟩:=ua hz;exact agG.2 ⟨p,h1,h2⟩
def Yo {a b:PL}(ha:VL a)(hb:VL b)(h:∀d z,z∈posOf a d↔z∈posOf b d):a=b:=by
 refine EE (cU ha).1 (cU hb).1 (λd=>?_) λd _=>jZ _ _ (gy ha d) (gy hb d) (h d);rw[wj ha,wj hb];exact exists_congr (h d)
def zM {a b:PL}(ha:VL a)(hb:VL b):iU a b=MJ a b:=by unfold iU;rw[agN ⟨ha,hb⟩]
def Ei (a b:PL):aB (MJ a b)=jn (aB a) (aB b):=Ej (λd=>jn (posOf a d) (posOf b d)) _
def K0 {a b:PL}(ha:VL a)(hb:VL b)(d:Int):posOf (MJ a b) d=jn (posOf a d) (posOf b d):=by
 by_cases h:d∈jn (aB a) (aB b)
 ·exact z7 (λd=>jn (posOf a d) (posOf b d)) _ d h
 ·have e:posOf (MJ a b) d=[]:=xo (by rw[show (MJ a b).map (·.1)=aB (MJ a b) from rfl,Ei];exact h);rw[pC (a:=aB a) (b:=aB b) (cU ha).1 (cU hb).1] at h;have e1:posOf a d=[]:=xo (λhh=>h (.inl hh));have e2:posOf b d=[]:=xo (λhh=>h (.inr hh));rw[e,e1,e2];rfl
def NQ {a b:PL}(ha:VL a)(hb:VL b)(d z:Int):z∈posOf (iU a b) d↔z∈posOf a d\/z∈posOf b d:=by
 rw[zM ha hb,K0 ha hb,pC (gy ha d) (gy hb d)]
def Yp {a b:PL}(ha:VL a)(hb:VL b):VL (iU a b):=by
 obtain⟨a1,a2,a3⟩:=cU ha;obtain⟨b1,b2,b3⟩:=cU hb;rw[zM ha hb];have key:∀d,d∈jn (aB a) (aB b)->d∈aB a\/d∈aB b:=λd hd=>(pC a1 b1 d).1 hd;refine Ke ?_ (λp hp=>?_) λp hp=>?_
 ·show kn (aB (MJ a b));rw[Ei];exact wY a1 b1
 ·obtain⟨d,hd,rfl⟩:=agG.1 hp;rcases key d hd with h|h
  ·obtain⟨q,hq,e⟩:=agG.1 h;have:=a2 q hq;rw[e] at this;exact this
  ·obtain⟨q,hq,e⟩:=agG.1 h;have:=b2 q hq;rw[e] at this;exact this
 ·obtain⟨d,hd,rfl⟩:=agG.1 hp;refine⟨λe=>?_,wY (gy ha d) (gy hb d),λq hq=>?_⟩
  ·have e':jn (posOf a d) (posOf b d)=[]:=e;have oh:∀z,¬(z∈posOf a d\/z∈posOf b d):=λz hz=>by
    rw[<-pC (gy ha d) (gy hb d),e'] at hz;simp at hz
   rcases key d hd with h|h
   ·obtain⟨z,hz⟩:=(wj ha d).1 h;exact oh z (.inl hz)
   ·obtain⟨z,hz⟩:=(wj hb d).1 h;exact oh z (.inr hz)
  ·rcases (pC (gy ha d) (gy hb d) q).1 hq with h|h
   ·obtain⟨p,h1,_,h3⟩:=ua h;rw[h3] at h;exact(a3 p h1).2.2 q h
   ·obtain⟨p,h1,_,h3⟩:=ua h;rw[h3] at h;exact(b3 p h1).2.2 q h
section
variable {a b c : PL} (ha : VL a) (hb : VL b) (hc : VL c)
include ha
include hb
include hc
end
end Go.Proofs.YtoejlmpbebjemaaGreat
