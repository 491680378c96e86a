/- Posting lists: what is kept of them by a test on positions; laws on lists. What is kept of a posting: the function that filtered gives to merge. Merging of posting lists in layer 38. filtered of layer 38, and Near. Lists of posting lists in layer 38, and which of them are valid. Phrase of layer 38. The example of the document of layer 38 holds. At and Near of the reference of layer 38. Phrase of the reference of layer 38. PostingSets: the walk. And, Or, Without obey the laws of sets. Merging of lists of numbers in layer 38, for any function that takes the numbers. The parts of Union in layer 38: copies, joined. The union of posting lists: going through both is the same as collecting the positions of each document. Union of layer 38. Union of the reference of layer 38. Docs, Seek and Count of layer 38 and of its reference. seek of layer 38: by doubling steps, which are halved again. Posting lists: which of them are equal; the postings of some documents. Only of layer 38 and of its reference. Valid posting lists: they are their documents and positions; the laws of Union, Phrase, Near.
  Conditions: as the theorems say. -/
import Derived.Test.YtoejlmpbebjemaaGreatPA
import Derived.Test.YtoejlmpbebjemaaGreatPB
import Derived.Test.YtoejlmpbebjemaaGreatAmC
set_option linter.all false
set_option maxRecDepth 100000
set_option maxHeartbeats 4000000
open Nat (pow_succ)
open List (getD_eq_getElem?_getD)
namespace cL
abbrev PL:=List (Int×List Int)
def posOf:PL->Int->List Int
 |[],_=>[]
 |p::l,d=>if p.1=d then p.2 else posOf l d
def zl {β:Type}(fA fB:β->(Int×List Int)->β)(fAB:β->(Int×List Int)->(Int×List Int)->β):Nat->PL->PL->β->β
 |0,_,_,o=>o
 |n+1,x::a,y::b,o=>if x.1<y.1 then zl fA fB fAB n a (y::b) (fA o x) else if y.1<x.1 then zl fA fB fAB n (x::a) b (fB o y) else zl fA fB fAB n a b (fAB o x y)
 |n+1,x::a,[],o=>zl fA fB fAB n a [] (fA o x)
 |n+1,[],y::b,o=>zl fA fB fAB n [] b (fB o y)
 |_+1,[],[],o=>o
def lq (l:PL):Prop:=kz (l.map (·.1))
def jm {x:Int×List Int}{l:PL}(h:lq (x::l)):lq l/\∀y∈l,x.1<y.1:=by
 obtain⟨h1,h2⟩:=mr h;exact⟨h1,λy hy=>h2 _ (ahl.2 ⟨y,hy,rfl⟩)⟩
def cV {p:Int×List Int}{l:PL}{d:Int}(h:p.1≠d):posOf (p::l) d=posOf l d:=by simp[posOf,h]
def dK {p:Int×List Int}{l:PL}:posOf (p::l) p.1=p.2:=by simp[posOf]
theorem rX {l:PL}{d:Int}(h:∀p∈l,p.1≠d):posOf l d=[]:=by
 induction l with
 |nil=>rfl
 |cons p l ih=>rw[cV (h p (by simp)),ih (λq hq=>h q (by simp[hq]))]
end cL
namespace Go.Proofs.YtoejlmpbebjemaaGreat
open Go.Proofs.Tryz(prog)
open Go Go.Am cL
def CY (T:au)(out:PL):au:=T++[(out.length*2,2)]
def Cf (T:au)(out:PL):(CY T out).length=T.length+1:=by simp[CY]
attribute [-simp] getD_eq_getElem?_getD in
def pK (p:Int×List Int)(H:List az)(T:au):ar prog 144 [.agg [.int .i64 p.1,.sl p.2.length (ints p.2) .none]] H T (Is (.int .i64 p.1) H T):=by
 refine ar.bV ?_ (by simp);refine ah 3 [] Tryz.ntmps144 Tryz.func144 rfl (λ_ _=>Tryz.call144 _ _) (by simp) (λHO=>?_);apply ae;intro K Z;simp(disch:=omega);apply Z;apply ae;intro K Z;simp(disch:=omega);apply Z;apply ay;simp(disch:=omega) 
def ie (l:PL)(i:Nat)(h:i<l.length):l.drop i=l.getD i (0,[])::l.drop (i+1):=by
 rw[aiK h,ahg,ahi h];rfl
def MP {β:Type}(fA fB:β->(Int×List Int)->β)(fAB:β->(Int×List Int)->(Int×List Int)->β)(a b:PL)(n i j:Nat)(o:β):β:=zl fA fB fAB n (a.drop i) (b.drop j) o
section
variable {β : Type} {fA fB : β -> (Int × List Int) -> β} {fAB : β -> (Int × List Int) -> (Int × List Int) -> β} {a b : PL} {o : β} {n i j : Nat}
def afH (hn:0<n)(hi:i<a.length)(hj:j<b.length)(h:(a.getD i (0,[])).1<(b.getD j (0,[])).1):MP fA fB fAB a b n i j o=MP fA fB fAB a b (n-1) (i+1) j (fA o (a.getD i (0,[]))):=by
 obtain⟨m,rfl⟩:∃m,n=m+1:=⟨n-1,by omega⟩
 unfold MP;rw[ie a i hi,ie b j hj,zl,ahs h];rfl
def afG (hn:0<n)(hi:i<a.length)(hj:j<b.length)(h:¬(a.getD i (0,[])).1<(b.getD j (0,[])).1)(h2:(b.getD j (0,[])).1<(a.getD i (0,[])).1):MP fA fB fAB a b n i j o=MP fA fB fAB a b (n-1) i (j+1) (fB o (b.getD j (0,[]))):=by
 obtain⟨m,rfl⟩:∃m,n=m+1:=⟨n-1,by omega⟩
 unfold MP;rw[ie a i hi,ie b j hj,zl,ahq h,ahs h2];rfl
def aaz (hn:0<n)(hi:i<a.length)(hj:j<b.length)(h:¬(a.getD i (0,[])).1<(b.getD j (0,[])).1)(h2:¬(b.getD j (0,[])).1<(a.getD i (0,[])).1):MP fA fB fAB a b n i j o=MP fA fB fAB a b (n-1) (i+1) (j+1) (fAB o (a.getD i (0,[])) (b.getD j (0,[]))):=by
 obtain⟨m,rfl⟩:∃m,n=m+1:=⟨n-1,by omega⟩
 unfold MP;rw[ie a i hi,ie b j hj,zl,ahq h,ahq h2];rfl
def aaA (hn:0<n)(hi:i<a.length)(hj:j=b.length):MP fA fB fAB a b n i j o=MP fA fB fAB a b (n-1) (i+1) j (fA o (a.getD i (0,[]))):=by
 obtain⟨m,rfl⟩:∃m,n=m+1:=⟨n-1,by omega⟩
 unfold MP;rw[ie a i hi,hj,aim,zl];rfl
def aay (hn:0<n)(hi:i=a.length)(hj:j<b.length):MP fA fB fAB a b n i j o=MP fA fB fAB a b (n-1) i (j+1) (fB o (b.getD j (0,[]))):=by
 obtain⟨m,rfl⟩:∃m,n=m+1:=⟨n-1,by omega⟩
 unfold MP;rw[ie b j hj,hi,aim,zl];rfl
def Xp (hi:i=a.length)(hj:j=b.length):MP fA fB fAB a b n i j o=o:=by
 unfold MP;rw[hi,hj,aim,aim]
 cases n<;>rfl
end
attribute [-simp] getD_eq_getElem?_getD in
def Md {β:Type}(g:Nat)(bY:List AV)(fA fB:β->(Int×List Int)->β)(fAB:β->(Int×List Int)->(Int×List Int)->β)(S:β->List az)(U:β->au)(I:Nat->β->Prop)(N M:Nat)(o0:β)
  (a b:PL) (ha:a.length<=1000) (hb:b.length<=1000) (hS:∀o,(S o).length=N) (hU:∀o,(U o).length=M) (qP:aK N M bY) (jK:∀n o,I n o->bJ (S o) (U o)) (h0:I 0 o0)
  (cA:∀n i o,i<a.length->n<=2000->I n o->ar prog g ([.eh (bA a) (i*2),.gn]++bY) (S o) (U o) (Is (.df []) (S (fA o (a.getD i (0,[])))) (U (fA o (a.getD i (0,[]))))))
  (cB:∀n j o,j<b.length->n<=2000->I n o->ar prog g ([.gn,.eh (bA b) (j*2)]++bY) (S o) (U o) (Is (.df []) (S (fB o (b.getD j (0,[])))) (U (fB o (b.getD j (0,[]))))))
  (cAB:∀n i j o,i<a.length->j<b.length->n<=2000->I n o->ar prog g ([.eh (bA a) (i*2),.eh (bA b) (j*2)]++bY) (S o) (U o) (Is (.df []) (S (fAB o (a.getD i (0,[])) (b.getD j (0,[])))) (U (fAB o (a.getD i (0,[])) (b.getD j (0,[]))))))
  (iA:∀n i o,i<a.length->I n o->I (n+1) (fA o (a.getD i (0,[])))) (iB:∀n j o,j<b.length->I n o->I (n+1) (fB o (b.getD j (0,[])))) (Yj:∀n i j o,i<a.length->j<b.length->I n o->I (n+2) (fAB o (a.getD i (0,[])) (b.getD j (0,[])))) :
  ar prog 143 [.sl a.length (bA a) .none,.sl b.length (bA b) .none,.fn 144 [] [],.fn g [] bY] (S o0) (U o0)
   (Is (.df []) (S (MP fA fB fAB a b (a.length+b.length) 0 0 o0)) (U (MP fA fB fAB a b (a.length+b.length) 0 0 o0))):=by
 refine ah 11 [] Tryz.ntmps143 Tryz.func143 rfl (λ_ _=>Tryz.call143 _ _) (by simp) (λHO=>?_);apply ae;intro K Z;simp(disch:=omega);apply Z;apply aj;refine aI (X:=Nat×Nat×Nat×β) (λx=>⟨[(0,.sl a.length (bA a) .none),(1,.sl b.length (bA b) .none),(2,.fn 144 [] []),(3,.fn g [] bY),(8,.int .i64 (x.2.1:Nat)),(9,.int .i64 (x.2.2.1:Nat))],S x.2.2.2,U x.2.2.2⟩)
  (λx=>x.2.1<=a.length/\x.2.2.1<=b.length/\(a.length-x.2.1)+(b.length-x.2.2.1)<=x.1/\MP fA fB fAB a b (a.length+b.length) 0 0 o0=MP fA fB fAB a b x.1 x.2.1 x.2.2.1 x.2.2.2/\I (x.2.1+x.2.2.1) x.2.2.2) (λx=>x.1) (a.length+b.length,0,0,o0) ?_ ?_ ?_
 ·exact⟨ahu _,ahu _,by simp only;omega,rfl,h0⟩
 ·refine ag [] [] ?_ ?_ ?_ ?_ HO ?_
  ·simp
  ·simp
  ·simp
  ·simp
  ·simp[hS,hU,qP]
 ·rintro⟨n,i,j,out⟩ ⟨h1,h2,h3,h4,h5⟩;simp only at h1 h2 h3 h4 h5
  by_cases hi:i<a.length
  ·have bi:decide ((i:Int)<a.length)=true:=by simp;omega
   have ni:((i:Int)==a.length)=false:=by rw[ah5];omega
   have UE:¬i=a.length:=by omega
   have RS:=mj a i hi
   by_cases hj:j<b.length
   ·have bj:decide ((j:Int)<b.length)=true:=by simp;omega
    have nj:((j:Int)==b.length)=false:=by rw[ah5];omega
    have IW:¬j=b.length:=by omega
    have hcb:=mj b j hj;have hn:0<n:=by omega
    refine af λK2 bc=>?_;refine ae λK hK=>?_;simp(disch:=omega)[bi,bj,hi,hj];apply hK;apply aG rfl;apply aq;simp(disch:=omega) ;apply bc;clear bc;apply aj;apply aj
    by_cases c1:(a.getD i (0,[])).1<(b.getD j (0,[])).1
    ·have b1:decide ((a.getD i (0,[])).1<(b.getD j (0,[])).1)=true:=by simpa using c1
     have hst:=afH (fA:=fA) (fB:=fB) (fAB:=fAB) (o:=out) hn hi hj c1;refine aJ [] [] [] aw (by kernel_rfl) (by kernel_rfl) λK hK=>?_;simp(disch:=omega)[bi,hi,nj,IW,RS,bt];refine aC (pK _ _ _) rfl ?_;simp(disch:=omega)[hcb,bt];refine aC (pK _ _ _) rfl ?_;simp(disch:=omega)[b1,c1];apply hK;apply aG rfl;refine ae λK hK=>?_;simp(disch:=omega)[bt];refine ak (cA (i+j) i out hi (by omega) h5) ?_;simp(disch:=omega) ;apply hK;refine aB λK hK=>?_;simp(disch:=omega) ;apply hK;refine⟨(n-1,i+1,j,fA out (a.getD i (0,[]))),⟨by show i+1<=a.length;omega,by show j<=b.length;omega,by show (a.length-(i+1))+(b.length-(j))<=n-1;omega,h4.trans hst,(show I (i+1+j) _ by rw[show i+1+j=i+j+1 by omega];exact iA _ i out hi h5)⟩,by show n-1<n;omega,?_⟩;refine ag [] [] ?_ ?_ ?_ ?_ (jK _ _ ((show I (i+1+j) _ by rw[show i+1+j=i+j+1 by omega];exact iA _ i out hi h5))) ?_
     ·simp
     ·simp
     ·simp[hS]
     ·simp[hU]
     ·simp[hS,hU,qP]
      try omega
    ·have b1:decide ((a.getD i (0,[])).1<(b.getD j (0,[])).1)=false:=by simpa using c1
     refine aJ [] [] [] aw (by kernel_rfl) (by kernel_rfl) λK hK=>?_;simp(disch:=omega)[bi,hi,nj,IW,RS,bt];refine aC (pK _ _ _) rfl ?_;simp(disch:=omega)[hcb,bt];refine aC (pK _ _ _) rfl ?_;simp(disch:=omega)[b1,c1];apply hK;apply aD rfl
     by_cases c2:(b.getD j (0,[])).1<(a.getD i (0,[])).1
     ·have b2:decide ((b.getD j (0,[])).1<(a.getD i (0,[])).1)=true:=by simpa using c2
      have hst:=afG (fA:=fA) (fB:=fB) (fAB:=fAB) (o:=out) hn hi hj c1 c2;refine aJ [] [] [] aw (by kernel_rfl) (by kernel_rfl) λK hK=>?_;simp(disch:=omega)[ni,UE,hcb,bt,hj];refine aC (pK _ _ _) rfl ?_;simp(disch:=omega)[RS,bt];refine aC (pK _ _ _) rfl ?_;simp(disch:=omega)[b2,c2];apply hK;apply aG rfl;refine ae λK hK=>?_;simp(disch:=omega)[bt];refine ak (cB (i+j) j out hj (by omega) h5) ?_;simp(disch:=omega) ;apply hK;refine aB λK hK=>?_;simp(disch:=omega) ;apply hK;refine⟨(n-1,i,j+1,fB out (b.getD j (0,[]))),⟨by show i<=a.length;omega,by show j+1<=b.length;omega,by show (a.length-(i))+(b.length-(j+1))<=n-1;omega,h4.trans hst,(show I (i+(j+1)) _ from iB _ j out hj h5)⟩,by show n-1<n;omega,?_⟩;refine ag [] [] ?_ ?_ ?_ ?_ (jK _ _ ((show I (i+(j+1)) _ from iB _ j out hj h5))) ?_
      ·simp
      ·simp
      ·simp[hS]
      ·simp[hU]
      ·simp[hS,hU,qP]
       try omega
     ·have b2:decide ((b.getD j (0,[])).1<(a.getD i (0,[])).1)=false:=by simpa using c2
      have hst:=aaz (fA:=fA) (fB:=fB) (fAB:=fAB) (o:=out) hn hi hj c1 c2;refine aJ [] [] [] aw (by kernel_rfl) (by kernel_rfl) λK hK=>?_;simp(disch:=omega)[ni,UE,hcb,bt,hj];refine aC (pK _ _ _) rfl ?_;simp(disch:=omega)[RS,bt];refine aC (pK _ _ _) rfl ?_;simp(disch:=omega)[b2,c2];apply hK;apply aD rfl;refine aJ [7] [0,0,0,0,0,0,0,0] [[]] aw (by kernel_rfl) (by kernel_rfl) λK hK=>?_;simp(disch:=omega)[bt,hi,hj];refine oa (cAB (i+j) i j out hi hj (by omega) h5) rfl ?_;simp(disch:=omega) ;apply hK;refine aB λK hK=>?_;simp(disch:=omega) ;apply hK;refine⟨(n-1,i+1,j+1,fAB out (a.getD i (0,[])) (b.getD j (0,[]))),⟨by show i+1<=a.length;omega,by show j+1<=b.length;omega,by show (a.length-(i+1))+(b.length-(j+1))<=n-1;omega,h4.trans hst,(show I (i+1+(j+1)) _ by rw[show i+1+(j+1)=i+j+2 by omega];exact Yj _ i j out hi hj h5)⟩,by show n-1<n;omega,?_⟩;refine ag [] [] ?_ ?_ ?_ ?_ (jK _ _ ((show I (i+1+(j+1)) _ by rw[show i+1+(j+1)=i+j+2 by omega];exact Yj _ i j out hi hj h5))) ?_
      ·simp
      ·simp
      ·simp[hS]
      ·simp[hU]
      ·simp[hS,hU,qP]
       try omega
   ·have bj:decide ((j:Int)<b.length)=false:=by simp;omega
    have hjb:j=b.length:=by omega
    have nj:((j:Int)==b.length)=true:=by simp;omega
    have hn:0<n:=by omega
    have hst:=aaA (fA:=fA) (fB:=fB) (fAB:=fAB) (o:=out) hn hi hjb;refine af λK2 bc=>?_;refine ae λK hK=>?_;simp(disch:=omega)[bi,bj,hi,hj];apply hK;apply aG rfl;apply aq;simp(disch:=omega) ;apply bc;clear bc;apply aj;apply aj;have hjz:(j:Int)=(b.length:Int):=by omega
    refine aJ [] [] [] aw (by kernel_rfl) (by kernel_rfl) λK hK=>?_;simp(disch:=omega)[nj,hjz];apply hK;apply aG rfl;refine ae λK hK=>?_;simp(disch:=omega)[bt];refine ak (cA (i+j) i out hi (by omega) h5) ?_;simp(disch:=omega) ;apply hK;refine aB λK hK=>?_;simp(disch:=omega) ;apply hK;refine⟨(n-1,i+1,j,fA out (a.getD i (0,[]))),⟨by show i+1<=a.length;omega,by show j<=b.length;omega,by show (a.length-(i+1))+(b.length-(j))<=n-1;omega,h4.trans hst,(show I (i+1+j) _ by rw[show i+1+j=i+j+1 by omega];exact iA _ i out hi h5)⟩,by show n-1<n;omega,?_⟩;refine ag [] [] ?_ ?_ ?_ ?_ (jK _ _ ((show I (i+1+j) _ by rw[show i+1+j=i+j+1 by omega];exact iA _ i out hi h5))) ?_
    ·simp
    ·simp
    ·simp[hS]
    ·simp[hU]
    ·simp[hS,hU,qP]
     try omega
  ·have bi:decide ((i:Int)<a.length)=false:=by simp;omega
   have pj:i=a.length:=by omega
   by_cases hj:j<b.length
   ·have bj:decide ((j:Int)<b.length)=true:=by simp;omega
    have nj:((j:Int)==b.length)=false:=by rw[ah5];omega
    have IW:¬j=b.length:=by omega
    have ni:((i:Int)==a.length)=true:=by simp;omega
    have hn:0<n:=by omega
    have hst:=aay (fA:=fA) (fB:=fB) (fAB:=fAB) (o:=out) hn pj hj;refine af λK2 bc=>?_;refine ae λK hK=>?_;simp(disch:=omega)[bi,bj,hi,hj];apply hK;apply aG rfl;apply aq;simp(disch:=omega) ;apply bc;clear bc;apply aj;apply aj;refine aJ [] [] [] aw (by kernel_rfl) (by kernel_rfl) λK hK=>?_;simp(disch:=omega)[nj,IW,bi,hi];apply hK;apply aD rfl;have Yy:(i:Int)=(a.length:Int):=by omega
    refine aJ [] [] [] aw (by kernel_rfl) (by kernel_rfl) λK hK=>?_;simp(disch:=omega)[ni,Yy];apply hK;apply aG rfl;refine ae λK hK=>?_;simp(disch:=omega)[bt];refine ak (cB (i+j) j out hj (by omega) h5) ?_;simp(disch:=omega) ;apply hK;refine aB λK hK=>?_;simp(disch:=omega) ;apply hK;refine⟨(n-1,i,j+1,fB out (b.getD j (0,[]))),⟨by show i<=a.length;omega,by show j+1<=b.length;omega,by show (a.length-(i))+(b.length-(j+1))<=n-1;omega,h4.trans hst,(show I (i+(j+1)) _ from iB _ j out hj h5)⟩,by show n-1<n;omega,?_⟩;refine ag [] [] ?_ ?_ ?_ ?_ (jK _ _ ((show I (i+(j+1)) _ from iB _ j out hj h5))) ?_
    ·simp
    ·simp
    ·simp[hS]
    ·simp[hU]
    ·simp[hS,hU,qP]
     try omega
   ·have bj:decide ((j:Int)<b.length)=false:=by simp;omega
    have hend:=Xp (fA:=fA) (fB:=fB) (fAB:=fAB) (a:=a) (b:=b) (o:=out) (n:=n) pj (show j=b.length by omega);rw[hend] at h4;refine af λK2 bc=>?_;refine ae λK hK=>?_;simp(disch:=omega)[bi,bj,hi,hj];apply hK;apply aD rfl;apply aF;simp(disch:=omega) ;rw[h4];exact⟨rfl,rfl,rfl⟩
theorem qv {b:PL}{y:Int×List Int}(hs:lq b)(h:y∈b):posOf b y.1=y.2:=by
 induction b with
 |nil=>simp at h
 |cons z b ih=>
  obtain⟨h1,h2⟩:=jm hs;rcases ahL.1 h with rfl|h
  ·exact dK
  ·have:=h2 y h;rw[cV (by omega)];exact ih h1 h
theorem cU {l:PL}(h:dT l=true):lq l/\(∀p∈l,1<=p.1/\p.1<=1000000000)/\∀p∈l,p.2≠[]/\kz p.2/\∀q∈p.2,0<=q/\q<=1000000:=by
 have bounds:∀(l:List Int)(lo hi:Int),oZ l lo hi=true->∀q∈l,lo<=q/\q<=hi:=λl lo hi h q hq=>by
  obtain⟨j,hj,e⟩:=ml 0 hq;unfold oZ at h;rw[ahQ] at h;have:=h j (by simpa using hj);unfold mc at this;simp only[aht,ahv] at this;rw[e] at this;exact this.1
 unfold dT at h;rw[aht] at h;obtain⟨h1,h2⟩:=h;refine⟨ko h1,λp hp=>bounds _ _ _ h1 _ (ahl.2 ⟨p,hp,rfl⟩),λp hp=>?_⟩;have h3:nG p=false:=by
  cases hb:nG p with
  |false=>rfl
  |true=>
   have:l.any nG=true:=aiY.2 ⟨p,hp,hb⟩;rw[this] at h2;simp at h2
 unfold nG at h3;rw[ajI] at h3;have h4:oZ p.2 0 1000000=true:=by simpa using h3.2
 refine⟨λe=>?_,ko h4,bounds _ _ _ h4⟩;have:=h3.1;rw[e] at this;simp at this
def xH {l:PL}{d:Int}(h:¬d∈l.map (·.1)):posOf l d=[]:=rX λp hp e=>h (ahl.2 ⟨p,hp,e⟩)
theorem W0 {fA fB fAB:List Int->Int->List Int}(hA:∀o x,(fA o x).length<=o.length+1)(hB:∀o x,(fB o x).length<=o.length+1)(hAB:∀o x,(fAB o x).length<=o.length+1) :
  ∀(n:Nat)(a b o:List Int),(jJ fA fB fAB n a b o).length<=o.length+a.length+b.length:=by
 intro n
 induction n with
 |zero=>intro a b o;simp only[jJ];omega
 |succ n ih=>
  intro a b o
  cases a with
  |nil=>
   cases b with
   |nil=>simp only[jJ];omega
   |cons y b=>have:=ih [] b (fB o y);have:=hB o y;simp only[jJ,ahS];omega
  |cons x a=>
   cases b with
   |nil=>have:=ih a [] (fA o x);have:=hA o x;simp only[jJ,ahS];omega
   |cons y b=>
    have e1:=ih a (y::b) (fA o x);have e2:=ih (x::a) b (fB o y);have e3:=ih a b (fAB o x);have:=hA o x;have:=hB o y;have:=hAB o x;simp only[ahS] at e1 e2 ⊢;rw[jJ]
    split
    ·omega
    ·split
     ·omega
     ·omega
def tJ (kf:Bool->Bool->Bool)(a b:List Int):(comb kf a b).length<=a.length+b.length:=by
 have st:∀(k:Bool)(o:List Int)(x:Int),(if k=true then o++[x] else o).length<=o.length+1:=λk o x=>by split<;>simp
 unfold comb
 split
 ·have:=W0 (fA:=λo x=>if kf true false then o++[x] else o) (fB:=λo x=>if kf false true then o++[x] else o) (fAB:=λo x=>if kf true true then o++[x] else o) (λo x=>st _ o x) (λo x=>st _ o x) (λo x=>st _ o x) (a.length+b.length) a b [];simp only[aiB,aiv] at this;exact this
 ·simp
def V (l:List Int):Prop:=oZ l 1 1000000000=true
def IL {l:List Int}{lo hi:Int}(h:oZ l lo hi=true):∀q∈l,lo<=q/\q<=hi:=λq hq=>by
 obtain⟨j,hj,e⟩:=ml 0 hq;unfold oZ at h;rw[ahQ] at h;have:=h j (by simpa using hj);unfold mc at this;simp only[aht,ahv] at this;rw[e] at this;exact this.1
def nf {l:List Int}{lo hi:Int}(h:kz l)(hb:∀q∈l,lo<=q/\q<=hi):oZ l lo hi=true:=by
 refine J6 λj hj=>?_;have hbj:=hb _ (vS l j 0 hj);unfold mc;simp only[aht,ahv,aic];refine⟨hbj,?_⟩;rcases ahR j with h0|h0
 ·exact .inl h0
 ·exact .inr (ql h (by omega) hj)
def jk (kf:Bool->Bool->Bool){a b:List Int}(ha:V a)(hb:V b):kz (comb kf a b)/\∀z,z∈comb kf a b↔(z∈a/\z∉b/\kf true false=true)\/(z∈b/\z∉a/\kf false true=true)\/(z∈a/\z∈b/\kf true true=true):=by
 obtain⟨_,g2,g3⟩:=JC (kf true false) (kf false true) (kf true true) (a.length+b.length) a b [] (ahj _) (ko ha) (ko hb);have e:comb kf a b=jJ (λo x=>if kf true false then o++[x] else o) (λo x=>if kf false true then o++[x] else o) (λo x=>if kf true true then o++[x] else o) (a.length+b.length) a b []:=by
  unfold comb;rw[ahs ⟨ha,hb⟩];rfl
 rw[e];exact⟨g3,g2⟩
def An (a b:List Int):List Int:=comb (λp q=>p&&q) a b
section
variable {a b c : List Int} (ha : V a) (hb : V b) (hc : V c)
include ha hb
include hc
end
def Kd {β:Type}(fA fB:β->Int->β)(fAB:β->Int->Int->β):Nat->List Int->List Int->β->β
 |0,_,_,o=>o
 |n+1,x::a,y::b,o=>if x<y then Kd fA fB fAB n a (y::b) (fA o x) else if y<x then Kd fA fB fAB n (x::a) b (fB o y) else Kd fA fB fAB n a b (fAB o x y)
 |n+1,x::a,[],o=>Kd fA fB fAB n a [] (fA o x)
 |n+1,[],y::b,o=>Kd fA fB fAB n [] b (fB o y)
 |_+1,[],[],o=>o
@[simp] theorem fI (l:List Int):(ints l).length=l.length:=by simp[ints]
def MI {β:Type}(fA fB:β->Int->β)(fAB:β->Int->Int->β)(a b:List Int)(n i j:Nat)(o:β):β:=Kd fA fB fAB n (a.drop i) (b.drop j) o
section
variable {β : Type} {fA fB : β -> Int -> β} {fAB : β -> Int -> Int -> β} {a b : List Int} {o : β} {n i j : Nat}
def afJ (hn:0<n)(hi:i<a.length)(hj:j<b.length)(h:a.getD i 0<b.getD j 0):MI fA fB fAB a b n i j o=MI fA fB fAB a b (n-1) (i+1) j (fA o (a.getD i 0)):=by
 obtain⟨m,rfl⟩:∃m,n=m+1:=⟨n-1,by omega⟩
 unfold MI;rw[di a i hi,di b j hj,Kd,ahs h];rfl
def afI (hn:0<n)(hi:i<a.length)(hj:j<b.length)(h:¬a.getD i 0<b.getD j 0)(h2:b.getD j 0<a.getD i 0):MI fA fB fAB a b n i j o=MI fA fB fAB a b (n-1) i (j+1) (fB o (b.getD j 0)):=by
 obtain⟨m,rfl⟩:∃m,n=m+1:=⟨n-1,by omega⟩
 unfold MI;rw[di a i hi,di b j hj,Kd,ahq h,ahs h2];rfl
def aaC (hn:0<n)(hi:i<a.length)(hj:j<b.length)(h:¬a.getD i 0<b.getD j 0)(h2:¬b.getD j 0<a.getD i 0):MI fA fB fAB a b n i j o=MI fA fB fAB a b (n-1) (i+1) (j+1) (fAB o (a.getD i 0) (b.getD j 0)):=by
 obtain⟨m,rfl⟩:∃m,n=m+1:=⟨n-1,by omega⟩
 unfold MI;rw[di a i hi,di b j hj,Kd,ahq h,ahq h2];rfl
def aaD (hn:0<n)(hi:i<a.length)(hj:j=b.length):MI fA fB fAB a b n i j o=MI fA fB fAB a b (n-1) (i+1) j (fA o (a.getD i 0)):=by
 obtain⟨m,rfl⟩:∃m,n=m+1:=⟨n-1,by omega⟩
 unfold MI;rw[di a i hi,hj,aim,Kd];rfl
def aaB (hn:0<n)(hi:i=a.length)(hj:j<b.length):MI fA fB fAB a b n i j o=MI fA fB fAB a b (n-1) i (j+1) (fB o (b.getD j 0)):=by
 obtain⟨m,rfl⟩:∃m,n=m+1:=⟨n-1,by omega⟩
 unfold MI;rw[di b j hj,hi,aim,Kd];rfl
def Xq (hi:i=a.length)(hj:j=b.length):MI fA fB fAB a b n i j o=o:=by
 unfold MI;rw[hi,hj,aim,aim]
 cases n<;>rfl
end
attribute [-simp] getD_eq_getElem?_getD in
def Me {β:Type}(g:Nat)(bY:List AV)(fA fB:β->Int->β)(fAB:β->Int->Int->β)(S:β->List az)(U:β->au)(I:Nat->β->Prop)(N M:Nat)(o0:β)
  (a b:List Int) (ha:a.length<=1000) (hb:b.length<=1000) (hS:∀o,(S o).length=N) (hU:∀o,(U o).length=M) (qP:aK N M bY) (jK:∀n o,I n o->bJ (S o) (U o)) (h0:I 0 o0)
  (cA:∀n i o,i<a.length->n<=2000->I n o->ar prog g ([.eh (ints a) i,.gn]++bY) (S o) (U o) (Is (.df []) (S (fA o (a.getD i 0))) (U (fA o (a.getD i 0)))))
  (cB:∀n j o,j<b.length->n<=2000->I n o->ar prog g ([.gn,.eh (ints b) j]++bY) (S o) (U o) (Is (.df []) (S (fB o (b.getD j 0))) (U (fB o (b.getD j 0)))))
  (cAB:∀n i j o,i<a.length->j<b.length->n<=2000->I n o->ar prog g ([.eh (ints a) i,.eh (ints b) j]++bY) (S o) (U o) (Is (.df []) (S (fAB o (a.getD i 0) (b.getD j 0))) (U (fAB o (a.getD i 0) (b.getD j 0)))))
  (iA:∀n i o,i<a.length->I n o->I (n+1) (fA o (a.getD i 0))) (iB:∀n j o,j<b.length->I n o->I (n+1) (fB o (b.getD j 0))) (Yj:∀n i j o,i<a.length->j<b.length->I n o->I (n+2) (fAB o (a.getD i 0) (b.getD j 0))) :
  ar prog 171 [.sl a.length (ints a) .none,.sl b.length (ints b) .none,.fn 172 [] [],.fn g [] bY] (S o0) (U o0)
   (Is (.df []) (S (MI fA fB fAB a b (a.length+b.length) 0 0 o0)) (U (MI fA fB fAB a b (a.length+b.length) 0 0 o0))):=by
 refine ah 11 [] Tryz.ntmps171 Tryz.func171 rfl (λ_ _=>Tryz.call171 _ _) (by simp) (λHO=>?_);apply ae;intro K Z;simp(disch:=omega);apply Z;apply aj;refine aI (X:=Nat×Nat×Nat×β) (λx=>⟨[(0,.sl a.length (ints a) .none),(1,.sl b.length (ints b) .none),(2,.fn 172 [] []),(3,.fn g [] bY),(8,.int .i64 (x.2.1:Nat)),(9,.int .i64 (x.2.2.1:Nat))],S x.2.2.2,U x.2.2.2⟩)
  (λx=>x.2.1<=a.length/\x.2.2.1<=b.length/\(a.length-x.2.1)+(b.length-x.2.2.1)<=x.1/\MI fA fB fAB a b (a.length+b.length) 0 0 o0=MI fA fB fAB a b x.1 x.2.1 x.2.2.1 x.2.2.2/\I (x.2.1+x.2.2.1) x.2.2.2) (λx=>x.1) (a.length+b.length,0,0,o0) ?_ ?_ ?_
 ·exact⟨ahu _,ahu _,by simp only;omega,rfl,h0⟩
 ·refine ag [] [] ?_ ?_ ?_ ?_ HO ?_
  ·simp
  ·simp
  ·simp
  ·simp
  ·simp[hS,hU,qP]
 ·rintro⟨n,i,j,out⟩ ⟨h1,h2,h3,h4,h5⟩;simp only at h1 h2 h3 h4 h5
  by_cases hi:i<a.length
  ·have bi:decide ((i:Int)<a.length)=true:=by simp;omega
   have ni:((i:Int)==a.length)=false:=by rw[ah5];omega
   have UE:¬i=a.length:=by omega
   have RS:=bI (xs:=a) (k:=i) hi
   by_cases hj:j<b.length
   ·have bj:decide ((j:Int)<b.length)=true:=by simp;omega
    have nj:((j:Int)==b.length)=false:=by rw[ah5];omega
    have IW:¬j=b.length:=by omega
    have hcb:=bI (xs:=b) (k:=j) hj;have hn:0<n:=by omega
    refine af λK2 bc=>?_;refine ae λK hK=>?_;simp(disch:=omega)[bi,bj,hi,hj];apply hK;apply aG rfl;apply aq;simp(disch:=omega) ;apply bc;clear bc;apply aj;apply aj
    by_cases c1:a.getD i 0<b.getD j 0
    ·have b1:decide (a.getD i 0<b.getD j 0)=true:=by simpa using c1
     have hst:=afJ (fA:=fA) (fB:=fB) (fAB:=fAB) (o:=out) hn hi hj c1;refine aJ [] [] [] aw (by kernel_rfl) (by kernel_rfl) λK hK=>?_;simp(disch:=omega)[bi,hi,nj,IW,RS,fI];refine aC (dQ _ _ _) rfl ?_;simp(disch:=omega)[hcb,fI];refine aC (dQ _ _ _) rfl ?_;simp(disch:=omega)[b1,c1];apply hK;apply aG rfl;refine ae λK hK=>?_;simp(disch:=omega)[fI];refine ak (cA (i+j) i out hi (by omega) h5) ?_;simp(disch:=omega) ;apply hK;refine aB λK hK=>?_;simp(disch:=omega) ;apply hK;refine⟨(n-1,i+1,j,fA out (a.getD i 0)),⟨by show i+1<=a.length;omega,by show j<=b.length;omega,by show (a.length-(i+1))+(b.length-(j))<=n-1;omega,h4.trans hst,(show I (i+1+j) _ by rw[show i+1+j=i+j+1 by omega];exact iA _ i out hi h5)⟩,by show n-1<n;omega,?_⟩;refine ag [] [] ?_ ?_ ?_ ?_ (jK _ _ ((show I (i+1+j) _ by rw[show i+1+j=i+j+1 by omega];exact iA _ i out hi h5))) ?_
     ·simp
     ·simp
     ·simp[hS]
     ·simp[hU]
     ·simp[hS,hU,qP]
      try omega
    ·have b1:decide (a.getD i 0<b.getD j 0)=false:=by simpa using c1
     refine aJ [] [] [] aw (by kernel_rfl) (by kernel_rfl) λK hK=>?_;simp(disch:=omega)[bi,hi,nj,IW,RS,fI];refine aC (dQ _ _ _) rfl ?_;simp(disch:=omega)[hcb,fI];refine aC (dQ _ _ _) rfl ?_;simp(disch:=omega)[b1,c1];apply hK;apply aD rfl
     by_cases c2:b.getD j 0<a.getD i 0
     ·have b2:decide (b.getD j 0<a.getD i 0)=true:=by simpa using c2
      have hst:=afI (fA:=fA) (fB:=fB) (fAB:=fAB) (o:=out) hn hi hj c1 c2;refine aJ [] [] [] aw (by kernel_rfl) (by kernel_rfl) λK hK=>?_;simp(disch:=omega)[ni,UE,hcb,fI,hj];refine aC (dQ _ _ _) rfl ?_;simp(disch:=omega)[RS,fI];refine aC (dQ _ _ _) rfl ?_;simp(disch:=omega)[b2,c2];apply hK;apply aG rfl;refine ae λK hK=>?_;simp(disch:=omega)[fI];refine ak (cB (i+j) j out hj (by omega) h5) ?_;simp(disch:=omega) ;apply hK;refine aB λK hK=>?_;simp(disch:=omega) ;apply hK;refine⟨(n-1,i,j+1,fB out (b.getD j 0)),⟨by show i<=a.length;omega,by show j+1<=b.length;omega,by show (a.length-(i))+(b.length-(j+1))<=n-1;omega,h4.trans hst,(show I (i+(j+1)) _ from iB _ j out hj h5)⟩,by show n-1<n;omega,?_⟩;refine ag [] [] ?_ ?_ ?_ ?_ (jK _ _ ((show I (i+(j+1)) _ from iB _ j out hj h5))) ?_
      ·simp
      ·simp
      ·simp[hS]
      ·simp[hU]
      ·simp[hS,hU,qP]
       try omega
     ·have b2:decide (b.getD j 0<a.getD i 0)=false:=by simpa using c2
      have hst:=aaC (fA:=fA) (fB:=fB) (fAB:=fAB) (o:=out) hn hi hj c1 c2;refine aJ [] [] [] aw (by kernel_rfl) (by kernel_rfl) λK hK=>?_;simp(disch:=omega)[ni,UE,hcb,fI,hj];refine aC (dQ _ _ _) rfl ?_;simp(disch:=omega)[RS,fI];refine aC (dQ _ _ _) rfl ?_;simp(disch:=omega)[b2,c2];apply hK;apply aD rfl;refine aJ [7] [0,0,0,0,0,0,0,0] [[]] aw (by kernel_rfl) (by kernel_rfl) λK hK=>?_;simp(disch:=omega)[fI,hi,hj];refine oa (cAB (i+j) i j out hi hj (by omega) h5) rfl ?_;simp(disch:=omega) ;apply hK;refine aB λK hK=>?_;simp(disch:=omega) ;apply hK;refine⟨(n-1,i+1,j+1,fAB out (a.getD i 0) (b.getD j 0)),⟨by show i+1<=a.length;omega,by show j+1<=b.length;omega,by show (a.length-(i+1))+(b.length-(j+1))<=n-1;omega,h4.trans hst,(show I (i+1+(j+1)) _ by rw[show i+1+(j+1)=i+j+2 by omega];exact Yj _ i j out hi hj h5)⟩,by show n-1<n;omega,?_⟩;refine ag [] [] ?_ ?_ ?_ ?_ (jK _ _ ((show I (i+1+(j+1)) _ by rw[show i+1+(j+1)=i+j+2 by omega];exact Yj _ i j out hi hj h5))) ?_
      ·simp
      ·simp
      ·simp[hS]
      ·simp[hU]
      ·simp[hS,hU,qP]
       try omega
   ·have bj:decide ((j:Int)<b.length)=false:=by simp;omega
    have hjb:j=b.length:=by omega
    have nj:((j:Int)==b.length)=true:=by simp;omega
    have hn:0<n:=by omega
    have hst:=aaD (fA:=fA) (fB:=fB) (fAB:=fAB) (o:=out) hn hi hjb;refine af λK2 bc=>?_;refine ae λK hK=>?_;simp(disch:=omega)[bi,bj,hi,hj];apply hK;apply aG rfl;apply aq;simp(disch:=omega) ;apply bc;clear bc;apply aj;apply aj;have hjz:(j:Int)=(b.length:Int):=by omega
    refine aJ [] [] [] aw (by kernel_rfl) (by kernel_rfl) λK hK=>?_;simp(disch:=omega)[nj,hjz];apply hK;apply aG rfl;refine ae λK hK=>?_;simp(disch:=omega)[fI];refine ak (cA (i+j) i out hi (by omega) h5) ?_;simp(disch:=omega) ;apply hK;refine aB λK hK=>?_;simp(disch:=omega) ;apply hK;refine⟨(n-1,i+1,j,fA out (a.getD i 0)),⟨by show i+1<=a.length;omega,by show j<=b.length;omega,by show (a.length-(i+1))+(b.length-(j))<=n-1;omega,h4.trans hst,(show I (i+1+j) _ by rw[show i+1+j=i+j+1 by omega];exact iA _ i out hi h5)⟩,by show n-1<n;omega,?_⟩;refine ag [] [] ?_ ?_ ?_ ?_ (jK _ _ ((show I (i+1+j) _ by rw[show i+1+j=i+j+1 by omega];exact iA _ i out hi h5))) ?_
    ·simp
    ·simp
    ·simp[hS]
    ·simp[hU]
    ·simp[hS,hU,qP]
     try omega
  ·have bi:decide ((i:Int)<a.length)=false:=by simp;omega
   have pj:i=a.length:=by omega
   by_cases hj:j<b.length
   ·have bj:decide ((j:Int)<b.length)=true:=by simp;omega
    have nj:((j:Int)==b.length)=false:=by rw[ah5];omega
    have IW:¬j=b.length:=by omega
    have ni:((i:Int)==a.length)=true:=by simp;omega
    have hn:0<n:=by omega
    have hst:=aaB (fA:=fA) (fB:=fB) (fAB:=fAB) (o:=out) hn pj hj;refine af λK2 bc=>?_;refine ae λK hK=>?_;simp(disch:=omega)[bi,bj,hi,hj];apply hK;apply aG rfl;apply aq;simp(disch:=omega) ;apply bc;clear bc;apply aj;apply aj;refine aJ [] [] [] aw (by kernel_rfl) (by kernel_rfl) λK hK=>?_;simp(disch:=omega)[nj,IW,bi,hi];apply hK;apply aD rfl;have Yy:(i:Int)=(a.length:Int):=by omega
    refine aJ [] [] [] aw (by kernel_rfl) (by kernel_rfl) λK hK=>?_;simp(disch:=omega)[ni,Yy];apply hK;apply aG rfl;refine ae λK hK=>?_;simp(disch:=omega)[fI];refine ak (cB (i+j) j out hj (by omega) h5) ?_;simp(disch:=omega) ;apply hK;refine aB λK hK=>?_;simp(disch:=omega) ;apply hK;refine⟨(n-1,i,j+1,fB out (b.getD j 0)),⟨by show i<=a.length;omega,by show j+1<=b.length;omega,by show (a.length-(i))+(b.length-(j+1))<=n-1;omega,h4.trans hst,(show I (i+(j+1)) _ from iB _ j out hj h5)⟩,by show n-1<n;omega,?_⟩;refine ag [] [] ?_ ?_ ?_ ?_ (jK _ _ ((show I (i+(j+1)) _ from iB _ j out hj h5))) ?_
    ·simp
    ·simp
    ·simp[hS]
    ·simp[hU]
    ·simp[hS,hU,qP]
     try omega
   ·have bj:decide ((j:Int)<b.length)=false:=by simp;omega
    have hend:=Xq (fA:=fA) (fB:=fB) (fAB:=fAB) (a:=a) (b:=b) (o:=out) (n:=n) pj (show j=b.length by omega);rw[hend] at h4;refine af λK2 bc=>?_;refine ae λK hK=>?_;simp(disch:=omega)[bi,bj,hi,hj];apply hK;apply aD rfl;apply aF;simp(disch:=omega) ;rw[h4];exact⟨rfl,rfl,rfl⟩
attribute [-simp] getD_eq_getElem?_getD in
def uZ (l:List Int)(hl:l.length<=5000)(H:List az)(T:au):ar prog 146 [.sl l.length (ints l) .none] H T (Is (.sl l.length (ints l) .none) H T):=by
 refine ar.cut H T (ahj _) (ahj _) id (by simp) ?_;refine ah 3 [] Tryz.ntmps146 Tryz.func146 rfl (λ_ _=>Tryz.call146 _ _) (by simp) (λHO=>?_);apply ae;intro K Z;simp(disch:=omega);apply Z;refine af λK1 aO=>?_;refine ae λK hK=>?_;simp(disch:=omega) ;refine⟨hK _ ?_,λhe=>hK _ ?_⟩
 ·apply aD rfl;apply aq;simp(disch:=omega) ;apply aO;clear aO;apply ae;intro K Z;simp(disch:=omega);apply Z;apply ay;simp(disch:=omega) 
 ·apply aG rfl;apply ae;intro K Z;simp(disch:=omega);apply Z;apply ay;simp(disch:=omega)[he]
def SJ (H:List az)(out:List Int)(tk:Nat):List az:=H++[.cells [.sl out.length (ints out) (.own tk)]]
def TJ (T:au)(out:List Int):au:=T++[(out.length,1)]
def Xo (H:List az)(out:List Int)(tk:Nat):(SJ H out tk).length=H.length+1:=by simp[SJ]
def G9 (T:au)(out:List Int):(TJ T out).length=T.length+1:=by simp[TJ]
def Xe {H:List az}{T:au}(h:bJ H T)(out:List Int):bJ (SJ H out T.length) (TJ T out):=bJ.snoc (h.kC (by rw[G9];omega)) (by simp[G9])
attribute [-simp] getD_eq_getElem?_getD in
def Ex (a:List Int)(i:Nat)(hi:i<a.length)(v:AV)(out:List Int)(ho:out.length<=5000)(H:List az)(T:au) :
  ar prog 183 [.eh (ints a) i,v,.ptr H.length 0] (SJ H out T.length) (TJ T out) (Is (.df []) (SJ H (out++[a.getD i 0]) T.length) (TJ T (out++[a.getD i 0]))):=by
 have Nn:=bI (xs:=a) (k:=i) hi;have CS:=eG out (a.getD i 0);simp only[SJ,TJ];refine ah 5 [] Tryz.ntmps183 Tryz.func183 rfl (λ_ _=>Tryz.call183 _ _) (by simp) (λHO=>?_);refine af λK1 aO=>?_;apply ae;intro K Z;simp(disch:=omega);apply Z;apply aD rfl;apply aq;simp(disch:=omega) ;apply aO;clear aO;refine cT [5,6] [0,0,0,0,0,0,1] [[],[]] aw (by kernel_rfl) (by kernel_rfl) λK hK=>?_;simp(disch:=omega)[Nn,CS,hi];apply hK;exact⟨rfl,by simp,by simp⟩
attribute [-simp] getD_eq_getElem?_getD in
def Qp (b:List Int)(j:Nat)(hj:j<b.length)(out:List Int)(ho:out.length<=5000)(H:List az)(T:au) :
  ar prog 183 [.gn,.eh (ints b) j,.ptr H.length 0] (SJ H out T.length) (TJ T out) (Is (.df []) (SJ H (out++[b.getD j 0]) T.length) (TJ T (out++[b.getD j 0]))):=by
 have Nn:=bI (xs:=b) (k:=j) hj;have CS:=eG out (b.getD j 0);simp only[SJ,TJ];refine ah 5 [] Tryz.ntmps183 Tryz.func183 rfl (λ_ _=>Tryz.call183 _ _) (by simp) (λHO=>?_);refine af λK1 aO=>?_;apply ae;intro K Z;simp(disch:=omega);apply Z;apply aG rfl;refine aB λK hK=>?_;simp(disch:=omega) ;apply hK;apply aO;clear aO;refine cT [5,6] [0,0,0,0,0,0,1] [[],[]] aw (by kernel_rfl) (by kernel_rfl) λK hK=>?_;simp(disch:=omega)[Nn,CS,hj];apply hK;exact⟨rfl,by simp,by simp⟩
def jn (a b:List Int):List Int:=MG (λ_ _=>true) a b (a.length+b.length) 0 0 []
theorem TK (fA fB:List Int->Int->List Int):∀(n:Nat)(a b o:List Int),Kd fA fB (λo x _=>fA o x) n a b o=jJ fA fB fA n a b o:=by
 intro n
 induction n with
 |zero=>intro a b o;rfl
 |succ n ih=>
  intro a b o
  cases a with
  |nil=>cases b with
   |nil=>rfl
   |cons y b=>exact ih _ _ _
  |cons x a=>cases b with
   |nil=>exact ih _ _ _
   |cons y b=>simp only[Kd,jJ,ih]
attribute [-simp] getD_eq_getElem?_getD in
def Mp (a b:List Int)(ha:a.length<=1000)(hb:b.length<=1000)(H:List az)(T:au)(ta tb:Tag) :
  ar prog 147 [.sl a.length (ints a) ta,.sl b.length (ints b) tb] H T (Is (.sl (jn a b).length (ints (jn a b)) .none) H T):=by
 refine ar.cg (ar.uk ?_);refine ar.bV ?_ (by simp);have yT:MI (fun(o:List Int) x=>o++[x]) (λo x=>o++[x]) (λo x _=>o++[x]) a b (a.length+b.length) 0 0 []=jn a b:=TK _ _ _ _ _ _;have c:=λHO:bJ H T=>Me (β:=List Int) 183 [.ptr H.length 0] (λo x=>o++[x]) (λo x=>o++[x]) (λo x _=>o++[x])
  (λo=>SJ H o T.length) (λo=>TJ T o) (λn o=>o.length<=n) (H.length+1) (T.length+1) [] a b ha hb (λo=>Xo _ _ _) (λo=>G9 _ _) (by simp)
  (λn o _=>Xe HO o) (ahu _)
  (λn i o hi hn h=>Ex a i hi _ o (by omega) H T) (λn j o hj hn h=>Qp b j hj o (by omega) H T)
  (λn i j o hi hj hn h=>Ex a i hi _ o (by omega) H T)
  (λn i o _ h=>by simp;omega) (λn j o _ h=>by simp;omega) (λn i j o _ _ h=>by simp;omega)
 rw[yT] at c;generalize jn a b=r at *;have k1:(SJ H r T.length)[H.length]?=some (.cells [.sl r.length (ints r) (.own T.length)]):=by simp[SJ]
 have hH:∃rH,SJ H r T.length=H++rH:=⟨_,rfl⟩
 have hT:∃rT,TJ T r=T++rT:=⟨_,rfl⟩
 refine ah 6 [] Tryz.ntmps147 Tryz.func147 rfl (λ_ _=>Tryz.call147 _ _) (by simp) (λHO=>?_);have c1:=c HO;apply ae;intro K Z;simp(disch:=omega);apply Z;apply ae;intro K Z;simp(disch:=omega);apply Z;refine JY 1 H 0 [] (by omega) (by simp) ?_;refine ae λK hK=>?_;simp(disch:=omega) ;refine ak (c1) ?_;simp(disch:=omega) ;apply hK;refine ae λK hK=>?_;simp(disch:=omega)[k1];apply hK;apply ay;simp(disch:=omega) ;exact⟨hH,hT⟩
def jF (o:List Int)(x:Int):List Int:=if (λ_ _=>true:Bool->Bool->Bool) true false then o++[x] else o
def sY {a b:List Int}(ha:kz a)(hb:kz b)(n:Nat)(hn:a.length+b.length<=n)(o:List Int):jJ jF jF jF n a b o=o++jJ jF jF jF n a b []/\
  (∀z,z∈jJ jF jF jF n a b []↔z∈a\/z∈b)/\kz (jJ jF jF jF n a b []):=by
 obtain⟨g1,g2,g3⟩:=JC true true true n a b o hn ha hb;refine⟨g1,λz=>?_,g3⟩;refine(g2 z).trans ?_
 by_cases h1:z∈a<;>by_cases h2:z∈b<;>simp[h1,h2]
def pH {a b:List Int}(ha:kz a)(hb:kz b)(z:Int):z∈jn a b↔z∈a\/z∈b:=(sY ha hb _ (ahj _) []).2.1 z
def xl {a b:List Int}(ha:kz a)(hb:kz b):kz (jn a b):=(sY ha hb _ (ahj _) []).2.2
def T3 {a b:List Int}(ha:kz a)(hb:kz b){n:Nat}(hn:a.length+b.length<=n):jJ jF jF jF n a b []=jn a b:=by
 refine j8 _ _ (sY ha hb n hn []).2.2 (xl ha hb) λz=>?_;rw[(sY ha hb n hn []).2.1,pH ha hb]
def JG {a:List Int}(ha:kz a):jn a []=a:=j8 _ _ (xl ha List.Pairwise.nil) ha λz=>by rw[pH ha List.Pairwise.nil];simp
def JH {a:List Int}(ha:kz a):jn [] a=a:=j8 _ _ (xl List.Pairwise.nil ha) ha λz=>by rw[pH List.Pairwise.nil ha];simp
def A7 (a b:PL)(d:Int):Int×List Int:=(d,jn (posOf a d) (posOf b d))
def Nz (a b:PL):PL:=(jn (aA a) (aA b)).map (A7 a b)
def AP (p:Int×List Int)(l:PL):aA (p::l)=p.1::aA l:=rfl
def D9 {l:PL}{d:Int}(h:∀p∈l,d<p.1):posOf l d=[]:=rX λp hp e=>by have:=h p hp;omega
theorem Mc:∀(n:Nat)(a b o:PL),a.length+b.length<=n->lq a->lq b->(∀p∈a,kz p.2)->(∀p∈b,kz p.2)->
  zl (λo x=>o++[x]) (λo y=>o++[y]) (λo x y=>o++[(x.1,jn x.2 y.2)]) n a b o=o++(jJ jF jF jF n (aA a) (aA b) []).map (A7 a b):=by
 intro n
 induction n with
 |zero=>
  intro a b o h _ _ _ _;have ha:a=[]:=ahT (by omega);subst ha;simp[zl,jJ]
 |succ n ih=>
  intro a b o h ha hb pa pb;have step:∀(a' b':PL)(q:Int×List Int),kz (aA a')->kz (aA b')->(aA a').length+(aA b').length<=n->A7 a b q.1=q->(∀d,d∈aA a'\/d∈aA b'->A7 a' b' d=A7 a b d)->
    (o++[q])++(jJ jF jF jF n (aA a') (aA b') []).map (A7 a' b')=o++(jJ jF jF jF n (aA a') (aA b') [q.1]).map (A7 a b):=by
   intro a' b' q g1 g2 g3 g4 g5;obtain⟨k1,k2,_⟩:=sY g1 g2 n g3 [q.1];rw[k1,ahx,ahA]
   congr 1
   have:(jJ jF jF jF n (aA a') (aA b') []).map (A7 a' b')=(jJ jF jF jF n (aA a') (aA b') []).map (A7 a b):=ahW λd hd=>g5 d ((k2 d).1 hd);rw[this];simp[g4]
  have hdl:∀l:PL,(aA l).length=l.length:=λl=>by simp[aA]
  cases a with
  |nil=>
   cases b with
   |nil=>simp[zl,jJ,aA]
   |cons y b=>
    obtain⟨h3,h4⟩:=jm hb;rw[zl,ih [] b _ (by simp at h ⊢;omega) ha h3 pa (λp hp=>pb p (by simp[hp])),step [] b y ha h3 (by rw[hdl,hdl];simp at h ⊢;omega)]
    ·rfl
    ·unfold A7;rw[dK,show posOf [] y.1=[] from rfl,JH (pb y (by simp))]
    ·intro d hd;have:y.1≠d:=by
      rcases hd with hd|hd
      ·simp[aA] at hd
      ·obtain⟨p,hp,e⟩:=ahl.1 hd;have:=h4 p hp;omega
     unfold A7;rw[cV this]
  |cons x a=>
   obtain⟨h1,h2⟩:=jm ha
   cases b with
   |nil=>
    rw[zl,ih a [] _ (by simp at h ⊢;omega) h1 hb (λp hp=>pa p (by simp[hp])) pb,step a [] x h1 hb (by rw[hdl,hdl];simp at h ⊢;omega)]
    ·rfl
    ·unfold A7;rw[dK,show posOf [] x.1=[] from rfl,JG (pa x (by simp))]
    ·intro d hd;have:x.1≠d:=by
      rcases hd with hd|hd
      ·obtain⟨p,hp,e⟩:=ahl.1 hd;have:=h2 p hp;omega
      ·simp[aA] at hd
     unfold A7;rw[cV this]
   |cons y b=>
    obtain⟨h3,h4⟩:=jm hb;simp only[ahS] at h;rw[AP x a,AP y b]
    by_cases c1:x.1<y.1
    ·have Yl:∀p∈y::b,x.1<p.1:=λp hp=>by
      rcases ahL.1 hp with rfl|hp
      ·exact c1
      ·have:=h4 p hp;omega
     rw[zl,ahs c1,ih a (y::b) _ (by simp;omega) h1 hb (λp hp=>pa p (by simp[hp])) pb,step a (y::b) x h1 hb (by rw[hdl,hdl];simp;omega),jJ,ahs c1]
     ·rfl
     ·unfold A7;rw[dK,D9 Yl,JG (pa x (by simp))]
     ·intro d hd;have:x.1≠d:=by
       rcases hd with hd|hd
       ·obtain⟨p,hp,e⟩:=ahl.1 hd;have:=h2 p hp;omega
       ·obtain⟨p,hp,e⟩:=ahl.1 hd;have:=Yl p hp;omega
      unfold A7;rw[cV (l:=a) this]
    ·by_cases c2:y.1<x.1
     ·have UG:∀p∈x::a,y.1<p.1:=λp hp=>by
       rcases ahL.1 hp with rfl|hp
       ·exact c2
       ·have:=h2 p hp;omega
      rw[zl,ahq c1,ahs c2,ih (x::a) b _ (by simp;omega) ha h3 pa (λp hp=>pb p (by simp[hp])),step (x::a) b y ha h3 (by rw[hdl,hdl];simp;omega),jJ,ahq c1,ahs c2]
      ·rfl
      ·unfold A7;rw[dK,D9 UG,JH (pb y (by simp))]
      ·intro d hd;have:y.1≠d:=by
        rcases hd with hd|hd
        ·obtain⟨p,hp,e⟩:=ahl.1 hd;have:=UG p hp;omega
        ·obtain⟨p,hp,e⟩:=ahl.1 hd;have:=h4 p hp;omega
       unfold A7;rw[cV (l:=b) this]
     ·have e:x.1=y.1:=by omega
      rw[zl,ahq c1,ahq c2,ih a b _ (by omega) h1 h3 (λp hp=>pa p (by simp[hp])) (λp hp=>pb p (by simp[hp])),step a b (x.1,jn x.2 y.2) h1 h3 (by rw[hdl,hdl];omega),jJ,ahq c1,ahq c2]
      ·rfl
      ·unfold A7;rw[dK,e,dK]
      ·intro d hd;have:x.1≠d:=by
        rcases hd with hd|hd
        ·obtain⟨p,hp,e⟩:=ahl.1 hd;have:=h2 p hp;omega
        ·obtain⟨p,hp,e⟩:=ahl.1 hd;have:=h4 p hp;omega
       unfold A7;rw[cV (l:=a) this,cV (l:=b) (by omega)]
def TI {a b:PL}(ha:lq a)(hb:lq b)(pa:∀p∈a,kz p.2)(pb:∀p∈b,kz p.2):zl (λo x=>o++[x]) (λo y=>o++[y]) (λo x y=>o++[(x.1,jn x.2 y.2)]) (a.length+b.length) a b []=Nz a b:=by
 rw[Mc _ a b [] (ahj _) ha hb pa pb,aiQ,T3 (a:=aA a) (b:=aA b) ha hb (by simp[aA])];rfl
def SU (H:List az)(out:PL)(tk:Nat):List az:=H++[.cells [.sl out.length (bA out) (.own tk)]]
def Xn (H:List az)(out:PL)(tk:Nat):(SU H out tk).length=H.length+1:=by simp[SU]
def Xd {H:List az}{T:au}(h:bJ H T)(out:PL):bJ (SU H out T.length) (CY T out):=bJ.snoc (h.kC (by rw[Cf];omega)) (by simp[Cf])
attribute [-simp] getD_eq_getElem?_getD in
def WS (a:PL)(i:Nat)(hi:i<a.length)(ha:(a.getD i (0,[])).2.length<=5000)(out:PL)(ho:out.length<=5000)(H:List az)(T:au) :
  ar prog 145 [.eh (bA a) (i*2),.gn,.ptr H.length 0] (SU H out T.length) (CY T out) (Is (.df []) (SU H (out++[a.getD i (0,[])]) T.length) (CY T (out++[a.getD i (0,[])]))):=by
 have pj:=j5 a i hi;have c:=uZ (a.getD i (0,[])).2 ha (SU H out T.length) (CY T out);have tV:=nQ out (a.getD i (0,[])).1 (a.getD i (0,[])).2;rw[show ((a.getD i (0,[])).1,(a.getD i (0,[])).2)=a.getD i (0,[]) from rfl] at tV;generalize a.getD i (0,[])=x at *;simp only[SU,CY] at c ⊢;refine ah 3 [] Tryz.ntmps145 Tryz.func145 rfl (λ_ _=>Tryz.call145 _ _) (by simp) (λHO=>?_);apply aj;apply ae;intro K Z;simp(disch:=omega);apply Z;apply aD rfl;apply ae;intro K Z;simp(disch:=omega);apply Z;apply aG rfl;refine cT [12,13] [0,0,0,0,0,0,0,0,0,0,0,0,0,1] [[],[]] aw (by kernel_rfl) (by kernel_rfl) λK hK=>?_;simp(disch:=omega)[pj.1,pj.2,bt,tV,hi];refine aC (c) rfl ?_;simp(disch:=omega)[pj.1,pj.2,bt,tV,hi];apply hK;exact⟨rfl,by simp,by simp⟩
attribute [-simp] getD_eq_getElem?_getD in
def WR (b:PL)(j:Nat)(hj:j<b.length)(hb:(b.getD j (0,[])).2.length<=5000)(out:PL)(ho:out.length<=5000)(H:List az)(T:au) :
  ar prog 145 [.gn,.eh (bA b) (j*2),.ptr H.length 0] (SU H out T.length) (CY T out) (Is (.df []) (SU H (out++[b.getD j (0,[])]) T.length) (CY T (out++[b.getD j (0,[])]))):=by
 have pj:=j5 b j hj;have c:=uZ (b.getD j (0,[])).2 hb (SU H out T.length) (CY T out);have tV:=nQ out (b.getD j (0,[])).1 (b.getD j (0,[])).2;rw[show ((b.getD j (0,[])).1,(b.getD j (0,[])).2)=b.getD j (0,[]) from rfl] at tV;generalize b.getD j (0,[])=x at *;simp only[SU,CY] at c ⊢;refine ah 3 [] Tryz.ntmps145 Tryz.func145 rfl (λ_ _=>Tryz.call145 _ _) (by simp) (λHO=>?_);apply aj;apply ae;intro K Z;simp(disch:=omega);apply Z;apply aG rfl;refine cT [12,13] [0,0,0,0,0,0,0,0,0,0,0,0,0,1] [[],[]] aw (by kernel_rfl) (by kernel_rfl) λK hK=>?_;simp(disch:=omega)[pj.1,pj.2,bt,tV,hj];refine aC (c) rfl ?_;simp(disch:=omega)[pj.1,pj.2,bt,tV,hj];apply hK;exact⟨rfl,by simp,by simp⟩
attribute [-simp] getD_eq_getElem?_getD in
def S9 (a b:PL)(i j:Nat)(hi:i<a.length)(hj:j<b.length)(ha:(a.getD i (0,[])).2.length<=1000)(hb:(b.getD j (0,[])).2.length<=1000)(out:PL)(ho:out.length<=5000)(H:List az)(T:au) :
  ar prog 145 [.eh (bA a) (i*2),.eh (bA b) (j*2),.ptr H.length 0] (SU H out T.length) (CY T out) (Is (.df []) (SU H (out++[((a.getD i (0,[])).1,jn (a.getD i (0,[])).2 (b.getD j (0,[])).2)]) T.length) (CY T (out++[((a.getD i (0,[])).1,jn (a.getD i (0,[])).2 (b.getD j (0,[])).2)]))):=by
 have pj:=j5 a i hi;have hjb:=j5 b j hj;have c:=Mp (a.getD i (0,[])).2 (b.getD j (0,[])).2 ha hb (SU H out T.length) (CY T out) .none .none;have tV:=nQ out (a.getD i (0,[])).1 (jn (a.getD i (0,[])).2 (b.getD j (0,[])).2);generalize a.getD i (0,[])=x at *;generalize b.getD j (0,[])=y at *;generalize jn x.2 y.2=r at *;simp only[SU,CY] at c ⊢;refine ah 3 [] Tryz.ntmps145 Tryz.func145 rfl (λ_ _=>Tryz.call145 _ _) (by simp) (λHO=>?_);apply aj;apply ae;intro K Z;simp(disch:=omega);apply Z;apply aD rfl;apply ae;intro K Z;simp(disch:=omega);apply Z;apply aD rfl;refine cT [16,17] [0,0,0,0,0,0,0,0,0,0,0,0,0,0,0,0,0,1] [[],[]] aw (by kernel_rfl) (by kernel_rfl) λK hK=>?_;simp(disch:=omega)[pj.1,pj.2,hjb.1,hjb.2,bt,tV,hi,hj];refine aC (c) rfl ?_;simp(disch:=omega)[pj.1,pj.2,bt,tV,hi];apply hK;exact⟨rfl,by simp,by simp⟩
def ja (a b:PL):PL:=if dT a=true/\dT b=true then Nz a b else []
attribute [-simp] getD_eq_getElem?_getD in
theorem DP (a b:PL)(ha:a.length<=1000)(hb:b.length<=1000)(VP:∀p∈a,p.2.length<=1000)(hpb:∀p∈b,p.2.length<=1000)(H:List az)(T:au)(ta tb:Tag) :
  ar prog 80 [.sl a.length (bA a) ta,.sl b.length (bA b) tb] H T (Is (.sl (ja a b).length (bA (ja a b)) .none) H T):=by
 refine ar.cg (ar.uk ?_);refine ar.bV ?_ (by simp);have kH:1000<=maxLen:=by decide
 have c1:=jD a (by omega) (λp h=>aho (VP p h) kH) (H++[.cells [.sl 0 [] .full]]) T .none;have c2:=jD b (by omega) (λp h=>aho (hpb p h) kH) (H++[.cells [.sl 0 [] .full]]) T .none;refine ah 6 [] Tryz.ntmps80 Tryz.func80 rfl (λ_ _=>Tryz.call80 _ _) (by simp) (λHO=>?_);apply ae;intro K Z;simp(disch:=omega);apply Z;apply ae;intro K Z;simp(disch:=omega);apply Z;refine af λK1 aO=>?_
 cases CQ:dT a with
 |false=>
  rw[CQ] at c1;refine ae λK hK=>?_;simp(disch:=omega) ;refine ak (c1) ?_;simp(disch:=omega) ;apply hK;apply aG rfl;apply ae;intro K Z;simp(disch:=omega);apply Z;apply ay;simp(disch:=omega) ;simp[ja,CQ,bA]
 |true=>
  rw[CQ] at c1
  cases Yq:dT b with
  |false=>
   rw[Yq] at c2;refine ae λK hK=>?_;simp(disch:=omega) ;refine ak (c1) ?_;simp(disch:=omega) ;refine ak (c2) ?_;simp(disch:=omega) ;apply hK;apply aG rfl;apply ae;intro K Z;simp(disch:=omega);apply Z;apply ay;simp(disch:=omega) ;simp[ja,Yq,bA]
  |true=>
   rw[Yq] at c2;obtain⟨a1,a2,a3⟩:=cU CQ;obtain⟨e1,e2,e3⟩:=cU Yq;have hr:ja a b=Nz a b:=by unfold ja;rw[ahs ⟨CQ,Yq⟩]
   have yT:MP (λo x=>o++[x]) (λo y=>o++[y]) (λo x y=>o++[(x.1,jn x.2 y.2)]) a b (a.length+b.length) 0 0 []=Nz a b:=TI a1 e1 (λp hp=>(a3 p hp).2.1) (λp hp=>(e3 p hp).2.1);have c:=Md (β:=PL) 145 [.ptr H.length 0] (λo x=>o++[x]) (λo y=>o++[y]) (λo x y=>o++[(x.1,jn x.2 y.2)])
    (λo=>SU H o T.length) (λo=>CY T o) (λn o=>o.length<=n) (H.length+1) (T.length+1) [] a b ha hb (λo=>Xn _ _ _) (λo=>Cf _ _) (by simp)
    (λn o _=>Xd HO o) (ahu _)
    (λn i o hi hn h=>WS a i hi (by have:=VP _ (vS a i (0,[]) hi);omega) o (by omega) H T) (λn j o hj hn h=>WR b j hj (by have:=hpb _ (vS b j (0,[]) hj);omega) o (by omega) H T)
    (λn i j o hi hj hn h=>S9 a b i j hi hj (VP _ (vS a i _ hi)) (hpb _ (vS b j _ hj)) o (by omega) H T)
    (λn i o _ h=>by simp;omega) (λn j o _ h=>by simp;omega) (λn i j o _ _ h=>by simp;omega)
   rw[yT,<-hr] at c;generalize ja a b=r at *;have k1:(SU H r T.length)[H.length]?=some (.cells [.sl r.length (bA r) (.own T.length)]):=by simp[SU]
   have hH:∃rH,SU H r T.length=H++rH:=⟨_,rfl⟩
   have hT:∃rT,CY T r=T++rT:=⟨_,rfl⟩
   refine ae λK hK=>?_;simp(disch:=omega) ;refine ak (c1) ?_;simp(disch:=omega) ;refine ak (c2) ?_;simp(disch:=omega) ;apply hK;apply aD rfl;apply aq;simp(disch:=omega) ;apply aO;clear aO;refine JY 2 H 0 [] (by omega) (by simp) ?_;refine ae λK hK=>?_;simp(disch:=omega) ;refine ak (c) ?_;simp(disch:=omega) ;apply hK;refine ae λK hK=>?_;simp(disch:=omega)[k1];apply hK;apply ay;simp(disch:=omega) ;exact⟨hH,hT⟩
def sS (l:PL):List Int:=if dT l=true then aA l else []
attribute [-simp] getD_eq_getElem?_getD in
theorem EO (l:PL)(hl:l.length<=5000)(hp:∀p∈l,p.2.length<=maxLen)(H:List az)(T:au)(tg:Tag) :
  ar prog 56 [.sl l.length (bA l) tg] H T (Is (.sl (sS l).length (ints (sS l)) .none) H T):=by
 refine ar.cg ?_;refine ar.bV ?_ (by simp);have c1:=jD l hl hp H T .none;have c2:=tR l hl H T .none;refine ah 3 [] Tryz.ntmps56 Tryz.func56 rfl (λ_ _=>Tryz.call56 _ _) (by simp) (λHO=>?_);apply ae;intro K Z;simp(disch:=omega);apply Z;refine af λK1 aO=>?_
 cases hv:dT l with
 |false=>
  rw[hv] at c1;refine ae λK hK=>?_;simp(disch:=omega) ;refine ak (c1) ?_;simp(disch:=omega) ;apply hK;apply aG rfl;apply ae;intro K Z;simp(disch:=omega);apply Z;apply ay;simp(disch:=omega) ;simp[sS,hv,ints]
 |true=>
  rw[hv] at c1;have hd:(sS l)=aA l:=by unfold sS;rw[ahs hv]
  refine ae λK hK=>?_;simp(disch:=omega) ;refine ak (c1) ?_;simp(disch:=omega) ;apply hK;apply aD rfl;apply aq;simp(disch:=omega) ;apply aO;clear aO;refine ae λK hK=>?_;simp(disch:=omega) ;refine ak (c2) ?_;simp(disch:=omega) ;apply hK;apply ay;simp(disch:=omega) ;rw[hd];simp[aA]
def gN (l:PL)(d:Int):Nat:=(l.takeWhile (λp=>decide (p.1<d))).length
def xD (l:PL)(d:Int):gN l d<=l.length:=(List.takeWhile_sublist _).length_le
theorem pP {l:PL}(h:lq l)(d:Int):∀j,j<l.length->((l.getD j (0,[])).1<d↔j<gN l d):=by
 induction l with
 |nil=>intro j hj;simp at hj
 |cons p l ih=>
  obtain⟨h1,h2⟩:=jm h;intro j hj;unfold gN
  by_cases hp:p.1<d
  ·rw[List.takeWhile_cons_of_pos (by simpa using hp)]
   cases j with
   |zero=>simp[hp]
   |succ j=>
    have:=ih h1 j (by simpa using hj);unfold gN at this;simp only[List.getD_cons_succ,ahS];omega
  ·rw[List.takeWhile_cons_of_neg (by simpa using hp)]
   cases j with
   |zero=>simp;omega
   |succ j=>
    have:=h2 _ (vS l j (0,[]) (by simpa using hj));simp only[List.getD_cons_succ,aiB];omega
attribute [-simp] getD_eq_getElem?_getD in
theorem Ti (l:PL)(f0:Nat)(d:Int)(hl:l.length<=5000)(hs:lq l)(hf:f0<=gN l d)(H:List az)(T:au) :
  ar prog 148 [.sl l.length (bA l) .none,.int .i64 (f0:Nat),.int .i64 d] H T (Is (.int .i64 (gN l d:Nat)) H T):=by
 have hle:=xD l d;have hlt:=pP hs d;generalize gN l d=N at *;refine ah 8 [] Tryz.ntmps148 Tryz.func148 rfl (λ_ _=>Tryz.call148 _ _) (by simp) (λHO=>?_);apply ae;intro K Z;simp(disch:=omega);apply Z;apply ae;intro K Z;simp(disch:=omega);apply Z;refine af λK1 aO=>?_;apply aj;refine aI (X:=Nat×Nat) (λx=>⟨[(0,.sl l.length (bA l) .none),(1,.int .i64 (x.1:Nat)),(2,.int .i64 d),(7,.int .i64 (x.2:Nat))],H,T⟩) (λx=>x.1<=N/\x.2<=x.1+1/\∃k,x.2=2 ^ k) (λx=>l.length-x.1) (f0,1) ?_ ?_ ?_
 ·exact⟨hf,by simp,0,rfl⟩
 ·refine ag [] [] ?_ ?_ ?_ ?_ HO ?_
  all_goals simp
 ·rintro⟨f,s⟩ ⟨h1,h2,k,h3⟩;simp only at h1 h2 h3;have agI:0<s:=by rw[h3];exact Nat.two_pow_pos k
  have fin:N<f+s->∀e,bu H.length T.length e [(0,.sl l.length (bA l) .none),(1,.int .i64 (f:Nat)),(2,.int .i64 d),(7,.int .i64 (s:Nat))]->K1 ⟨e,H,T⟩:=λhN e he=>by
   refine aO _ (aH ⟨[(0,.sl l.length (bA l) .none),(1,.int .i64 (f:Nat)),(2,.int .i64 d),(7,.int .i64 (s:Nat))],H,T⟩ (ag [] [] (by simp) (by simp) (by simp) (by simp) HO he) ?_);refine af λK5 lD=>?_;apply aj;refine aI (X:=Nat×Nat) (λx=>⟨[(0,.sl l.length (bA l) .none),(1,.int .i64 (x.1:Nat)),(2,.int .i64 d),(7,.int .i64 (x.2:Nat))],H,T⟩) (λx=>x.1<=N/\x.2<=5001/\(x.2=0/\x.1=N\/(∃k,x.2=2 ^ k)/\N<x.1+2*x.2)) (λx=>x.2) (f,s) ?_ ?_ ?_
   ·exact⟨h1,by simp only;omega,.inr ⟨⟨k,h3⟩,by simp only;omega⟩⟩
   ·refine ag [] [] ?_ ?_ ?_ ?_ HO ?_
    all_goals simp
   ·rintro⟨g,t⟩ ⟨g1,g2,g3⟩;simp only at g1 g2 g3;refine af λK6 om=>?_;apply ae;intro K Z;simp(disch:=omega);apply Z;rcases g3 with⟨g3,g4⟩|⟨⟨m,g3⟩,g4⟩
    ·subst g3;subst g4;apply aD rfl;apply aF;simp(disch:=omega) ;apply lD;clear lD;apply ae;intro K Z;simp(disch:=omega);apply Z;apply ay;simp(disch:=omega) ;exact⟨rfl,rfl,rfl⟩
    ·have agH:0<t:=by rw[g3];exact Nat.two_pow_pos m
     have hq:∀g':Nat,g'<=N->N<g'+t->(g'<=N/\t / 2<=5001/\(t / 2=0/\g'=N\/(∃k,t / 2=2 ^ k)/\N<g'+2*(t / 2))):=λg' q1 q2=>by
      refine⟨q1,by omega,?_⟩
      cases m with
      |zero=>simp at g3;subst g3;exact .inl ⟨rfl,by omega⟩
      |succ m=>
       have e:t / 2=2 ^ m:=by rw[g3,pow_succ];omega
       refine .inr ⟨⟨m,e⟩,?_⟩;rw[e];rw[g3,pow_succ] at q2;omega
     have UQ:(t:Int) / 2=((t / 2:Nat):Int):=by omega
     refine aT rfl (λh=>?_) (λh=>absurd h (by simp;omega));apply aq;simp(disch:=omega) ;apply om;clear om;refine af λK7 RX=>?_;apply aj
     by_cases c1:g+t<=l.length
     ·have b1:decide ((g:Int)+t<=l.length)=true:=by simp;omega
      have ek:((g:Int)+t-1).toNat=g+t-1:=by omega
      have jv:=(j5 l (g+t-1) (by omega)).1;have kE:=hlt (g+t-1) (by omega);have R9:((g:Int)+t<=l.length):=by omega
      by_cases c2:(l.getD (g+t-1) (0,[])).1<d
      ·have b2:decide ((l.getD (g+t-1) (0,[])).1<d)=true:=by simpa using c2
       have:=kE.1 c2;refine ae λK hK=>?_;simp(disch:=omega)[b1,R9,ek,jv,bt,b2,c2];apply hK;apply aG rfl;refine aB λK hK=>?_;simp(disch:=omega) ;apply hK;apply RX;clear RX;refine aB λK hK=>?_;simp(disch:=omega) ;apply hK;refine⟨(g+t,t / 2),hq (g+t) (by omega) (by omega),by show t / 2<t;omega,?_⟩;refine ag [] [] ?_ ?_ ?_ ?_ HO ?_
       all_goals simp
      ·have b2:decide ((l.getD (g+t-1) (0,[])).1<d)=false:=by simpa using c2
       have:¬g+t-1<N:=λhh=>c2 (kE.2 hh);refine ae λK hK=>?_;simp(disch:=omega)[b1,R9,ek,jv,bt,b2,c2];apply hK;apply aD rfl;apply aq;simp(disch:=omega) ;apply RX;clear RX;refine aB λK hK=>?_;simp(disch:=omega) ;apply hK;refine⟨(g,t / 2),hq g (by omega) (by omega),by show t / 2<t;omega,?_⟩;refine ag [] [] ?_ ?_ ?_ ?_ HO ?_
       all_goals simp
     ·have b1:decide ((g:Int)+t<=l.length)=false:=by simp;omega
      have R9:¬((g:Int)+t<=l.length):=by omega
      refine ae λK hK=>?_;simp(disch:=omega)[b1,R9];apply hK;apply aD rfl;apply aq;simp(disch:=omega) ;apply RX;clear RX;refine aB λK hK=>?_;simp(disch:=omega) ;apply hK;refine⟨(g,t / 2),hq g (by omega) (by omega),by show t / 2<t;omega,?_⟩;refine ag [] [] ?_ ?_ ?_ ?_ HO ?_
      all_goals simp
  clear aO;refine af λK2 bc=>?_
  by_cases c1:f+s<=l.length
  ·have b1:decide ((f:Int)+s<=l.length)=true:=by simp;omega
   have R9:((f:Int)+s<=l.length):=by omega
   have ek:((f:Int)+s-1).toNat=f+s-1:=by omega
   have jv:=(j5 l (f+s-1) (by omega)).1;have kE:=hlt (f+s-1) (by omega)
   by_cases c2:(l.getD (f+s-1) (0,[])).1<d
   ·have b2:decide ((l.getD (f+s-1) (0,[])).1<d)=true:=by simpa using c2
    have:=kE.1 c2;refine ae λK hK=>?_;simp(disch:=omega)[b1,R9,ek,jv,bt,b2,c2];apply hK;apply aG rfl;apply aq;simp(disch:=omega) ;apply bc;clear bc;apply aj;apply ae;intro K Z;simp(disch:=omega);apply Z;refine aB λK hK=>?_;simp(disch:=omega) ;apply hK;refine⟨(f+s,s*2),⟨by show f+s<=N;omega,by show s*2<=f+s+1;omega,k+1,by show s*2=2 ^ (k+1);rw[h3,pow_succ]⟩,by show l.length-(f+s)<l.length-f;omega,?_⟩;refine ag [] [] ?_ ?_ ?_ ?_ HO ?_
    all_goals simp
   ·have b2:decide ((l.getD (f+s-1) (0,[])).1<d)=false:=by simpa using c2
    have:¬f+s-1<N:=λhh=>c2 (kE.2 hh);refine ae λK hK=>?_;simp(disch:=omega)[b1,R9,ek,jv,bt,b2,c2];apply hK;apply aD rfl;apply aF;simp(disch:=omega) ;exact fin (by omega) _ (by simp)
  ·have b1:decide ((f:Int)+s<=l.length)=false:=by simp;omega
   have R9:¬((f:Int)+s<=l.length):=by omega
   refine ae λK hK=>?_;simp(disch:=omega)[b1,R9];apply hK;apply aD rfl;apply aF;simp(disch:=omega) ;exact fin (by omega) _ (by simp)
def sg (p:Int×List Int)(l:PL):aA (p::l)=p.1::aA l:=rfl
theorem U5 {a:PL}(h:lq a):a=(aA a).map (λd=>(d,posOf a d)):=by
 induction a with
 |nil=>rfl
 |cons p a ih=>
  obtain⟨h1,h2⟩:=jm h;have e:(aA a).map (λd=>(d,posOf (p::a) d))=(aA a).map (λd=>(d,posOf a d)):=ahW λd hd=>by
   obtain⟨q,hq,e⟩:=ahl.1 hd;have:=h2 q hq;rw[cV (by omega)]
  show p::a=(p.1,posOf (p::a) p.1)::(aA a).map (λd=>(d,posOf (p::a) d));rw[e,<-ih h1,dK]
def E9 {a b:PL}(ha:lq a)(hb:lq b)(h1:∀d,d∈aA a↔d∈aA b)(h2:∀d,d∈aA a->posOf a d=posOf b d):a=b:=by
 have e:aA a=aA b:=j8 _ _ ha hb h1;rw[U5 ha,U5 hb,<-e];exact ahW λd hd=>by rw[h2 d hd]
def CO (l:PL)(ds:List Int):PL:=(ds.filter (λd=>decide (d∈aA l))).map (λd=>(d,posOf l d))
def Ye (l:PL)(ds:List Int):PL:=l.filter (λp=>decide (p.1∈ds))
theorem Co {l:PL}(h:lq l)(f:Int->Bool)(d:Int)(hf:f d=true):posOf (l.filter (λp=>f p.1)) d=posOf l d:=by
 induction l with
 |nil=>rfl
 |cons p l ih=>
  obtain⟨h1,h2⟩:=jm h
  by_cases hp:f p.1=true
  ·rw[aiw (p:=λp:Int×List Int=>f p.1) hp];unfold posOf;rw[ih h1]
  ·rw[aiq (p:=λp:Int×List Int=>f p.1) hp,ih h1,cV (λe=>hp (by rw[e];exact hf))]
theorem Ah (g:Int->List Int)(ds:List Int)(d:Int)(h:d∈ds):posOf (ds.map (λd=>(d,g d))) d=g d:=by
 induction ds with
 |nil=>simp at h
 |cons x ds ih=>
  show (if x=d then g x else posOf (ds.map (λd=>(d,g d))) d)=g d
  by_cases e:x=d
  ·rw[ahs e,e]
  ·rw[ahq e];rcases ahL.1 h with h|h
   ·exact absurd h.symm e
   ·exact ih h
def EN (g:Int->List Int)(ds:List Int):aA (ds.map (λd=>(d,g d)))=ds:=by
 unfold aA;rw[ain];exact List.map_id ds
theorem FT (f:Int->Bool)(l:PL):aA (l.filter (λp=>f p.1))=(aA l).filter f:=by
 induction l with
 |nil=>rfl
 |cons p l ih=>
  by_cases hp:f p.1=true
  ·rw[aiw (p:=λp:Int×List Int=>f p.1) hp,sg,sg,aiw hp,ih]
  ·rw[aiq (p:=λp:Int×List Int=>f p.1) hp,sg,aiq hp,ih]
def ZY {l:PL}{ds:List Int}(hl:lq l)(hd:kz ds):Ye l ds=CO l ds:=by
 have e1:aA (Ye l ds)=(aA l).filter (λd=>decide (d∈ds)):=FT (λd=>decide (d∈ds)) l;have e2:aA (CO l ds)=ds.filter (λd=>decide (d∈aA l)):=EN _ _;refine E9 ?_ ?_ (λd=>?_) λd h=>?_
 ·show kz (aA (Ye l ds));rw[e1];exact hl.filter _
 ·show kz (aA (CO l ds));rw[e2];exact hd.filter _
 ·rw[e1,e2,ahF,ahF];simp[and_comm]
 ·rw[e1,ahF] at h;have h2:=ajk h.2;have g1:posOf (Ye l ds) d=posOf l d:=Co hl (λd=>decide (d∈ds)) d h.2;have g2:posOf (CO l ds) d=posOf l d:=Ah (posOf l) _ d (ahF.2 ⟨h2,ahm h.1⟩);rw[g1,g2]
def Qd (l:PL)(ds:List Int)(k:Nat)(h:k<ds.length):CO l (ds.take (k+1))=CO l (ds.take k)++(if ds.getD k 0∈aA l then [(ds.getD k 0,posOf l (ds.getD k 0))] else []):=by
 unfold CO;rw[FP ds k (λd=>decide (d∈aA l)) h]
 by_cases hm:ds.getD k 0∈aA l
 ·rw[ahs (by simpa using hm),ahs hm,ahx];rfl
 ·rw[ahq (by simpa using hm),ahq hm,ahH]
def TA (l:PL)(ds:List Int):(CO l ds).length<=ds.length:=by
 unfold CO;rw[ahz];exact ahU _ _
def HA {l:PL}(h:lq l){d e:Int}(hd:d<=e):gN l d<=gN l e:=by
 rcases ahr (gN l e) (gN l d) with h1|h1
 ·exfalso;have hle:=xD l d;have:=(pP h d (gN l e) (by omega)).2 h1;have:=(pP h e (gN l e) (by omega)).1 (by omega);omega
 ·exact h1
def LB {l:PL}(h:lq l)(d:Int):d∈aA l↔gN l d<l.length/\(l.getD (gN l d) (0,[])).1=d:=by
 constructor
 ·intro hm;obtain⟨p,hp,e⟩:=ahl.1 hm;obtain⟨j,hj,e2⟩:=ml (0,[]) hp;have hjd:(l.getD j (0,[])).1=d:=by rw[e2];exact e
  have n1:=pP h d j hj;have:gN l d<=j:=by omega
  have hlt:gN l d<l.length:=by omega
  refine⟨hlt,?_⟩;have n2:=pP h d _ hlt;rcases ahr (gN l d) j with h3|h3
  ·have:(aA l).getD (gN l d) 0<(aA l).getD j 0:=ql h h3 (by simp[aA];omega);have g:∀k,k<l.length->(aA l).getD k 0=(l.getD k (0,[])).1:=λk hk=>by
    simp[aA,ahg,aip,ahi hk]
   rw[g _ hlt,g _ hj] at this;omega
  ·have:gN l d=j:=by omega
   rw[this];exact hjd
 ·rintro⟨h1,h2⟩;exact ahl.2 ⟨_,vS l _ (0,[]) h1,h2⟩
def LW {l:PL}(h:lq l){k:Nat}(hk:k<l.length):posOf l (l.getD k (0,[])).1=(l.getD k (0,[])).2:=qv h (vS l k _ hk)
def l0 (l:PL)(ds:List Int):PL:=if dT l=true/\oZ ds 1 1000000000=true then CO l ds else []
attribute [-simp] getD_eq_getElem?_getD in
theorem Tz (l:PL)(ds:List Int)(hl:l.length<=1000)(hp:∀p∈l,p.2.length<=1000)(hd:ds.length<=1000)(H:List az)(T:au)(ta tb:Tag) :
  ar prog 81 [.sl l.length (bA l) ta,.sl ds.length (ints ds) tb] H T (Is (.sl (l0 l ds).length (bA (l0 l ds)) .none) H T):=by
 refine ar.cg (ar.uk ?_);refine ar.bV ?_ (by simp);have kH:1000<=maxLen:=by decide
 have c1:=jD l (by omega) (λp h=>aho (hp p h) kH) H T .none;have c2:=iD ds (by omega) H T .none;refine ah 21 [] Tryz.ntmps81 Tryz.func81 rfl (λ_ _=>Tryz.call81 _ _) (by simp) (λHO=>?_);apply ae;intro K Z;simp(disch:=omega);apply Z;apply ae;intro K Z;simp(disch:=omega);apply Z;refine af λK1 aO=>?_
 cases hv:dT l with
 |false=>
  rw[hv] at c1;refine ae λK hK=>?_;simp(disch:=omega) ;refine ak (c1) ?_;simp(disch:=omega) ;apply hK;apply aG rfl;apply ae;intro K Z;simp(disch:=omega);apply Z;apply ay;simp(disch:=omega) ;simp[l0,hv,bA]
 |true=>
  rw[hv] at c1
  cases hw:oZ ds 1 1000000000 with
  |false=>
   rw[hw] at c2;refine ae λK hK=>?_;simp(disch:=omega) ;refine ak (c1) ?_;simp(disch:=omega) ;refine ak (c2) ?_;simp(disch:=omega) ;apply hK;apply aG rfl;apply ae;intro K Z;simp(disch:=omega);apply Z;apply ay;simp(disch:=omega) ;simp[l0,hw,bA]
  |true=>
   rw[hw] at c2;obtain⟨a1,a2,a3⟩:=cU hv;have YA:=ko hw;have hr:l0 l ds=CO l ds:=by unfold l0;rw[ahs ⟨hv,hw⟩]
   refine ae λK hK=>?_;simp(disch:=omega) ;refine ak (c1) ?_;simp(disch:=omega) ;refine ak (c2) ?_;simp(disch:=omega) ;apply hK;apply aD rfl;apply aq;simp(disch:=omega) ;apply aO;clear aO;apply ae;intro K Z;simp(disch:=omega);apply Z;refine af λK1 aO=>?_;apply ae;intro K Z;simp(disch:=omega);apply Z;apply aj;refine m9 5 0 2 [] (by omega) (by simp) ?_;refine aI (X:=Nat×Nat) (λx=>⟨[(0,.sl l.length (bA l) .none),(5,.sl (CO l (ds.take x.1)).length (bA (CO l (ds.take x.1))) (.own T.length)),(6,.int .i64 (x.2:Nat)),(18,.sl ds.length (ints ds) .none),(19,.int .i64 (ds.length:Nat)),(20,.int .i64 (x.1:Nat))],H,T++[((CO l (ds.take x.1)).length*2,2)]⟩) (λx=>x.1<=ds.length/\(x.1<ds.length->x.2<=gN l (ds.getD x.1 0))/\x.2<=1000) (λx=>ds.length-x.1) (0,0) ?_ ?_ ?_
   ·exact⟨ahu _,λ_=>ahu _,by simp⟩
   ·refine ag [] [] ?_ ?_ ?_ ?_ (HO.kC (by simp)) ?_
    all_goals simp[tu,CO]
   ·rintro⟨k,at_⟩ ⟨h1,h2,h3⟩;simp only at h1 h2 h3;have hlen:=TA l (ds.take k);rw[ahJ] at hlen;apply ae;intro K Z;simp(disch:=omega);apply Z;refine af λK2 bc=>?_;refine aT rfl (λhk=>?_) (λhk=>?_)
    ·simp  at hk;have hgk:=bI (xs:=ds) (k:=k) hk;have hst:=Qd l ds k hk;have Rl:=LB a1 (ds.getD k 0);have XC:=xD l (ds.getD k 0);have c3:=Ti l at_ (ds.getD k 0) (by omega) a1 (h2 hk) H (T++[((CO l (ds.take k)).length*2,2)]);have lM:k+1<ds.length->gN l (ds.getD k 0)<=gN l (ds.getD (k+1) 0):=λhh=>HA a1 (Int.le_of_lt (ql YA (by omega) hh));have hpg:∀m,m<l.length->(l.getD m (0,[])).1=ds.getD k 0->posOf l (ds.getD k 0)=(l.getD m (0,[])).2:=λm hm e=>by rw[<-e];exact LW a1 hm
     generalize CO l (ds.take k)=out at *;generalize hdd:ds.getD k 0=d at *;generalize gN l d=N at *;apply aq;simp(disch:=omega) ;apply bc;clear bc;refine af λK3 bD=>?_;apply aj;refine ae λK hK=>?_;simp(disch:=omega)[hgk,hk];apply hK;refine ae λK hK=>?_;simp(disch:=omega) ;refine ak (c3) ?_;simp(disch:=omega) ;apply hK
     by_cases c1:N<l.length
     ·have b1:decide ((N:Int)<l.length)=true:=by simp;omega
      have jv:=j5 l N c1;have zt:=hp _ (vS l N (0,[]) c1);have aeU:=hpg N c1;generalize l.getD N (0,[])=p at *
      by_cases c2:p.1=d
      ·have b2:(p.1==d)=true:=by simpa using c2
       have hm:d∈aA l:=Rl.2 ⟨c1,c2⟩;rw[ahs hm,aeU c2] at hst;have tV:=nQ out d p.2;have c4:=uZ p.2 (by omega) H (T++[(out.length*2,2)]);refine ae λK hK=>?_;simp(disch:=omega)[b1,c1,jv.1,bt,b2];apply hK;apply aG rfl;refine aB λK hK=>?_;simp(disch:=omega)[jv.2,bt,tV,c1];refine ak (c4) ?_;simp(disch:=omega)[tV,bt];apply hK;apply bD;clear bD;refine aB λK hK=>?_;simp(disch:=omega) ;apply hK;refine⟨(k+1,N),⟨by show k+1<=_;omega,lM,by show N<=1000;omega⟩,by show ds.length-(k+1)<ds.length-k;omega,?_⟩;simp only[hst];refine ag [] [] ?_ ?_ ?_ ?_ (HO.kC (by simp)) ?_
       all_goals simp
      ·have b2:(p.1==d)=false:=by simpa using c2
       have hm:¬d∈aA l:=λh=>c2 (Rl.1 h).2;rw[ahq hm,ahH] at hst;refine ae λK hK=>?_;simp(disch:=omega)[b1,c1,jv.1,bt,b2];apply hK;apply aD rfl;apply aq;simp(disch:=omega) ;apply bD;clear bD;refine aB λK hK=>?_;simp(disch:=omega) ;apply hK;refine⟨(k+1,N),⟨by show k+1<=_;omega,lM,by show N<=1000;omega⟩,by show ds.length-(k+1)<ds.length-k;omega,?_⟩;simp only[hst];refine ag [] [] ?_ ?_ ?_ ?_ (HO.kC (by simp)) ?_
       all_goals simp
     ·have b1:decide ((N:Int)<l.length)=false:=by simp;omega
      have hm:¬d∈aA l:=λh=>c1 (Rl.1 h).1;rw[ahq hm,ahH] at hst;refine ae λK hK=>?_;simp(disch:=omega)[b1,c1];apply hK;apply aD rfl;apply aq;simp(disch:=omega) ;apply bD;clear bD;refine aB λK hK=>?_;simp(disch:=omega) ;apply hK;refine⟨(k+1,N),⟨by show k+1<=_;omega,lM,by show N<=1000;omega⟩,by show ds.length-(k+1)<ds.length-k;omega,?_⟩;simp only[hst];refine ag [] [] ?_ ?_ ?_ ?_ (HO.kC (by simp)) ?_
      all_goals simp
    ·simp at hk;have:k=ds.length:=by omega
     subst this;rw[ahE];apply aF;simp(disch:=omega) ;apply aO;clear aO;apply ae;intro K Z;simp(disch:=omega);apply Z;apply ay;simp(disch:=omega) ;rw[hr];exact⟨rfl,rfl⟩
def VL (l:PL):Prop:=dT l=true
def K8 {l:PL}(h1:lq l)(h2:∀p∈l,1<=p.1/\p.1<=1000000000)(h3:∀p∈l,p.2≠[]/\kz p.2/\∀q∈p.2,0<=q/\q<=1000000):VL l:=by
 unfold VL dT;rw[aht];refine⟨nf h1 λq hq=>?_,?_⟩
 ·obtain⟨p,hp,rfl⟩:=ahl.1 hq;exact h2 p hp
 ·have:l.any nG=false:=by
   rw[ai9];intro p hp;obtain⟨g1,g2,g3⟩:=h3 p hp;have e:oZ p.2 0 1000000=true:=nf g2 g3;simp[nG,e,g1]
  rw[this];rfl
theorem um {l:PL}{d z:Int}(h:z∈posOf l d):∃p∈l,p.1=d/\posOf l d=p.2:=by
 induction l with
 |nil=>simp[posOf] at h
 |cons p l ih=>
  by_cases e:p.1=d
  ·subst e;exact⟨p,by simp,rfl,dK⟩
  ·rw[cV e] at h ⊢;obtain⟨q,g1,g2,g3⟩:=ih h;exact⟨q,by simp[g1],g2,g3⟩
theorem gH {l:PL}(h:VL l)(d:Int):kz (posOf l d):=by
 cases e:posOf l d with
 |nil=>exact List.Pairwise.nil
 |cons z r=>
  obtain⟨p,h1,_,h3⟩:=um (l:=l) (d:=d) (z:=z) (by rw[e];simp);rw[<-e,h3];exact((cU h).2.2 p h1).2.1
def wD {l:PL}(h:VL l)(d:Int):d∈aA l↔∃z,z∈posOf l d:=by
 obtain⟨a1,a2,a3⟩:=cU h
 constructor
 ·intro hd;obtain⟨p,hp,rfl⟩:=ahl.1 hd;rw[qv a1 hp];exact aiL _ (a3 p hp).1
 ·rintro⟨z,hz⟩;obtain⟨p,h1,h2,_⟩:=um hz;exact ahl.2 ⟨p,h1,h2⟩
def Y7 {a b:PL}(ha:VL a)(hb:VL b)(h:∀d z,z∈posOf a d↔z∈posOf b d):a=b:=by
 refine E9 (cU ha).1 (cU hb).1 (λd=>?_) λd _=>j8 _ _ (gH ha d) (gH hb d) (h d);rw[wD ha,wD hb];exact exists_congr (h d)
def zW {a b:PL}(ha:VL a)(hb:VL b):ja a b=Nz a b:=by unfold ja;rw[ahs ⟨ha,hb⟩]
def EM (a b:PL):aA (Nz a b)=jn (aA a) (aA b):=EN (λd=>jn (posOf a d) (posOf b d)) _
def LU {a b:PL}(ha:VL a)(hb:VL b)(d:Int):posOf (Nz a b) d=jn (posOf a d) (posOf b d):=by
 by_cases h:d∈jn (aA a) (aA b)
 ·exact Ah (λd=>jn (posOf a d) (posOf b d)) _ d h
 ·have e:posOf (Nz a b) d=[]:=xH (by rw[show (Nz a b).map (·.1)=aA (Nz a b) from rfl,EM];exact h);rw[pH (a:=aA a) (b:=aA b) (cU ha).1 (cU hb).1] at h;have e1:posOf a d=[]:=xH (λhh=>h (.inl hh));have e2:posOf b d=[]:=xH (λhh=>h (.inr hh));rw[e,e1,e2];rfl
def OK {a b:PL}(ha:VL a)(hb:VL b)(d z:Int):z∈posOf (ja a b) d↔z∈posOf a d\/z∈posOf b d:=by
 rw[zW ha hb,LU ha hb,pH (gH ha d) (gH hb d)]
def Y8 {a b:PL}(ha:VL a)(hb:VL b):VL (ja a b):=by
 obtain⟨a1,a2,a3⟩:=cU ha;obtain⟨b1,b2,b3⟩:=cU hb;rw[zW ha hb];have key:∀d,d∈jn (aA a) (aA b)->d∈aA a\/d∈aA b:=λd hd=>(pH a1 b1 d).1 hd;refine K8 ?_ (λp hp=>?_) λp hp=>?_
 ·show kz (aA (Nz a b));rw[EM];exact xl a1 b1
 ·obtain⟨d,hd,rfl⟩:=ahl.1 hp;rcases key d hd with h|h
  ·obtain⟨q,hq,e⟩:=ahl.1 h;have:=a2 q hq;rw[e] at this;exact this
  ·obtain⟨q,hq,e⟩:=ahl.1 h;have:=b2 q hq;rw[e] at this;exact this
 ·obtain⟨d,hd,rfl⟩:=ahl.1 hp;refine⟨λe=>?_,xl (gH ha d) (gH hb d),λq hq=>?_⟩
  ·have e':jn (posOf a d) (posOf b d)=[]:=e;have hno:∀z,¬(z∈posOf a d\/z∈posOf b d):=λz hz=>by
    rw[<-pH (gH ha d) (gH hb d),e'] at hz;simp at hz
   rcases key d hd with h|h
   ·obtain⟨z,hz⟩:=(wD ha d).1 h;exact hno z (.inl hz)
   ·obtain⟨z,hz⟩:=(wD hb d).1 h;exact hno z (.inr hz)
  ·rcases (pH (gH ha d) (gH hb d) q).1 hq with h|h
   ·obtain⟨p,h1,_,h3⟩:=um h;rw[h3] at h;exact(a3 p h1).2.2 q h
   ·obtain⟨p,h1,_,h3⟩:=um h;rw[h3] at h;exact(b3 p h1).2.2 q h
section
variable {a b c : PL} (ha : VL a) (hb : VL b) (hc : VL c)
include ha
include hb
include hc
end
end Go.Proofs.YtoejlmpbebjemaaGreat
