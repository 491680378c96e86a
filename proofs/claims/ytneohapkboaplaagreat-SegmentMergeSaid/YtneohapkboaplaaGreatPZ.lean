/- Posting lists: what is kept of them by a test on positions; laws on lists. What is kept of a posting: the function that filtered gives to merge. Merging of posting lists in layer 38. filtered of layer 38, and Near. Lists of posting lists in layer 38, and which of them are valid. Phrase of layer 38. The example of the document of layer 38 holds. At and Near of the reference of layer 38. Phrase of the reference of layer 38. PostingSets: the walk. And, Or, Without obey the laws of sets. Merging of lists of numbers in layer 38, for any function that takes the numbers. The parts of Union in layer 38: copies, joined. The union of posting lists: going through both is the same as collecting the positions of each document. Union of layer 38. Union of the reference of layer 38. Docs, Seek and Count of layer 38 and of its reference. seek of layer 38: by doubling steps, which are halved again. Posting lists: which of them are equal; the postings of some documents. Only of layer 38 and of its reference. Valid posting lists: they are their documents and positions; the laws of Union, Phrase, Near.
   Conditions: as the theorems say. -/
import Derived.Test.YtneohapkboaplaaGreatPA
import Derived.Test.YtneohapkboaplaaGreatPB
import Derived.Test.YtneohapkboaplaaGreatAmC
set_option linter.all false
set_option maxRecDepth 100000
set_option maxHeartbeats 4000000
open Nat (zero_le le_refl le_trans)
open List (getD_eq_getElem?_getD drop_length length_cons)
namespace dh
abbrev PL:=List (Int×List Int)
def posOf:PL→Int→List Int
 |[],_=>[]
 |p::l,d=>if p.1=d then p.2 else posOf l d
def wE {β:Type}(fA fB:β→(Int×List Int)→β)(fAB:β→(Int×List Int)→(Int×List Int)→β):Nat→PL→PL→β→β
 |0,_,_,o=>o
 |n+1,x::a,y::b,o=>if x.1<y.1 then wE fA fB fAB n a (y::b) (fA o x) else if y.1<x.1 then wE fA fB fAB n (x::a) b (fB o y) else wE fA fB fAB n a b (fAB o x y)
 |n+1,x::a,[],o=>wE fA fB fAB n a [] (fA o x)
 |n+1,[],y::b,o=>wE fA fB fAB n [] b (fB o y)
 |_+1,[],[],o=>o
def nO (l:PL):Prop:=kU (l.map (·.1))
theorem j6 {x:Int×List Int}{l:PL}(h:nO (x::l)):nO l∧∀y∈l,x.1<y.1:=by
 obtain⟨h1,h2⟩:=kE h;exact⟨h1,fun y hy=>h2 _ (List.mem_map.2 ⟨y,hy,rfl⟩)⟩
theorem cG {p:Int×List Int}{l:PL}{d:Int}(h:p.1≠d):posOf (p::l) d=posOf l d:=by simp[posOf,h]
theorem cO {p:Int×List Int}{l:PL}:posOf (p::l) p.1=p.2:=by simp[posOf]
theorem mE {l:PL}{d:Int}(h:∀p∈l,p.1≠d):posOf l d=[]:=by
 induction l with
 |nil=>rfl
 |cons p l ih=>rw[cG (h p (by simp)),ih (fun q hq=>h q (by simp[hq]))]
end dh
namespace Go.Proofs.YtneohapkboaplaaGreat
open Go Go.Am dh
def zF (T:ar)(out:PL):ar:=T++[(out.length*2,2)]
theorem y5 (T:ar)(out:PL):(zF T out).length=T.length+1:=by simp[zF]
attribute [-simp] getD_eq_getElem?_getD in
theorem n4 (p:Int×List Int)(H:List aA)(T:ar):aq Tryz.prog 111 [.agg [.int .i64 p.1,.sl p.2.length (ints p.2) .none]] H T (Is (.int .i64 p.1) H T):=by
 refine aq.cH ?_ (by simp);refine aj 3 [] Tryz.ntmps111 Tryz.func111 rfl (fun _ _=>Tryz.call111 _ _) (by simp) (fun HO=>?_);apply ae;intro K h;simp(disch:=omega);apply h;clear h K;apply ae;intro K h;simp(disch:=omega);apply h;clear h K;apply az;simp(disch:=omega) 
theorem gg (l:PL)(i:Nat)(h:i<l.length):l.drop i=l.getD i (0,[])::l.drop (i+1):=by
 rw[List.drop_eq_getElem_cons h,getD_eq_getElem?_getD,List.getElem?_eq_getElem h];rfl
def MP {β:Type}(fA fB:β→(Int×List Int)→β)(fAB:β→(Int×List Int)→(Int×List Int)→β)(a b:PL)(n i j:Nat)(o:β):β:=wE fA fB fAB n (a.drop i) (b.drop j) o
section
variable {β : Type} {fA fB : β → (Int × List Int) → β} {fAB : β → (Int × List Int) → (Int × List Int) → β} {a b : PL} {o : β} {n i j : Nat}
theorem aa3 (hn:0<n)(hi:i<a.length)(hj:j<b.length)(h:(a.getD i (0,[])).1<(b.getD j (0,[])).1):MP fA fB fAB a b n i j o=MP fA fB fAB a b (n-1) (i+1) j (fA o (a.getD i (0,[]))):=by
 obtain⟨m,rfl⟩:∃m,n=m+1:=⟨n-1,by omega⟩
 unfold MP;rw[gg a i hi,gg b j hj,wE,if_pos h];rfl
theorem aa2 (hn:0<n)(hi:i<a.length)(hj:j<b.length)(h:¬(a.getD i (0,[])).1<(b.getD j (0,[])).1)(h2:(b.getD j (0,[])).1<(a.getD i (0,[])).1):MP fA fB fAB a b n i j o=MP fA fB fAB a b (n-1) i (j+1) (fB o (b.getD j (0,[]))):=by
 obtain⟨m,rfl⟩:∃m,n=m+1:=⟨n-1,by omega⟩
 unfold MP;rw[gg a i hi,gg b j hj,wE,if_neg h,if_pos h2];rfl
theorem UG (hn:0<n)(hi:i<a.length)(hj:j<b.length)(h:¬(a.getD i (0,[])).1<(b.getD j (0,[])).1)(h2:¬(b.getD j (0,[])).1<(a.getD i (0,[])).1):MP fA fB fAB a b n i j o=MP fA fB fAB a b (n-1) (i+1) (j+1) (fAB o (a.getD i (0,[])) (b.getD j (0,[]))):=by
 obtain⟨m,rfl⟩:∃m,n=m+1:=⟨n-1,by omega⟩
 unfold MP;rw[gg a i hi,gg b j hj,wE,if_neg h,if_neg h2];rfl
theorem UH (hn:0<n)(hi:i<a.length)(hj:j=b.length):MP fA fB fAB a b n i j o=MP fA fB fAB a b (n-1) (i+1) j (fA o (a.getD i (0,[]))):=by
 obtain⟨m,rfl⟩:∃m,n=m+1:=⟨n-1,by omega⟩
 unfold MP;rw[gg a i hi,hj,drop_length,wE];rfl
theorem UF (hn:0<n)(hi:i=a.length)(hj:j<b.length):MP fA fB fAB a b n i j o=MP fA fB fAB a b (n-1) i (j+1) (fB o (b.getD j (0,[]))):=by
 obtain⟨m,rfl⟩:∃m,n=m+1:=⟨n-1,by omega⟩
 unfold MP;rw[gg b j hj,hi,drop_length,wE];rfl
theorem Q1 (hi:i=a.length)(hj:j=b.length):MP fA fB fAB a b n i j o=o:=by
 unfold MP;rw[hi,hj,drop_length,drop_length]
 cases n<;>rfl
end
attribute [-simp] getD_eq_getElem?_getD in
theorem Hv {β:Type}(g:Nat)(db:List AV)(fA fB:β→(Int×List Int)→β)(fAB:β→(Int×List Int)→(Int×List Int)→β)(S:β→List aA)(U:β→ar)(I:Nat→β→Prop)(N M:Nat)(o0:β)
  (a b:PL) (ha:a.length≤400) (hb:b.length≤400) (hS:∀o,(S o).length=N) (hU:∀o,(U o).length=M) (v7:aJ N M db) (iG:∀n o,I n o→bC (S o) (U o)) (h0:I 0 o0)
  (cA:∀n i o,i<a.length→n≤800→I n o→aq Tryz.prog g ([.dK (bp a) (i*2),.fc]++db) (S o) (U o) (Is (.df []) (S (fA o (a.getD i (0,[])))) (U (fA o (a.getD i (0,[]))))))
  (cB:∀n j o,j<b.length→n≤800→I n o→aq Tryz.prog g ([.fc,.dK (bp b) (j*2)]++db) (S o) (U o) (Is (.df []) (S (fB o (b.getD j (0,[])))) (U (fB o (b.getD j (0,[]))))))
  (ZY:∀n i j o,i<a.length→j<b.length→n≤800→I n o→aq Tryz.prog g ([.dK (bp a) (i*2),.dK (bp b) (j*2)]++db) (S o) (U o) (Is (.df []) (S (fAB o (a.getD i (0,[])) (b.getD j (0,[])))) (U (fAB o (a.getD i (0,[])) (b.getD j (0,[]))))))
  (iA:∀n i o,i<a.length→I n o→I (n+1) (fA o (a.getD i (0,[])))) (iB:∀n j o,j<b.length→I n o→I (n+1) (fB o (b.getD j (0,[])))) (Sf:∀n i j o,i<a.length→j<b.length→I n o→I (n+2) (fAB o (a.getD i (0,[])) (b.getD j (0,[])))) :
  aq Tryz.prog 110 [.sl a.length (bp a) .none,.sl b.length (bp b) .none,.fn 111 [] [],.fn g [] db] (S o0) (U o0)
   (Is (.df []) (S (MP fA fB fAB a b (a.length+b.length) 0 0 o0)) (U (MP fA fB fAB a b (a.length+b.length) 0 0 o0))):=by
 refine aj 11 [] Tryz.ntmps110 Tryz.func110 rfl (fun _ _=>Tryz.call110 _ _) (by simp) (fun HO=>?_);apply ae;intro K h;simp(disch:=omega);apply h;clear h K;apply ah;refine aG (X:=Nat×Nat×Nat×β) (fun x=>⟨[(0,.sl a.length (bp a) .none),(1,.sl b.length (bp b) .none),(2,.fn 111 [] []),(3,.fn g [] db),(8,.int .i64 (x.2.1:Nat)),(9,.int .i64 (x.2.2.1:Nat))],S x.2.2.2,U x.2.2.2⟩)
  (fun x=>x.2.1≤a.length∧x.2.2.1≤b.length∧(a.length-x.2.1)+(b.length-x.2.2.1)≤x.1∧MP fA fB fAB a b (a.length+b.length) 0 0 o0=MP fA fB fAB a b x.1 x.2.1 x.2.2.1 x.2.2.2∧I (x.2.1+x.2.2.1) x.2.2.2) (fun x=>x.1) (a.length+b.length,0,0,o0) ?_ ?_ ?_
 ·exact⟨zero_le _,zero_le _,by simp only;omega,rfl,h0⟩
 ·refine ag [] [] ?_ ?_ ?_ ?_ HO ?_
  ·simp
  ·simp
  ·simp
  ·simp
  ·simp[hS,hU,v7]
 ·rintro⟨n,i,j,out⟩ ⟨h1,h2,h3,h4,h5⟩;simp only at h1 h2 h3 h4 h5
  by_cases hi:i<a.length
  ·have bi:decide ((i:Int)<a.length)=true:=by simp;omega
   have ni:((i:Int)==a.length)=false:=by rw[beq_eq_false_iff_ne];omega
   have Ow:¬i=a.length:=by omega
   have Mw:=jq a i hi
   by_cases hj:j<b.length
   ·have bj:decide ((j:Int)<b.length)=true:=by simp;omega
    have nj:((j:Int)==b.length)=false:=by rw[beq_eq_false_iff_ne];omega
    have Em:¬j=b.length:=by omega
    have Mv:=jq b j hj;have hn:0<n:=by omega
    refine af fun K2 aW=>?_;refine ae fun K hK=>?_;simp(disch:=omega)[bi,bj,hi,hj];apply hK;clear hK K;apply aF rfl;apply ai;simp(disch:=omega) ;apply aW;clear aW;apply ah;apply ah
    by_cases c1:(a.getD i (0,[])).1<(b.getD j (0,[])).1
    ·have b1:decide ((a.getD i (0,[])).1<(b.getD j (0,[])).1)=true:=by simpa using c1
     have eM:=aa3 (fA:=fA) (fB:=fB) (fAB:=fAB) (o:=out) hn hi hj c1;refine aI [] [] [] al (by kernel_rfl) (by kernel_rfl) fun K hK=>?_;simp(disch:=omega)[bi,hi,nj,Em,Mw,aY];refine aB (n4 _ _ _) rfl ?_;simp(disch:=omega)[Mv,aY];refine aB (n4 _ _ _) rfl ?_;simp(disch:=omega)[b1,c1];apply hK;clear hK K;apply aF rfl;refine ae fun K hK=>?_;simp(disch:=omega)[aY];refine ak (cA (i+j) i out hi (by omega) h5) ?_;simp(disch:=omega) ;apply hK;clear hK K;refine au fun K hK=>?_;simp(disch:=omega) ;apply hK;clear hK K;refine⟨(n-1,i+1,j,fA out (a.getD i (0,[]))),⟨by show i+1≤a.length;omega,by show j≤b.length;omega,by show (a.length-(i+1))+(b.length-(j))≤n-1;omega,h4.trans eM,(show I (i+1+j) _ by rw[show i+1+j=i+j+1 by omega];exact iA _ i out hi h5)⟩,by show n-1<n;omega,?_⟩;refine ag [] [] ?_ ?_ ?_ ?_ (iG _ _ ((show I (i+1+j) _ by rw[show i+1+j=i+j+1 by omega];exact iA _ i out hi h5))) ?_
     ·simp
     ·simp
     ·simp[hS]
     ·simp[hU]
     ·simp[hS,hU,v7]
      try omega
    ·have b1:decide ((a.getD i (0,[])).1<(b.getD j (0,[])).1)=false:=by simpa using c1
     refine aI [] [] [] al (by kernel_rfl) (by kernel_rfl) fun K hK=>?_;simp(disch:=omega)[bi,hi,nj,Em,Mw,aY];refine aB (n4 _ _ _) rfl ?_;simp(disch:=omega)[Mv,aY];refine aB (n4 _ _ _) rfl ?_;simp(disch:=omega)[b1,c1];apply hK;clear hK K;apply aD rfl
     by_cases c2:(b.getD j (0,[])).1<(a.getD i (0,[])).1
     ·have b2:decide ((b.getD j (0,[])).1<(a.getD i (0,[])).1)=true:=by simpa using c2
      have eM:=aa2 (fA:=fA) (fB:=fB) (fAB:=fAB) (o:=out) hn hi hj c1 c2;refine aI [] [] [] al (by kernel_rfl) (by kernel_rfl) fun K hK=>?_;simp(disch:=omega)[ni,Ow,Mv,aY,hj];refine aB (n4 _ _ _) rfl ?_;simp(disch:=omega)[Mw,aY];refine aB (n4 _ _ _) rfl ?_;simp(disch:=omega)[b2,c2];apply hK;clear hK K;apply aF rfl;refine ae fun K hK=>?_;simp(disch:=omega)[aY];refine ak (cB (i+j) j out hj (by omega) h5) ?_;simp(disch:=omega) ;apply hK;clear hK K;refine au fun K hK=>?_;simp(disch:=omega) ;apply hK;clear hK K;refine⟨(n-1,i,j+1,fB out (b.getD j (0,[]))),⟨by show i≤a.length;omega,by show j+1≤b.length;omega,by show (a.length-(i))+(b.length-(j+1))≤n-1;omega,h4.trans eM,(show I (i+(j+1)) _ from iB _ j out hj h5)⟩,by show n-1<n;omega,?_⟩;refine ag [] [] ?_ ?_ ?_ ?_ (iG _ _ ((show I (i+(j+1)) _ from iB _ j out hj h5))) ?_
      ·simp
      ·simp
      ·simp[hS]
      ·simp[hU]
      ·simp[hS,hU,v7]
       try omega
     ·have b2:decide ((b.getD j (0,[])).1<(a.getD i (0,[])).1)=false:=by simpa using c2
      have eM:=UG (fA:=fA) (fB:=fB) (fAB:=fAB) (o:=out) hn hi hj c1 c2;refine aI [] [] [] al (by kernel_rfl) (by kernel_rfl) fun K hK=>?_;simp(disch:=omega)[ni,Ow,Mv,aY,hj];refine aB (n4 _ _ _) rfl ?_;simp(disch:=omega)[Mw,aY];refine aB (n4 _ _ _) rfl ?_;simp(disch:=omega)[b2,c2];apply hK;clear hK K;apply aD rfl;refine aI [7] [0,0,0,0,0,0,0,0] [[]] al (by kernel_rfl) (by kernel_rfl) fun K hK=>?_;simp(disch:=omega)[aY,hi,hj];refine oZ (ZY (i+j) i j out hi hj (by omega) h5) rfl ?_;simp(disch:=omega) ;apply hK;clear hK K;refine au fun K hK=>?_;simp(disch:=omega) ;apply hK;clear hK K;refine⟨(n-1,i+1,j+1,fAB out (a.getD i (0,[])) (b.getD j (0,[]))),⟨by show i+1≤a.length;omega,by show j+1≤b.length;omega,by show (a.length-(i+1))+(b.length-(j+1))≤n-1;omega,h4.trans eM,(show I (i+1+(j+1)) _ by rw[show i+1+(j+1)=i+j+2 by omega];exact Sf _ i j out hi hj h5)⟩,by show n-1<n;omega,?_⟩;refine ag [] [] ?_ ?_ ?_ ?_ (iG _ _ ((show I (i+1+(j+1)) _ by rw[show i+1+(j+1)=i+j+2 by omega];exact Sf _ i j out hi hj h5))) ?_
      ·simp
      ·simp
      ·simp[hS]
      ·simp[hU]
      ·simp[hS,hU,v7]
       try omega
   ·have bj:decide ((j:Int)<b.length)=false:=by simp;omega
    have OC:j=b.length:=by omega
    have nj:((j:Int)==b.length)=true:=by simp;omega
    have hn:0<n:=by omega
    have eM:=UH (fA:=fA) (fB:=fB) (fAB:=fAB) (o:=out) hn hi OC;refine af fun K2 aW=>?_;refine ae fun K hK=>?_;simp(disch:=omega)[bi,bj,hi,hj];apply hK;clear hK K;apply aF rfl;apply ai;simp(disch:=omega) ;apply aW;clear aW;apply ah;apply ah;have SB:(j:Int)=(b.length:Int):=by omega
    refine aI [] [] [] al (by kernel_rfl) (by kernel_rfl) fun K hK=>?_;simp(disch:=omega)[nj,SB];apply hK;clear hK K;apply aF rfl;refine ae fun K hK=>?_;simp(disch:=omega)[aY];refine ak (cA (i+j) i out hi (by omega) h5) ?_;simp(disch:=omega) ;apply hK;clear hK K;refine au fun K hK=>?_;simp(disch:=omega) ;apply hK;clear hK K;refine⟨(n-1,i+1,j,fA out (a.getD i (0,[]))),⟨by show i+1≤a.length;omega,by show j≤b.length;omega,by show (a.length-(i+1))+(b.length-(j))≤n-1;omega,h4.trans eM,(show I (i+1+j) _ by rw[show i+1+j=i+j+1 by omega];exact iA _ i out hi h5)⟩,by show n-1<n;omega,?_⟩;refine ag [] [] ?_ ?_ ?_ ?_ (iG _ _ ((show I (i+1+j) _ by rw[show i+1+j=i+j+1 by omega];exact iA _ i out hi h5))) ?_
    ·simp
    ·simp
    ·simp[hS]
    ·simp[hU]
    ·simp[hS,hU,v7]
     try omega
  ·have bi:decide ((i:Int)<a.length)=false:=by simp;omega
   have mg:i=a.length:=by omega
   by_cases hj:j<b.length
   ·have bj:decide ((j:Int)<b.length)=true:=by simp;omega
    have nj:((j:Int)==b.length)=false:=by rw[beq_eq_false_iff_ne];omega
    have Em:¬j=b.length:=by omega
    have ni:((i:Int)==a.length)=true:=by simp;omega
    have hn:0<n:=by omega
    have eM:=UF (fA:=fA) (fB:=fB) (fAB:=fAB) (o:=out) hn mg hj;refine af fun K2 aW=>?_;refine ae fun K hK=>?_;simp(disch:=omega)[bi,bj,hi,hj];apply hK;clear hK K;apply aF rfl;apply ai;simp(disch:=omega) ;apply aW;clear aW;apply ah;apply ah;refine aI [] [] [] al (by kernel_rfl) (by kernel_rfl) fun K hK=>?_;simp(disch:=omega)[nj,Em,bi,hi];apply hK;clear hK K;apply aD rfl;have SC:(i:Int)=(a.length:Int):=by omega
    refine aI [] [] [] al (by kernel_rfl) (by kernel_rfl) fun K hK=>?_;simp(disch:=omega)[ni,SC];apply hK;clear hK K;apply aF rfl;refine ae fun K hK=>?_;simp(disch:=omega)[aY];refine ak (cB (i+j) j out hj (by omega) h5) ?_;simp(disch:=omega) ;apply hK;clear hK K;refine au fun K hK=>?_;simp(disch:=omega) ;apply hK;clear hK K;refine⟨(n-1,i,j+1,fB out (b.getD j (0,[]))),⟨by show i≤a.length;omega,by show j+1≤b.length;omega,by show (a.length-(i))+(b.length-(j+1))≤n-1;omega,h4.trans eM,(show I (i+(j+1)) _ from iB _ j out hj h5)⟩,by show n-1<n;omega,?_⟩;refine ag [] [] ?_ ?_ ?_ ?_ (iG _ _ ((show I (i+(j+1)) _ from iB _ j out hj h5))) ?_
    ·simp
    ·simp
    ·simp[hS]
    ·simp[hU]
    ·simp[hS,hU,v7]
     try omega
   ·have bj:decide ((j:Int)<b.length)=false:=by simp;omega
    have zL:=Q1 (fA:=fA) (fB:=fB) (fAB:=fAB) (a:=a) (b:=b) (o:=out) (n:=n) mg (show j=b.length by omega);rw[zL] at h4;refine af fun K2 aW=>?_;refine ae fun K hK=>?_;simp(disch:=omega)[bi,bj,hi,hj];apply hK;clear hK K;apply aD rfl;apply aC;simp(disch:=omega) ;rw[h4];exact⟨rfl,rfl,rfl⟩
theorem rW {b:PL}{y:Int×List Int}(hs:nO b)(h:y∈b):posOf b y.1=y.2:=by
 induction b with
 |nil=>simp at h
 |cons z b ih=>
  obtain⟨h1,h2⟩:=j6 hs;rcases List.mem_cons.1 h with rfl|h
  ·exact cO
  ·have:=h2 y h;rw[cG (by omega)];exact ih h1 h
theorem cU {l:PL}(h:bX l=true):nO l∧(∀p∈l,1≤p.1∧p.1≤1000000000)∧∀p∈l,p.2≠[]∧kU p.2∧∀q∈p.2,0≤q∧q≤1000000:=by
 have bounds:∀(l:List Int)(lo hi:Int),ju l lo hi=true→∀q∈l,lo≤q∧q≤hi:=fun l lo hi h q hq=>by
  obtain⟨j,hj,e⟩:=iv 0 hq;unfold ju at h;rw[List.all_eq_true] at h;have:=h j (by simpa using hj);unfold fU at this;simp only[Bool.and_eq_true,decide_eq_true_eq] at this;rw[e] at this;exact this.1
 unfold bX at h;rw[Bool.and_eq_true] at h;obtain⟨h1,h2⟩:=h;refine⟨gI h1,fun p hp=>bounds _ _ _ h1 _ (List.mem_map.2 ⟨p,hp,rfl⟩),fun p hp=>?_⟩;have h3:gN p=false:=by
  cases hb:gN p with
  |false=>rfl
  |true=>
   have:l.any gN=true:=List.any_eq_true.2 ⟨p,hp,hb⟩;rw[this] at h2;simp at h2
 unfold gN at h3;rw[Bool.or_eq_false_iff] at h3;have h4:ju p.2 0 1000000=true:=by simpa using h3.2
 refine⟨fun e=>?_,gI h4,bounds _ _ _ h4⟩;have:=h3.1;rw[e] at this;simp at this
theorem uS {l:PL}{d:Int}(h:¬d∈l.map (·.1)):posOf l d=[]:=mE fun p hp e=>h (List.mem_map.2 ⟨p,hp,e⟩)
end Go.Proofs.YtneohapkboaplaaGreat
namespace Go.Proofs.YtneohapkboaplaaGreat
open Go Go.Am dh
theorem BY:∀(l:PL)(k:Nat)(d:Int),k<l.length→(∀j,j<k→(l.getD j (0,[])).1≠d)→(l.getD k (0,[])).1=d→posOf l d=(l.getD k (0,[])).2:=by
 intro l
 induction l with
 |nil=>intro k d h;simp at h
 |cons p l ih=>
  intro k d h h1 h2
  cases k with
  |zero=>simp at h2;subst h2;exact cO
  |succ k=>
   have h0:p.1≠d:=by have:=h1 0 (by omega);simpa using this
   rw[cG h0];exact ih k d (by simpa using h) (fun j hj=>by have:=h1 (j+1) (by omega);simpa using this) (by simpa using h2)
theorem Hl {l:PL}{m:Nat}(h:∀p∈l,p.2.length≤m)(d:Int):(posOf l d).length≤m:=by
 induction l with
 |nil=>simp[posOf]
 |cons p l ih=>
  unfold posOf
  split
  ·exact h p (by simp)
  ·exact ih (fun q hq=>h q (by simp[hq]))
attribute [-simp] getD_eq_getElem?_getD in
theorem Kg (l:PL)(d:Int)(hl:l.length≤1000)(H:List aA)(T:ar)(tg:Tag):aq Tryz.prog 32 [.sl l.length (bp l) tg,.int .i64 d] H T (Is (.sl (posOf l d).length (ints (posOf l d)) .none) H T):=by
 refine aq.cD ?_;refine aq.cH ?_ (by simp);refine aj 6 [] Tryz.ntmps32 Tryz.func32 rfl (fun _ _=>Tryz.call32 _ _) (by simp) (fun HO=>?_);apply ae;intro K h;simp(disch:=omega);apply h;clear h K;refine af fun K1 aQ=>?_;apply ae;intro K h;simp(disch:=omega);apply h;clear h K;apply ah;refine aG (X:=Nat) (fun k=>⟨[(0,.sl l.length (bp l) .none),(1,.int .i64 d),(5,.int .i64 (k:Nat))],H,T⟩) (fun k=>k≤l.length∧∀j,j<k→(l.getD j (0,[])).1≠d) (fun k=>l.length-k) 0 ?_ ?_ ?_
 ·exact⟨zero_le _,fun j hj=>absurd hj (Nat.not_lt_zero _)⟩
 ·refine ag [] [] ?_ ?_ ?_ ?_ HO ?_
  all_goals simp
 ·rintro k ⟨h1,h2⟩;refine af fun K2 aW=>?_;apply ae;intro K h;simp(disch:=omega);apply h;clear h K;refine aN rfl (fun hk=>?_) (fun hk=>?_)
  ·simp  at hk;have fP:=im l k hk;apply ai;simp(disch:=omega) ;apply aW;clear aW;refine af fun K3 bz=>?_;apply ah
   by_cases hc:(l.getD k (0,[])).1=d
   ·have b:((l.getD k (0,[])).1==d)=true:=by simpa using hc
    have hf:=BY l k d hk h2 hc;refine ae fun K hK=>?_;simp(disch:=omega)[fP.1,aY,b];apply hK;clear hK K;apply aF rfl;refine ae fun K hK=>?_;simp(disch:=omega)[fP.2,aY];apply hK;clear hK K;apply az;simp(disch:=omega) ;rw[hf];simp
   ·have b:((l.getD k (0,[])).1==d)=false:=by simpa using hc
    refine ae fun K hK=>?_;simp(disch:=omega)[fP.1,aY,b];apply hK;clear hK K;apply aD rfl;apply ai;simp(disch:=omega) ;apply bz;clear bz;refine au fun K hK=>?_;simp(disch:=omega) ;apply hK;clear hK K;refine⟨k+1,⟨by show k+1≤_;omega,fun j hj=>?_⟩,by show l.length-(k+1)<l.length-k;omega,?_⟩
    ·rcases Nat.lt_or_ge j k with h3|h3
     ·exact h2 j h3
     ·have:j=k:=by omega
      subst this;exact hc
    ·refine ag [] [] ?_ ?_ ?_ ?_ HO ?_
     all_goals simp
  ·simp  at hk;have hm:posOf l d=[]:=mE fun p hp e=>by
    obtain⟨j,hj,e2⟩:=iv (0,[]) hp;have:=h2 j (by omega);rw[e2] at this;exact this e
   apply aC;simp(disch:=omega) ;apply aQ;clear aQ;apply ae;intro K h;simp(disch:=omega);apply h;clear h K;apply az;simp(disch:=omega) ;rw[hm];simp
theorem QG {fA fB fAB:List Int→Int→List Int}(hA:∀o x,(fA o x).length≤o.length+1)(hB:∀o x,(fB o x).length≤o.length+1)(hAB:∀o x,(fAB o x).length≤o.length+1) :
  ∀(n:Nat)(a b o:List Int),(iM fA fB fAB n a b o).length≤o.length+a.length+b.length:=by
 intro n
 induction n with
 |zero=>intro a b o;simp only[iM];omega
 |succ n ih=>
  intro a b o
  cases a with
  |nil=>
   cases b with
   |nil=>simp only[iM];omega
   |cons y b=>have:=ih [] b (fB o y);have:=hB o y;simp only[iM,length_cons];omega
  |cons x a=>
   cases b with
   |nil=>have:=ih a [] (fA o x);have:=hA o x;simp only[iM,length_cons];omega
   |cons y b=>
    have e1:=ih a (y::b) (fA o x);have e2:=ih (x::a) b (fB o y);have e3:=ih a b (fAB o x);have:=hA o x;have:=hB o y;have:=hAB o x;simp only[length_cons] at e1 e2 ⊢;rw[iM]
    split
    ·omega
    ·split
     ·omega
     ·omega
theorem LC (kf:Bool→Bool→Bool)(a b:List Int):(comb kf a b).length≤a.length+b.length:=by
 have st:∀(k:Bool)(o:List Int)(x:Int),(if k=true then o++[x] else o).length≤o.length+1:=fun k o x=>by split<;>simp
 unfold comb
 split
 ·have:=QG (fA:=fun o x=>if kf true false then o++[x] else o) (fB:=fun o x=>if kf false true then o++[x] else o) (fAB:=fun o x=>if kf true true then o++[x] else o) (fun o x=>st _ o x) (fun o x=>st _ o x) (fun o x=>st _ o x) (a.length+b.length) a b [];simp only[List.length_nil,Nat.zero_add] at this;exact this
 ·simp
theorem HI (f:Bool→Bool)(a b:List Int):(gG f a b).length≤a.length+b.length:=by
 unfold gG
 split
 ·exact le_trans (List.length_filter_le _ _) (by omega)
 ·simp
def V (l:List Int):Prop:=ju l 1 1000000000=true
theorem Ee {l:List Int}{lo hi:Int}(h:ju l lo hi=true):∀q∈l,lo≤q∧q≤hi:=fun q hq=>by
 obtain⟨j,hj,e⟩:=iv 0 hq;unfold ju at h;rw[List.all_eq_true] at h;have:=h j (by simpa using hj);unfold fU at this;simp only[Bool.and_eq_true,decide_eq_true_eq] at this;rw[e] at this;exact this.1
theorem uJ {l:List Int}{lo hi:Int}(h:kU l)(hb:∀q∈l,lo≤q∧q≤hi):ju l lo hi=true:=by
 refine y4 fun j hj=>?_;have hbj:=hb _ (tn l j 0 hj);unfold fU;simp only[Bool.and_eq_true,decide_eq_true_eq,Bool.or_eq_true];refine⟨hbj,?_⟩;rcases Nat.eq_zero_or_pos j with h0|h0
 ·exact .inl h0
 ·exact .inr (tY h (by omega) hj)
theorem Ib (kf:Bool→Bool→Bool){a b:List Int}(ha:V a)(hb:V b):kU (comb kf a b)∧∀z,z∈comb kf a b↔(z∈a∧z∉b∧kf true false=true)∨(z∈b∧z∉a∧kf false true=true)∨(z∈a∧z∈b∧kf true true=true):=by
 obtain⟨_,g2,g3⟩:=tP (kf true false) (kf false true) (kf true true) (a.length+b.length) a b [] (le_refl _) (gI ha) (gI hb);have e:comb kf a b=iM (fun o x=>if kf true false then o++[x] else o) (fun o x=>if kf false true then o++[x] else o) (fun o x=>if kf true true then o++[x] else o) (a.length+b.length) a b []:=by
  unfold comb;rw[if_pos ⟨ha,hb⟩];rfl
 rw[e];exact⟨g3,g2⟩
def An (a b:List Int):List Int:=comb (fun p q=>p&&q) a b
section
variable {a b c : List Int} (ha : V a) (hb : V b) (hc : V c)
include ha hb
include hc
end
def FC {β:Type}(fA fB:β→Int→β)(fAB:β→Int→Int→β):Nat→List Int→List Int→β→β
 |0,_,_,o=>o
 |n+1,x::a,y::b,o=>if x<y then FC fA fB fAB n a (y::b) (fA o x) else if y<x then FC fA fB fAB n (x::a) b (fB o y) else FC fA fB fAB n a b (fAB o x y)
 |n+1,x::a,[],o=>FC fA fB fAB n a [] (fA o x)
 |n+1,[],y::b,o=>FC fA fB fAB n [] b (fB o y)
 |_+1,[],[],o=>o
@[simp] theorem eG (l:List Int):(ints l).length=l.length:=by simp[ints]
def MI {β:Type}(fA fB:β→Int→β)(fAB:β→Int→Int→β)(a b:List Int)(n i j:Nat)(o:β):β:=FC fA fB fAB n (a.drop i) (b.drop j) o
section
variable {β : Type} {fA fB : β → Int → β} {fAB : β → Int → Int → β} {a b : List Int} {o : β} {n i j : Nat}
theorem aa5 (hn:0<n)(hi:i<a.length)(hj:j<b.length)(h:a.getD i 0<b.getD j 0):MI fA fB fAB a b n i j o=MI fA fB fAB a b (n-1) (i+1) j (fA o (a.getD i 0)):=by
 obtain⟨m,rfl⟩:∃m,n=m+1:=⟨n-1,by omega⟩
 unfold MI;rw[cV a i hi,cV b j hj,FC,if_pos h];rfl
theorem aa4 (hn:0<n)(hi:i<a.length)(hj:j<b.length)(h:¬a.getD i 0<b.getD j 0)(h2:b.getD j 0<a.getD i 0):MI fA fB fAB a b n i j o=MI fA fB fAB a b (n-1) i (j+1) (fB o (b.getD j 0)):=by
 obtain⟨m,rfl⟩:∃m,n=m+1:=⟨n-1,by omega⟩
 unfold MI;rw[cV a i hi,cV b j hj,FC,if_neg h,if_pos h2];rfl
theorem UJ (hn:0<n)(hi:i<a.length)(hj:j<b.length)(h:¬a.getD i 0<b.getD j 0)(h2:¬b.getD j 0<a.getD i 0):MI fA fB fAB a b n i j o=MI fA fB fAB a b (n-1) (i+1) (j+1) (fAB o (a.getD i 0) (b.getD j 0)):=by
 obtain⟨m,rfl⟩:∃m,n=m+1:=⟨n-1,by omega⟩
 unfold MI;rw[cV a i hi,cV b j hj,FC,if_neg h,if_neg h2];rfl
theorem UK (hn:0<n)(hi:i<a.length)(hj:j=b.length):MI fA fB fAB a b n i j o=MI fA fB fAB a b (n-1) (i+1) j (fA o (a.getD i 0)):=by
 obtain⟨m,rfl⟩:∃m,n=m+1:=⟨n-1,by omega⟩
 unfold MI;rw[cV a i hi,hj,drop_length,FC];rfl
theorem UI (hn:0<n)(hi:i=a.length)(hj:j<b.length):MI fA fB fAB a b n i j o=MI fA fB fAB a b (n-1) i (j+1) (fB o (b.getD j 0)):=by
 obtain⟨m,rfl⟩:∃m,n=m+1:=⟨n-1,by omega⟩
 unfold MI;rw[cV b j hj,hi,drop_length,FC];rfl
theorem Q2 (hi:i=a.length)(hj:j=b.length):MI fA fB fAB a b n i j o=o:=by
 unfold MI;rw[hi,hj,drop_length,drop_length]
 cases n<;>rfl
end
attribute [-simp] getD_eq_getElem?_getD in
theorem Hw {β:Type}(g:Nat)(db:List AV)(fA fB:β→Int→β)(fAB:β→Int→Int→β)(S:β→List aA)(U:β→ar)(I:Nat→β→Prop)(N M:Nat)(o0:β)
  (a b:List Int) (ha:a.length≤400) (hb:b.length≤400) (hS:∀o,(S o).length=N) (hU:∀o,(U o).length=M) (v7:aJ N M db) (iG:∀n o,I n o→bC (S o) (U o)) (h0:I 0 o0)
  (cA:∀n i o,i<a.length→n≤800→I n o→aq Tryz.prog g ([.dK (ints a) i,.fc]++db) (S o) (U o) (Is (.df []) (S (fA o (a.getD i 0))) (U (fA o (a.getD i 0)))))
  (cB:∀n j o,j<b.length→n≤800→I n o→aq Tryz.prog g ([.fc,.dK (ints b) j]++db) (S o) (U o) (Is (.df []) (S (fB o (b.getD j 0))) (U (fB o (b.getD j 0)))))
  (ZY:∀n i j o,i<a.length→j<b.length→n≤800→I n o→aq Tryz.prog g ([.dK (ints a) i,.dK (ints b) j]++db) (S o) (U o) (Is (.df []) (S (fAB o (a.getD i 0) (b.getD j 0))) (U (fAB o (a.getD i 0) (b.getD j 0)))))
  (iA:∀n i o,i<a.length→I n o→I (n+1) (fA o (a.getD i 0))) (iB:∀n j o,j<b.length→I n o→I (n+1) (fB o (b.getD j 0))) (Sf:∀n i j o,i<a.length→j<b.length→I n o→I (n+2) (fAB o (a.getD i 0) (b.getD j 0))) :
  aq Tryz.prog 163 [.sl a.length (ints a) .none,.sl b.length (ints b) .none,.fn 164 [] [],.fn g [] db] (S o0) (U o0)
   (Is (.df []) (S (MI fA fB fAB a b (a.length+b.length) 0 0 o0)) (U (MI fA fB fAB a b (a.length+b.length) 0 0 o0))):=by
 refine aj 11 [] Tryz.ntmps163 Tryz.func163 rfl (fun _ _=>Tryz.call163 _ _) (by simp) (fun HO=>?_);apply ae;intro K h;simp(disch:=omega);apply h;clear h K;apply ah;refine aG (X:=Nat×Nat×Nat×β) (fun x=>⟨[(0,.sl a.length (ints a) .none),(1,.sl b.length (ints b) .none),(2,.fn 164 [] []),(3,.fn g [] db),(8,.int .i64 (x.2.1:Nat)),(9,.int .i64 (x.2.2.1:Nat))],S x.2.2.2,U x.2.2.2⟩)
  (fun x=>x.2.1≤a.length∧x.2.2.1≤b.length∧(a.length-x.2.1)+(b.length-x.2.2.1)≤x.1∧MI fA fB fAB a b (a.length+b.length) 0 0 o0=MI fA fB fAB a b x.1 x.2.1 x.2.2.1 x.2.2.2∧I (x.2.1+x.2.2.1) x.2.2.2) (fun x=>x.1) (a.length+b.length,0,0,o0) ?_ ?_ ?_
 ·exact⟨zero_le _,zero_le _,by simp only;omega,rfl,h0⟩
 ·refine ag [] [] ?_ ?_ ?_ ?_ HO ?_
  ·simp
  ·simp
  ·simp
  ·simp
  ·simp[hS,hU,v7]
 ·rintro⟨n,i,j,out⟩ ⟨h1,h2,h3,h4,h5⟩;simp only at h1 h2 h3 h4 h5
  by_cases hi:i<a.length
  ·have bi:decide ((i:Int)<a.length)=true:=by simp;omega
   have ni:((i:Int)==a.length)=false:=by rw[beq_eq_false_iff_ne];omega
   have Ow:¬i=a.length:=by omega
   have Mw:=aS (xs:=a) (k:=i) hi
   by_cases hj:j<b.length
   ·have bj:decide ((j:Int)<b.length)=true:=by simp;omega
    have nj:((j:Int)==b.length)=false:=by rw[beq_eq_false_iff_ne];omega
    have Em:¬j=b.length:=by omega
    have Mv:=aS (xs:=b) (k:=j) hj;have hn:0<n:=by omega
    refine af fun K2 aW=>?_;refine ae fun K hK=>?_;simp(disch:=omega)[bi,bj,hi,hj];apply hK;clear hK K;apply aF rfl;apply ai;simp(disch:=omega) ;apply aW;clear aW;apply ah;apply ah
    by_cases c1:a.getD i 0<b.getD j 0
    ·have b1:decide (a.getD i 0<b.getD j 0)=true:=by simpa using c1
     have eM:=aa5 (fA:=fA) (fB:=fB) (fAB:=fAB) (o:=out) hn hi hj c1;refine aI [] [] [] al (by kernel_rfl) (by kernel_rfl) fun K hK=>?_;simp(disch:=omega)[bi,hi,nj,Em,Mw,eG];refine aB (dx _ _ _) rfl ?_;simp(disch:=omega)[Mv,eG];refine aB (dx _ _ _) rfl ?_;simp(disch:=omega)[b1,c1];apply hK;clear hK K;apply aF rfl;refine ae fun K hK=>?_;simp(disch:=omega)[eG];refine ak (cA (i+j) i out hi (by omega) h5) ?_;simp(disch:=omega) ;apply hK;clear hK K;refine au fun K hK=>?_;simp(disch:=omega) ;apply hK;clear hK K;refine⟨(n-1,i+1,j,fA out (a.getD i 0)),⟨by show i+1≤a.length;omega,by show j≤b.length;omega,by show (a.length-(i+1))+(b.length-(j))≤n-1;omega,h4.trans eM,(show I (i+1+j) _ by rw[show i+1+j=i+j+1 by omega];exact iA _ i out hi h5)⟩,by show n-1<n;omega,?_⟩;refine ag [] [] ?_ ?_ ?_ ?_ (iG _ _ ((show I (i+1+j) _ by rw[show i+1+j=i+j+1 by omega];exact iA _ i out hi h5))) ?_
     ·simp
     ·simp
     ·simp[hS]
     ·simp[hU]
     ·simp[hS,hU,v7]
      try omega
    ·have b1:decide (a.getD i 0<b.getD j 0)=false:=by simpa using c1
     refine aI [] [] [] al (by kernel_rfl) (by kernel_rfl) fun K hK=>?_;simp(disch:=omega)[bi,hi,nj,Em,Mw,eG];refine aB (dx _ _ _) rfl ?_;simp(disch:=omega)[Mv,eG];refine aB (dx _ _ _) rfl ?_;simp(disch:=omega)[b1,c1];apply hK;clear hK K;apply aD rfl
     by_cases c2:b.getD j 0<a.getD i 0
     ·have b2:decide (b.getD j 0<a.getD i 0)=true:=by simpa using c2
      have eM:=aa4 (fA:=fA) (fB:=fB) (fAB:=fAB) (o:=out) hn hi hj c1 c2;refine aI [] [] [] al (by kernel_rfl) (by kernel_rfl) fun K hK=>?_;simp(disch:=omega)[ni,Ow,Mv,eG,hj];refine aB (dx _ _ _) rfl ?_;simp(disch:=omega)[Mw,eG];refine aB (dx _ _ _) rfl ?_;simp(disch:=omega)[b2,c2];apply hK;clear hK K;apply aF rfl;refine ae fun K hK=>?_;simp(disch:=omega)[eG];refine ak (cB (i+j) j out hj (by omega) h5) ?_;simp(disch:=omega) ;apply hK;clear hK K;refine au fun K hK=>?_;simp(disch:=omega) ;apply hK;clear hK K;refine⟨(n-1,i,j+1,fB out (b.getD j 0)),⟨by show i≤a.length;omega,by show j+1≤b.length;omega,by show (a.length-(i))+(b.length-(j+1))≤n-1;omega,h4.trans eM,(show I (i+(j+1)) _ from iB _ j out hj h5)⟩,by show n-1<n;omega,?_⟩;refine ag [] [] ?_ ?_ ?_ ?_ (iG _ _ ((show I (i+(j+1)) _ from iB _ j out hj h5))) ?_
      ·simp
      ·simp
      ·simp[hS]
      ·simp[hU]
      ·simp[hS,hU,v7]
       try omega
     ·have b2:decide (b.getD j 0<a.getD i 0)=false:=by simpa using c2
      have eM:=UJ (fA:=fA) (fB:=fB) (fAB:=fAB) (o:=out) hn hi hj c1 c2;refine aI [] [] [] al (by kernel_rfl) (by kernel_rfl) fun K hK=>?_;simp(disch:=omega)[ni,Ow,Mv,eG,hj];refine aB (dx _ _ _) rfl ?_;simp(disch:=omega)[Mw,eG];refine aB (dx _ _ _) rfl ?_;simp(disch:=omega)[b2,c2];apply hK;clear hK K;apply aD rfl;refine aI [7] [0,0,0,0,0,0,0,0] [[]] al (by kernel_rfl) (by kernel_rfl) fun K hK=>?_;simp(disch:=omega)[eG,hi,hj];refine oZ (ZY (i+j) i j out hi hj (by omega) h5) rfl ?_;simp(disch:=omega) ;apply hK;clear hK K;refine au fun K hK=>?_;simp(disch:=omega) ;apply hK;clear hK K;refine⟨(n-1,i+1,j+1,fAB out (a.getD i 0) (b.getD j 0)),⟨by show i+1≤a.length;omega,by show j+1≤b.length;omega,by show (a.length-(i+1))+(b.length-(j+1))≤n-1;omega,h4.trans eM,(show I (i+1+(j+1)) _ by rw[show i+1+(j+1)=i+j+2 by omega];exact Sf _ i j out hi hj h5)⟩,by show n-1<n;omega,?_⟩;refine ag [] [] ?_ ?_ ?_ ?_ (iG _ _ ((show I (i+1+(j+1)) _ by rw[show i+1+(j+1)=i+j+2 by omega];exact Sf _ i j out hi hj h5))) ?_
      ·simp
      ·simp
      ·simp[hS]
      ·simp[hU]
      ·simp[hS,hU,v7]
       try omega
   ·have bj:decide ((j:Int)<b.length)=false:=by simp;omega
    have OC:j=b.length:=by omega
    have nj:((j:Int)==b.length)=true:=by simp;omega
    have hn:0<n:=by omega
    have eM:=UK (fA:=fA) (fB:=fB) (fAB:=fAB) (o:=out) hn hi OC;refine af fun K2 aW=>?_;refine ae fun K hK=>?_;simp(disch:=omega)[bi,bj,hi,hj];apply hK;clear hK K;apply aF rfl;apply ai;simp(disch:=omega) ;apply aW;clear aW;apply ah;apply ah;have SB:(j:Int)=(b.length:Int):=by omega
    refine aI [] [] [] al (by kernel_rfl) (by kernel_rfl) fun K hK=>?_;simp(disch:=omega)[nj,SB];apply hK;clear hK K;apply aF rfl;refine ae fun K hK=>?_;simp(disch:=omega)[eG];refine ak (cA (i+j) i out hi (by omega) h5) ?_;simp(disch:=omega) ;apply hK;clear hK K;refine au fun K hK=>?_;simp(disch:=omega) ;apply hK;clear hK K;refine⟨(n-1,i+1,j,fA out (a.getD i 0)),⟨by show i+1≤a.length;omega,by show j≤b.length;omega,by show (a.length-(i+1))+(b.length-(j))≤n-1;omega,h4.trans eM,(show I (i+1+j) _ by rw[show i+1+j=i+j+1 by omega];exact iA _ i out hi h5)⟩,by show n-1<n;omega,?_⟩;refine ag [] [] ?_ ?_ ?_ ?_ (iG _ _ ((show I (i+1+j) _ by rw[show i+1+j=i+j+1 by omega];exact iA _ i out hi h5))) ?_
    ·simp
    ·simp
    ·simp[hS]
    ·simp[hU]
    ·simp[hS,hU,v7]
     try omega
  ·have bi:decide ((i:Int)<a.length)=false:=by simp;omega
   have mg:i=a.length:=by omega
   by_cases hj:j<b.length
   ·have bj:decide ((j:Int)<b.length)=true:=by simp;omega
    have nj:((j:Int)==b.length)=false:=by rw[beq_eq_false_iff_ne];omega
    have Em:¬j=b.length:=by omega
    have ni:((i:Int)==a.length)=true:=by simp;omega
    have hn:0<n:=by omega
    have eM:=UI (fA:=fA) (fB:=fB) (fAB:=fAB) (o:=out) hn mg hj;refine af fun K2 aW=>?_;refine ae fun K hK=>?_;simp(disch:=omega)[bi,bj,hi,hj];apply hK;clear hK K;apply aF rfl;apply ai;simp(disch:=omega) ;apply aW;clear aW;apply ah;apply ah;refine aI [] [] [] al (by kernel_rfl) (by kernel_rfl) fun K hK=>?_;simp(disch:=omega)[nj,Em,bi,hi];apply hK;clear hK K;apply aD rfl;have SC:(i:Int)=(a.length:Int):=by omega
    refine aI [] [] [] al (by kernel_rfl) (by kernel_rfl) fun K hK=>?_;simp(disch:=omega)[ni,SC];apply hK;clear hK K;apply aF rfl;refine ae fun K hK=>?_;simp(disch:=omega)[eG];refine ak (cB (i+j) j out hj (by omega) h5) ?_;simp(disch:=omega) ;apply hK;clear hK K;refine au fun K hK=>?_;simp(disch:=omega) ;apply hK;clear hK K;refine⟨(n-1,i,j+1,fB out (b.getD j 0)),⟨by show i≤a.length;omega,by show j+1≤b.length;omega,by show (a.length-(i))+(b.length-(j+1))≤n-1;omega,h4.trans eM,(show I (i+(j+1)) _ from iB _ j out hj h5)⟩,by show n-1<n;omega,?_⟩;refine ag [] [] ?_ ?_ ?_ ?_ (iG _ _ ((show I (i+(j+1)) _ from iB _ j out hj h5))) ?_
    ·simp
    ·simp
    ·simp[hS]
    ·simp[hU]
    ·simp[hS,hU,v7]
     try omega
   ·have bj:decide ((j:Int)<b.length)=false:=by simp;omega
    have zL:=Q2 (fA:=fA) (fB:=fB) (fAB:=fAB) (a:=a) (b:=b) (o:=out) (n:=n) mg (show j=b.length by omega);rw[zL] at h4;refine af fun K2 aW=>?_;refine ae fun K hK=>?_;simp(disch:=omega)[bi,bj,hi,hj];apply hK;clear hK K;apply aD rfl;apply aC;simp(disch:=omega) ;rw[h4];exact⟨rfl,rfl,rfl⟩
attribute [-simp] getD_eq_getElem?_getD in
theorem xX (l:List Int)(hl:l.length≤1000)(H:List aA)(T:ar):aq Tryz.prog 113 [.sl l.length (ints l) .none] H T (Is (.sl l.length (ints l) .none) H T):=by
 refine aq.cut H T (le_refl _) (le_refl _) id (by simp) ?_;refine aj 3 [] Tryz.ntmps113 Tryz.func113 rfl (fun _ _=>Tryz.call113 _ _) (by simp) (fun HO=>?_);apply ae;intro K h;simp(disch:=omega);apply h;clear h K;refine af fun K1 aQ=>?_;refine ae fun K hK=>?_;simp(disch:=omega) ;refine⟨hK _ ?_,fun he=>hK _ ?_⟩
 ·apply aD rfl;apply ai;simp(disch:=omega) ;apply aQ;clear aQ;apply ae;intro K h;simp(disch:=omega);apply h;clear h K;apply az;simp(disch:=omega) 
 ·apply aF rfl;apply ae;intro K h;simp(disch:=omega);apply h;clear h K;apply az;simp(disch:=omega)[he]
def SJ (H:List aA)(out:List Int)(tk:Nat):List aA:=H++[.cells [.sl out.length (ints out) (.own tk)]]
def TJ (T:ar)(out:List Int):ar:=T++[(out.length,1)]
theorem Q0 (H:List aA)(out:List Int)(tk:Nat):(SJ H out tk).length=H.length+1:=by simp[SJ]
theorem C8 (T:ar)(out:List Int):(TJ T out).length=T.length+1:=by simp[TJ]
theorem QP {H:List aA}{T:ar}(h:bC H T)(out:List Int):bC (SJ H out T.length) (TJ T out):=bC.snoc (h.fQ (by rw[C8];omega)) (by simp[C8])
attribute [-simp] getD_eq_getElem?_getD in
theorem A0 (a:List Int)(i:Nat)(hi:i<a.length)(v:AV)(out:List Int)(ho:out.length≤1000)(H:List aA)(T:ar) :
  aq Tryz.prog 165 [.dK (ints a) i,v,.ptr H.length 0] (SJ H out T.length) (TJ T out) (Is (.df []) (SJ H (out++[a.getD i 0]) T.length) (TJ T (out++[a.getD i 0]))):=by
 have IF:=aS (xs:=a) (k:=i) hi;have pG:=cX out (a.getD i 0);simp only[SJ,TJ];refine aj 5 [] Tryz.ntmps165 Tryz.func165 rfl (fun _ _=>Tryz.call165 _ _) (by simp) (fun HO=>?_);refine af fun K1 aQ=>?_;apply ae;intro K h;simp(disch:=omega);apply h;clear h K;apply aD rfl;apply ai;simp(disch:=omega) ;apply aQ;clear aQ;refine bZ [5,6] [0,0,0,0,0,0,1] [[],[]] al (by kernel_rfl) (by kernel_rfl) fun K hK=>?_;simp(disch:=omega)[IF,pG,hi];apply hK;clear hK K;exact⟨rfl,by simp,by simp⟩
attribute [-simp] getD_eq_getElem?_getD in
theorem La (b:List Int)(j:Nat)(hj:j<b.length)(out:List Int)(ho:out.length≤1000)(H:List aA)(T:ar) :
  aq Tryz.prog 165 [.fc,.dK (ints b) j,.ptr H.length 0] (SJ H out T.length) (TJ T out) (Is (.df []) (SJ H (out++[b.getD j 0]) T.length) (TJ T (out++[b.getD j 0]))):=by
 have IF:=aS (xs:=b) (k:=j) hj;have pG:=cX out (b.getD j 0);simp only[SJ,TJ];refine aj 5 [] Tryz.ntmps165 Tryz.func165 rfl (fun _ _=>Tryz.call165 _ _) (by simp) (fun HO=>?_);refine af fun K1 aQ=>?_;apply ae;intro K h;simp(disch:=omega);apply h;clear h K;apply aF rfl;refine au fun K hK=>?_;simp(disch:=omega) ;apply hK;clear hK K;apply aQ;clear aQ;refine bZ [5,6] [0,0,0,0,0,0,1] [[],[]] al (by kernel_rfl) (by kernel_rfl) fun K hK=>?_;simp(disch:=omega)[IF,pG,hj];apply hK;clear hK K;exact⟨rfl,by simp,by simp⟩
def jn (a b:List Int):List Int:=MG (fun _ _=>true) a b (a.length+b.length) 0 0 []
theorem NN (fA fB:List Int→Int→List Int):∀(n:Nat)(a b o:List Int),FC fA fB (fun o x _=>fA o x) n a b o=iM fA fB fA n a b o:=by
 intro n
 induction n with
 |zero=>intro a b o;rfl
 |succ n ih=>
  intro a b o
  cases a with
  |nil=>cases b with
   |nil=>rfl
   |cons y b=>exact ih _ _ _
  |cons x a=>cases b with
   |nil=>exact ih _ _ _
   |cons y b=>simp only[FC,iM,ih]
attribute [-simp] getD_eq_getElem?_getD in
theorem HJ (a b:List Int)(ha:a.length≤400)(hb:b.length≤400)(H:List aA)(T:ar)(ta tb:Tag) :
  aq Tryz.prog 114 [.sl a.length (ints a) ta,.sl b.length (ints b) tb] H T (Is (.sl (jn a b).length (ints (jn a b)) .none) H T):=by
 refine aq.cD (aq.lD ?_);refine aq.cH ?_ (by simp);have tt:MI (fun(o:List Int) x=>o++[x]) (fun o x=>o++[x]) (fun o x _=>o++[x]) a b (a.length+b.length) 0 0 []=jn a b:=NN _ _ _ _ _ _;have c:=fun HO:bC H T=>Hw (β:=List Int) 165 [.ptr H.length 0] (fun o x=>o++[x]) (fun o x=>o++[x]) (fun o x _=>o++[x])
  (fun o=>SJ H o T.length) (fun o=>TJ T o) (fun n o=>o.length≤n) (H.length+1) (T.length+1) [] a b ha hb (fun o=>Q0 _ _ _) (fun o=>C8 _ _) (by simp)
  (fun n o _=>QP HO o) (zero_le _)
  (fun n i o hi hn h=>A0 a i hi _ o (by omega) H T) (fun n j o hj hn h=>La b j hj o (by omega) H T)
  (fun n i j o hi hj hn h=>A0 a i hi _ o (by omega) H T)
  (fun n i o _ h=>by simp;omega) (fun n j o _ h=>by simp;omega) (fun n i j o _ _ h=>by simp;omega)
 rw[tt] at c;generalize jn a b=r at *;have k1:(SJ H r T.length)[H.length]?=some (.cells [.sl r.length (ints r) (.own T.length)]):=by simp[SJ]
 have hH:∃rH,SJ H r T.length=H++rH:=⟨_,rfl⟩
 have hT:∃rT,TJ T r=T++rT:=⟨_,rfl⟩
 refine aj 6 [] Tryz.ntmps114 Tryz.func114 rfl (fun _ _=>Tryz.call114 _ _) (by simp) (fun HO=>?_);have c1:=c HO;apply ae;intro K h;simp(disch:=omega);apply h;clear h K;apply ae;intro K h;simp(disch:=omega);apply h;clear h K;refine Ft 1 H 0 [] (by omega) (by simp) ?_;refine ae fun K hK=>?_;simp(disch:=omega) ;refine ak (c1) ?_;simp(disch:=omega) ;apply hK;clear hK K;refine ae fun K hK=>?_;simp(disch:=omega)[k1];apply hK;clear hK K;apply az;simp(disch:=omega) ;exact⟨hH,hT⟩
def jF (o:List Int)(x:Int):List Int:=if (fun _ _=>true:Bool→Bool→Bool) true false then o++[x] else o
theorem qN {a b:List Int}(ha:kU a)(hb:kU b)(n:Nat)(hn:a.length+b.length≤n)(o:List Int):iM jF jF jF n a b o=o++iM jF jF jF n a b []∧
  (∀z,z∈iM jF jF jF n a b []↔z∈a∨z∈b)∧kU (iM jF jF jF n a b []):=by
 obtain⟨g1,g2,g3⟩:=tP true true true n a b o hn ha hb;refine⟨g1,fun z=>?_,g3⟩;refine(g2 z).trans ?_
 by_cases h1:z∈a<;>by_cases h2:z∈b<;>simp[h1,h2]
theorem nY {a b:List Int}(ha:kU a)(hb:kU b)(z:Int):z∈jn a b↔z∈a∨z∈b:=(qN ha hb _ (le_refl _) []).2.1 z
theorem uF {a b:List Int}(ha:kU a)(hb:kU b):kU (jn a b):=(qN ha hb _ (le_refl _) []).2.2
theorem NR {a b:List Int}(ha:kU a)(hb:kU b){n:Nat}(hn:a.length+b.length≤n):iM jF jF jF n a b []=jn a b:=by
 refine lj _ _ (qN ha hb n hn []).2.2 (uF ha hb) fun z=>?_;rw[(qN ha hb n hn []).2.1,nY ha hb]
theorem E8 {a:List Int}(ha:kU a):jn a []=a:=lj _ _ (uF ha List.Pairwise.nil) ha fun z=>by rw[nY ha List.Pairwise.nil];simp
theorem E9 {a:List Int}(ha:kU a):jn [] a=a:=lj _ _ (uF List.Pairwise.nil ha) ha fun z=>by rw[nY List.Pairwise.nil ha];simp
def yb (a b:PL)(d:Int):Int×List Int:=(d,jn (posOf a d) (posOf b d))
def IN (a b:PL):PL:=(jn (an a) (an b)).map (yb a b)
theorem xP (p:Int×List Int)(l:PL):an (p::l)=p.1::an l:=rfl
theorem AK {l:PL}{d:Int}(h:∀p∈l,d<p.1):posOf l d=[]:=mE fun p hp e=>by have:=h p hp;omega
theorem Hu:∀(n:Nat)(a b o:PL),a.length+b.length≤n→nO a→nO b→(∀p∈a,kU p.2)→(∀p∈b,kU p.2)→
  wE (fun o x=>o++[x]) (fun o y=>o++[y]) (fun o x y=>o++[(x.1,jn x.2 y.2)]) n a b o=o++(iM jF jF jF n (an a) (an b) []).map (yb a b):=by
 intro n
 induction n with
 |zero=>
  intro a b o h _ _ _ _;have ha:a=[]:=List.eq_nil_of_length_eq_zero (by omega);subst ha;simp[wE,iM]
 |succ n ih=>
  intro a b o h ha hb pa pb;have step:∀(a' b':PL)(q:Int×List Int),kU (an a')→kU (an b')→(an a').length+(an b').length≤n→yb a b q.1=q→(∀d,d∈an a'∨d∈an b'→yb a' b' d=yb a b d)→
    (o++[q])++(iM jF jF jF n (an a') (an b') []).map (yb a' b')=o++(iM jF jF jF n (an a') (an b') [q.1]).map (yb a b):=by
   intro a' b' q g1 g2 g3 g4 g5;obtain⟨k1,k2,_⟩:=qN g1 g2 n g3 [q.1];rw[k1,List.map_append,List.append_assoc]
   congr 1
   have:(iM jF jF jF n (an a') (an b') []).map (yb a' b')=(iM jF jF jF n (an a') (an b') []).map (yb a b):=List.map_congr_left fun d hd=>g5 d ((k2 d).1 hd);rw[this];simp[g4]
  have lN:∀l:PL,(an l).length=l.length:=fun l=>by simp[an]
  cases a with
  |nil=>
   cases b with
   |nil=>simp[wE,iM,an]
   |cons y b=>
    obtain⟨h3,h4⟩:=j6 hb;rw[wE,ih [] b _ (by simp at h ⊢;omega) ha h3 pa (fun p hp=>pb p (by simp[hp])),step [] b y ha h3 (by rw[lN,lN];simp at h ⊢;omega)]
    ·rfl
    ·unfold yb;rw[cO,show posOf [] y.1=[] from rfl,E9 (pb y (by simp))]
    ·intro d hd;have:y.1≠d:=by
      rcases hd with hd|hd
      ·simp[an] at hd
      ·obtain⟨p,hp,e⟩:=List.mem_map.1 hd;have:=h4 p hp;omega
     unfold yb;rw[cG this]
  |cons x a=>
   obtain⟨h1,h2⟩:=j6 ha
   cases b with
   |nil=>
    rw[wE,ih a [] _ (by simp at h ⊢;omega) h1 hb (fun p hp=>pa p (by simp[hp])) pb,step a [] x h1 hb (by rw[lN,lN];simp at h ⊢;omega)]
    ·rfl
    ·unfold yb;rw[cO,show posOf [] x.1=[] from rfl,E8 (pa x (by simp))]
    ·intro d hd;have:x.1≠d:=by
      rcases hd with hd|hd
      ·obtain⟨p,hp,e⟩:=List.mem_map.1 hd;have:=h2 p hp;omega
      ·simp[an] at hd
     unfold yb;rw[cG this]
   |cons y b=>
    obtain⟨h3,h4⟩:=j6 hb;simp only[length_cons] at h;rw[xP x a,xP y b]
    by_cases c1:x.1<y.1
    ·have Si:∀p∈y::b,x.1<p.1:=fun p hp=>by
      rcases List.mem_cons.1 hp with rfl|hp
      ·exact c1
      ·have:=h4 p hp;omega
     rw[wE,if_pos c1,ih a (y::b) _ (by simp;omega) h1 hb (fun p hp=>pa p (by simp[hp])) pb,step a (y::b) x h1 hb (by rw[lN,lN];simp;omega),iM,if_pos c1]
     ·rfl
     ·unfold yb;rw[cO,AK Si,E8 (pa x (by simp))]
     ·intro d hd;have:x.1≠d:=by
       rcases hd with hd|hd
       ·obtain⟨p,hp,e⟩:=List.mem_map.1 hd;have:=h2 p hp;omega
       ·obtain⟨p,hp,e⟩:=List.mem_map.1 hd;have:=Si p hp;omega
      unfold yb;rw[cG (l:=a) this]
    ·by_cases c2:y.1<x.1
     ·have Oy:∀p∈x::a,y.1<p.1:=fun p hp=>by
       rcases List.mem_cons.1 hp with rfl|hp
       ·exact c2
       ·have:=h2 p hp;omega
      rw[wE,if_neg c1,if_pos c2,ih (x::a) b _ (by simp;omega) ha h3 pa (fun p hp=>pb p (by simp[hp])),step (x::a) b y ha h3 (by rw[lN,lN];simp;omega),iM,if_neg c1,if_pos c2]
      ·rfl
      ·unfold yb;rw[cO,AK Oy,E9 (pb y (by simp))]
      ·intro d hd;have:y.1≠d:=by
        rcases hd with hd|hd
        ·obtain⟨p,hp,e⟩:=List.mem_map.1 hd;have:=Oy p hp;omega
        ·obtain⟨p,hp,e⟩:=List.mem_map.1 hd;have:=h4 p hp;omega
       unfold yb;rw[cG (l:=b) this]
     ·have e:x.1=y.1:=by omega
      rw[wE,if_neg c1,if_neg c2,ih a b _ (by omega) h1 h3 (fun p hp=>pa p (by simp[hp])) (fun p hp=>pb p (by simp[hp])),step a b (x.1,jn x.2 y.2) h1 h3 (by rw[lN,lN];omega),iM,if_neg c1,if_neg c2]
      ·rfl
      ·unfold yb;rw[cO,e,cO]
      ·intro d hd;have:x.1≠d:=by
        rcases hd with hd|hd
        ·obtain⟨p,hp,e⟩:=List.mem_map.1 hd;have:=h2 p hp;omega
        ·obtain⟨p,hp,e⟩:=List.mem_map.1 hd;have:=h4 p hp;omega
       unfold yb;rw[cG (l:=a) this,cG (l:=b) (by omega)]
theorem NM {a b:PL}(ha:nO a)(hb:nO b)(pa:∀p∈a,kU p.2)(pb:∀p∈b,kU p.2):wE (fun o x=>o++[x]) (fun o y=>o++[y]) (fun o x y=>o++[(x.1,jn x.2 y.2)]) (a.length+b.length) a b []=IN a b:=by
 rw[Hu _ a b [] (le_refl _) ha hb pa pb,List.nil_append,NR (a:=an a) (b:=an b) ha hb (by simp[an])];rfl
def SU (H:List aA)(out:PL)(tk:Nat):List aA:=H++[.cells [.sl out.length (bp out) (.own tk)]]
theorem QZ (H:List aA)(out:PL)(tk:Nat):(SU H out tk).length=H.length+1:=by simp[SU]
theorem QO {H:List aA}{T:ar}(h:bC H T)(out:PL):bC (SU H out T.length) (zF T out):=bC.snoc (h.fQ (by rw[y5];omega)) (by simp[y5])
attribute [-simp] getD_eq_getElem?_getD in
theorem QB (a:PL)(i:Nat)(hi:i<a.length)(ha:(a.getD i (0,[])).2.length≤1000)(out:PL)(ho:out.length≤1000)(H:List aA)(T:ar) :
  aq Tryz.prog 112 [.dK (bp a) (i*2),.fc,.ptr H.length 0] (SU H out T.length) (zF T out) (Is (.df []) (SU H (out++[a.getD i (0,[])]) T.length) (zF T (out++[a.getD i (0,[])]))):=by
 have mg:=im a i hi;have c:=xX (a.getD i (0,[])).2 ha (SU H out T.length) (zF T out);have pt:=oS out (a.getD i (0,[])).1 (a.getD i (0,[])).2;rw[show ((a.getD i (0,[])).1,(a.getD i (0,[])).2)=a.getD i (0,[]) from rfl] at pt;generalize a.getD i (0,[])=x at *;simp only[SU,zF] at c ⊢;refine aj 3 [] Tryz.ntmps112 Tryz.func112 rfl (fun _ _=>Tryz.call112 _ _) (by simp) (fun HO=>?_);apply ah;apply ae;intro K h;simp(disch:=omega);apply h;clear h K;apply aD rfl;apply ae;intro K h;simp(disch:=omega);apply h;clear h K;apply aF rfl;refine bZ [12,13] [0,0,0,0,0,0,0,0,0,0,0,0,0,1] [[],[]] al (by kernel_rfl) (by kernel_rfl) fun K hK=>?_;simp(disch:=omega)[mg.1,mg.2,aY,pt,hi];refine aB (c) rfl ?_;simp(disch:=omega)[mg.1,mg.2,aY,pt,hi];apply hK;clear hK K;exact⟨rfl,by simp,by simp⟩
attribute [-simp] getD_eq_getElem?_getD in
theorem QA (b:PL)(j:Nat)(hj:j<b.length)(hb:(b.getD j (0,[])).2.length≤1000)(out:PL)(ho:out.length≤1000)(H:List aA)(T:ar) :
  aq Tryz.prog 112 [.fc,.dK (bp b) (j*2),.ptr H.length 0] (SU H out T.length) (zF T out) (Is (.df []) (SU H (out++[b.getD j (0,[])]) T.length) (zF T (out++[b.getD j (0,[])]))):=by
 have mg:=im b j hj;have c:=xX (b.getD j (0,[])).2 hb (SU H out T.length) (zF T out);have pt:=oS out (b.getD j (0,[])).1 (b.getD j (0,[])).2;rw[show ((b.getD j (0,[])).1,(b.getD j (0,[])).2)=b.getD j (0,[]) from rfl] at pt;generalize b.getD j (0,[])=x at *;simp only[SU,zF] at c ⊢;refine aj 3 [] Tryz.ntmps112 Tryz.func112 rfl (fun _ _=>Tryz.call112 _ _) (by simp) (fun HO=>?_);apply ah;apply ae;intro K h;simp(disch:=omega);apply h;clear h K;apply aF rfl;refine bZ [12,13] [0,0,0,0,0,0,0,0,0,0,0,0,0,1] [[],[]] al (by kernel_rfl) (by kernel_rfl) fun K hK=>?_;simp(disch:=omega)[mg.1,mg.2,aY,pt,hj];refine aB (c) rfl ?_;simp(disch:=omega)[mg.1,mg.2,aY,pt,hj];apply hK;clear hK K;exact⟨rfl,by simp,by simp⟩
attribute [-simp] getD_eq_getElem?_getD in
theorem Nl (a b:PL)(i j:Nat)(hi:i<a.length)(hj:j<b.length)(ha:(a.getD i (0,[])).2.length≤400)(hb:(b.getD j (0,[])).2.length≤400)(out:PL)(ho:out.length≤1000)(H:List aA)(T:ar) :
  aq Tryz.prog 112 [.dK (bp a) (i*2),.dK (bp b) (j*2),.ptr H.length 0] (SU H out T.length) (zF T out) (Is (.df []) (SU H (out++[((a.getD i (0,[])).1,jn (a.getD i (0,[])).2 (b.getD j (0,[])).2)]) T.length) (zF T (out++[((a.getD i (0,[])).1,jn (a.getD i (0,[])).2 (b.getD j (0,[])).2)]))):=by
 have mg:=im a i hi;have OC:=im b j hj;have c:=HJ (a.getD i (0,[])).2 (b.getD j (0,[])).2 ha hb (SU H out T.length) (zF T out) .none .none;have pt:=oS out (a.getD i (0,[])).1 (jn (a.getD i (0,[])).2 (b.getD j (0,[])).2);generalize a.getD i (0,[])=x at *;generalize b.getD j (0,[])=y at *;generalize jn x.2 y.2=r at *;simp only[SU,zF] at c ⊢;refine aj 3 [] Tryz.ntmps112 Tryz.func112 rfl (fun _ _=>Tryz.call112 _ _) (by simp) (fun HO=>?_);apply ah;apply ae;intro K h;simp(disch:=omega);apply h;clear h K;apply aD rfl;apply ae;intro K h;simp(disch:=omega);apply h;clear h K;apply aD rfl;refine bZ [16,17] [0,0,0,0,0,0,0,0,0,0,0,0,0,0,0,0,0,1] [[],[]] al (by kernel_rfl) (by kernel_rfl) fun K hK=>?_;simp(disch:=omega)[mg.1,mg.2,OC.1,OC.2,aY,pt,hi,hj];refine aB (c) rfl ?_;simp(disch:=omega)[mg.1,mg.2,aY,pt,hi];apply hK;clear hK K;exact⟨rfl,by simp,by simp⟩
def jx (a b:PL):PL:=if bX a=true∧bX b=true then IN a b else []
attribute [-simp] getD_eq_getElem?_getD in
theorem Kl (a b:PL)(ha:a.length≤400)(hb:b.length≤400)(Mp:∀p∈a,p.2.length≤400)(Mo:∀p∈b,p.2.length≤400)(H:List aA)(T:ar)(ta tb:Tag) :
  aq Tryz.prog 47 [.sl a.length (bp a) ta,.sl b.length (bp b) tb] H T (Is (.sl (jx a b).length (bp (jx a b)) .none) H T):=by
 refine aq.cD (aq.lD ?_);refine aq.cH ?_ (by simp);have hY:400≤maxLen:=by decide
 have c1:=qT a (by omega) (fun p h=>le_trans (Mp p h) hY) (H++[.cells [.sl 0 [] .full]]) T .none;have c2:=qT b (by omega) (fun p h=>le_trans (Mo p h) hY) (H++[.cells [.sl 0 [] .full]]) T .none;refine aj 6 [] Tryz.ntmps47 Tryz.func47 rfl (fun _ _=>Tryz.call47 _ _) (by simp) (fun HO=>?_);apply ae;intro K h;simp(disch:=omega);apply h;clear h K;apply ae;intro K h;simp(disch:=omega);apply h;clear h K;refine af fun K1 aQ=>?_
 cases ye:bX a with
 |false=>
  rw[ye] at c1;refine ae fun K hK=>?_;simp(disch:=omega) ;refine ak (c1) ?_;simp(disch:=omega) ;apply hK;clear hK K;apply aF rfl;apply ae;intro K h;simp(disch:=omega);apply h;clear h K;apply az;simp(disch:=omega) ;simp[jx,ye,bp]
 |true=>
  rw[ye] at c1
  cases Sp:bX b with
  |false=>
   rw[Sp] at c2;refine ae fun K hK=>?_;simp(disch:=omega) ;refine ak (c1) ?_;simp(disch:=omega) ;refine ak (c2) ?_;simp(disch:=omega) ;apply hK;clear hK K;apply aF rfl;apply ae;intro K h;simp(disch:=omega);apply h;clear h K;apply az;simp(disch:=omega) ;simp[jx,Sp,bp]
  |true=>
   rw[Sp] at c2;obtain⟨a1,a2,a3⟩:=cU ye;obtain⟨e1,e2,e3⟩:=cU Sp;have hr:jx a b=IN a b:=by unfold jx;rw[if_pos ⟨ye,Sp⟩]
   have tt:MP (fun o x=>o++[x]) (fun o y=>o++[y]) (fun o x y=>o++[(x.1,jn x.2 y.2)]) a b (a.length+b.length) 0 0 []=IN a b:=NM a1 e1 (fun p hp=>(a3 p hp).2.1) (fun p hp=>(e3 p hp).2.1);have c:=Hv (β:=PL) 112 [.ptr H.length 0] (fun o x=>o++[x]) (fun o y=>o++[y]) (fun o x y=>o++[(x.1,jn x.2 y.2)])
    (fun o=>SU H o T.length) (fun o=>zF T o) (fun n o=>o.length≤n) (H.length+1) (T.length+1) [] a b ha hb (fun o=>QZ _ _ _) (fun o=>y5 _ _) (by simp)
    (fun n o _=>QO HO o) (zero_le _)
    (fun n i o hi hn h=>QB a i hi (by have:=Mp _ (tn a i (0,[]) hi);omega) o (by omega) H T) (fun n j o hj hn h=>QA b j hj (by have:=Mo _ (tn b j (0,[]) hj);omega) o (by omega) H T)
    (fun n i j o hi hj hn h=>Nl a b i j hi hj (Mp _ (tn a i _ hi)) (Mo _ (tn b j _ hj)) o (by omega) H T)
    (fun n i o _ h=>by simp;omega) (fun n j o _ h=>by simp;omega) (fun n i j o _ _ h=>by simp;omega)
   rw[tt,←hr] at c;generalize jx a b=r at *;have k1:(SU H r T.length)[H.length]?=some (.cells [.sl r.length (bp r) (.own T.length)]):=by simp[SU]
   have hH:∃rH,SU H r T.length=H++rH:=⟨_,rfl⟩
   have hT:∃rT,zF T r=T++rT:=⟨_,rfl⟩
   refine ae fun K hK=>?_;simp(disch:=omega) ;refine ak (c1) ?_;simp(disch:=omega) ;refine ak (c2) ?_;simp(disch:=omega) ;apply hK;clear hK K;apply aD rfl;apply ai;simp(disch:=omega) ;apply aQ;clear aQ;refine Ft 2 H 0 [] (by omega) (by simp) ?_;refine ae fun K hK=>?_;simp(disch:=omega) ;refine ak (c) ?_;simp(disch:=omega) ;apply hK;clear hK K;refine ae fun K hK=>?_;simp(disch:=omega)[k1];apply hK;clear hK K;apply az;simp(disch:=omega) ;exact⟨hH,hT⟩
end Go.Proofs.YtneohapkboaplaaGreat
namespace Go.Proofs.YtneohapkboaplaaGreat
open Go Go.Am dh
def kZ (l:PL):List Int:=if bX l=true then an l else []
attribute [-simp] getD_eq_getElem?_getD in
theorem Lx (l:PL)(hl:l.length≤1000)(hp:∀p∈l,p.2.length≤maxLen)(H:List aA)(T:ar)(tg:Tag) :
  aq Tryz.prog 75 [.sl l.length (bp l) tg] H T (Is (.sl (kZ l).length (ints (kZ l)) .none) H T):=by
 refine aq.cD ?_;refine aq.cH ?_ (by simp);have c1:=qT l hl hp H T .none;have c2:=ru l hl H T .none;refine aj 3 [] Tryz.ntmps75 Tryz.func75 rfl (fun _ _=>Tryz.call75 _ _) (by simp) (fun HO=>?_);apply ae;intro K h;simp(disch:=omega);apply h;clear h K;refine af fun K1 aQ=>?_
 cases hv:bX l with
 |false=>
  rw[hv] at c1;refine ae fun K hK=>?_;simp(disch:=omega) ;refine ak (c1) ?_;simp(disch:=omega) ;apply hK;clear hK K;apply aF rfl;apply ae;intro K h;simp(disch:=omega);apply h;clear h K;apply az;simp(disch:=omega) ;simp[kZ,hv,ints]
 |true=>
  rw[hv] at c1;have hd:(kZ l)=an l:=by unfold kZ;rw[if_pos hv]
  refine ae fun K hK=>?_;simp(disch:=omega) ;refine ak (c1) ?_;simp(disch:=omega) ;apply hK;clear hK K;apply aD rfl;apply ai;simp(disch:=omega) ;apply aQ;clear aQ;refine ae fun K hK=>?_;simp(disch:=omega) ;refine ak (c2) ?_;simp(disch:=omega) ;apply hK;clear hK K;apply az;simp(disch:=omega) ;rw[hd];simp[an]
attribute [-simp] getD_eq_getElem?_getD in
theorem H7 (l:PL)(hl:l.length≤1000)(hp:∀p∈l,p.2.length≤maxLen)(H:List aA)(T:ar)(tg:Tag) :
  aq Tryz.prog 89 [.sl l.length (bp l) tg] H T (Is (.sl (kZ l).length (ints (kZ l)) .none) H T):=by
 refine aq.cD ?_;refine aq.cH ?_ (by simp);have c1:=wZ l hl hp H T .none;have c2:=Bf l hl H T .none;refine aj 3 [] Tryz.ntmps89 Tryz.func89 rfl (fun _ _=>Tryz.call89 _ _) (by simp) (fun HO=>?_);apply ae;intro K h;simp(disch:=omega);apply h;clear h K;refine af fun K1 aQ=>?_
 cases hv:bX l with
 |false=>
  rw[hv] at c1;refine ae fun K hK=>?_;simp(disch:=omega) ;refine ak (c1) ?_;simp(disch:=omega) ;apply hK;clear hK K;apply aF rfl;apply ae;intro K h;simp(disch:=omega);apply h;clear h K;apply az;simp(disch:=omega) ;simp[kZ,hv,ints]
 |true=>
  rw[hv] at c1;have hd:(kZ l)=an l:=by unfold kZ;rw[if_pos hv]
  refine ae fun K hK=>?_;simp(disch:=omega) ;refine ak (c1) ?_;simp(disch:=omega) ;apply hK;clear hK K;apply aD rfl;apply ai;simp(disch:=omega) ;apply aQ;clear aQ;refine ae fun K hK=>?_;simp(disch:=omega) ;refine ak (c2) ?_;simp(disch:=omega) ;apply hK;clear hK K;apply az;simp(disch:=omega) ;rw[hd];simp[an]
theorem OR {a:PL}(h:nO a):a=(an a).map (fun d=>(d,posOf a d)):=by
 induction a with
 |nil=>rfl
 |cons p a ih=>
  obtain⟨h1,h2⟩:=j6 h;have e:(an a).map (fun d=>(d,posOf (p::a) d))=(an a).map (fun d=>(d,posOf a d)):=List.map_congr_left fun d hd=>by
   obtain⟨q,hq,e⟩:=List.mem_map.1 hd;have:=h2 q hq;rw[cG (by omega)]
  show p::a=(p.1,posOf (p::a) p.1)::(an a).map (fun d=>(d,posOf (p::a) d));rw[e,←ih h1,cO]
theorem LO {a b:PL}(ha:nO a)(hb:nO b)(h1:∀d,d∈an a↔d∈an b)(h2:∀d,d∈an a→posOf a d=posOf b d):a=b:=by
 have e:an a=an b:=lj _ _ ha hb h1;rw[OR ha,OR hb,←e];exact List.map_congr_left fun d hd=>by rw[h2 d hd]
theorem Hk (g:Int→List Int)(ds:List Int)(d:Int)(h:d∈ds):posOf (ds.map (fun d=>(d,g d))) d=g d:=by
 induction ds with
 |nil=>simp at h
 |cons x ds ih=>
  show (if x=d then g x else posOf (ds.map (fun d=>(d,g d))) d)=g d
  by_cases e:x=d
  ·rw[if_pos e,e]
  ·rw[if_neg e];rcases List.mem_cons.1 h with h|h
   ·exact absurd h.symm e
   ·exact ih h
theorem Lw (g:Int→List Int)(ds:List Int):an (ds.map (fun d=>(d,g d)))=ds:=by
 unfold an;rw[List.map_map];exact List.map_id ds
def VL (l:PL):Prop:=bX l=true
theorem Gy {l:PL}(h1:nO l)(h2:∀p∈l,1≤p.1∧p.1≤1000000000)(h3:∀p∈l,p.2≠[]∧kU p.2∧∀q∈p.2,0≤q∧q≤1000000):VL l:=by
 unfold VL bX;rw[Bool.and_eq_true];refine⟨uJ h1 fun q hq=>?_,?_⟩
 ·obtain⟨p,hp,rfl⟩:=List.mem_map.1 hq;exact h2 p hp
 ·have:l.any gN=false:=by
   rw[List.any_eq_false];intro p hp;obtain⟨g1,g2,g3⟩:=h3 p hp;have e:ju p.2 0 1000000=true:=uJ g2 g3;simp[gN,e,g1]
  rw[this];rfl
theorem uC {l:PL}{d z:Int}(h:z∈posOf l d):∃p∈l,p.1=d∧posOf l d=p.2:=by
 induction l with
 |nil=>simp[posOf] at h
 |cons p l ih=>
  by_cases e:p.1=d
  ·subst e;exact⟨p,by simp,rfl,cO⟩
  ·rw[cG e] at h ⊢;obtain⟨q,g1,g2,g3⟩:=ih h;exact⟨q,by simp[g1],g2,g3⟩
theorem fx {l:PL}(h:VL l)(d:Int):kU (posOf l d):=by
 cases e:posOf l d with
 |nil=>exact List.Pairwise.nil
 |cons z r=>
  obtain⟨p,h1,_,h3⟩:=uC (l:=l) (d:=d) (z:=z) (by rw[e];simp);rw[←e,h3];exact((cU h).2.2 p h1).2.1
theorem tW {l:PL}(h:VL l)(d:Int):d∈an l↔∃z,z∈posOf l d:=by
 obtain⟨a1,a2,a3⟩:=cU h
 constructor
 ·intro hd;obtain⟨p,hp,rfl⟩:=List.mem_map.1 hd;rw[rW a1 hp];exact List.exists_mem_of_ne_nil _ (a3 p hp).1
 ·rintro⟨z,hz⟩;obtain⟨p,h1,h2,_⟩:=uC hz;exact List.mem_map.2 ⟨p,h1,h2⟩
theorem Z3 {a b:PL}(ha:VL a)(hb:VL b)(h:∀d z,z∈posOf a d↔z∈posOf b d):a=b:=by
 refine LO (cU ha).1 (cU hb).1 (fun d=>?_) fun d _=>lj _ _ (fx ha d) (fx hb d) (h d);rw[tW ha,tW hb];exact exists_congr (h d)
theorem w6 {a b:PL}(ha:VL a)(hb:VL b):jx a b=IN a b:=by unfold jx;rw[if_pos ⟨ha,hb⟩]
theorem Be (a b:PL):an (IN a b)=jn (an a) (an b):=Lw (fun d=>jn (posOf a d) (posOf b d)) _
theorem Hi {a b:PL}(ha:VL a)(hb:VL b)(d:Int):posOf (IN a b) d=jn (posOf a d) (posOf b d):=by
 by_cases h:d∈jn (an a) (an b)
 ·exact Hk (fun d=>jn (posOf a d) (posOf b d)) _ d h
 ·have e:posOf (IN a b) d=[]:=uS (by rw[show (IN a b).map (·.1)=an (IN a b) from rfl,Be];exact h);rw[nY (a:=an a) (b:=an b) (cU ha).1 (cU hb).1] at h;have e1:posOf a d=[]:=uS (fun hh=>h (.inl hh));have e2:posOf b d=[]:=uS (fun hh=>h (.inr hh));rw[e,e1,e2];rfl
theorem Qz {a b:PL}(ha:VL a)(hb:VL b)(d z:Int):z∈posOf (jx a b) d↔z∈posOf a d∨z∈posOf b d:=by
 rw[w6 ha hb,Hi ha hb,nY (fx ha d) (fx hb d)]
theorem Z4 {a b:PL}(ha:VL a)(hb:VL b):VL (jx a b):=by
 obtain⟨a1,a2,a3⟩:=cU ha;obtain⟨b1,b2,b3⟩:=cU hb;rw[w6 ha hb];have key:∀d,d∈jn (an a) (an b)→d∈an a∨d∈an b:=fun d hd=>(nY a1 b1 d).1 hd;refine Gy ?_ (fun p hp=>?_) fun p hp=>?_
 ·show kU (an (IN a b));rw[Be];exact uF a1 b1
 ·obtain⟨d,hd,rfl⟩:=List.mem_map.1 hp;rcases key d hd with h|h
  ·obtain⟨q,hq,e⟩:=List.mem_map.1 h;have:=a2 q hq;rw[e] at this;exact this
  ·obtain⟨q,hq,e⟩:=List.mem_map.1 h;have:=b2 q hq;rw[e] at this;exact this
 ·obtain⟨d,hd,rfl⟩:=List.mem_map.1 hp;refine⟨fun e=>?_,uF (fx ha d) (fx hb d),fun q hq=>?_⟩
  ·have e':jn (posOf a d) (posOf b d)=[]:=e;have nC:∀z,¬(z∈posOf a d∨z∈posOf b d):=fun z hz=>by
    rw[←nY (fx ha d) (fx hb d),e'] at hz;simp at hz
   rcases key d hd with h|h
   ·obtain⟨z,hz⟩:=(tW ha d).1 h;exact nC z (.inl hz)
   ·obtain⟨z,hz⟩:=(tW hb d).1 h;exact nC z (.inr hz)
  ·rcases (nY (fx ha d) (fx hb d) q).1 hq with h|h
   ·obtain⟨p,h1,_,h3⟩:=uC h;rw[h3] at h;exact(a3 p h1).2.2 q h
   ·obtain⟨p,h1,_,h3⟩:=uC h;rw[h3] at h;exact(b3 p h1).2.2 q h
section
variable {a b c : PL} (ha : VL a) (hb : VL b) (hc : VL c)
include ha
include hb
include hc
end
end Go.Proofs.YtneohapkboaplaaGreat
