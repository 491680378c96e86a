/- Posting lists: what is kept of them by a test on positions; laws on lists. What is kept of a posting: the function that filtered gives to merge. Merging of posting lists in layer 38. filtered of layer 38, and Near. Lists of posting lists in layer 38, and which of them are valid. Phrase of layer 38. The example of the document of layer 38 holds. At and Near of the reference of layer 38. Phrase of the reference of layer 38. PostingSets: the walk. And, Or, Without obey the laws of sets. Merging of lists of numbers in layer 38, for any function that takes the numbers. The parts of Union in layer 38: copies, joined. The union of posting lists: going through both is the same as collecting the positions of each document. Union of layer 38. Union of the reference of layer 38. Docs, Seek and Count of layer 38 and of its reference. seek of layer 38: by doubling steps, which are halved again. Posting lists: which of them are equal; the postings of some documents. Only of layer 38 and of its reference. Valid posting lists: they are their documents and positions; the laws of Union, Phrase, Near.
  Conditions: as the theorems say. -/
import Derived.Test.YtneohapkboaplaaGreatPA
import Derived.Test.YtneohapkboaplaaGreatPB
import Derived.Test.YtneohapkboaplaaGreatAmC
set_option linter.all false
set_option maxRecDepth 100000
set_option maxHeartbeats 4000000
open Nat (zero_le le_refl le_trans)
open List (getD_eq_getElem?_getD drop_length length_cons)
namespace dc
abbrev PL:=List (Int×List Int)
def posOf:PL→Int→List Int
 |[],_=>[]
 |p::l,d=>if p.1=d then p.2 else posOf l d
def vS {β:Type}(fA fB:β→(Int×List Int)→β)(fAB:β→(Int×List Int)→(Int×List Int)→β):Nat→PL→PL→β→β
 |0,_,_,o=>o
 |n+1,x::a,y::b,o=>if x.1<y.1 then vS fA fB fAB n a (y::b) (fA o x) else if y.1<x.1 then vS fA fB fAB n (x::a) b (fB o y) else vS fA fB fAB n a b (fAB o x y)
 |n+1,x::a,[],o=>vS fA fB fAB n a [] (fA o x)
 |n+1,[],y::b,o=>vS fA fB fAB n [] b (fB o y)
 |_+1,[],[],o=>o
def mW (l:PL):Prop:=jR (l.map (·.1))
theorem gK {x:Int×List Int}{l:PL}(h:mW (x::l)):mW l∧∀y∈l,x.1<y.1:=by
 obtain⟨h1,h2⟩:=iW h;exact⟨h1,fun y hy=>h2 _ (List.mem_map.2 ⟨y,hy,rfl⟩)⟩
theorem cp {p:Int×List Int}{l:PL}{d:Int}(h:p.1≠d):posOf (p::l) d=posOf l d:=by simp[posOf,h]
theorem cH {p:Int×List Int}{l:PL}:posOf (p::l) p.1=p.2:=by simp[posOf]
theorem my {l:PL}{d:Int}(h:∀p∈l,p.1≠d):posOf l d=[]:=by
 induction l with
 |nil=>rfl
 |cons p l ih=>rw[cp (h p (by simp)),ih (fun q hq=>h q (by simp[hq]))]
end dc
namespace Go.Proofs.YtneohapkboaplaaGreat
open Go Go.Am dc
def yG (T:ay)(out:PL):ay:=T++[(out.length*2,2)]
theorem yh (T:ay)(out:PL):(yG T out).length=T.length+1:=by simp[yG]
attribute [-simp] getD_eq_getElem?_getD in
theorem nK (p:Int×List Int)(H:List aG)(T:ay):al Tryz.prog 111 [.agg [.int .i64 p.1,.sl p.2.length (ints p.2) .none]] H T (Is (.int .i64 p.1) H T):=by
 refine al.dS ?_ (by simp);refine aj 3 [] Tryz.ntmps111 Tryz.func111 rfl (fun _ _=>Tryz.call111 _ _) (by simp) (fun HO=>?_);apply ae;intro K h;simp(disch:=omega);apply h;clear h K;apply ae;intro K h;simp(disch:=omega);apply h;clear h K;apply an;simp(disch:=omega) 
theorem fK (l:PL)(i:Nat)(h:i<l.length):l.drop i=l.getD i (0,[])::l.drop (i+1):=by
 rw[List.drop_eq_getElem_cons h,getD_eq_getElem?_getD,List.getElem?_eq_getElem h];rfl
def MP {β:Type}(fA fB:β→(Int×List Int)→β)(fAB:β→(Int×List Int)→(Int×List Int)→β)(a b:PL)(n i j:Nat)(o:β):β:=vS fA fB fAB n (a.drop i) (b.drop j) o
section
variable {β : Type} {fA fB : β → (Int × List Int) → β} {fAB : β → (Int × List Int) → (Int × List Int) → β} {a b : PL} {o : β} {n i j : Nat}
theorem aa7 (hn:0<n)(hi:i<a.length)(hj:j<b.length)(h:(a.getD i (0,[])).1<(b.getD j (0,[])).1):MP fA fB fAB a b n i j o=MP fA fB fAB a b (n-1) (i+1) j (fA o (a.getD i (0,[]))):=by
 obtain⟨m,rfl⟩:∃m,n=m+1:=⟨n-1,by omega⟩
 unfold MP;rw[fK a i hi,fK b j hj,vS,if_pos h];rfl
theorem aa6 (hn:0<n)(hi:i<a.length)(hj:j<b.length)(h:¬(a.getD i (0,[])).1<(b.getD j (0,[])).1)(h2:(b.getD j (0,[])).1<(a.getD i (0,[])).1):MP fA fB fAB a b n i j o=MP fA fB fAB a b (n-1) i (j+1) (fB o (b.getD j (0,[]))):=by
 obtain⟨m,rfl⟩:∃m,n=m+1:=⟨n-1,by omega⟩
 unfold MP;rw[fK a i hi,fK b j hj,vS,if_neg h,if_pos h2];rfl
theorem Uh (hn:0<n)(hi:i<a.length)(hj:j<b.length)(h:¬(a.getD i (0,[])).1<(b.getD j (0,[])).1)(h2:¬(b.getD j (0,[])).1<(a.getD i (0,[])).1):MP fA fB fAB a b n i j o=MP fA fB fAB a b (n-1) (i+1) (j+1) (fAB o (a.getD i (0,[])) (b.getD j (0,[]))):=by
 obtain⟨m,rfl⟩:∃m,n=m+1:=⟨n-1,by omega⟩
 unfold MP;rw[fK a i hi,fK b j hj,vS,if_neg h,if_neg h2];rfl
theorem Ui (hn:0<n)(hi:i<a.length)(hj:j=b.length):MP fA fB fAB a b n i j o=MP fA fB fAB a b (n-1) (i+1) j (fA o (a.getD i (0,[]))):=by
 obtain⟨m,rfl⟩:∃m,n=m+1:=⟨n-1,by omega⟩
 unfold MP;rw[fK a i hi,hj,drop_length,vS];rfl
theorem Ug (hn:0<n)(hi:i=a.length)(hj:j<b.length):MP fA fB fAB a b n i j o=MP fA fB fAB a b (n-1) i (j+1) (fB o (b.getD j (0,[]))):=by
 obtain⟨m,rfl⟩:∃m,n=m+1:=⟨n-1,by omega⟩
 unfold MP;rw[fK b j hj,hi,drop_length,vS];rfl
theorem QM (hi:i=a.length)(hj:j=b.length):MP fA fB fAB a b n i j o=o:=by
 unfold MP;rw[hi,hj,drop_length,drop_length]
 cases n<;>rfl
end
attribute [-simp] getD_eq_getElem?_getD in
theorem GO {β:Type}(g:Nat)(eK:List AV)(fA fB:β→(Int×List Int)→β)(fAB:β→(Int×List Int)→(Int×List Int)→β)(S:β→List aG)(U:β→ay)(I:Nat→β→Prop)(N M:Nat)(o0:β)
  (a b:PL) (ha:a.length≤1000) (hb:b.length≤1000) (hS:∀o,(S o).length=N) (hU:∀o,(U o).length=M) (Fa:aL N M eK) (fC:∀n o,I n o→bM (S o) (U o)) (h0:I 0 o0)
  (cA:∀n i o,i<a.length→n≤2000→I n o→al Tryz.prog g ([.dI (bp a) (i*2),.eO]++eK) (S o) (U o) (Is (.cJ []) (S (fA o (a.getD i (0,[])))) (U (fA o (a.getD i (0,[]))))))
  (cB:∀n j o,j<b.length→n≤2000→I n o→al Tryz.prog g ([.eO,.dI (bp b) (j*2)]++eK) (S o) (U o) (Is (.cJ []) (S (fB o (b.getD j (0,[])))) (U (fB o (b.getD j (0,[]))))))
  (cAB:∀n i j o,i<a.length→j<b.length→n≤2000→I n o→al Tryz.prog g ([.dI (bp a) (i*2),.dI (bp b) (j*2)]++eK) (S o) (U o) (Is (.cJ []) (S (fAB o (a.getD i (0,[])) (b.getD j (0,[])))) (U (fAB o (a.getD i (0,[])) (b.getD j (0,[]))))))
  (iA:∀n i o,i<a.length→I n o→I (n+1) (fA o (a.getD i (0,[])))) (iB:∀n j o,j<b.length→I n o→I (n+1) (fB o (b.getD j (0,[])))) (RK:∀n i j o,i<a.length→j<b.length→I n o→I (n+2) (fAB o (a.getD i (0,[])) (b.getD j (0,[])))) :
  al Tryz.prog 110 [.sl a.length (bp a) .none,.sl b.length (bp b) .none,.fn 111 [] [],.fn g [] eK] (S o0) (U o0)
   (Is (.cJ []) (S (MP fA fB fAB a b (a.length+b.length) 0 0 o0)) (U (MP fA fB fAB a b (a.length+b.length) 0 0 o0))):=by
 refine aj 11 [] Tryz.ntmps110 Tryz.func110 rfl (fun _ _=>Tryz.call110 _ _) (by simp) (fun HO=>?_);apply ae;intro K h;simp(disch:=omega);apply h;clear h K;apply ai;refine aK (X:=Nat×Nat×Nat×β) (fun x=>⟨[(0,.sl a.length (bp a) .none),(1,.sl b.length (bp b) .none),(2,.fn 111 [] []),(3,.fn g [] eK),(8,.int .i64 (x.2.1:Nat)),(9,.int .i64 (x.2.2.1:Nat))],S x.2.2.2,U x.2.2.2⟩)
  (fun x=>x.2.1≤a.length∧x.2.2.1≤b.length∧(a.length-x.2.1)+(b.length-x.2.2.1)≤x.1∧MP fA fB fAB a b (a.length+b.length) 0 0 o0=MP fA fB fAB a b x.1 x.2.1 x.2.2.1 x.2.2.2∧I (x.2.1+x.2.2.1) x.2.2.2) (fun x=>x.1) (a.length+b.length,0,0,o0) ?_ ?_ ?_
 ·exact⟨zero_le _,zero_le _,by simp only;omega,rfl,h0⟩
 ·refine ag [] [] ?_ ?_ ?_ ?_ HO ?_
  ·simp
  ·simp
  ·simp
  ·simp
  ·simp[hS,hU,Fa]
 ·rintro⟨n,i,j,out⟩ ⟨h1,h2,h3,h4,h5⟩;simp only at h1 h2 h3 h4 h5
  by_cases hi:i<a.length
  ·have bi:decide ((i:Int)<a.length)=true:=by simp;omega
   have ni:((i:Int)==a.length)=false:=by rw[beq_eq_false_iff_ne];omega
   have NL:¬i=a.length:=by omega
   have LX:=iU a i hi
   by_cases hj:j<b.length
   ·have bj:decide ((j:Int)<b.length)=true:=by simp;omega
    have nj:((j:Int)==b.length)=false:=by rw[beq_eq_false_iff_ne];omega
    have DF:¬j=b.length:=by omega
    have LW:=iU b j hj;have hn:0<n:=by omega
    refine af fun K2 aY=>?_;refine ae fun K hK=>?_;simp(disch:=omega)[bi,bj,hi,hj];apply hK;clear hK K;apply aH rfl;apply ak;simp(disch:=omega) ;apply aY;clear aY;apply ai;apply ai
    by_cases c1:(a.getD i (0,[])).1<(b.getD j (0,[])).1
    ·have b1:decide ((a.getD i (0,[])).1<(b.getD j (0,[])).1)=true:=by simpa using c1
     have dA:=aa7 (fA:=fA) (fB:=fB) (fAB:=fAB) (o:=out) hn hi hj c1;refine aM [] [] [] au (by kernel_rfl) (by kernel_rfl) fun K hK=>?_;simp(disch:=omega)[bi,hi,nj,DF,LX,aS];refine aB (nK _ _ _) rfl ?_;simp(disch:=omega)[LW,aS];refine aB (nK _ _ _) rfl ?_;simp(disch:=omega)[b1,c1];apply hK;clear hK K;apply aH rfl;refine ae fun K hK=>?_;simp(disch:=omega)[aS];refine ah (cA (i+j) i out hi (by omega) h5) ?_;simp(disch:=omega) ;apply hK;clear hK K;refine ar fun K hK=>?_;simp(disch:=omega) ;apply hK;clear hK K;refine⟨(n-1,i+1,j,fA out (a.getD i (0,[]))),⟨by show i+1≤a.length;omega,by show j≤b.length;omega,by show (a.length-(i+1))+(b.length-(j))≤n-1;omega,h4.trans dA,(show I (i+1+j) _ by rw[show i+1+j=i+j+1 by omega];exact iA _ i out hi h5)⟩,by show n-1<n;omega,?_⟩;refine ag [] [] ?_ ?_ ?_ ?_ (fC _ _ ((show I (i+1+j) _ by rw[show i+1+j=i+j+1 by omega];exact iA _ i out hi h5))) ?_
     ·simp
     ·simp
     ·simp[hS]
     ·simp[hU]
     ·simp[hS,hU,Fa]
      try omega
    ·have b1:decide ((a.getD i (0,[])).1<(b.getD j (0,[])).1)=false:=by simpa using c1
     refine aM [] [] [] au (by kernel_rfl) (by kernel_rfl) fun K hK=>?_;simp(disch:=omega)[bi,hi,nj,DF,LX,aS];refine aB (nK _ _ _) rfl ?_;simp(disch:=omega)[LW,aS];refine aB (nK _ _ _) rfl ?_;simp(disch:=omega)[b1,c1];apply hK;clear hK K;apply aC rfl
     by_cases c2:(b.getD j (0,[])).1<(a.getD i (0,[])).1
     ·have b2:decide ((b.getD j (0,[])).1<(a.getD i (0,[])).1)=true:=by simpa using c2
      have dA:=aa6 (fA:=fA) (fB:=fB) (fAB:=fAB) (o:=out) hn hi hj c1 c2;refine aM [] [] [] au (by kernel_rfl) (by kernel_rfl) fun K hK=>?_;simp(disch:=omega)[ni,NL,LW,aS,hj];refine aB (nK _ _ _) rfl ?_;simp(disch:=omega)[LX,aS];refine aB (nK _ _ _) rfl ?_;simp(disch:=omega)[b2,c2];apply hK;clear hK K;apply aH rfl;refine ae fun K hK=>?_;simp(disch:=omega)[aS];refine ah (cB (i+j) j out hj (by omega) h5) ?_;simp(disch:=omega) ;apply hK;clear hK K;refine ar fun K hK=>?_;simp(disch:=omega) ;apply hK;clear hK K;refine⟨(n-1,i,j+1,fB out (b.getD j (0,[]))),⟨by show i≤a.length;omega,by show j+1≤b.length;omega,by show (a.length-(i))+(b.length-(j+1))≤n-1;omega,h4.trans dA,(show I (i+(j+1)) _ from iB _ j out hj h5)⟩,by show n-1<n;omega,?_⟩;refine ag [] [] ?_ ?_ ?_ ?_ (fC _ _ ((show I (i+(j+1)) _ from iB _ j out hj h5))) ?_
      ·simp
      ·simp
      ·simp[hS]
      ·simp[hU]
      ·simp[hS,hU,Fa]
       try omega
     ·have b2:decide ((b.getD j (0,[])).1<(a.getD i (0,[])).1)=false:=by simpa using c2
      have dA:=Uh (fA:=fA) (fB:=fB) (fAB:=fAB) (o:=out) hn hi hj c1 c2;refine aM [] [] [] au (by kernel_rfl) (by kernel_rfl) fun K hK=>?_;simp(disch:=omega)[ni,NL,LW,aS,hj];refine aB (nK _ _ _) rfl ?_;simp(disch:=omega)[LX,aS];refine aB (nK _ _ _) rfl ?_;simp(disch:=omega)[b2,c2];apply hK;clear hK K;apply aC rfl;refine aM [7] [0,0,0,0,0,0,0,0] [[]] au (by kernel_rfl) (by kernel_rfl) fun K hK=>?_;simp(disch:=omega)[aS,hi,hj];refine dz (cAB (i+j) i j out hi hj (by omega) h5) rfl ?_;simp(disch:=omega) ;apply hK;clear hK K;refine ar fun K hK=>?_;simp(disch:=omega) ;apply hK;clear hK K;refine⟨(n-1,i+1,j+1,fAB out (a.getD i (0,[])) (b.getD j (0,[]))),⟨by show i+1≤a.length;omega,by show j+1≤b.length;omega,by show (a.length-(i+1))+(b.length-(j+1))≤n-1;omega,h4.trans dA,(show I (i+1+(j+1)) _ by rw[show i+1+(j+1)=i+j+2 by omega];exact RK _ i j out hi hj h5)⟩,by show n-1<n;omega,?_⟩;refine ag [] [] ?_ ?_ ?_ ?_ (fC _ _ ((show I (i+1+(j+1)) _ by rw[show i+1+(j+1)=i+j+2 by omega];exact RK _ i j out hi hj h5))) ?_
      ·simp
      ·simp
      ·simp[hS]
      ·simp[hU]
      ·simp[hS,hU,Fa]
       try omega
   ·have bj:decide ((j:Int)<b.length)=false:=by simp;omega
    have NU:j=b.length:=by omega
    have nj:((j:Int)==b.length)=true:=by simp;omega
    have hn:0<n:=by omega
    have dA:=Ui (fA:=fA) (fB:=fB) (fAB:=fAB) (o:=out) hn hi NU;refine af fun K2 aY=>?_;refine ae fun K hK=>?_;simp(disch:=omega)[bi,bj,hi,hj];apply hK;clear hK K;apply aH rfl;apply ak;simp(disch:=omega) ;apply aY;clear aY;apply ai;apply ai;have R5:(j:Int)=(b.length:Int):=by omega
    refine aM [] [] [] au (by kernel_rfl) (by kernel_rfl) fun K hK=>?_;simp(disch:=omega)[nj,R5];apply hK;clear hK K;apply aH rfl;refine ae fun K hK=>?_;simp(disch:=omega)[aS];refine ah (cA (i+j) i out hi (by omega) h5) ?_;simp(disch:=omega) ;apply hK;clear hK K;refine ar fun K hK=>?_;simp(disch:=omega) ;apply hK;clear hK K;refine⟨(n-1,i+1,j,fA out (a.getD i (0,[]))),⟨by show i+1≤a.length;omega,by show j≤b.length;omega,by show (a.length-(i+1))+(b.length-(j))≤n-1;omega,h4.trans dA,(show I (i+1+j) _ by rw[show i+1+j=i+j+1 by omega];exact iA _ i out hi h5)⟩,by show n-1<n;omega,?_⟩;refine ag [] [] ?_ ?_ ?_ ?_ (fC _ _ ((show I (i+1+j) _ by rw[show i+1+j=i+j+1 by omega];exact iA _ i out hi h5))) ?_
    ·simp
    ·simp
    ·simp[hS]
    ·simp[hU]
    ·simp[hS,hU,Fa]
     try omega
  ·have bi:decide ((i:Int)<a.length)=false:=by simp;omega
   have lX:i=a.length:=by omega
   by_cases hj:j<b.length
   ·have bj:decide ((j:Int)<b.length)=true:=by simp;omega
    have nj:((j:Int)==b.length)=false:=by rw[beq_eq_false_iff_ne];omega
    have DF:¬j=b.length:=by omega
    have ni:((i:Int)==a.length)=true:=by simp;omega
    have hn:0<n:=by omega
    have dA:=Ug (fA:=fA) (fB:=fB) (fAB:=fAB) (o:=out) hn lX hj;refine af fun K2 aY=>?_;refine ae fun K hK=>?_;simp(disch:=omega)[bi,bj,hi,hj];apply hK;clear hK K;apply aH rfl;apply ak;simp(disch:=omega) ;apply aY;clear aY;apply ai;apply ai;refine aM [] [] [] au (by kernel_rfl) (by kernel_rfl) fun K hK=>?_;simp(disch:=omega)[nj,DF,bi,hi];apply hK;clear hK K;apply aC rfl;have R6:(i:Int)=(a.length:Int):=by omega
    refine aM [] [] [] au (by kernel_rfl) (by kernel_rfl) fun K hK=>?_;simp(disch:=omega)[ni,R6];apply hK;clear hK K;apply aH rfl;refine ae fun K hK=>?_;simp(disch:=omega)[aS];refine ah (cB (i+j) j out hj (by omega) h5) ?_;simp(disch:=omega) ;apply hK;clear hK K;refine ar fun K hK=>?_;simp(disch:=omega) ;apply hK;clear hK K;refine⟨(n-1,i,j+1,fB out (b.getD j (0,[]))),⟨by show i≤a.length;omega,by show j+1≤b.length;omega,by show (a.length-(i))+(b.length-(j+1))≤n-1;omega,h4.trans dA,(show I (i+(j+1)) _ from iB _ j out hj h5)⟩,by show n-1<n;omega,?_⟩;refine ag [] [] ?_ ?_ ?_ ?_ (fC _ _ ((show I (i+(j+1)) _ from iB _ j out hj h5))) ?_
    ·simp
    ·simp
    ·simp[hS]
    ·simp[hU]
    ·simp[hS,hU,Fa]
     try omega
   ·have bj:decide ((j:Int)<b.length)=false:=by simp;omega
    have pe:=QM (fA:=fA) (fB:=fB) (fAB:=fAB) (a:=a) (b:=b) (o:=out) (n:=n) lX (show j=b.length by omega);rw[pe] at h4;refine af fun K2 aY=>?_;refine ae fun K hK=>?_;simp(disch:=omega)[bi,bj,hi,hj];apply hK;clear hK K;apply aC rfl;apply aD;simp(disch:=omega) ;rw[h4];exact⟨rfl,rfl,rfl⟩
theorem rL {b:PL}{y:Int×List Int}(hs:mW b)(h:y∈b):posOf b y.1=y.2:=by
 induction b with
 |nil=>simp at h
 |cons z b ih=>
  obtain⟨h1,h2⟩:=gK hs;rcases List.mem_cons.1 h with rfl|h
  ·exact cH
  ·have:=h2 y h;rw[cp (by omega)];exact ih h1 h
theorem bS {l:PL}(h:bc l=true):mW l∧(∀p∈l,1≤p.1∧p.1≤1000000000)∧∀p∈l,p.2≠[]∧jR p.2∧∀q∈p.2,0≤q∧q≤1000000:=by
 have bounds:∀(l:List Int)(lo hi:Int),jd l lo hi=true→∀q∈l,lo≤q∧q≤hi:=fun l lo hi h q hq=>by
  obtain⟨j,hj,e⟩:=ic 0 hq;unfold jd at h;rw[List.all_eq_true] at h;have:=h j (by simpa using hj);unfold fH at this;simp only[Bool.and_eq_true,decide_eq_true_eq] at this;rw[e] at this;exact this.1
 unfold bc at h;rw[Bool.and_eq_true] at h;obtain⟨h1,h2⟩:=h;refine⟨ke h1,fun p hp=>bounds _ _ _ h1 _ (List.mem_map.2 ⟨p,hp,rfl⟩),fun p hp=>?_⟩;have h3:gA p=false:=by
  cases hb:gA p with
  |false=>rfl
  |true=>
   have:l.any gA=true:=List.any_eq_true.2 ⟨p,hp,hb⟩;rw[this] at h2;simp at h2
 unfold gA at h3;rw[Bool.or_eq_false_iff] at h3;have h4:jd p.2 0 1000000=true:=by simpa using h3.2
 refine⟨fun e=>?_,ke h4,bounds _ _ _ h4⟩;have:=h3.1;rw[e] at this;simp at this
theorem uK {l:PL}{d:Int}(h:¬d∈l.map (·.1)):posOf l d=[]:=my fun p hp e=>h (List.mem_map.2 ⟨p,hp,e⟩)
theorem Bf:∀(l:PL)(k:Nat)(d:Int),k<l.length→(∀j,j<k→(l.getD j (0,[])).1≠d)→(l.getD k (0,[])).1=d→posOf l d=(l.getD k (0,[])).2:=by
 intro l
 induction l with
 |nil=>intro k d h;simp at h
 |cons p l ih=>
  intro k d h h1 h2
  cases k with
  |zero=>simp at h2;subst h2;exact cH
  |succ k=>
   have h0:p.1≠d:=by have:=h1 0 (by omega);simpa using this
   rw[cp h0];exact ih k d (by simpa using h) (fun j hj=>by have:=h1 (j+1) (by omega);simpa using this) (by simpa using h2)
attribute [-simp] getD_eq_getElem?_getD in
theorem QH (l:PL)(d:Int)(hl:l.length≤5000)(H:List aG)(T:ay)(tg:Tag):al Tryz.prog 32 [.sl l.length (bp l) tg,.int .i64 d] H T (Is (.sl (posOf l d).length (ints (posOf l d)) .none) H T):=by
 refine al.cg ?_;refine al.dS ?_ (by simp);refine aj 6 [] Tryz.ntmps32 Tryz.func32 rfl (fun _ _=>Tryz.call32 _ _) (by simp) (fun HO=>?_);apply ae;intro K h;simp(disch:=omega);apply h;clear h K;refine af fun K1 aO=>?_;apply ae;intro K h;simp(disch:=omega);apply h;clear h K;apply ai;refine aK (X:=Nat) (fun k=>⟨[(0,.sl l.length (bp l) .none),(1,.int .i64 d),(5,.int .i64 (k:Nat))],H,T⟩) (fun k=>k≤l.length∧∀j,j<k→(l.getD j (0,[])).1≠d) (fun k=>l.length-k) 0 ?_ ?_ ?_
 ·exact⟨zero_le _,fun j hj=>absurd hj (Nat.not_lt_zero _)⟩
 ·refine ag [] [] ?_ ?_ ?_ ?_ HO ?_
  all_goals simp
 ·rintro k ⟨h1,h2⟩;refine af fun K2 aY=>?_;apply ae;intro K h;simp(disch:=omega);apply h;clear h K;refine aP rfl (fun hk=>?_) (fun hk=>?_)
  ·simp  at hk;have gR:=gq l k hk;apply ak;simp(disch:=omega) ;apply aY;clear aY;refine af fun K3 bA=>?_;apply ai
   by_cases hc:(l.getD k (0,[])).1=d
   ·have b:((l.getD k (0,[])).1==d)=true:=by simpa using hc
    have hf:=Bf l k d hk h2 hc;refine ae fun K hK=>?_;simp(disch:=omega)[gR.1,aS,b];apply hK;clear hK K;apply aH rfl;refine ae fun K hK=>?_;simp(disch:=omega)[gR.2,aS];apply hK;clear hK K;apply an;simp(disch:=omega) ;rw[hf];simp
   ·have b:((l.getD k (0,[])).1==d)=false:=by simpa using hc
    refine ae fun K hK=>?_;simp(disch:=omega)[gR.1,aS,b];apply hK;clear hK K;apply aC rfl;apply ak;simp(disch:=omega) ;apply bA;clear bA;refine ar fun K hK=>?_;simp(disch:=omega) ;apply hK;clear hK K;refine⟨k+1,⟨by show k+1≤_;omega,fun j hj=>?_⟩,by show l.length-(k+1)<l.length-k;omega,?_⟩
    ·rcases Nat.lt_or_ge j k with h3|h3
     ·exact h2 j h3
     ·have:j=k:=by omega
      subst this;exact hc
    ·refine ag [] [] ?_ ?_ ?_ ?_ HO ?_
     all_goals simp
  ·simp  at hk;have hm:posOf l d=[]:=my fun p hp e=>by
    obtain⟨j,hj,e2⟩:=ic (0,[]) hp;have:=h2 j (by omega);rw[e2] at this;exact this e
   apply aD;simp(disch:=omega) ;apply aO;clear aO;apply ae;intro K h;simp(disch:=omega);apply h;clear h K;apply an;simp(disch:=omega) ;rw[hm];simp
theorem Qp {fA fB fAB:List Int→Int→List Int}(hA:∀o x,(fA o x).length≤o.length+1)(hB:∀o x,(fB o x).length≤o.length+1)(hAB:∀o x,(fAB o x).length≤o.length+1) :
  ∀(n:Nat)(a b o:List Int),(im fA fB fAB n a b o).length≤o.length+a.length+b.length:=by
 intro n
 induction n with
 |zero=>intro a b o;simp only[im];omega
 |succ n ih=>
  intro a b o
  cases a with
  |nil=>
   cases b with
   |nil=>simp only[im];omega
   |cons y b=>have:=ih [] b (fB o y);have:=hB o y;simp only[im,length_cons];omega
  |cons x a=>
   cases b with
   |nil=>have:=ih a [] (fA o x);have:=hA o x;simp only[im,length_cons];omega
   |cons y b=>
    have e1:=ih a (y::b) (fA o x);have e2:=ih (x::a) b (fB o y);have e3:=ih a b (fAB o x);have:=hA o x;have:=hB o y;have:=hAB o x;simp only[length_cons] at e1 e2 ⊢;rw[im]
    split
    ·omega
    ·split
     ·omega
     ·omega
theorem KU (kf:Bool→Bool→Bool)(a b:List Int):(comb kf a b).length≤a.length+b.length:=by
 have st:∀(k:Bool)(o:List Int)(x:Int),(if k=true then o++[x] else o).length≤o.length+1:=fun k o x=>by split<;>simp
 unfold comb
 split
 ·have:=Qp (fA:=fun o x=>if kf true false then o++[x] else o) (fB:=fun o x=>if kf false true then o++[x] else o) (fAB:=fun o x=>if kf true true then o++[x] else o) (fun o x=>st _ o x) (fun o x=>st _ o x) (fun o x=>st _ o x) (a.length+b.length) a b [];simp only[List.length_nil,Nat.zero_add] at this;exact this
 ·simp
theorem GX (f:Bool→Bool)(a b:List Int):(gW f a b).length≤a.length+b.length:=by
 unfold gW
 split
 ·exact le_trans (List.length_filter_le _ _) (by omega)
 ·simp
def V (l:List Int):Prop:=jd l 1 1000000000=true
theorem pF {l:List Int}{lo hi:Int}(h:jd l lo hi=true):∀q∈l,lo≤q∧q≤hi:=fun q hq=>by
 obtain⟨j,hj,e⟩:=ic 0 hq;unfold jd at h;rw[List.all_eq_true] at h;have:=h j (by simpa using hj);unfold fH at this;simp only[Bool.and_eq_true,decide_eq_true_eq] at this;rw[e] at this;exact this.1
theorem uC {l:List Int}{lo hi:Int}(h:jR l)(hb:∀q∈l,lo≤q∧q≤hi):jd l lo hi=true:=by
 refine ye fun j hj=>?_;have hbj:=hb _ (oN l j 0 hj);unfold fH;simp only[Bool.and_eq_true,decide_eq_true_eq,Bool.or_eq_true];refine⟨hbj,?_⟩;rcases Nat.eq_zero_or_pos j with h0|h0
 ·exact .inl h0
 ·exact .inr (tO h (by omega) hj)
theorem Hk (kf:Bool→Bool→Bool){a b:List Int}(ha:V a)(hb:V b):jR (comb kf a b)∧∀z,z∈comb kf a b↔(z∈a∧z∉b∧kf true false=true)∨(z∈b∧z∉a∧kf false true=true)∨(z∈a∧z∈b∧kf true true=true):=by
 obtain⟨_,g2,g3⟩:=x4 (kf true false) (kf false true) (kf true true) (a.length+b.length) a b [] (le_refl _) (ke ha) (ke hb);have e:comb kf a b=im (fun o x=>if kf true false then o++[x] else o) (fun o x=>if kf false true then o++[x] else o) (fun o x=>if kf true true then o++[x] else o) (a.length+b.length) a b []:=by
  unfold comb;rw[if_pos ⟨ha,hb⟩];rfl
 rw[e];exact⟨g3,g2⟩
def An (a b:List Int):List Int:=comb (fun p q=>p&&q) a b
section
variable {a b c : List Int} (ha : V a) (hb : V b) (hc : V c)
include ha hb
include hc
end
def EV {β:Type}(fA fB:β→Int→β)(fAB:β→Int→Int→β):Nat→List Int→List Int→β→β
 |0,_,_,o=>o
 |n+1,x::a,y::b,o=>if x<y then EV fA fB fAB n a (y::b) (fA o x) else if y<x then EV fA fB fAB n (x::a) b (fB o y) else EV fA fB fAB n a b (fAB o x y)
 |n+1,x::a,[],o=>EV fA fB fAB n a [] (fA o x)
 |n+1,[],y::b,o=>EV fA fB fAB n [] b (fB o y)
 |_+1,[],[],o=>o
@[simp] theorem eW (l:List Int):(ints l).length=l.length:=by simp[ints]
def MI {β:Type}(fA fB:β→Int→β)(fAB:β→Int→Int→β)(a b:List Int)(n i j:Nat)(o:β):β:=EV fA fB fAB n (a.drop i) (b.drop j) o
section
variable {β : Type} {fA fB : β → Int → β} {fAB : β → Int → Int → β} {a b : List Int} {o : β} {n i j : Nat}
theorem aa9 (hn:0<n)(hi:i<a.length)(hj:j<b.length)(h:a.getD i 0<b.getD j 0):MI fA fB fAB a b n i j o=MI fA fB fAB a b (n-1) (i+1) j (fA o (a.getD i 0)):=by
 obtain⟨m,rfl⟩:∃m,n=m+1:=⟨n-1,by omega⟩
 unfold MI;rw[cU a i hi,cU b j hj,EV,if_pos h];rfl
theorem aa8 (hn:0<n)(hi:i<a.length)(hj:j<b.length)(h:¬a.getD i 0<b.getD j 0)(h2:b.getD j 0<a.getD i 0):MI fA fB fAB a b n i j o=MI fA fB fAB a b (n-1) i (j+1) (fB o (b.getD j 0)):=by
 obtain⟨m,rfl⟩:∃m,n=m+1:=⟨n-1,by omega⟩
 unfold MI;rw[cU a i hi,cU b j hj,EV,if_neg h,if_pos h2];rfl
theorem Uk (hn:0<n)(hi:i<a.length)(hj:j<b.length)(h:¬a.getD i 0<b.getD j 0)(h2:¬b.getD j 0<a.getD i 0):MI fA fB fAB a b n i j o=MI fA fB fAB a b (n-1) (i+1) (j+1) (fAB o (a.getD i 0) (b.getD j 0)):=by
 obtain⟨m,rfl⟩:∃m,n=m+1:=⟨n-1,by omega⟩
 unfold MI;rw[cU a i hi,cU b j hj,EV,if_neg h,if_neg h2];rfl
theorem Ul (hn:0<n)(hi:i<a.length)(hj:j=b.length):MI fA fB fAB a b n i j o=MI fA fB fAB a b (n-1) (i+1) j (fA o (a.getD i 0)):=by
 obtain⟨m,rfl⟩:∃m,n=m+1:=⟨n-1,by omega⟩
 unfold MI;rw[cU a i hi,hj,drop_length,EV];rfl
theorem Uj (hn:0<n)(hi:i=a.length)(hj:j<b.length):MI fA fB fAB a b n i j o=MI fA fB fAB a b (n-1) i (j+1) (fB o (b.getD j 0)):=by
 obtain⟨m,rfl⟩:∃m,n=m+1:=⟨n-1,by omega⟩
 unfold MI;rw[cU b j hj,hi,drop_length,EV];rfl
theorem QN (hi:i=a.length)(hj:j=b.length):MI fA fB fAB a b n i j o=o:=by
 unfold MI;rw[hi,hj,drop_length,drop_length]
 cases n<;>rfl
end
attribute [-simp] getD_eq_getElem?_getD in
theorem GP {β:Type}(g:Nat)(eK:List AV)(fA fB:β→Int→β)(fAB:β→Int→Int→β)(S:β→List aG)(U:β→ay)(I:Nat→β→Prop)(N M:Nat)(o0:β)
  (a b:List Int) (ha:a.length≤1000) (hb:b.length≤1000) (hS:∀o,(S o).length=N) (hU:∀o,(U o).length=M) (Fa:aL N M eK) (fC:∀n o,I n o→bM (S o) (U o)) (h0:I 0 o0)
  (cA:∀n i o,i<a.length→n≤2000→I n o→al Tryz.prog g ([.dI (ints a) i,.eO]++eK) (S o) (U o) (Is (.cJ []) (S (fA o (a.getD i 0))) (U (fA o (a.getD i 0)))))
  (cB:∀n j o,j<b.length→n≤2000→I n o→al Tryz.prog g ([.eO,.dI (ints b) j]++eK) (S o) (U o) (Is (.cJ []) (S (fB o (b.getD j 0))) (U (fB o (b.getD j 0)))))
  (cAB:∀n i j o,i<a.length→j<b.length→n≤2000→I n o→al Tryz.prog g ([.dI (ints a) i,.dI (ints b) j]++eK) (S o) (U o) (Is (.cJ []) (S (fAB o (a.getD i 0) (b.getD j 0))) (U (fAB o (a.getD i 0) (b.getD j 0)))))
  (iA:∀n i o,i<a.length→I n o→I (n+1) (fA o (a.getD i 0))) (iB:∀n j o,j<b.length→I n o→I (n+1) (fB o (b.getD j 0))) (RK:∀n i j o,i<a.length→j<b.length→I n o→I (n+2) (fAB o (a.getD i 0) (b.getD j 0))) :
  al Tryz.prog 163 [.sl a.length (ints a) .none,.sl b.length (ints b) .none,.fn 164 [] [],.fn g [] eK] (S o0) (U o0)
   (Is (.cJ []) (S (MI fA fB fAB a b (a.length+b.length) 0 0 o0)) (U (MI fA fB fAB a b (a.length+b.length) 0 0 o0))):=by
 refine aj 11 [] Tryz.ntmps163 Tryz.func163 rfl (fun _ _=>Tryz.call163 _ _) (by simp) (fun HO=>?_);apply ae;intro K h;simp(disch:=omega);apply h;clear h K;apply ai;refine aK (X:=Nat×Nat×Nat×β) (fun x=>⟨[(0,.sl a.length (ints a) .none),(1,.sl b.length (ints b) .none),(2,.fn 164 [] []),(3,.fn g [] eK),(8,.int .i64 (x.2.1:Nat)),(9,.int .i64 (x.2.2.1:Nat))],S x.2.2.2,U x.2.2.2⟩)
  (fun x=>x.2.1≤a.length∧x.2.2.1≤b.length∧(a.length-x.2.1)+(b.length-x.2.2.1)≤x.1∧MI fA fB fAB a b (a.length+b.length) 0 0 o0=MI fA fB fAB a b x.1 x.2.1 x.2.2.1 x.2.2.2∧I (x.2.1+x.2.2.1) x.2.2.2) (fun x=>x.1) (a.length+b.length,0,0,o0) ?_ ?_ ?_
 ·exact⟨zero_le _,zero_le _,by simp only;omega,rfl,h0⟩
 ·refine ag [] [] ?_ ?_ ?_ ?_ HO ?_
  ·simp
  ·simp
  ·simp
  ·simp
  ·simp[hS,hU,Fa]
 ·rintro⟨n,i,j,out⟩ ⟨h1,h2,h3,h4,h5⟩;simp only at h1 h2 h3 h4 h5
  by_cases hi:i<a.length
  ·have bi:decide ((i:Int)<a.length)=true:=by simp;omega
   have ni:((i:Int)==a.length)=false:=by rw[beq_eq_false_iff_ne];omega
   have NL:¬i=a.length:=by omega
   have LX:=aT (xs:=a) (k:=i) hi
   by_cases hj:j<b.length
   ·have bj:decide ((j:Int)<b.length)=true:=by simp;omega
    have nj:((j:Int)==b.length)=false:=by rw[beq_eq_false_iff_ne];omega
    have DF:¬j=b.length:=by omega
    have LW:=aT (xs:=b) (k:=j) hj;have hn:0<n:=by omega
    refine af fun K2 aY=>?_;refine ae fun K hK=>?_;simp(disch:=omega)[bi,bj,hi,hj];apply hK;clear hK K;apply aH rfl;apply ak;simp(disch:=omega) ;apply aY;clear aY;apply ai;apply ai
    by_cases c1:a.getD i 0<b.getD j 0
    ·have b1:decide (a.getD i 0<b.getD j 0)=true:=by simpa using c1
     have dA:=aa9 (fA:=fA) (fB:=fB) (fAB:=fAB) (o:=out) hn hi hj c1;refine aM [] [] [] au (by kernel_rfl) (by kernel_rfl) fun K hK=>?_;simp(disch:=omega)[bi,hi,nj,DF,LX,eW];refine aB (dy _ _ _) rfl ?_;simp(disch:=omega)[LW,eW];refine aB (dy _ _ _) rfl ?_;simp(disch:=omega)[b1,c1];apply hK;clear hK K;apply aH rfl;refine ae fun K hK=>?_;simp(disch:=omega)[eW];refine ah (cA (i+j) i out hi (by omega) h5) ?_;simp(disch:=omega) ;apply hK;clear hK K;refine ar fun K hK=>?_;simp(disch:=omega) ;apply hK;clear hK K;refine⟨(n-1,i+1,j,fA out (a.getD i 0)),⟨by show i+1≤a.length;omega,by show j≤b.length;omega,by show (a.length-(i+1))+(b.length-(j))≤n-1;omega,h4.trans dA,(show I (i+1+j) _ by rw[show i+1+j=i+j+1 by omega];exact iA _ i out hi h5)⟩,by show n-1<n;omega,?_⟩;refine ag [] [] ?_ ?_ ?_ ?_ (fC _ _ ((show I (i+1+j) _ by rw[show i+1+j=i+j+1 by omega];exact iA _ i out hi h5))) ?_
     ·simp
     ·simp
     ·simp[hS]
     ·simp[hU]
     ·simp[hS,hU,Fa]
      try omega
    ·have b1:decide (a.getD i 0<b.getD j 0)=false:=by simpa using c1
     refine aM [] [] [] au (by kernel_rfl) (by kernel_rfl) fun K hK=>?_;simp(disch:=omega)[bi,hi,nj,DF,LX,eW];refine aB (dy _ _ _) rfl ?_;simp(disch:=omega)[LW,eW];refine aB (dy _ _ _) rfl ?_;simp(disch:=omega)[b1,c1];apply hK;clear hK K;apply aC rfl
     by_cases c2:b.getD j 0<a.getD i 0
     ·have b2:decide (b.getD j 0<a.getD i 0)=true:=by simpa using c2
      have dA:=aa8 (fA:=fA) (fB:=fB) (fAB:=fAB) (o:=out) hn hi hj c1 c2;refine aM [] [] [] au (by kernel_rfl) (by kernel_rfl) fun K hK=>?_;simp(disch:=omega)[ni,NL,LW,eW,hj];refine aB (dy _ _ _) rfl ?_;simp(disch:=omega)[LX,eW];refine aB (dy _ _ _) rfl ?_;simp(disch:=omega)[b2,c2];apply hK;clear hK K;apply aH rfl;refine ae fun K hK=>?_;simp(disch:=omega)[eW];refine ah (cB (i+j) j out hj (by omega) h5) ?_;simp(disch:=omega) ;apply hK;clear hK K;refine ar fun K hK=>?_;simp(disch:=omega) ;apply hK;clear hK K;refine⟨(n-1,i,j+1,fB out (b.getD j 0)),⟨by show i≤a.length;omega,by show j+1≤b.length;omega,by show (a.length-(i))+(b.length-(j+1))≤n-1;omega,h4.trans dA,(show I (i+(j+1)) _ from iB _ j out hj h5)⟩,by show n-1<n;omega,?_⟩;refine ag [] [] ?_ ?_ ?_ ?_ (fC _ _ ((show I (i+(j+1)) _ from iB _ j out hj h5))) ?_
      ·simp
      ·simp
      ·simp[hS]
      ·simp[hU]
      ·simp[hS,hU,Fa]
       try omega
     ·have b2:decide (b.getD j 0<a.getD i 0)=false:=by simpa using c2
      have dA:=Uk (fA:=fA) (fB:=fB) (fAB:=fAB) (o:=out) hn hi hj c1 c2;refine aM [] [] [] au (by kernel_rfl) (by kernel_rfl) fun K hK=>?_;simp(disch:=omega)[ni,NL,LW,eW,hj];refine aB (dy _ _ _) rfl ?_;simp(disch:=omega)[LX,eW];refine aB (dy _ _ _) rfl ?_;simp(disch:=omega)[b2,c2];apply hK;clear hK K;apply aC rfl;refine aM [7] [0,0,0,0,0,0,0,0] [[]] au (by kernel_rfl) (by kernel_rfl) fun K hK=>?_;simp(disch:=omega)[eW,hi,hj];refine dz (cAB (i+j) i j out hi hj (by omega) h5) rfl ?_;simp(disch:=omega) ;apply hK;clear hK K;refine ar fun K hK=>?_;simp(disch:=omega) ;apply hK;clear hK K;refine⟨(n-1,i+1,j+1,fAB out (a.getD i 0) (b.getD j 0)),⟨by show i+1≤a.length;omega,by show j+1≤b.length;omega,by show (a.length-(i+1))+(b.length-(j+1))≤n-1;omega,h4.trans dA,(show I (i+1+(j+1)) _ by rw[show i+1+(j+1)=i+j+2 by omega];exact RK _ i j out hi hj h5)⟩,by show n-1<n;omega,?_⟩;refine ag [] [] ?_ ?_ ?_ ?_ (fC _ _ ((show I (i+1+(j+1)) _ by rw[show i+1+(j+1)=i+j+2 by omega];exact RK _ i j out hi hj h5))) ?_
      ·simp
      ·simp
      ·simp[hS]
      ·simp[hU]
      ·simp[hS,hU,Fa]
       try omega
   ·have bj:decide ((j:Int)<b.length)=false:=by simp;omega
    have NU:j=b.length:=by omega
    have nj:((j:Int)==b.length)=true:=by simp;omega
    have hn:0<n:=by omega
    have dA:=Ul (fA:=fA) (fB:=fB) (fAB:=fAB) (o:=out) hn hi NU;refine af fun K2 aY=>?_;refine ae fun K hK=>?_;simp(disch:=omega)[bi,bj,hi,hj];apply hK;clear hK K;apply aH rfl;apply ak;simp(disch:=omega) ;apply aY;clear aY;apply ai;apply ai;have R5:(j:Int)=(b.length:Int):=by omega
    refine aM [] [] [] au (by kernel_rfl) (by kernel_rfl) fun K hK=>?_;simp(disch:=omega)[nj,R5];apply hK;clear hK K;apply aH rfl;refine ae fun K hK=>?_;simp(disch:=omega)[eW];refine ah (cA (i+j) i out hi (by omega) h5) ?_;simp(disch:=omega) ;apply hK;clear hK K;refine ar fun K hK=>?_;simp(disch:=omega) ;apply hK;clear hK K;refine⟨(n-1,i+1,j,fA out (a.getD i 0)),⟨by show i+1≤a.length;omega,by show j≤b.length;omega,by show (a.length-(i+1))+(b.length-(j))≤n-1;omega,h4.trans dA,(show I (i+1+j) _ by rw[show i+1+j=i+j+1 by omega];exact iA _ i out hi h5)⟩,by show n-1<n;omega,?_⟩;refine ag [] [] ?_ ?_ ?_ ?_ (fC _ _ ((show I (i+1+j) _ by rw[show i+1+j=i+j+1 by omega];exact iA _ i out hi h5))) ?_
    ·simp
    ·simp
    ·simp[hS]
    ·simp[hU]
    ·simp[hS,hU,Fa]
     try omega
  ·have bi:decide ((i:Int)<a.length)=false:=by simp;omega
   have lX:i=a.length:=by omega
   by_cases hj:j<b.length
   ·have bj:decide ((j:Int)<b.length)=true:=by simp;omega
    have nj:((j:Int)==b.length)=false:=by rw[beq_eq_false_iff_ne];omega
    have DF:¬j=b.length:=by omega
    have ni:((i:Int)==a.length)=true:=by simp;omega
    have hn:0<n:=by omega
    have dA:=Uj (fA:=fA) (fB:=fB) (fAB:=fAB) (o:=out) hn lX hj;refine af fun K2 aY=>?_;refine ae fun K hK=>?_;simp(disch:=omega)[bi,bj,hi,hj];apply hK;clear hK K;apply aH rfl;apply ak;simp(disch:=omega) ;apply aY;clear aY;apply ai;apply ai;refine aM [] [] [] au (by kernel_rfl) (by kernel_rfl) fun K hK=>?_;simp(disch:=omega)[nj,DF,bi,hi];apply hK;clear hK K;apply aC rfl;have R6:(i:Int)=(a.length:Int):=by omega
    refine aM [] [] [] au (by kernel_rfl) (by kernel_rfl) fun K hK=>?_;simp(disch:=omega)[ni,R6];apply hK;clear hK K;apply aH rfl;refine ae fun K hK=>?_;simp(disch:=omega)[eW];refine ah (cB (i+j) j out hj (by omega) h5) ?_;simp(disch:=omega) ;apply hK;clear hK K;refine ar fun K hK=>?_;simp(disch:=omega) ;apply hK;clear hK K;refine⟨(n-1,i,j+1,fB out (b.getD j 0)),⟨by show i≤a.length;omega,by show j+1≤b.length;omega,by show (a.length-(i))+(b.length-(j+1))≤n-1;omega,h4.trans dA,(show I (i+(j+1)) _ from iB _ j out hj h5)⟩,by show n-1<n;omega,?_⟩;refine ag [] [] ?_ ?_ ?_ ?_ (fC _ _ ((show I (i+(j+1)) _ from iB _ j out hj h5))) ?_
    ·simp
    ·simp
    ·simp[hS]
    ·simp[hU]
    ·simp[hS,hU,Fa]
     try omega
   ·have bj:decide ((j:Int)<b.length)=false:=by simp;omega
    have pe:=QN (fA:=fA) (fB:=fB) (fAB:=fAB) (a:=a) (b:=b) (o:=out) (n:=n) lX (show j=b.length by omega);rw[pe] at h4;refine af fun K2 aY=>?_;refine ae fun K hK=>?_;simp(disch:=omega)[bi,bj,hi,hj];apply hK;clear hK K;apply aC rfl;apply aD;simp(disch:=omega) ;rw[h4];exact⟨rfl,rfl,rfl⟩
attribute [-simp] getD_eq_getElem?_getD in
theorem xe (l:List Int)(hl:l.length≤5000)(H:List aG)(T:ay):al Tryz.prog 113 [.sl l.length (ints l) .none] H T (Is (.sl l.length (ints l) .none) H T):=by
 refine al.cut H T (le_refl _) (le_refl _) id (by simp) ?_;refine aj 3 [] Tryz.ntmps113 Tryz.func113 rfl (fun _ _=>Tryz.call113 _ _) (by simp) (fun HO=>?_);apply ae;intro K h;simp(disch:=omega);apply h;clear h K;refine af fun K1 aO=>?_;refine ae fun K hK=>?_;simp(disch:=omega) ;refine⟨hK _ ?_,fun he=>hK _ ?_⟩
 ·apply aC rfl;apply ak;simp(disch:=omega) ;apply aO;clear aO;apply ae;intro K h;simp(disch:=omega);apply h;clear h K;apply an;simp(disch:=omega) 
 ·apply aH rfl;apply ae;intro K h;simp(disch:=omega);apply h;clear h K;apply an;simp(disch:=omega)[he]
def SJ (H:List aG)(out:List Int)(tk:Nat):List aG:=H++[.cells [.sl out.length (ints out) (.own tk)]]
def TJ (T:ay)(out:List Int):ay:=T++[(out.length,1)]
theorem QL (H:List aG)(out:List Int)(tk:Nat):(SJ H out tk).length=H.length+1:=by simp[SJ]
theorem CA (T:ay)(out:List Int):(TJ T out).length=T.length+1:=by simp[TJ]
theorem Qx {H:List aG}{T:ay}(h:bM H T)(out:List Int):bM (SJ H out T.length) (TJ T out):=bM.snoc (h.df (by rw[CA];omega)) (by simp[CA])
attribute [-simp] getD_eq_getElem?_getD in
theorem zZ (a:List Int)(i:Nat)(hi:i<a.length)(v:AV)(out:List Int)(ho:out.length≤5000)(H:List aG)(T:ay) :
  al Tryz.prog 165 [.dI (ints a) i,v,.ptr H.length 0] (SJ H out T.length) (TJ T out) (Is (.cJ []) (SJ H (out++[a.getD i 0]) T.length) (TJ T (out++[a.getD i 0]))):=by
 have HH:=aT (xs:=a) (k:=i) hi;have kH:=cN out (a.getD i 0);simp only[SJ,TJ];refine aj 5 [] Tryz.ntmps165 Tryz.func165 rfl (fun _ _=>Tryz.call165 _ _) (by simp) (fun HO=>?_);refine af fun K1 aO=>?_;apply ae;intro K h;simp(disch:=omega);apply h;clear h K;apply aC rfl;apply ak;simp(disch:=omega) ;apply aO;clear aO;refine cE [5,6] [0,0,0,0,0,0,1] [[],[]] au (by kernel_rfl) (by kernel_rfl) fun K hK=>?_;simp(disch:=omega)[HH,kH,hi];apply hK;clear hK K;exact⟨rfl,by simp,by simp⟩
attribute [-simp] getD_eq_getElem?_getD in
theorem Ki (b:List Int)(j:Nat)(hj:j<b.length)(out:List Int)(ho:out.length≤5000)(H:List aG)(T:ay) :
  al Tryz.prog 165 [.eO,.dI (ints b) j,.ptr H.length 0] (SJ H out T.length) (TJ T out) (Is (.cJ []) (SJ H (out++[b.getD j 0]) T.length) (TJ T (out++[b.getD j 0]))):=by
 have HH:=aT (xs:=b) (k:=j) hj;have kH:=cN out (b.getD j 0);simp only[SJ,TJ];refine aj 5 [] Tryz.ntmps165 Tryz.func165 rfl (fun _ _=>Tryz.call165 _ _) (by simp) (fun HO=>?_);refine af fun K1 aO=>?_;apply ae;intro K h;simp(disch:=omega);apply h;clear h K;apply aH rfl;refine ar fun K hK=>?_;simp(disch:=omega) ;apply hK;clear hK K;apply aO;clear aO;refine cE [5,6] [0,0,0,0,0,0,1] [[],[]] au (by kernel_rfl) (by kernel_rfl) fun K hK=>?_;simp(disch:=omega)[HH,kH,hj];apply hK;clear hK K;exact⟨rfl,by simp,by simp⟩
def jn (a b:List Int):List Int:=MG (fun _ _=>true) a b (a.length+b.length) 0 0 []
theorem Nf (fA fB:List Int→Int→List Int):∀(n:Nat)(a b o:List Int),EV fA fB (fun o x _=>fA o x) n a b o=im fA fB fA n a b o:=by
 intro n
 induction n with
 |zero=>intro a b o;rfl
 |succ n ih=>
  intro a b o
  cases a with
  |nil=>cases b with
   |nil=>rfl
   |cons y b=>exact ih _ _ _
  |cons x a=>cases b with
   |nil=>exact ih _ _ _
   |cons y b=>simp only[EV,im,ih]
attribute [-simp] getD_eq_getElem?_getD in
theorem GY (a b:List Int)(ha:a.length≤1000)(hb:b.length≤1000)(H:List aG)(T:ay)(ta tb:Tag) :
  al Tryz.prog 114 [.sl a.length (ints a) ta,.sl b.length (ints b) tb] H T (Is (.sl (jn a b).length (ints (jn a b)) .none) H T):=by
 refine al.cg (al.nF ?_);refine al.dS ?_ (by simp);have gf:MI (fun(o:List Int) x=>o++[x]) (fun o x=>o++[x]) (fun o x _=>o++[x]) a b (a.length+b.length) 0 0 []=jn a b:=Nf _ _ _ _ _ _;have c:=fun HO:bM H T=>GP (β:=List Int) 165 [.ptr H.length 0] (fun o x=>o++[x]) (fun o x=>o++[x]) (fun o x _=>o++[x])
  (fun o=>SJ H o T.length) (fun o=>TJ T o) (fun n o=>o.length≤n) (H.length+1) (T.length+1) [] a b ha hb (fun o=>QL _ _ _) (fun o=>CA _ _) (by simp)
  (fun n o _=>Qx HO o) (zero_le _)
  (fun n i o hi hn h=>zZ a i hi _ o (by omega) H T) (fun n j o hj hn h=>Ki b j hj o (by omega) H T)
  (fun n i j o hi hj hn h=>zZ a i hi _ o (by omega) H T)
  (fun n i o _ h=>by simp;omega) (fun n j o _ h=>by simp;omega) (fun n i j o _ _ h=>by simp;omega)
 rw[gf] at c;generalize jn a b=r at *;have k1:(SJ H r T.length)[H.length]?=some (.cells [.sl r.length (ints r) (.own T.length)]):=by simp[SJ]
 have hH:∃rH,SJ H r T.length=H++rH:=⟨_,rfl⟩
 have hT:∃rT,TJ T r=T++rT:=⟨_,rfl⟩
 refine aj 6 [] Tryz.ntmps114 Tryz.func114 rfl (fun _ _=>Tryz.call114 _ _) (by simp) (fun HO=>?_);have c1:=c HO;apply ae;intro K h;simp(disch:=omega);apply h;clear h K;apply ae;intro K h;simp(disch:=omega);apply h;clear h K;refine EL 1 H 0 [] (by omega) (by simp) ?_;refine ae fun K hK=>?_;simp(disch:=omega) ;refine ah (c1) ?_;simp(disch:=omega) ;apply hK;clear hK K;refine ae fun K hK=>?_;simp(disch:=omega)[k1];apply hK;clear hK K;apply an;simp(disch:=omega) ;exact⟨hH,hT⟩
def jF (o:List Int)(x:Int):List Int:=if (fun _ _=>true:Bool→Bool→Bool) true false then o++[x] else o
theorem qk {a b:List Int}(ha:jR a)(hb:jR b)(n:Nat)(hn:a.length+b.length≤n)(o:List Int):im jF jF jF n a b o=o++im jF jF jF n a b []∧
  (∀z,z∈im jF jF jF n a b []↔z∈a∨z∈b)∧jR (im jF jF jF n a b []):=by
 obtain⟨g1,g2,g3⟩:=x4 true true true n a b o hn ha hb;refine⟨g1,fun z=>?_,g3⟩;refine(g2 z).trans ?_
 by_cases h1:z∈a<;>by_cases h2:z∈b<;>simp[h1,h2]
theorem nH {a b:List Int}(ha:jR a)(hb:jR b)(z:Int):z∈jn a b↔z∈a∨z∈b:=(qk ha hb _ (le_refl _) []).2.1 z
theorem ux {a b:List Int}(ha:jR a)(hb:jR b):jR (jn a b):=(qk ha hb _ (le_refl _) []).2.2
theorem Ni {a b:List Int}(ha:jR a)(hb:jR b){n:Nat}(hn:a.length+b.length≤n):im jF jF jF n a b []=jn a b:=by
 refine mr _ _ (qk ha hb n hn []).2.2 (ux ha hb) fun z=>?_;rw[(qk ha hb n hn []).2.1,nH ha hb]
theorem Eu {a:List Int}(ha:jR a):jn a []=a:=mr _ _ (ux ha List.Pairwise.nil) ha fun z=>by rw[nH ha List.Pairwise.nil];simp
theorem Ew {a:List Int}(ha:jR a):jn [] a=a:=mr _ _ (ux List.Pairwise.nil ha) ha fun z=>by rw[nH List.Pairwise.nil ha];simp
def xk (a b:PL)(d:Int):Int×List Int:=(d,jn (posOf a d) (posOf b d))
def HM (a b:PL):PL:=(jn (aw a) (aw b)).map (xk a b)
theorem w8 (p:Int×List Int)(l:PL):aw (p::l)=p.1::aw l:=rfl
theorem zN {l:PL}{d:Int}(h:∀p∈l,d<p.1):posOf l d=[]:=my fun p hp e=>by have:=h p hp;omega
theorem GN:∀(n:Nat)(a b o:PL),a.length+b.length≤n→mW a→mW b→(∀p∈a,jR p.2)→(∀p∈b,jR p.2)→
  vS (fun o x=>o++[x]) (fun o y=>o++[y]) (fun o x y=>o++[(x.1,jn x.2 y.2)]) n a b o=o++(im jF jF jF n (aw a) (aw b) []).map (xk a b):=by
 intro n
 induction n with
 |zero=>
  intro a b o h _ _ _ _;have ha:a=[]:=List.eq_nil_of_length_eq_zero (by omega);subst ha;simp[vS,im]
 |succ n ih=>
  intro a b o h ha hb pa pb;have step:∀(a' b':PL)(q:Int×List Int),jR (aw a')→jR (aw b')→(aw a').length+(aw b').length≤n→xk a b q.1=q→(∀d,d∈aw a'∨d∈aw b'→xk a' b' d=xk a b d)→
    (o++[q])++(im jF jF jF n (aw a') (aw b') []).map (xk a' b')=o++(im jF jF jF n (aw a') (aw b') [q.1]).map (xk a b):=by
   intro a' b' q g1 g2 g3 g4 g5;obtain⟨k1,k2,_⟩:=qk g1 g2 n g3 [q.1];rw[k1,List.map_append,List.append_assoc]
   congr 1
   have:(im jF jF jF n (aw a') (aw b') []).map (xk a' b')=(im jF jF jF n (aw a') (aw b') []).map (xk a b):=List.map_congr_left fun d hd=>g5 d ((k2 d).1 hd);rw[this];simp[g4]
  have n9:∀l:PL,(aw l).length=l.length:=fun l=>by simp[aw]
  cases a with
  |nil=>
   cases b with
   |nil=>simp[vS,im,aw]
   |cons y b=>
    obtain⟨h3,h4⟩:=gK hb;rw[vS,ih [] b _ (by simp at h ⊢;omega) ha h3 pa (fun p hp=>pb p (by simp[hp])),step [] b y ha h3 (by rw[n9,n9];simp at h ⊢;omega)]
    ·rfl
    ·unfold xk;rw[cH,show posOf [] y.1=[] from rfl,Ew (pb y (by simp))]
    ·intro d hd;have:y.1≠d:=by
      rcases hd with hd|hd
      ·simp[aw] at hd
      ·obtain⟨p,hp,e⟩:=List.mem_map.1 hd;have:=h4 p hp;omega
     unfold xk;rw[cp this]
  |cons x a=>
   obtain⟨h1,h2⟩:=gK ha
   cases b with
   |nil=>
    rw[vS,ih a [] _ (by simp at h ⊢;omega) h1 hb (fun p hp=>pa p (by simp[hp])) pb,step a [] x h1 hb (by rw[n9,n9];simp at h ⊢;omega)]
    ·rfl
    ·unfold xk;rw[cH,show posOf [] x.1=[] from rfl,Eu (pa x (by simp))]
    ·intro d hd;have:x.1≠d:=by
      rcases hd with hd|hd
      ·obtain⟨p,hp,e⟩:=List.mem_map.1 hd;have:=h2 p hp;omega
      ·simp[aw] at hd
     unfold xk;rw[cp this]
   |cons y b=>
    obtain⟨h3,h4⟩:=gK hb;simp only[length_cons] at h;rw[w8 x a,w8 y b]
    by_cases c1:x.1<y.1
    ·have RN:∀p∈y::b,x.1<p.1:=fun p hp=>by
      rcases List.mem_cons.1 hp with rfl|hp
      ·exact c1
      ·have:=h4 p hp;omega
     rw[vS,if_pos c1,ih a (y::b) _ (by simp;omega) h1 hb (fun p hp=>pa p (by simp[hp])) pb,step a (y::b) x h1 hb (by rw[n9,n9];simp;omega),im,if_pos c1]
     ·rfl
     ·unfold xk;rw[cH,zN RN,Eu (pa x (by simp))]
     ·intro d hd;have:x.1≠d:=by
       rcases hd with hd|hd
       ·obtain⟨p,hp,e⟩:=List.mem_map.1 hd;have:=h2 p hp;omega
       ·obtain⟨p,hp,e⟩:=List.mem_map.1 hd;have:=RN p hp;omega
      unfold xk;rw[cp (l:=a) this]
    ·by_cases c2:y.1<x.1
     ·have NN:∀p∈x::a,y.1<p.1:=fun p hp=>by
       rcases List.mem_cons.1 hp with rfl|hp
       ·exact c2
       ·have:=h2 p hp;omega
      rw[vS,if_neg c1,if_pos c2,ih (x::a) b _ (by simp;omega) ha h3 pa (fun p hp=>pb p (by simp[hp])),step (x::a) b y ha h3 (by rw[n9,n9];simp;omega),im,if_neg c1,if_pos c2]
      ·rfl
      ·unfold xk;rw[cH,zN NN,Ew (pb y (by simp))]
      ·intro d hd;have:y.1≠d:=by
        rcases hd with hd|hd
        ·obtain⟨p,hp,e⟩:=List.mem_map.1 hd;have:=NN p hp;omega
        ·obtain⟨p,hp,e⟩:=List.mem_map.1 hd;have:=h4 p hp;omega
       unfold xk;rw[cp (l:=b) this]
     ·have e:x.1=y.1:=by omega
      rw[vS,if_neg c1,if_neg c2,ih a b _ (by omega) h1 h3 (fun p hp=>pa p (by simp[hp])) (fun p hp=>pb p (by simp[hp])),step a b (x.1,jn x.2 y.2) h1 h3 (by rw[n9,n9];omega),im,if_neg c1,if_neg c2]
      ·rfl
      ·unfold xk;rw[cH,e,cH]
      ·intro d hd;have:x.1≠d:=by
        rcases hd with hd|hd
        ·obtain⟨p,hp,e⟩:=List.mem_map.1 hd;have:=h2 p hp;omega
        ·obtain⟨p,hp,e⟩:=List.mem_map.1 hd;have:=h4 p hp;omega
       unfold xk;rw[cp (l:=a) this,cp (l:=b) (by omega)]
theorem Nd {a b:PL}(ha:mW a)(hb:mW b)(pa:∀p∈a,jR p.2)(pb:∀p∈b,jR p.2):vS (fun o x=>o++[x]) (fun o y=>o++[y]) (fun o x y=>o++[(x.1,jn x.2 y.2)]) (a.length+b.length) a b []=HM a b:=by
 rw[GN _ a b [] (le_refl _) ha hb pa pb,List.nil_append,Ni (a:=aw a) (b:=aw b) ha hb (by simp[aw])];rfl
def SU (H:List aG)(out:PL)(tk:Nat):List aG:=H++[.cells [.sl out.length (bp out) (.own tk)]]
theorem QK (H:List aG)(out:PL)(tk:Nat):(SU H out tk).length=H.length+1:=by simp[SU]
theorem Qw {H:List aG}{T:ay}(h:bM H T)(out:PL):bM (SU H out T.length) (yG T out):=bM.snoc (h.df (by rw[yh];omega)) (by simp[yh])
attribute [-simp] getD_eq_getElem?_getD in
theorem Qg (a:PL)(i:Nat)(hi:i<a.length)(ha:(a.getD i (0,[])).2.length≤5000)(out:PL)(ho:out.length≤5000)(H:List aG)(T:ay) :
  al Tryz.prog 112 [.dI (bp a) (i*2),.eO,.ptr H.length 0] (SU H out T.length) (yG T out) (Is (.cJ []) (SU H (out++[a.getD i (0,[])]) T.length) (yG T (out++[a.getD i (0,[])]))):=by
 have lX:=gq a i hi;have c:=xe (a.getD i (0,[])).2 ha (SU H out T.length) (yG T out);have qN:=jO out (a.getD i (0,[])).1 (a.getD i (0,[])).2;rw[show ((a.getD i (0,[])).1,(a.getD i (0,[])).2)=a.getD i (0,[]) from rfl] at qN;generalize a.getD i (0,[])=x at *;simp only[SU,yG] at c ⊢;refine aj 3 [] Tryz.ntmps112 Tryz.func112 rfl (fun _ _=>Tryz.call112 _ _) (by simp) (fun HO=>?_);apply ai;apply ae;intro K h;simp(disch:=omega);apply h;clear h K;apply aC rfl;apply ae;intro K h;simp(disch:=omega);apply h;clear h K;apply aH rfl;refine cE [12,13] [0,0,0,0,0,0,0,0,0,0,0,0,0,1] [[],[]] au (by kernel_rfl) (by kernel_rfl) fun K hK=>?_;simp(disch:=omega)[lX.1,lX.2,aS,qN,hi];refine aB (c) rfl ?_;simp(disch:=omega)[lX.1,lX.2,aS,qN,hi];apply hK;clear hK K;exact⟨rfl,by simp,by simp⟩
attribute [-simp] getD_eq_getElem?_getD in
theorem Qf (b:PL)(j:Nat)(hj:j<b.length)(hb:(b.getD j (0,[])).2.length≤5000)(out:PL)(ho:out.length≤5000)(H:List aG)(T:ay) :
  al Tryz.prog 112 [.eO,.dI (bp b) (j*2),.ptr H.length 0] (SU H out T.length) (yG T out) (Is (.cJ []) (SU H (out++[b.getD j (0,[])]) T.length) (yG T (out++[b.getD j (0,[])]))):=by
 have lX:=gq b j hj;have c:=xe (b.getD j (0,[])).2 hb (SU H out T.length) (yG T out);have qN:=jO out (b.getD j (0,[])).1 (b.getD j (0,[])).2;rw[show ((b.getD j (0,[])).1,(b.getD j (0,[])).2)=b.getD j (0,[]) from rfl] at qN;generalize b.getD j (0,[])=x at *;simp only[SU,yG] at c ⊢;refine aj 3 [] Tryz.ntmps112 Tryz.func112 rfl (fun _ _=>Tryz.call112 _ _) (by simp) (fun HO=>?_);apply ai;apply ae;intro K h;simp(disch:=omega);apply h;clear h K;apply aH rfl;refine cE [12,13] [0,0,0,0,0,0,0,0,0,0,0,0,0,1] [[],[]] au (by kernel_rfl) (by kernel_rfl) fun K hK=>?_;simp(disch:=omega)[lX.1,lX.2,aS,qN,hj];refine aB (c) rfl ?_;simp(disch:=omega)[lX.1,lX.2,aS,qN,hj];apply hK;clear hK K;exact⟨rfl,by simp,by simp⟩
attribute [-simp] getD_eq_getElem?_getD in
theorem MB (a b:PL)(i j:Nat)(hi:i<a.length)(hj:j<b.length)(ha:(a.getD i (0,[])).2.length≤1000)(hb:(b.getD j (0,[])).2.length≤1000)(out:PL)(ho:out.length≤5000)(H:List aG)(T:ay) :
  al Tryz.prog 112 [.dI (bp a) (i*2),.dI (bp b) (j*2),.ptr H.length 0] (SU H out T.length) (yG T out) (Is (.cJ []) (SU H (out++[((a.getD i (0,[])).1,jn (a.getD i (0,[])).2 (b.getD j (0,[])).2)]) T.length) (yG T (out++[((a.getD i (0,[])).1,jn (a.getD i (0,[])).2 (b.getD j (0,[])).2)]))):=by
 have lX:=gq a i hi;have NU:=gq b j hj;have c:=GY (a.getD i (0,[])).2 (b.getD j (0,[])).2 ha hb (SU H out T.length) (yG T out) .none .none;have qN:=jO out (a.getD i (0,[])).1 (jn (a.getD i (0,[])).2 (b.getD j (0,[])).2);generalize a.getD i (0,[])=x at *;generalize b.getD j (0,[])=y at *;generalize jn x.2 y.2=r at *;simp only[SU,yG] at c ⊢;refine aj 3 [] Tryz.ntmps112 Tryz.func112 rfl (fun _ _=>Tryz.call112 _ _) (by simp) (fun HO=>?_);apply ai;apply ae;intro K h;simp(disch:=omega);apply h;clear h K;apply aC rfl;apply ae;intro K h;simp(disch:=omega);apply h;clear h K;apply aC rfl;refine cE [16,17] [0,0,0,0,0,0,0,0,0,0,0,0,0,0,0,0,0,1] [[],[]] au (by kernel_rfl) (by kernel_rfl) fun K hK=>?_;simp(disch:=omega)[lX.1,lX.2,NU.1,NU.2,aS,qN,hi,hj];refine aB (c) rfl ?_;simp(disch:=omega)[lX.1,lX.2,aS,qN,hi];apply hK;clear hK K;exact⟨rfl,by simp,by simp⟩
def jh (a b:PL):PL:=if bc a=true∧bc b=true then HM a b else []
attribute [-simp] getD_eq_getElem?_getD in
theorem Jn (a b:PL)(ha:a.length≤1000)(hb:b.length≤1000)(LQ:∀p∈a,p.2.length≤1000)(LP:∀p∈b,p.2.length≤1000)(H:List aG)(T:ay)(ta tb:Tag) :
  al Tryz.prog 47 [.sl a.length (bp a) ta,.sl b.length (bp b) tb] H T (Is (.sl (jh a b).length (bp (jh a b)) .none) H T):=by
 refine al.cg (al.nF ?_);refine al.dS ?_ (by simp);have ik:1000≤maxLen:=by decide
 have c1:=lD a (by omega) (fun p h=>le_trans (LQ p h) ik) (H++[.cells [.sl 0 [] .full]]) T .none;have c2:=lD b (by omega) (fun p h=>le_trans (LP p h) ik) (H++[.cells [.sl 0 [] .full]]) T .none;refine aj 6 [] Tryz.ntmps47 Tryz.func47 rfl (fun _ _=>Tryz.call47 _ _) (by simp) (fun HO=>?_);apply ae;intro K h;simp(disch:=omega);apply h;clear h K;apply ae;intro K h;simp(disch:=omega);apply h;clear h K;refine af fun K1 aO=>?_
 cases BC:bc a with
 |false=>
  rw[BC] at c1;refine ae fun K hK=>?_;simp(disch:=omega) ;refine ah (c1) ?_;simp(disch:=omega) ;apply hK;clear hK K;apply aH rfl;apply ae;intro K h;simp(disch:=omega);apply h;clear h K;apply an;simp(disch:=omega) ;simp[jh,BC,bp]
 |true=>
  rw[BC] at c1
  cases RS:bc b with
  |false=>
   rw[RS] at c2;refine ae fun K hK=>?_;simp(disch:=omega) ;refine ah (c1) ?_;simp(disch:=omega) ;refine ah (c2) ?_;simp(disch:=omega) ;apply hK;clear hK K;apply aH rfl;apply ae;intro K h;simp(disch:=omega);apply h;clear h K;apply an;simp(disch:=omega) ;simp[jh,RS,bp]
  |true=>
   rw[RS] at c2;obtain⟨a1,a2,a3⟩:=bS BC;obtain⟨e1,e2,e3⟩:=bS RS;have hr:jh a b=HM a b:=by unfold jh;rw[if_pos ⟨BC,RS⟩]
   have gf:MP (fun o x=>o++[x]) (fun o y=>o++[y]) (fun o x y=>o++[(x.1,jn x.2 y.2)]) a b (a.length+b.length) 0 0 []=HM a b:=Nd a1 e1 (fun p hp=>(a3 p hp).2.1) (fun p hp=>(e3 p hp).2.1);have c:=GO (β:=PL) 112 [.ptr H.length 0] (fun o x=>o++[x]) (fun o y=>o++[y]) (fun o x y=>o++[(x.1,jn x.2 y.2)])
    (fun o=>SU H o T.length) (fun o=>yG T o) (fun n o=>o.length≤n) (H.length+1) (T.length+1) [] a b ha hb (fun o=>QK _ _ _) (fun o=>yh _ _) (by simp)
    (fun n o _=>Qw HO o) (zero_le _)
    (fun n i o hi hn h=>Qg a i hi (by have:=LQ _ (oN a i (0,[]) hi);omega) o (by omega) H T) (fun n j o hj hn h=>Qf b j hj (by have:=LP _ (oN b j (0,[]) hj);omega) o (by omega) H T)
    (fun n i j o hi hj hn h=>MB a b i j hi hj (LQ _ (oN a i _ hi)) (LP _ (oN b j _ hj)) o (by omega) H T)
    (fun n i o _ h=>by simp;omega) (fun n j o _ h=>by simp;omega) (fun n i j o _ _ h=>by simp;omega)
   rw[gf,←hr] at c;generalize jh a b=r at *;have k1:(SU H r T.length)[H.length]?=some (.cells [.sl r.length (bp r) (.own T.length)]):=by simp[SU]
   have hH:∃rH,SU H r T.length=H++rH:=⟨_,rfl⟩
   have hT:∃rT,yG T r=T++rT:=⟨_,rfl⟩
   refine ae fun K hK=>?_;simp(disch:=omega) ;refine ah (c1) ?_;simp(disch:=omega) ;refine ah (c2) ?_;simp(disch:=omega) ;apply hK;clear hK K;apply aC rfl;apply ak;simp(disch:=omega) ;apply aO;clear aO;refine EL 2 H 0 [] (by omega) (by simp) ?_;refine ae fun K hK=>?_;simp(disch:=omega) ;refine ah (c) ?_;simp(disch:=omega) ;apply hK;clear hK K;refine ae fun K hK=>?_;simp(disch:=omega)[k1];apply hK;clear hK K;apply an;simp(disch:=omega) ;exact⟨hH,hT⟩
def kN (l:PL):List Int:=if bc l=true then aw l else []
attribute [-simp] getD_eq_getElem?_getD in
theorem KO (l:PL)(hl:l.length≤5000)(hp:∀p∈l,p.2.length≤maxLen)(H:List aG)(T:ay)(tg:Tag) :
  al Tryz.prog 75 [.sl l.length (bp l) tg] H T (Is (.sl (kN l).length (ints (kN l)) .none) H T):=by
 refine al.cg ?_;refine al.dS ?_ (by simp);have c1:=lD l hl hp H T .none;have c2:=qI l hl H T .none;refine aj 3 [] Tryz.ntmps75 Tryz.func75 rfl (fun _ _=>Tryz.call75 _ _) (by simp) (fun HO=>?_);apply ae;intro K h;simp(disch:=omega);apply h;clear h K;refine af fun K1 aO=>?_
 cases hv:bc l with
 |false=>
  rw[hv] at c1;refine ae fun K hK=>?_;simp(disch:=omega) ;refine ah (c1) ?_;simp(disch:=omega) ;apply hK;clear hK K;apply aH rfl;apply ae;intro K h;simp(disch:=omega);apply h;clear h K;apply an;simp(disch:=omega) ;simp[kN,hv,ints]
 |true=>
  rw[hv] at c1;have hd:(kN l)=aw l:=by unfold kN;rw[if_pos hv]
  refine ae fun K hK=>?_;simp(disch:=omega) ;refine ah (c1) ?_;simp(disch:=omega) ;apply hK;clear hK K;apply aC rfl;apply ak;simp(disch:=omega) ;apply aO;clear aO;refine ae fun K hK=>?_;simp(disch:=omega) ;refine ah (c2) ?_;simp(disch:=omega) ;apply hK;clear hK K;apply an;simp(disch:=omega) ;rw[hd];simp[aw]
attribute [-simp] getD_eq_getElem?_getD in
theorem Hf (l:PL)(hl:l.length≤5000)(hp:∀p∈l,p.2.length≤maxLen)(H:List aG)(T:ay)(tg:Tag) :
  al Tryz.prog 89 [.sl l.length (bp l) tg] H T (Is (.sl (kN l).length (ints (kN l)) .none) H T):=by
 refine al.cg ?_;refine al.dS ?_ (by simp);have c1:=oe l hl hp H T .none;have c2:=Ar l hl H T .none;refine aj 3 [] Tryz.ntmps89 Tryz.func89 rfl (fun _ _=>Tryz.call89 _ _) (by simp) (fun HO=>?_);apply ae;intro K h;simp(disch:=omega);apply h;clear h K;refine af fun K1 aO=>?_
 cases hv:bc l with
 |false=>
  rw[hv] at c1;refine ae fun K hK=>?_;simp(disch:=omega) ;refine ah (c1) ?_;simp(disch:=omega) ;apply hK;clear hK K;apply aH rfl;apply ae;intro K h;simp(disch:=omega);apply h;clear h K;apply an;simp(disch:=omega) ;simp[kN,hv,ints]
 |true=>
  rw[hv] at c1;have hd:(kN l)=aw l:=by unfold kN;rw[if_pos hv]
  refine ae fun K hK=>?_;simp(disch:=omega) ;refine ah (c1) ?_;simp(disch:=omega) ;apply hK;clear hK K;apply aC rfl;apply ak;simp(disch:=omega) ;apply aO;clear aO;refine ae fun K hK=>?_;simp(disch:=omega) ;refine ah (c2) ?_;simp(disch:=omega) ;apply hK;clear hK K;apply an;simp(disch:=omega) ;rw[hd];simp[aw]
theorem Om {a:PL}(h:mW a):a=(aw a).map (fun d=>(d,posOf a d)):=by
 induction a with
 |nil=>rfl
 |cons p a ih=>
  obtain⟨h1,h2⟩:=gK h;have e:(aw a).map (fun d=>(d,posOf (p::a) d))=(aw a).map (fun d=>(d,posOf a d)):=List.map_congr_left fun d hd=>by
   obtain⟨q,hq,e⟩:=List.mem_map.1 hd;have:=h2 q hq;rw[cp (by omega)]
  show p::a=(p.1,posOf (p::a) p.1)::(aw a).map (fun d=>(d,posOf (p::a) d));rw[e,←ih h1,cH]
theorem Lb {a b:PL}(ha:mW a)(hb:mW b)(h1:∀d,d∈aw a↔d∈aw b)(h2:∀d,d∈aw a→posOf a d=posOf b d):a=b:=by
 have e:aw a=aw b:=mr _ _ ha hb h1;rw[Om ha,Om hb,←e];exact List.map_congr_left fun d hd=>by rw[h2 d hd]
theorem GA (g:Int→List Int)(ds:List Int)(d:Int)(h:d∈ds):posOf (ds.map (fun d=>(d,g d))) d=g d:=by
 induction ds with
 |nil=>simp at h
 |cons x ds ih=>
  show (if x=d then g x else posOf (ds.map (fun d=>(d,g d))) d)=g d
  by_cases e:x=d
  ·rw[if_pos e,e]
  ·rw[if_neg e];rcases List.mem_cons.1 h with h|h
   ·exact absurd h.symm e
   ·exact ih h
theorem KN (g:Int→List Int)(ds:List Int):aw (ds.map (fun d=>(d,g d)))=ds:=by
 unfold aw;rw[List.map_map];exact List.map_id ds
def VL (l:PL):Prop:=bc l=true
theorem FV {l:PL}(h1:mW l)(h2:∀p∈l,1≤p.1∧p.1≤1000000000)(h3:∀p∈l,p.2≠[]∧jR p.2∧∀q∈p.2,0≤q∧q≤1000000):VL l:=by
 unfold VL bc;rw[Bool.and_eq_true];refine⟨uC h1 fun q hq=>?_,?_⟩
 ·obtain⟨p,hp,rfl⟩:=List.mem_map.1 hq;exact h2 p hp
 ·have:l.any gA=false:=by
   rw[List.any_eq_false];intro p hp;obtain⟨g1,g2,g3⟩:=h3 p hp;have e:jd p.2 0 1000000=true:=uC g2 g3;simp[gA,e,g1]
  rw[this];rfl
theorem ur {l:PL}{d z:Int}(h:z∈posOf l d):∃p∈l,p.1=d∧posOf l d=p.2:=by
 induction l with
 |nil=>simp[posOf] at h
 |cons p l ih=>
  by_cases e:p.1=d
  ·subst e;exact⟨p,by simp,rfl,cH⟩
  ·rw[cp e] at h ⊢;obtain⟨q,g1,g2,g3⟩:=ih h;exact⟨q,by simp[g1],g2,g3⟩
theorem fm {l:PL}(h:VL l)(d:Int):jR (posOf l d):=by
 cases e:posOf l d with
 |nil=>exact List.Pairwise.nil
 |cons z r=>
  obtain⟨p,h1,_,h3⟩:=ur (l:=l) (d:=d) (z:=z) (by rw[e];simp);rw[←e,h3];exact((bS h).2.2 p h1).2.1
theorem tM {l:PL}(h:VL l)(d:Int):d∈aw l↔∃z,z∈posOf l d:=by
 obtain⟨a1,a2,a3⟩:=bS h
 constructor
 ·intro hd;obtain⟨p,hp,rfl⟩:=List.mem_map.1 hd;rw[rL a1 hp];exact List.exists_mem_of_ne_nil _ (a3 p hp).1
 ·rintro⟨z,hz⟩;obtain⟨p,h1,h2,_⟩:=ur hz;exact List.mem_map.2 ⟨p,h1,h2⟩
theorem aac {a b:PL}(ha:VL a)(hb:VL b)(h:∀d z,z∈posOf a d↔z∈posOf b d):a=b:=by
 refine Lb (bS ha).1 (bS hb).1 (fun d=>?_) fun d _=>mr _ _ (fm ha d) (fm hb d) (h d);rw[tM ha,tM hb];exact exists_congr (h d)
theorem wc {a b:PL}(ha:VL a)(hb:VL b):jh a b=HM a b:=by unfold jh;rw[if_pos ⟨ha,hb⟩]
theorem Aq (a b:PL):aw (HM a b)=jn (aw a) (aw b):=KN (fun d=>jn (posOf a d) (posOf b d)) _
theorem Gy {a b:PL}(ha:VL a)(hb:VL b)(d:Int):posOf (HM a b) d=jn (posOf a d) (posOf b d):=by
 by_cases h:d∈jn (aw a) (aw b)
 ·exact GA (fun d=>jn (posOf a d) (posOf b d)) _ d h
 ·have e:posOf (HM a b) d=[]:=uK (by rw[show (HM a b).map (·.1)=aw (HM a b) from rfl,Aq];exact h);rw[nH (a:=aw a) (b:=aw b) (bS ha).1 (bS hb).1] at h;have e1:posOf a d=[]:=uK (fun hh=>h (.inl hh));have e2:posOf b d=[]:=uK (fun hh=>h (.inr hh));rw[e,e1,e2];rfl
theorem Qe {a b:PL}(ha:VL a)(hb:VL b)(d z:Int):z∈posOf (jh a b) d↔z∈posOf a d∨z∈posOf b d:=by
 rw[wc ha hb,Gy ha hb,nH (fm ha d) (fm hb d)]
theorem aad {a b:PL}(ha:VL a)(hb:VL b):VL (jh a b):=by
 obtain⟨a1,a2,a3⟩:=bS ha;obtain⟨b1,b2,b3⟩:=bS hb;rw[wc ha hb];have key:∀d,d∈jn (aw a) (aw b)→d∈aw a∨d∈aw b:=fun d hd=>(nH a1 b1 d).1 hd;refine FV ?_ (fun p hp=>?_) fun p hp=>?_
 ·show jR (aw (HM a b));rw[Aq];exact ux a1 b1
 ·obtain⟨d,hd,rfl⟩:=List.mem_map.1 hp;rcases key d hd with h|h
  ·obtain⟨q,hq,e⟩:=List.mem_map.1 h;have:=a2 q hq;rw[e] at this;exact this
  ·obtain⟨q,hq,e⟩:=List.mem_map.1 h;have:=b2 q hq;rw[e] at this;exact this
 ·obtain⟨d,hd,rfl⟩:=List.mem_map.1 hp;refine⟨fun e=>?_,ux (fm ha d) (fm hb d),fun q hq=>?_⟩
  ·have e':jn (posOf a d) (posOf b d)=[]:=e;have r6:∀z,¬(z∈posOf a d∨z∈posOf b d):=fun z hz=>by
    rw[←nH (fm ha d) (fm hb d),e'] at hz;simp at hz
   rcases key d hd with h|h
   ·obtain⟨z,hz⟩:=(tM ha d).1 h;exact r6 z (.inl hz)
   ·obtain⟨z,hz⟩:=(tM hb d).1 h;exact r6 z (.inr hz)
  ·rcases (nH (fm ha d) (fm hb d) q).1 hq with h|h
   ·obtain⟨p,h1,_,h3⟩:=ur h;rw[h3] at h;exact(a3 p h1).2.2 q h
   ·obtain⟨p,h1,_,h3⟩:=ur h;rw[h3] at h;exact(b3 p h1).2.2 q h
section
variable {a b c : PL} (ha : VL a) (hb : VL b) (hc : VL c)
include ha
include hb
include hc
end
end Go.Proofs.YtneohapkboaplaaGreat
