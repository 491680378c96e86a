/- Posting lists: what is kept of them by a test on positions; laws on lists. What is kept of a posting: the function that filtered gives to merge. Merging of posting lists in layer 38. filtered of layer 38, and Near. Lists of posting lists in layer 38, and which of them are valid. Phrase of layer 38. The example of the document of layer 38 holds. At and Near of the reference of layer 38. Phrase of the reference of layer 38. PostingSets: the walk. And, Or, Without obey the laws of sets. Merging of lists of numbers in layer 38, for any function that takes the numbers. The parts of Union in layer 38: copies, joined. The union of posting lists: going through both is the same as collecting the positions of each document. Union of layer 38. Union of the reference of layer 38. Docs, Seek and Count of layer 38 and of its reference. seek of layer 38: by doubling steps, which are halved again. Posting lists: which of them are equal; the postings of some documents. Only of layer 38 and of its reference. Valid posting lists: they are their documents and positions; the laws of Union, Phrase, Near.
  Conditions: as the theorems say. -/
import Derived.Test.YtoejlmpbebjemaaGreatPA
import Derived.Test.YtoejlmpbebjemaaGreatPB
import Derived.Test.YtoejlmpbebjemaaGreatAmC
set_option linter.all false
set_option maxRecDepth 100000
set_option maxHeartbeats 4000000
open Nat (pow_succ)
open List (getD_eq_getElem?_getD)
namespace cN
abbrev PL:=List (Int×List Int)
def posOf:PL->Int->List Int
 |[],_=>[]
 |p::l,d=>if p.1=d then p.2 else posOf l d
def zG {β:Type}(fA fB:β->(Int×List Int)->β)(fAB:β->(Int×List Int)->(Int×List Int)->β):Nat->PL->PL->β->β
 |0,_,_,o=>o
 |n+1,x::a,y::b,o=>if x.1<y.1 then zG fA fB fAB n a (y::b) (fA o x) else if y.1<x.1 then zG fA fB fAB n (x::a) b (fB o y) else zG fA fB fAB n a b (fAB o x y)
 |n+1,x::a,[],o=>zG fA fB fAB n a [] (fA o x)
 |n+1,[],y::b,o=>zG fA fB fAB n [] b (fB o y)
 |_+1,[],[],o=>o
def lR (l:PL):Prop:=kI (l.map (·.1))
def jA {x:Int×List Int}{l:PL}(h:lR (x::l)):lR l/\∀y∈l,x.1<y.1:=by
 obtain⟨h1,h2⟩:=mM h;exact⟨h1,λy hy=>h2 _ (ahz.2 ⟨y,hy,rfl⟩)⟩
def cM {p:Int×List Int}{l:PL}{d:Int}(h:p.1≠d):posOf (p::l) d=posOf l d:=by simp[posOf,h]
def df {p:Int×List Int}{l:PL}:posOf (p::l) p.1=p.2:=by simp[posOf]
theorem oY {l:PL}{d:Int}(h:∀p∈l,p.1≠d):posOf l d=[]:=by
 induction l with
 |nil=>rfl
 |cons p l ih=>rw[cM (h p zS),ih (λq hq=>h q (by simp[hq]))]
end cN
namespace Go.Proofs.YtoejlmpbebjemaaGreat
open Go.Proofs.Tryz(prog)
open Go Go.Am cN
def Dd (T:au)(out:PL):au:=T++[(out.length*2,2)]
def Cu (T:au)(out:PL):(Dd T out).length=T.length+1:=by simp[Dd]
attribute [-simp] getD_eq_getElem?_getD in
def qa (p:Int×List Int)(H:List aA)(T:au):aq prog 144 [.agg [.int .i64 p.1,.sl p.2.length (ints p.2) .none]] H T (Is (.int .i64 p.1) H T):=by
 refine aq.bK ?_ zS;refine ah 3 [] Tryz.ntmps144 Tryz.func144 rfl (λ_ _=>Tryz.call144 _ _) zS (λHO=>?_);refine af ?_;refine af ?_;exact bu zC
def iz (l:PL)(i:Nat)(h:i<l.length):l.drop i=l.getD i (0,[])::l.drop (i+1):=by
 rw[aiW h,ahs,ahu h];rfl
def MP {β:Type}(fA fB:β->(Int×List Int)->β)(fAB:β->(Int×List Int)->(Int×List Int)->β)(a b:PL)(n i j:Nat)(o:β):β:=zG fA fB fAB n (a.drop i) (b.drop j) o
section
variable {β : Type} {fA fB : β -> (Int × List Int) -> β} {fAB : β -> (Int × List Int) -> (Int × List Int) -> β} {a b : PL} {o : β} {n i j : Nat}
def afN (hn:0<n)(hi:i<a.length)(hj:j<b.length)(h:(a.getD i (0,[])).1<(b.getD j (0,[])).1):MP fA fB fAB a b n i j o=MP fA fB fAB a b (n-1) (i+1) j (fA o (a.getD i (0,[]))):=by
 obtain⟨m,rfl⟩:∃m,n=m+1:=⟨n-1,zO⟩
 unfold MP;rw[iz a i hi,iz b j hj,zG,ahF h];rfl
def afM (hn:0<n)(hi:i<a.length)(hj:j<b.length)(h:¬(a.getD i (0,[])).1<(b.getD j (0,[])).1)(h2:(b.getD j (0,[])).1<(a.getD i (0,[])).1):MP fA fB fAB a b n i j o=MP fA fB fAB a b (n-1) i (j+1) (fB o (b.getD j (0,[]))):=by
 obtain⟨m,rfl⟩:∃m,n=m+1:=⟨n-1,zO⟩
 unfold MP;rw[iz a i hi,iz b j hj,zG,ahC h,ahF h2];rfl
def aaI (hn:0<n)(hi:i<a.length)(hj:j<b.length)(h:¬(a.getD i (0,[])).1<(b.getD j (0,[])).1)(h2:¬(b.getD j (0,[])).1<(a.getD i (0,[])).1):MP fA fB fAB a b n i j o=MP fA fB fAB a b (n-1) (i+1) (j+1) (fAB o (a.getD i (0,[])) (b.getD j (0,[]))):=by
 obtain⟨m,rfl⟩:∃m,n=m+1:=⟨n-1,zO⟩
 unfold MP;rw[iz a i hi,iz b j hj,zG,ahC h,ahC h2];rfl
def aaJ (hn:0<n)(hi:i<a.length)(hj:j=b.length):MP fA fB fAB a b n i j o=MP fA fB fAB a b (n-1) (i+1) j (fA o (a.getD i (0,[]))):=by
 obtain⟨m,rfl⟩:∃m,n=m+1:=⟨n-1,zO⟩
 unfold MP;rw[iz a i hi,hj,aiB,zG];rfl
def aaH (hn:0<n)(hi:i=a.length)(hj:j<b.length):MP fA fB fAB a b n i j o=MP fA fB fAB a b (n-1) i (j+1) (fB o (b.getD j (0,[]))):=by
 obtain⟨m,rfl⟩:∃m,n=m+1:=⟨n-1,zO⟩
 unfold MP;rw[iz b j hj,hi,aiB,zG];rfl
def Xp (hi:i=a.length)(hj:j=b.length):MP fA fB fAB a b n i j o=o:=by
 unfold MP;rw[hi,hj,aiB,aiB]
 cases n<;>rfl
end
attribute [-simp] getD_eq_getElem?_getD in
def L4 {β:Type}(g:Nat)(cF:List AV)(fA fB:β->(Int×List Int)->β)(fAB:β->(Int×List Int)->(Int×List Int)->β)(S:β->List aA)(U:β->au)(I:Nat->β->Prop)(N M:Nat)(o0:β)
  (a b:PL) (ha:a.length<=1000) (hb:b.length<=1000) (hS:∀o,(S o).length=N) (hU:∀o,(U o).length=M) (ry:aL N M cF) (je:∀n o,I n o->bM (S o) (U o)) (h0:I 0 o0)
  (cA:∀n i o,i<a.length->n<=2000->I n o->aq prog g ([.eB (bD a) (i*2),.gq]++cF) (S o) (U o) (Is (.dn []) (S (fA o (a.getD i (0,[])))) (U (fA o (a.getD i (0,[]))))))
  (cB:∀n j o,j<b.length->n<=2000->I n o->aq prog g ([.gq,.eB (bD b) (j*2)]++cF) (S o) (U o) (Is (.dn []) (S (fB o (b.getD j (0,[])))) (U (fB o (b.getD j (0,[]))))))
  (cAB:∀n i j o,i<a.length->j<b.length->n<=2000->I n o->aq prog g ([.eB (bD a) (i*2),.eB (bD b) (j*2)]++cF) (S o) (U o) (Is (.dn []) (S (fAB o (a.getD i (0,[])) (b.getD j (0,[])))) (U (fAB o (a.getD i (0,[])) (b.getD j (0,[]))))))
  (iA:∀n i o,i<a.length->I n o->I (n+1) (fA o (a.getD i (0,[])))) (iB:∀n j o,j<b.length->I n o->I (n+1) (fB o (b.getD j (0,[])))) (Yl:∀n i j o,i<a.length->j<b.length->I n o->I (n+2) (fAB o (a.getD i (0,[])) (b.getD j (0,[])))) :
  aq prog 143 [.sl a.length (bD a) .none,.sl b.length (bD b) .none,.fn 144 [] [],.fn g [] cF] (S o0) (U o0)
   (Is (.dn []) (S (MP fA fB fAB a b (a.length+b.length) 0 0 o0)) (U (MP fA fB fAB a b (a.length+b.length) 0 0 o0))):=by
 refine ah 11 [] Tryz.ntmps143 Tryz.func143 rfl (λ_ _=>Tryz.call143 _ _) zS (λHO=>?_);refine af ?_;apply ag;refine aG (X:=Nat×Nat×Nat×β) (λx=>⟨[(0,.sl a.length (bD a) .none),(1,.sl b.length (bD b) .none),(2,.fn 144 [] []),(3,.fn g [] cF),(8,.int .i64 (x.2.1:Nat)),(9,.int .i64 (x.2.2.1:Nat))],S x.2.2.2,U x.2.2.2⟩)
  (λx=>x.2.1<=a.length/\x.2.2.1<=b.length/\(a.length-x.2.1)+(b.length-x.2.2.1)<=x.1/\MP fA fB fAB a b (a.length+b.length) 0 0 o0=MP fA fB fAB a b x.1 x.2.1 x.2.2.1 x.2.2.2/\I (x.2.1+x.2.2.1) x.2.2.2) (λx=>x.1) (a.length+b.length,0,0,o0) ?_ ?_ ?_
 ·exact⟨ahE _,ahE _,by simp only;omega,rfl,h0⟩
 ·refine ak [] [] ?_ ?_ ?_ ?_ HO ?_
  ·simp
  ·simp
  ·simp
  ·simp
  ·simp[hS,hU,ry]
 ·rintro⟨n,i,j,out⟩ ⟨h1,h2,h3,h4,h5⟩;simp only at h1 h2 h3 h4 h5
  by_cases hi:i<a.length
  ·have bi:decide ((i:Int)<a.length)=true:=by simp;omega
   have ni:((i:Int)==a.length)=false:=by rw[ah8];omega
   have Ns:¬i=a.length:=zO;have RQ:=mI a i hi
   by_cases hj:j<b.length
   ·have bj:decide ((j:Int)<b.length)=true:=by simp;omega
    have nj:((j:Int)==b.length)=false:=by rw[ah8];omega
    have Bl:¬j=b.length:=zO;have RP:=mI b j hj;have hn:0<n:=zO;refine ae λK2 ba=>?_;apply ar;simp(disch:=omega)[bi,bj,hi,hj];apply aC rfl;apply aj;refine zQ ?_;apply ba;clear ba;apply ag;apply ag
    by_cases c1:(a.getD i (0,[])).1<(b.getD j (0,[])).1
    ·have b1:decide ((a.getD i (0,[])).1<(b.getD j (0,[])).1)=true:=by simpa using c1
     have fe:=afN (fA:=fA) (fB:=fB) (fAB:=fAB) (o:=out) hn hi hj c1;refine bC [] [] [] ?_;simp(disch:=omega)[bi,hi,nj,Bl,RQ,bc];refine az (qa _ _ _) rfl ?_;simp(disch:=omega)[RP,bc];refine az (qa _ _ _) rfl ?_;simp(disch:=omega)[b1,c1];apply aC rfl;apply ar;simp(disch:=omega)[bc];refine ai (cA (i+j) i out hi zO h5) ?_;refine zQ ?_;refine aJ ?_;refine⟨(n-1,i+1,j,fA out (a.getD i (0,[]))),⟨by show i+1<=a.length;omega,by show j<=b.length;omega,by show (a.length-(i+1))+(b.length-(j))<=n-1;omega,h4.trans fe,(show I (i+1+j) _ by rw[show i+1+j=i+j+1 by omega];exact iA _ i out hi h5)⟩,by show n-1<n;omega,?_⟩;refine ak [] [] ?_ ?_ ?_ ?_ (je _ _ ((show I (i+1+j) _ by rw[show i+1+j=i+j+1 by omega];exact iA _ i out hi h5))) ?_
     ·simp
     ·simp
     ·simp[hS]
     ·simp[hU]
     ·simp[hS,hU,ry]
      try omega
    ·have b1:decide ((a.getD i (0,[])).1<(b.getD j (0,[])).1)=false:=by simpa using c1
     refine bC [] [] [] ?_;simp(disch:=omega)[bi,hi,nj,Bl,RQ,bc];refine az (qa _ _ _) rfl ?_;simp(disch:=omega)[RP,bc];refine az (qa _ _ _) rfl ?_;simp(disch:=omega)[b1,c1];apply aB rfl
     by_cases c2:(b.getD j (0,[])).1<(a.getD i (0,[])).1
     ·have b2:decide ((b.getD j (0,[])).1<(a.getD i (0,[])).1)=true:=by simpa using c2
      have fe:=afM (fA:=fA) (fB:=fB) (fAB:=fAB) (o:=out) hn hi hj c1 c2;refine bC [] [] [] ?_;simp(disch:=omega)[ni,Ns,RP,bc,hj];refine az (qa _ _ _) rfl ?_;simp(disch:=omega)[RQ,bc];refine az (qa _ _ _) rfl ?_;simp(disch:=omega)[b2,c2];apply aC rfl;apply ar;simp(disch:=omega)[bc];refine ai (cB (i+j) j out hj zO h5) ?_;refine zQ ?_;refine aJ ?_;refine⟨(n-1,i,j+1,fB out (b.getD j (0,[]))),⟨by show i<=a.length;omega,by show j+1<=b.length;omega,by show (a.length-(i))+(b.length-(j+1))<=n-1;omega,h4.trans fe,(show I (i+(j+1)) _ from iB _ j out hj h5)⟩,by show n-1<n;omega,?_⟩;refine ak [] [] ?_ ?_ ?_ ?_ (je _ _ ((show I (i+(j+1)) _ from iB _ j out hj h5))) ?_
      ·simp
      ·simp
      ·simp[hS]
      ·simp[hU]
      ·simp[hS,hU,ry]
       try omega
     ·have b2:decide ((b.getD j (0,[])).1<(a.getD i (0,[])).1)=false:=by simpa using c2
      have fe:=aaI (fA:=fA) (fB:=fB) (fAB:=fAB) (o:=out) hn hi hj c1 c2;refine bC [] [] [] ?_;simp(disch:=omega)[ni,Ns,RP,bc,hj];refine az (qa _ _ _) rfl ?_;simp(disch:=omega)[RQ,bc];refine az (qa _ _ _) rfl ?_;simp(disch:=omega)[b2,c2];apply aB rfl;refine bC [7] [0,0,0,0,0,0,0,0] [[]] ?_;simp(disch:=omega)[bc,hi,hj];refine oA (cAB (i+j) i j out hi hj zO h5) rfl ?_;refine zQ ?_;refine aJ ?_;refine⟨(n-1,i+1,j+1,fAB out (a.getD i (0,[])) (b.getD j (0,[]))),⟨by show i+1<=a.length;omega,by show j+1<=b.length;omega,by show (a.length-(i+1))+(b.length-(j+1))<=n-1;omega,h4.trans fe,(show I (i+1+(j+1)) _ by rw[show i+1+(j+1)=i+j+2 by omega];exact Yl _ i j out hi hj h5)⟩,by show n-1<n;omega,?_⟩;refine ak [] [] ?_ ?_ ?_ ?_ (je _ _ ((show I (i+1+(j+1)) _ by rw[show i+1+(j+1)=i+j+2 by omega];exact Yl _ i j out hi hj h5))) ?_
      ·simp
      ·simp
      ·simp[hS]
      ·simp[hU]
      ·simp[hS,hU,ry]
       try omega
   ·have bj:decide ((j:Int)<b.length)=false:=by simp;omega
    have Rh:j=b.length:=zO;have nj:((j:Int)==b.length)=true:=by simp;omega
    have hn:0<n:=zO;have fe:=aaJ (fA:=fA) (fB:=fB) (fAB:=fAB) (o:=out) hn hi Rh;refine ae λK2 ba=>?_;apply ar;simp(disch:=omega)[bi,bj,hi,hj];apply aC rfl;apply aj;refine zQ ?_;apply ba;clear ba;apply ag;apply ag;have VK:(j:Int)=(b.length:Int):=zO;refine bC [] [] [] ?_;simp(disch:=omega)[nj,VK];apply aC rfl;apply ar;simp(disch:=omega)[bc];refine ai (cA (i+j) i out hi zO h5) ?_;refine zQ ?_;refine aJ ?_;refine⟨(n-1,i+1,j,fA out (a.getD i (0,[]))),⟨by show i+1<=a.length;omega,by show j<=b.length;omega,by show (a.length-(i+1))+(b.length-(j))<=n-1;omega,h4.trans fe,(show I (i+1+j) _ by rw[show i+1+j=i+j+1 by omega];exact iA _ i out hi h5)⟩,by show n-1<n;omega,?_⟩;refine ak [] [] ?_ ?_ ?_ ?_ (je _ _ ((show I (i+1+j) _ by rw[show i+1+j=i+j+1 by omega];exact iA _ i out hi h5))) ?_
    ·simp
    ·simp
    ·simp[hS]
    ·simp[hU]
    ·simp[hS,hU,ry]
     try omega
  ·have bi:decide ((i:Int)<a.length)=false:=by simp;omega
   have nC:i=a.length:=zO
   by_cases hj:j<b.length
   ·have bj:decide ((j:Int)<b.length)=true:=by simp;omega
    have nj:((j:Int)==b.length)=false:=by rw[ah8];omega
    have Bl:¬j=b.length:=zO;have ni:((i:Int)==a.length)=true:=by simp;omega
    have hn:0<n:=zO;have fe:=aaH (fA:=fA) (fB:=fB) (fAB:=fAB) (o:=out) hn nC hj;refine ae λK2 ba=>?_;apply ar;simp(disch:=omega)[bi,bj,hi,hj];apply aC rfl;apply aj;refine zQ ?_;apply ba;clear ba;apply ag;apply ag;refine bC [] [] [] ?_;simp(disch:=omega)[nj,Bl,bi,hi];apply aB rfl;have VM:(i:Int)=(a.length:Int):=zO;refine bC [] [] [] ?_;simp(disch:=omega)[ni,VM];apply aC rfl;apply ar;simp(disch:=omega)[bc];refine ai (cB (i+j) j out hj zO h5) ?_;refine zQ ?_;refine aJ ?_;refine⟨(n-1,i,j+1,fB out (b.getD j (0,[]))),⟨by show i<=a.length;omega,by show j+1<=b.length;omega,by show (a.length-(i))+(b.length-(j+1))<=n-1;omega,h4.trans fe,(show I (i+(j+1)) _ from iB _ j out hj h5)⟩,by show n-1<n;omega,?_⟩;refine ak [] [] ?_ ?_ ?_ ?_ (je _ _ ((show I (i+(j+1)) _ from iB _ j out hj h5))) ?_
    ·simp
    ·simp
    ·simp[hS]
    ·simp[hU]
    ·simp[hS,hU,ry]
     try omega
   ·have bj:decide ((j:Int)<b.length)=false:=by simp;omega
    have mn:=Xp (fA:=fA) (fB:=fB) (fAB:=fAB) (a:=a) (b:=b) (o:=out) (n:=n) nC (show j=b.length by omega);rw[mn] at h4;apply hY;apply ar;simp(disch:=omega)[bi,bj,hi,hj];apply aB rfl;apply aD;refine zQ ?_;rw[h4];exact⟨rfl,rfl,rfl⟩
theorem qS {b:PL}{y:Int×List Int}(hs:lR b)(h:y∈b):posOf b y.1=y.2:=by
 induction b with
 |nil=>simp at h
 |cons z b ih=>
  obtain⟨h1,h2⟩:=jA hs;rcases ah4.1 h with rfl|h
  ·exact df
  ·have:=h2 y h;rw[cM zO];exact ih h1 h
theorem de {l:PL}(h:cC l=true):lR l/\(∀p∈l,1<=p.1/\p.1<=1000000000)/\∀p∈l,p.2≠[]/\kI p.2/\∀q∈p.2,0<=q/\q<=1000000:=by
 have bounds:∀(l:List Int)(lo hi:Int),jI l lo hi=true->∀q∈l,lo<=q/\q<=hi:=λl lo hi h q hq=>by
  obtain⟨j,hj,e⟩:=jQ 0 hq;unfold jI at h;rw[ah3] at h;have:=h j (zU hj);unfold im at this;simp only[ahG,ahH] at this;rw[e] at this;exact this.1
 unfold cC at h;rw[ahG] at h;obtain⟨h1,h2⟩:=h;refine⟨iY h1,λp hp=>bounds _ _ _ h1 _ (ahz.2 ⟨p,hp,rfl⟩),λp hp=>?_⟩;have h3:jl p=false:=by
  cases hb:jl p with
  |false=>rfl
  |true=>
   have:l.any jl=true:=ai6.2 ⟨p,hp,hb⟩;rw[this] at h2;simp at h2
 unfold jl at h3;rw[ajV] at h3;have h4:jI p.2 0 1000000=true:=by simpa using h3.2
 refine⟨λe=>?_,iY h4,bounds _ _ _ h4⟩;have:=h3.1;rw[e] at this;simp at this
def xR {l:PL}{d:Int}(h:¬d∈l.map (·.1)):posOf l d=[]:=oY λp hp e=>h (ahz.2 ⟨p,hp,e⟩)
theorem FP:∀(l:PL)(k:Nat)(d:Int),k<l.length->(∀j,j<k->(l.getD j (0,[])).1≠d)->(l.getD k (0,[])).1=d->posOf l d=(l.getD k (0,[])).2:=by
 intro l
 induction l with
 |nil=>intro k d h;simp at h
 |cons p l ih=>
  intro k d h h1 h2
  cases k with
  |zero=>simp at h2;subst h2;exact df
  |succ k=>
   have h0:p.1≠d:=by have:=h1 0 zO;simpa using this
   rw[cM h0];exact ih k d (zU h) (λj hj=>by have:=h1 (j+1) zO;simpa using this) (zU h2)
attribute [-simp] getD_eq_getElem?_getD in
def Xj (l:PL)(d:Int)(hl:l.length<=5000)(H:List aA)(T:au)(tg:Tag):aq prog 166 [.sl l.length (bD l) tg,.int .i64 d] H T (Is (.sl (posOf l d).length (ints (posOf l d)) .none) H T):=by
 refine aq.bR ?_;refine aq.bK ?_ zS;refine ah 6 [] Tryz.ntmps166 Tryz.func166 rfl (λ_ _=>Tryz.call166 _ _) zS (λHO=>?_);refine af ?_;refine ae λK1 aN=>?_;refine af ?_;apply ag;refine aG (X:=Nat) (λk=>⟨[(0,.sl l.length (bD l) .none),(1,.int .i64 d),(5,.int .i64 (k:Nat))],H,T⟩) (λk=>k<=l.length/\∀j,j<k->(l.getD j (0,[])).1≠d) (λk=>l.length-k) 0 ?_ ?_ ?_
 ·exact⟨ahE _,λj hj=>absurd hj (ahT _)⟩
 ·exact wk HO
 ·rintro k ⟨h1,h2⟩;refine ae λK2 ba=>?_;refine af ?_;refine aV rfl (λhk=>?_) (λhk=>?_)
  ·simp  at hk;have gA:=iH l k hk;apply aj;refine zQ ?_;apply ba;clear ba;refine ae λK3 bH=>?_;apply ag
   by_cases hc:(l.getD k (0,[])).1=d
   ·have b:((l.getD k (0,[])).1==d)=true:=by simpa using hc
    have hf:=FP l k d hk h2 hc;apply ar;simp(disch:=omega)[gA.1,bc,b];apply aC rfl;apply ar;simp(disch:=omega)[gA.2,bc];refine aI ?_;rw[hf];simp
   ·have b:((l.getD k (0,[])).1==d)=false:=by simpa using hc
    apply ar;simp(disch:=omega)[gA.1,bc,b];apply aB rfl;apply aj;refine zQ ?_;apply bH;clear bH;refine aJ ?_;refine⟨k+1,⟨by show k+1<=_;omega,λj hj=>?_⟩,by show l.length-(k+1)<l.length-k;omega,?_⟩
    ·rcases ahD j k with h3|h3
     ·exact h2 j h3
     ·have:j=k:=zO;subst this;exact hc
    ·exact wk HO
  ·simp  at hk;have hm:posOf l d=[]:=oY λp hp e=>by
    obtain⟨j,hj,e2⟩:=jQ (0,[]) hp;have:=h2 j zO;rw[e2] at this;exact this e
   apply aD;refine zQ ?_;apply aN;clear aN;refine af ?_;refine aI ?_;rw[hm];simp
theorem W0 {fA fB fAB:List Int->Int->List Int}(hA:∀o x,(fA o x).length<=o.length+1)(hB:∀o x,(fB o x).length<=o.length+1)(hAB:∀o x,(fAB o x).length<=o.length+1) :
  ∀(n:Nat)(a b o:List Int),(jX fA fB fAB n a b o).length<=o.length+a.length+b.length:=by
 intro n
 induction n with
 |zero=>intro a b o;simp only[jX];omega
 |succ n ih=>
  intro a b o
  cases a with
  |nil=>
   cases b with
   |nil=>simp only[jX];omega
   |cons y b=>have:=ih [] b (fB o y);have:=hB o y;simp only[jX,ahY];omega
  |cons x a=>
   cases b with
   |nil=>have:=ih a [] (fA o x);have:=hA o x;simp only[jX,ahY];omega
   |cons y b=>
    have e1:=ih a (y::b) (fA o x);have e2:=ih (x::a) b (fB o y);have e3:=ih a b (fAB o x);have:=hA o x;have:=hB o y;have:=hAB o x;simp only[ahY] at e1 e2 ⊢;rw[jX]
    split
    ·omega
    ·split
     ·omega
     ·omega
def tS (kf:Bool->Bool->Bool)(a b:List Int):(comb kf a b).length<=a.length+b.length:=by
 have st:∀(k:Bool)(o:List Int)(x:Int),(if k=true then o++[x] else o).length<=o.length+1:=λk o x=>by split<;>simp
 unfold comb
 split
 ·have:=W0 (fA:=λo x=>if kf true false then o++[x] else o) (fB:=λo x=>if kf false true then o++[x] else o) (fAB:=λo x=>if kf true true then o++[x] else o) (λo x=>st _ o x) (λo x=>st _ o x) (λo x=>st _ o x) (a.length+b.length) a b [];simp only[ais,aiH] at this;exact this
 ·simp
def Mg (f:Bool->Bool)(a b:List Int):(jN f a b).length<=a.length+b.length:=by
 unfold jN
 split
 ·exact ahA (ahX _ _) zO
 ·simp
def V (l:List Int):Prop:=jI l 1 1000000000=true
def yH {l:List Int}{lo hi:Int}(h:jI l lo hi=true):∀q∈l,lo<=q/\q<=hi:=λq hq=>by
 obtain⟨j,hj,e⟩:=jQ 0 hq;unfold jI at h;rw[ah3] at h;have:=h j (zU hj);unfold im at this;simp only[ahG,ahH] at this;rw[e] at this;exact this.1
def lj {l:List Int}{lo hi:Int}(h:kI l)(hb:∀q∈l,lo<=q/\q<=hi):jI l lo hi=true:=by
 refine Ct λj hj=>?_;have hbj:=hb _ (sQ l j 0 hj);unfold im;simp only[ahG,ahH,aiq];refine⟨hbj,?_⟩;rcases ah0 j with h0|h0
 ·exact .inl h0
 ·exact .inr (qJ h zO hj)
def iM (kf:Bool->Bool->Bool){a b:List Int}(ha:V a)(hb:V b):kI (comb kf a b)/\∀z,z∈comb kf a b↔(z∈a/\z∉b/\kf true false=true)\/(z∈b/\z∉a/\kf false true=true)\/(z∈a/\z∈b/\kf true true=true):=by
 obtain⟨_,g2,g3⟩:=B9 (kf true false) (kf false true) (kf true true) (a.length+b.length) a b [] (ahv _) (iY ha) (iY hb);have e:comb kf a b=jX (λo x=>if kf true false then o++[x] else o) (λo x=>if kf false true then o++[x] else o) (λo x=>if kf true true then o++[x] else o) (a.length+b.length) a b []:=by
  unfold comb;rw[ahF ⟨ha,hb⟩];rfl
 rw[e];exact⟨g3,g2⟩
def An (a b:List Int):List Int:=comb (λp q=>p&&q) a b
section
variable {a b c : List Int} (ha : V a) (hb : V b) (hc : V c)
include ha hb
include hc
end
def JR {β:Type}(fA fB:β->Int->β)(fAB:β->Int->Int->β):Nat->List Int->List Int->β->β
 |0,_,_,o=>o
 |n+1,x::a,y::b,o=>if x<y then JR fA fB fAB n a (y::b) (fA o x) else if y<x then JR fA fB fAB n (x::a) b (fB o y) else JR fA fB fAB n a b (fAB o x y)
 |n+1,x::a,[],o=>JR fA fB fAB n a [] (fA o x)
 |n+1,[],y::b,o=>JR fA fB fAB n [] b (fB o y)
 |_+1,[],[],o=>o
@[simp] theorem fI (l:List Int):(ints l).length=l.length:=by simp[ints]
def MI {β:Type}(fA fB:β->Int->β)(fAB:β->Int->Int->β)(a b:List Int)(n i j:Nat)(o:β):β:=JR fA fB fAB n (a.drop i) (b.drop j) o
section
variable {β : Type} {fA fB : β -> Int -> β} {fAB : β -> Int -> Int -> β} {a b : List Int} {o : β} {n i j : Nat}
def afP (hn:0<n)(hi:i<a.length)(hj:j<b.length)(h:a.getD i 0<b.getD j 0):MI fA fB fAB a b n i j o=MI fA fB fAB a b (n-1) (i+1) j (fA o (a.getD i 0)):=by
 obtain⟨m,rfl⟩:∃m,n=m+1:=⟨n-1,zO⟩
 unfold MI;rw[dw a i hi,dw b j hj,JR,ahF h];rfl
def afO (hn:0<n)(hi:i<a.length)(hj:j<b.length)(h:¬a.getD i 0<b.getD j 0)(h2:b.getD j 0<a.getD i 0):MI fA fB fAB a b n i j o=MI fA fB fAB a b (n-1) i (j+1) (fB o (b.getD j 0)):=by
 obtain⟨m,rfl⟩:∃m,n=m+1:=⟨n-1,zO⟩
 unfold MI;rw[dw a i hi,dw b j hj,JR,ahC h,ahF h2];rfl
def aaL (hn:0<n)(hi:i<a.length)(hj:j<b.length)(h:¬a.getD i 0<b.getD j 0)(h2:¬b.getD j 0<a.getD i 0):MI fA fB fAB a b n i j o=MI fA fB fAB a b (n-1) (i+1) (j+1) (fAB o (a.getD i 0) (b.getD j 0)):=by
 obtain⟨m,rfl⟩:∃m,n=m+1:=⟨n-1,zO⟩
 unfold MI;rw[dw a i hi,dw b j hj,JR,ahC h,ahC h2];rfl
def aaM (hn:0<n)(hi:i<a.length)(hj:j=b.length):MI fA fB fAB a b n i j o=MI fA fB fAB a b (n-1) (i+1) j (fA o (a.getD i 0)):=by
 obtain⟨m,rfl⟩:∃m,n=m+1:=⟨n-1,zO⟩
 unfold MI;rw[dw a i hi,hj,aiB,JR];rfl
def aaK (hn:0<n)(hi:i=a.length)(hj:j<b.length):MI fA fB fAB a b n i j o=MI fA fB fAB a b (n-1) i (j+1) (fB o (b.getD j 0)):=by
 obtain⟨m,rfl⟩:∃m,n=m+1:=⟨n-1,zO⟩
 unfold MI;rw[dw b j hj,hi,aiB,JR];rfl
def Xq (hi:i=a.length)(hj:j=b.length):MI fA fB fAB a b n i j o=o:=by
 unfold MI;rw[hi,hj,aiB,aiB]
 cases n<;>rfl
end
attribute [-simp] getD_eq_getElem?_getD in
def L5 {β:Type}(g:Nat)(cF:List AV)(fA fB:β->Int->β)(fAB:β->Int->Int->β)(S:β->List aA)(U:β->au)(I:Nat->β->Prop)(N M:Nat)(o0:β)
  (a b:List Int) (ha:a.length<=1000) (hb:b.length<=1000) (hS:∀o,(S o).length=N) (hU:∀o,(U o).length=M) (ry:aL N M cF) (je:∀n o,I n o->bM (S o) (U o)) (h0:I 0 o0)
  (cA:∀n i o,i<a.length->n<=2000->I n o->aq prog g ([.eB (ints a) i,.gq]++cF) (S o) (U o) (Is (.dn []) (S (fA o (a.getD i 0))) (U (fA o (a.getD i 0)))))
  (cB:∀n j o,j<b.length->n<=2000->I n o->aq prog g ([.gq,.eB (ints b) j]++cF) (S o) (U o) (Is (.dn []) (S (fB o (b.getD j 0))) (U (fB o (b.getD j 0)))))
  (cAB:∀n i j o,i<a.length->j<b.length->n<=2000->I n o->aq prog g ([.eB (ints a) i,.eB (ints b) j]++cF) (S o) (U o) (Is (.dn []) (S (fAB o (a.getD i 0) (b.getD j 0))) (U (fAB o (a.getD i 0) (b.getD j 0)))))
  (iA:∀n i o,i<a.length->I n o->I (n+1) (fA o (a.getD i 0))) (iB:∀n j o,j<b.length->I n o->I (n+1) (fB o (b.getD j 0))) (Yl:∀n i j o,i<a.length->j<b.length->I n o->I (n+2) (fAB o (a.getD i 0) (b.getD j 0))) :
  aq prog 171 [.sl a.length (ints a) .none,.sl b.length (ints b) .none,.fn 172 [] [],.fn g [] cF] (S o0) (U o0)
   (Is (.dn []) (S (MI fA fB fAB a b (a.length+b.length) 0 0 o0)) (U (MI fA fB fAB a b (a.length+b.length) 0 0 o0))):=by
 refine ah 11 [] Tryz.ntmps171 Tryz.func171 rfl (λ_ _=>Tryz.call171 _ _) zS (λHO=>?_);refine af ?_;apply ag;refine aG (X:=Nat×Nat×Nat×β) (λx=>⟨[(0,.sl a.length (ints a) .none),(1,.sl b.length (ints b) .none),(2,.fn 172 [] []),(3,.fn g [] cF),(8,.int .i64 (x.2.1:Nat)),(9,.int .i64 (x.2.2.1:Nat))],S x.2.2.2,U x.2.2.2⟩)
  (λx=>x.2.1<=a.length/\x.2.2.1<=b.length/\(a.length-x.2.1)+(b.length-x.2.2.1)<=x.1/\MI fA fB fAB a b (a.length+b.length) 0 0 o0=MI fA fB fAB a b x.1 x.2.1 x.2.2.1 x.2.2.2/\I (x.2.1+x.2.2.1) x.2.2.2) (λx=>x.1) (a.length+b.length,0,0,o0) ?_ ?_ ?_
 ·exact⟨ahE _,ahE _,by simp only;omega,rfl,h0⟩
 ·refine ak [] [] ?_ ?_ ?_ ?_ HO ?_
  ·simp
  ·simp
  ·simp
  ·simp
  ·simp[hS,hU,ry]
 ·rintro⟨n,i,j,out⟩ ⟨h1,h2,h3,h4,h5⟩;simp only at h1 h2 h3 h4 h5
  by_cases hi:i<a.length
  ·have bi:decide ((i:Int)<a.length)=true:=by simp;omega
   have ni:((i:Int)==a.length)=false:=by rw[ah8];omega
   have Ns:¬i=a.length:=zO;have RQ:=aS (xs:=a) (k:=i) hi
   by_cases hj:j<b.length
   ·have bj:decide ((j:Int)<b.length)=true:=by simp;omega
    have nj:((j:Int)==b.length)=false:=by rw[ah8];omega
    have Bl:¬j=b.length:=zO;have RP:=aS (xs:=b) (k:=j) hj;have hn:0<n:=zO;refine ae λK2 ba=>?_;apply ar;simp(disch:=omega)[bi,bj,hi,hj];apply aC rfl;apply aj;refine zQ ?_;apply ba;clear ba;apply ag;apply ag
    by_cases c1:a.getD i 0<b.getD j 0
    ·have b1:decide (a.getD i 0<b.getD j 0)=true:=by simpa using c1
     have fe:=afP (fA:=fA) (fB:=fB) (fAB:=fAB) (o:=out) hn hi hj c1;refine bC [] [] [] ?_;simp(disch:=omega)[bi,hi,nj,Bl,RQ,fI];refine az (dW _ _ _) rfl ?_;simp(disch:=omega)[RP,fI];refine az (dW _ _ _) rfl ?_;simp(disch:=omega)[b1,c1];apply aC rfl;apply ar;simp(disch:=omega)[fI];refine ai (cA (i+j) i out hi zO h5) ?_;refine zQ ?_;refine aJ ?_;refine⟨(n-1,i+1,j,fA out (a.getD i 0)),⟨by show i+1<=a.length;omega,by show j<=b.length;omega,by show (a.length-(i+1))+(b.length-(j))<=n-1;omega,h4.trans fe,(show I (i+1+j) _ by rw[show i+1+j=i+j+1 by omega];exact iA _ i out hi h5)⟩,by show n-1<n;omega,?_⟩;refine ak [] [] ?_ ?_ ?_ ?_ (je _ _ ((show I (i+1+j) _ by rw[show i+1+j=i+j+1 by omega];exact iA _ i out hi h5))) ?_
     ·simp
     ·simp
     ·simp[hS]
     ·simp[hU]
     ·simp[hS,hU,ry]
      try omega
    ·have b1:decide (a.getD i 0<b.getD j 0)=false:=by simpa using c1
     refine bC [] [] [] ?_;simp(disch:=omega)[bi,hi,nj,Bl,RQ,fI];refine az (dW _ _ _) rfl ?_;simp(disch:=omega)[RP,fI];refine az (dW _ _ _) rfl ?_;simp(disch:=omega)[b1,c1];apply aB rfl
     by_cases c2:b.getD j 0<a.getD i 0
     ·have b2:decide (b.getD j 0<a.getD i 0)=true:=by simpa using c2
      have fe:=afO (fA:=fA) (fB:=fB) (fAB:=fAB) (o:=out) hn hi hj c1 c2;refine bC [] [] [] ?_;simp(disch:=omega)[ni,Ns,RP,fI,hj];refine az (dW _ _ _) rfl ?_;simp(disch:=omega)[RQ,fI];refine az (dW _ _ _) rfl ?_;simp(disch:=omega)[b2,c2];apply aC rfl;apply ar;simp(disch:=omega)[fI];refine ai (cB (i+j) j out hj zO h5) ?_;refine zQ ?_;refine aJ ?_;refine⟨(n-1,i,j+1,fB out (b.getD j 0)),⟨by show i<=a.length;omega,by show j+1<=b.length;omega,by show (a.length-(i))+(b.length-(j+1))<=n-1;omega,h4.trans fe,(show I (i+(j+1)) _ from iB _ j out hj h5)⟩,by show n-1<n;omega,?_⟩;refine ak [] [] ?_ ?_ ?_ ?_ (je _ _ ((show I (i+(j+1)) _ from iB _ j out hj h5))) ?_
      ·simp
      ·simp
      ·simp[hS]
      ·simp[hU]
      ·simp[hS,hU,ry]
       try omega
     ·have b2:decide (b.getD j 0<a.getD i 0)=false:=by simpa using c2
      have fe:=aaL (fA:=fA) (fB:=fB) (fAB:=fAB) (o:=out) hn hi hj c1 c2;refine bC [] [] [] ?_;simp(disch:=omega)[ni,Ns,RP,fI,hj];refine az (dW _ _ _) rfl ?_;simp(disch:=omega)[RQ,fI];refine az (dW _ _ _) rfl ?_;simp(disch:=omega)[b2,c2];apply aB rfl;refine bC [7] [0,0,0,0,0,0,0,0] [[]] ?_;simp(disch:=omega)[fI,hi,hj];refine oA (cAB (i+j) i j out hi hj zO h5) rfl ?_;refine zQ ?_;refine aJ ?_;refine⟨(n-1,i+1,j+1,fAB out (a.getD i 0) (b.getD j 0)),⟨by show i+1<=a.length;omega,by show j+1<=b.length;omega,by show (a.length-(i+1))+(b.length-(j+1))<=n-1;omega,h4.trans fe,(show I (i+1+(j+1)) _ by rw[show i+1+(j+1)=i+j+2 by omega];exact Yl _ i j out hi hj h5)⟩,by show n-1<n;omega,?_⟩;refine ak [] [] ?_ ?_ ?_ ?_ (je _ _ ((show I (i+1+(j+1)) _ by rw[show i+1+(j+1)=i+j+2 by omega];exact Yl _ i j out hi hj h5))) ?_
      ·simp
      ·simp
      ·simp[hS]
      ·simp[hU]
      ·simp[hS,hU,ry]
       try omega
   ·have bj:decide ((j:Int)<b.length)=false:=by simp;omega
    have Rh:j=b.length:=zO;have nj:((j:Int)==b.length)=true:=by simp;omega
    have hn:0<n:=zO;have fe:=aaM (fA:=fA) (fB:=fB) (fAB:=fAB) (o:=out) hn hi Rh;refine ae λK2 ba=>?_;apply ar;simp(disch:=omega)[bi,bj,hi,hj];apply aC rfl;apply aj;refine zQ ?_;apply ba;clear ba;apply ag;apply ag;have VK:(j:Int)=(b.length:Int):=zO;refine bC [] [] [] ?_;simp(disch:=omega)[nj,VK];apply aC rfl;apply ar;simp(disch:=omega)[fI];refine ai (cA (i+j) i out hi zO h5) ?_;refine zQ ?_;refine aJ ?_;refine⟨(n-1,i+1,j,fA out (a.getD i 0)),⟨by show i+1<=a.length;omega,by show j<=b.length;omega,by show (a.length-(i+1))+(b.length-(j))<=n-1;omega,h4.trans fe,(show I (i+1+j) _ by rw[show i+1+j=i+j+1 by omega];exact iA _ i out hi h5)⟩,by show n-1<n;omega,?_⟩;refine ak [] [] ?_ ?_ ?_ ?_ (je _ _ ((show I (i+1+j) _ by rw[show i+1+j=i+j+1 by omega];exact iA _ i out hi h5))) ?_
    ·simp
    ·simp
    ·simp[hS]
    ·simp[hU]
    ·simp[hS,hU,ry]
     try omega
  ·have bi:decide ((i:Int)<a.length)=false:=by simp;omega
   have nC:i=a.length:=zO
   by_cases hj:j<b.length
   ·have bj:decide ((j:Int)<b.length)=true:=by simp;omega
    have nj:((j:Int)==b.length)=false:=by rw[ah8];omega
    have Bl:¬j=b.length:=zO;have ni:((i:Int)==a.length)=true:=by simp;omega
    have hn:0<n:=zO;have fe:=aaK (fA:=fA) (fB:=fB) (fAB:=fAB) (o:=out) hn nC hj;refine ae λK2 ba=>?_;apply ar;simp(disch:=omega)[bi,bj,hi,hj];apply aC rfl;apply aj;refine zQ ?_;apply ba;clear ba;apply ag;apply ag;refine bC [] [] [] ?_;simp(disch:=omega)[nj,Bl,bi,hi];apply aB rfl;have VM:(i:Int)=(a.length:Int):=zO;refine bC [] [] [] ?_;simp(disch:=omega)[ni,VM];apply aC rfl;apply ar;simp(disch:=omega)[fI];refine ai (cB (i+j) j out hj zO h5) ?_;refine zQ ?_;refine aJ ?_;refine⟨(n-1,i,j+1,fB out (b.getD j 0)),⟨by show i<=a.length;omega,by show j+1<=b.length;omega,by show (a.length-(i))+(b.length-(j+1))<=n-1;omega,h4.trans fe,(show I (i+(j+1)) _ from iB _ j out hj h5)⟩,by show n-1<n;omega,?_⟩;refine ak [] [] ?_ ?_ ?_ ?_ (je _ _ ((show I (i+(j+1)) _ from iB _ j out hj h5))) ?_
    ·simp
    ·simp
    ·simp[hS]
    ·simp[hU]
    ·simp[hS,hU,ry]
     try omega
   ·have bj:decide ((j:Int)<b.length)=false:=by simp;omega
    have mn:=Xq (fA:=fA) (fB:=fB) (fAB:=fAB) (a:=a) (b:=b) (o:=out) (n:=n) nC (show j=b.length by omega);rw[mn] at h4;apply hY;apply ar;simp(disch:=omega)[bi,bj,hi,hj];apply aB rfl;apply aD;refine zQ ?_;rw[h4];exact⟨rfl,rfl,rfl⟩
attribute [-simp] getD_eq_getElem?_getD in
def vf (l:List Int)(hl:l.length<=5000)(H:List aA)(T:au):aq prog 146 [.sl l.length (ints l) .none] H T (Is (.sl l.length (ints l) .none) H T):=by
 refine aq.cut H T (ahv _) (ahv _) id zS ?_;refine ah 3 [] Tryz.ntmps146 Tryz.func146 rfl (λ_ _=>Tryz.call146 _ _) zS (λHO=>?_);refine af ?_;refine ae λK1 aN=>?_;refine aK λK hK=>?_;simp(disch:=omega) ;refine⟨hK _ ?_,λhe=>hK _ ?_⟩
 ·apply aB rfl;apply aj;simp(disch:=omega) ;apply aN;clear aN;refine af ?_;apply bu;simp(disch:=omega) 
 ·apply aC rfl;refine af ?_;apply bu;simp(disch:=omega)[he]
def SJ (H:List aA)(out:List Int)(tk:Nat):List aA:=H++[.cells [.sl out.length (ints out) (.own tk)]]
def TJ (T:au)(out:List Int):au:=T++[(out.length,1)]
def Xo (H:List aA)(out:List Int)(tk:Nat):(SJ H out tk).length=H.length+1:=by simp[SJ]
def Hi (T:au)(out:List Int):(TJ T out).length=T.length+1:=by simp[TJ]
def Xb {H:List aA}{T:au}(h:bM H T)(out:List Int):bM (SJ H out T.length) (TJ T out):=bM.snoc (h.fS (by rw[Hi];omega)) (by simp[Hi])
attribute [-simp] getD_eq_getElem?_getD in
def EK (a:List Int)(i:Nat)(hi:i<a.length)(v:AV)(out:List Int)(ho:out.length<=5000)(H:List aA)(T:au) :
  aq prog 183 [.eB (ints a) i,v,.ptr H.length 0] (SJ H out T.length) (TJ T out) (Is (.dn []) (SJ H (out++[a.getD i 0]) T.length) (TJ T (out++[a.getD i 0]))):=by
 have Nf:=aS (xs:=a) (k:=i) hi;have C7:=cJ out (a.getD i 0);simp only[SJ,TJ];refine ah 5 [] Tryz.ntmps183 Tryz.func183 rfl (λ_ _=>Tryz.call183 _ _) zS (λHO=>?_);refine ae λK1 aN=>?_;refine af ?_;apply aB rfl;apply aj;refine zQ ?_;apply aN;clear aN;refine du [5,6] [0,0,0,0,0,0,1] [[],[]] aO zK zK λK hK=>?_;simp(disch:=omega)[Nf,C7,hi];apply hK;exact⟨rfl,zS,zS⟩
attribute [-simp] getD_eq_getElem?_getD in
def Qb (b:List Int)(j:Nat)(hj:j<b.length)(out:List Int)(ho:out.length<=5000)(H:List aA)(T:au) :
  aq prog 183 [.gq,.eB (ints b) j,.ptr H.length 0] (SJ H out T.length) (TJ T out) (Is (.dn []) (SJ H (out++[b.getD j 0]) T.length) (TJ T (out++[b.getD j 0]))):=by
 have Nf:=aS (xs:=b) (k:=j) hj;have C7:=cJ out (b.getD j 0);simp only[SJ,TJ];refine ah 5 [] Tryz.ntmps183 Tryz.func183 rfl (λ_ _=>Tryz.call183 _ _) zS (λHO=>?_);refine ae λK1 aN=>?_;refine af ?_;apply aC rfl;refine aJ ?_;apply aN;clear aN;refine du [5,6] [0,0,0,0,0,0,1] [[],[]] aO zK zK λK hK=>?_;simp(disch:=omega)[Nf,C7,hj];apply hK;exact⟨rfl,zS,zS⟩
def jn (a b:List Int):List Int:=MG (λ_ _=>true) a b (a.length+b.length) 0 0 []
theorem Ty (fA fB:List Int->Int->List Int):∀(n:Nat)(a b o:List Int),JR fA fB (λo x _=>fA o x) n a b o=jX fA fB fA n a b o:=by
 intro n
 induction n with
 |zero=>intro a b o;rfl
 |succ n ih=>
  intro a b o
  cases a with
  |nil=>cases b with
   |nil=>rfl
   |cons y b=>exact ih _ _ _
  |cons x a=>cases b with
   |nil=>exact ih _ _ _
   |cons y b=>simp only[JR,jX,ih]
attribute [-simp] getD_eq_getElem?_getD in
def Mh (a b:List Int)(ha:a.length<=1000)(hb:b.length<=1000)(H:List aA)(T:au)(ta tb:Tag) :
  aq prog 147 [.sl a.length (ints a) ta,.sl b.length (ints b) tb] H T (Is (.sl (jn a b).length (ints (jn a b)) .none) H T):=by
 refine aq.bR (aq.mC ?_);refine aq.bK ?_ zS;have zb:MI (fun(o:List Int) x=>o++[x]) (λo x=>o++[x]) (λo x _=>o++[x]) a b (a.length+b.length) 0 0 []=jn a b:=Ty _ _ _ _ _ _;have c:=λHO:bM H T=>L5 (β:=List Int) 183 [.ptr H.length 0] (λo x=>o++[x]) (λo x=>o++[x]) (λo x _=>o++[x])
  (λo=>SJ H o T.length) (λo=>TJ T o) (λn o=>o.length<=n) (H.length+1) (T.length+1) [] a b ha hb (λo=>Xo _ _ _) (λo=>Hi _ _) zS
  (λn o _=>Xb HO o) (ahE _)
  (λn i o hi hn h=>EK a i hi _ o zO H T) (λn j o hj hn h=>Qb b j hj o zO H T)
  (λn i j o hi hj hn h=>EK a i hi _ o zO H T)
  (λn i o _ h=>by simp;omega) (λn j o _ h=>by simp;omega) (λn i j o _ _ h=>by simp;omega)
 rw[zb] at c;generalize jn a b=r at *;have k1:(SJ H r T.length)[H.length]?=some (.cells [.sl r.length (ints r) (.own T.length)]):=by simp[SJ]
 have hH:∃rH,SJ H r T.length=H++rH:=⟨_,rfl⟩
 have hT:∃rT,TJ T r=T++rT:=⟨_,rfl⟩
 refine ah 6 [] Tryz.ntmps147 Tryz.func147 rfl (λ_ _=>Tryz.call147 _ _) zS (λHO=>?_);have c1:=c HO;refine af ?_;refine af ?_;refine JI 1 H 0 [] zO zS ?_;apply ar;refine zQ ?_;refine ai (c1) ?_;refine zQ ?_;apply ar;simp(disch:=omega)[k1];refine aI ?_;exact⟨hH,hT⟩
def jF (o:List Int)(x:Int):List Int:=if (λ_ _=>true:Bool->Bool->Bool) true false then o++[x] else o
def tz {a b:List Int}(ha:kI a)(hb:kI b)(n:Nat)(hn:a.length+b.length<=n)(o:List Int):jX jF jF jF n a b o=o++jX jF jF jF n a b []/\
  (∀z,z∈jX jF jF jF n a b []↔z∈a\/z∈b)/\kI (jX jF jF jF n a b []):=by
 obtain⟨g1,g2,g3⟩:=B9 true true true n a b o hn ha hb;refine⟨g1,λz=>?_,g3⟩;refine(g2 z).trans ?_
 by_cases h1:z∈a<;>by_cases h2:z∈b<;>simp[h1,h2]
def p7 {a b:List Int}(ha:kI a)(hb:kI b)(z:Int):z∈jn a b↔z∈a\/z∈b:=(tz ha hb _ (ahv _) []).2.1 z
def xB {a b:List Int}(ha:kI a)(hb:kI b):kI (jn a b):=(tz ha hb _ (ahv _) []).2.2
def TN {a b:List Int}(ha:kI a)(hb:kI b){n:Nat}(hn:a.length+b.length<=n):jX jF jF jF n a b []=jn a b:=by
 refine jc _ _ (tz ha hb n hn []).2.2 (xB ha hb) λz=>?_;rw[(tz ha hb n hn []).2.1,p7 ha hb]
def Jr {a:List Int}(ha:kI a):jn a []=a:=jc _ _ (xB ha List.Pairwise.nil) ha λz=>by rw[p7 ha List.Pairwise.nil];simp
def Js {a:List Int}(ha:kI a):jn [] a=a:=jc _ _ (xB List.Pairwise.nil ha) ha λz=>by rw[p7 List.Pairwise.nil ha];simp
def Bk (a b:PL)(d:Int):Int×List Int:=(d,jn (posOf a d) (posOf b d))
def Nq (a b:PL):PL:=(jn (aw a) (aw b)).map (Bk a b)
def A9 (p:Int×List Int)(l:PL):aw (p::l)=p.1::aw l:=rfl
def Ep {l:PL}{d:Int}(h:∀p∈l,d<p.1):posOf l d=[]:=oY λp hp e=>by have:=h p hp;omega
theorem LZ:∀(n:Nat)(a b o:PL),a.length+b.length<=n->lR a->lR b->(∀p∈a,kI p.2)->(∀p∈b,kI p.2)->
  zG (λo x=>o++[x]) (λo y=>o++[y]) (λo x y=>o++[(x.1,jn x.2 y.2)]) n a b o=o++(jX jF jF jF n (aw a) (aw b) []).map (Bk a b):=by
 intro n
 induction n with
 |zero=>
  intro a b o h _ _ _ _;have ha:a=[]:=ah5 zO;subst ha;simp[zG,jX]
 |succ n ih=>
  intro a b o h ha hb pa pb;have step:∀(a' b':PL)(q:Int×List Int),kI (aw a')->kI (aw b')->(aw a').length+(aw b').length<=n->Bk a b q.1=q->(∀d,d∈aw a'\/d∈aw b'->Bk a' b' d=Bk a b d)->
    (o++[q])++(jX jF jF jF n (aw a') (aw b') []).map (Bk a' b')=o++(jX jF jF jF n (aw a') (aw b') [q.1]).map (Bk a b):=by
   intro a' b' q g1 g2 g3 g4 g5;obtain⟨k1,k2,_⟩:=tz g1 g2 n g3 [q.1];rw[k1,ahJ,ahM]
   congr 1
   have:(jX jF jF jF n (aw a') (aw b') []).map (Bk a' b')=(jX jF jF jF n (aw a') (aw b') []).map (Bk a b):=aib λd hd=>g5 d ((k2 d).1 hd);rw[this];simp[g4]
  have kW:∀l:PL,(aw l).length=l.length:=λl=>by simp[aw]
  cases a with
  |nil=>
   cases b with
   |nil=>simp[zG,jX,aw]
   |cons y b=>
    obtain⟨h3,h4⟩:=jA hb;rw[zG,ih [] b _ (by simp at h ⊢;omega) ha h3 pa (λp hp=>pb p (by simp[hp])),step [] b y ha h3 (by rw[kW,kW];simp at h ⊢;omega)]
    ·rfl
    ·unfold Bk;rw[df,show posOf [] y.1=[] from rfl,Js (pb y zS)]
    ·intro d hd;have:y.1≠d:=by
      rcases hd with hd|hd
      ·simp[aw] at hd
      ·obtain⟨p,hp,e⟩:=ahz.1 hd;have:=h4 p hp;omega
     unfold Bk;rw[cM this]
  |cons x a=>
   obtain⟨h1,h2⟩:=jA ha
   cases b with
   |nil=>
    rw[zG,ih a [] _ (by simp at h ⊢;omega) h1 hb (λp hp=>pa p (by simp[hp])) pb,step a [] x h1 hb (by rw[kW,kW];simp at h ⊢;omega)]
    ·rfl
    ·unfold Bk;rw[df,show posOf [] x.1=[] from rfl,Jr (pa x zS)]
    ·intro d hd;have:x.1≠d:=by
      rcases hd with hd|hd
      ·obtain⟨p,hp,e⟩:=ahz.1 hd;have:=h2 p hp;omega
      ·simp[aw] at hd
     unfold Bk;rw[cM this]
   |cons y b=>
    obtain⟨h3,h4⟩:=jA hb;simp only[ahY] at h;rw[A9 x a,A9 y b]
    by_cases c1:x.1<y.1
    ·have Yn:∀p∈y::b,x.1<p.1:=λp hp=>by
      rcases ah4.1 hp with rfl|hp
      ·exact c1
      ·have:=h4 p hp;omega
     rw[zG,ahF c1,ih a (y::b) _ (by simp;omega) h1 hb (λp hp=>pa p (by simp[hp])) pb,step a (y::b) x h1 hb (by rw[kW,kW];simp;omega),jX,ahF c1]
     ·rfl
     ·unfold Bk;rw[df,Ep Yn,Jr (pa x zS)]
     ·intro d hd;have:x.1≠d:=by
       rcases hd with hd|hd
       ·obtain⟨p,hp,e⟩:=ahz.1 hd;have:=h2 p hp;omega
       ·obtain⟨p,hp,e⟩:=ahz.1 hd;have:=Yn p hp;omega
      unfold Bk;rw[cM (l:=a) this]
    ·by_cases c2:y.1<x.1
     ·have Us:∀p∈x::a,y.1<p.1:=λp hp=>by
       rcases ah4.1 hp with rfl|hp
       ·exact c2
       ·have:=h2 p hp;omega
      rw[zG,ahC c1,ahF c2,ih (x::a) b _ (by simp;omega) ha h3 pa (λp hp=>pb p (by simp[hp])),step (x::a) b y ha h3 (by rw[kW,kW];simp;omega),jX,ahC c1,ahF c2]
      ·rfl
      ·unfold Bk;rw[df,Ep Us,Js (pb y zS)]
      ·intro d hd;have:y.1≠d:=by
        rcases hd with hd|hd
        ·obtain⟨p,hp,e⟩:=ahz.1 hd;have:=Us p hp;omega
        ·obtain⟨p,hp,e⟩:=ahz.1 hd;have:=h4 p hp;omega
       unfold Bk;rw[cM (l:=b) this]
     ·have e:x.1=y.1:=zO;rw[zG,ahC c1,ahC c2,ih a b _ zO h1 h3 (λp hp=>pa p (by simp[hp])) (λp hp=>pb p (by simp[hp])),step a b (x.1,jn x.2 y.2) h1 h3 (by rw[kW,kW];omega),jX,ahC c1,ahC c2]
      ·rfl
      ·unfold Bk;rw[df,e,df]
      ·intro d hd;have:x.1≠d:=by
        rcases hd with hd|hd
        ·obtain⟨p,hp,e⟩:=ahz.1 hd;have:=h2 p hp;omega
        ·obtain⟨p,hp,e⟩:=ahz.1 hd;have:=h4 p hp;omega
       unfold Bk;rw[cM (l:=a) this,cM (l:=b) zO]
def Tx {a b:PL}(ha:lR a)(hb:lR b)(pa:∀p∈a,kI p.2)(pb:∀p∈b,kI p.2):zG (λo x=>o++[x]) (λo y=>o++[y]) (λo x y=>o++[(x.1,jn x.2 y.2)]) (a.length+b.length) a b []=Nq a b:=by
 rw[LZ _ a b [] (ahv _) ha hb pa pb,ai3,TN (a:=aw a) (b:=aw b) ha hb (by simp[aw])];rfl
def SU (H:List aA)(out:PL)(tk:Nat):List aA:=H++[.cells [.sl out.length (bD out) (.own tk)]]
def Xn (H:List aA)(out:PL)(tk:Nat):(SU H out tk).length=H.length+1:=by simp[SU]
def Xa {H:List aA}{T:au}(h:bM H T)(out:PL):bM (SU H out T.length) (Dd T out):=bM.snoc (h.fS (by rw[Cu];omega)) (by simp[Cu])
attribute [-simp] getD_eq_getElem?_getD in
def WO (a:PL)(i:Nat)(hi:i<a.length)(ha:(a.getD i (0,[])).2.length<=5000)(out:PL)(ho:out.length<=5000)(H:List aA)(T:au) :
  aq prog 145 [.eB (bD a) (i*2),.gq,.ptr H.length 0] (SU H out T.length) (Dd T out) (Is (.dn []) (SU H (out++[a.getD i (0,[])]) T.length) (Dd T (out++[a.getD i (0,[])]))):=by
 have nC:=iH a i hi;have c:=vf (a.getD i (0,[])).2 ha (SU H out T.length) (Dd T out);have ue:=oh out (a.getD i (0,[])).1 (a.getD i (0,[])).2;rw[show ((a.getD i (0,[])).1,(a.getD i (0,[])).2)=a.getD i (0,[]) from rfl] at ue;generalize a.getD i (0,[])=x at *;simp only[SU,Dd] at c ⊢;refine ah 3 [] Tryz.ntmps145 Tryz.func145 rfl (λ_ _=>Tryz.call145 _ _) zS (λHO=>?_);apply ag;refine af ?_;apply aB rfl;refine af ?_;apply aC rfl;refine du [12,13] [0,0,0,0,0,0,0,0,0,0,0,0,0,1] [[],[]] aO zK zK λK hK=>?_;simp(disch:=omega)[nC.1,nC.2,bc,ue,hi];refine az (c) rfl ?_;simp(disch:=omega)[nC.1,nC.2,bc,ue,hi];apply hK;exact⟨rfl,zS,zS⟩
attribute [-simp] getD_eq_getElem?_getD in
def WN (b:PL)(j:Nat)(hj:j<b.length)(hb:(b.getD j (0,[])).2.length<=5000)(out:PL)(ho:out.length<=5000)(H:List aA)(T:au) :
  aq prog 145 [.gq,.eB (bD b) (j*2),.ptr H.length 0] (SU H out T.length) (Dd T out) (Is (.dn []) (SU H (out++[b.getD j (0,[])]) T.length) (Dd T (out++[b.getD j (0,[])]))):=by
 have nC:=iH b j hj;have c:=vf (b.getD j (0,[])).2 hb (SU H out T.length) (Dd T out);have ue:=oh out (b.getD j (0,[])).1 (b.getD j (0,[])).2;rw[show ((b.getD j (0,[])).1,(b.getD j (0,[])).2)=b.getD j (0,[]) from rfl] at ue;generalize b.getD j (0,[])=x at *;simp only[SU,Dd] at c ⊢;refine ah 3 [] Tryz.ntmps145 Tryz.func145 rfl (λ_ _=>Tryz.call145 _ _) zS (λHO=>?_);apply ag;refine af ?_;apply aC rfl;refine du [12,13] [0,0,0,0,0,0,0,0,0,0,0,0,0,1] [[],[]] aO zK zK λK hK=>?_;simp(disch:=omega)[nC.1,nC.2,bc,ue,hj];refine az (c) rfl ?_;simp(disch:=omega)[nC.1,nC.2,bc,ue,hj];apply hK;exact⟨rfl,zS,zS⟩
attribute [-simp] getD_eq_getElem?_getD in
def SX (a b:PL)(i j:Nat)(hi:i<a.length)(hj:j<b.length)(ha:(a.getD i (0,[])).2.length<=1000)(hb:(b.getD j (0,[])).2.length<=1000)(out:PL)(ho:out.length<=5000)(H:List aA)(T:au) :
  aq prog 145 [.eB (bD a) (i*2),.eB (bD b) (j*2),.ptr H.length 0] (SU H out T.length) (Dd T out) (Is (.dn []) (SU H (out++[((a.getD i (0,[])).1,jn (a.getD i (0,[])).2 (b.getD j (0,[])).2)]) T.length) (Dd T (out++[((a.getD i (0,[])).1,jn (a.getD i (0,[])).2 (b.getD j (0,[])).2)]))):=by
 have nC:=iH a i hi;have Rh:=iH b j hj;have c:=Mh (a.getD i (0,[])).2 (b.getD j (0,[])).2 ha hb (SU H out T.length) (Dd T out) .none .none;have ue:=oh out (a.getD i (0,[])).1 (jn (a.getD i (0,[])).2 (b.getD j (0,[])).2);generalize a.getD i (0,[])=x at *;generalize b.getD j (0,[])=y at *;generalize jn x.2 y.2=r at *;simp only[SU,Dd] at c ⊢;refine ah 3 [] Tryz.ntmps145 Tryz.func145 rfl (λ_ _=>Tryz.call145 _ _) zS (λHO=>?_);apply ag;refine af ?_;apply aB rfl;refine af ?_;apply aB rfl;refine du [16,17] [0,0,0,0,0,0,0,0,0,0,0,0,0,0,0,0,0,1] [[],[]] aO zK zK λK hK=>?_;simp(disch:=omega)[nC.1,nC.2,Rh.1,Rh.2,bc,ue,hi,hj];refine az (c) rfl ?_;simp(disch:=omega)[nC.1,nC.2,bc,ue,hi];apply hK;exact⟨rfl,zS,zS⟩
def jm (a b:PL):PL:=if cC a=true/\cC b=true then Nq a b else []
attribute [-simp] getD_eq_getElem?_getD in
theorem D9 (a b:PL)(ha:a.length<=1000)(hb:b.length<=1000)(RH:∀p∈a,p.2.length<=1000)(RG:∀p∈b,p.2.length<=1000)(H:List aA)(T:au)(ta tb:Tag) :
  aq prog 80 [.sl a.length (bD a) ta,.sl b.length (bD b) tb] H T (Is (.sl (jm a b).length (bD (jm a b)) .none) H T):=by
 refine aq.bR (aq.mC ?_);refine aq.bK ?_ zS;have jU:1000<=maxLen:=zD;have c1:=jP a zO (λp h=>ahA (RH p h) jU) (H++[.cells [.sl 0 [] .full]]) T .none;have c2:=jP b zO (λp h=>ahA (RG p h) jU) (H++[.cells [.sl 0 [] .full]]) T .none;refine ah 6 [] Tryz.ntmps80 Tryz.func80 rfl (λ_ _=>Tryz.call80 _ _) zS (λHO=>?_);refine af ?_;refine af ?_;refine ae λK1 aN=>?_
 cases Bo:cC a with
 |false=>
  rw[Bo] at c1;apply ar;refine zQ ?_;refine ai (c1) ?_;refine zQ ?_;apply aC rfl;refine af ?_;refine aI ?_;simp[jm,Bo,bD]
 |true=>
  rw[Bo] at c1
  cases Ys:cC b with
  |false=>
   rw[Ys] at c2;apply ar;refine zQ ?_;refine ai (c1) ?_;refine zQ ?_;refine ai (c2) ?_;refine zQ ?_;apply aC rfl;refine af ?_;refine aI ?_;simp[jm,Ys,bD]
  |true=>
   rw[Ys] at c2;obtain⟨a1,a2,a3⟩:=de Bo;obtain⟨e1,e2,e3⟩:=de Ys;have hr:jm a b=Nq a b:=by unfold jm;rw[ahF ⟨Bo,Ys⟩]
   have zb:MP (λo x=>o++[x]) (λo y=>o++[y]) (λo x y=>o++[(x.1,jn x.2 y.2)]) a b (a.length+b.length) 0 0 []=Nq a b:=Tx a1 e1 (λp hp=>(a3 p hp).2.1) (λp hp=>(e3 p hp).2.1);have c:=L4 (β:=PL) 145 [.ptr H.length 0] (λo x=>o++[x]) (λo y=>o++[y]) (λo x y=>o++[(x.1,jn x.2 y.2)])
    (λo=>SU H o T.length) (λo=>Dd T o) (λn o=>o.length<=n) (H.length+1) (T.length+1) [] a b ha hb (λo=>Xn _ _ _) (λo=>Cu _ _) zS
    (λn o _=>Xa HO o) (ahE _)
    (λn i o hi hn h=>WO a i hi (by have:=RH _ (sQ a i (0,[]) hi);omega) o zO H T) (λn j o hj hn h=>WN b j hj (by have:=RG _ (sQ b j (0,[]) hj);omega) o zO H T)
    (λn i j o hi hj hn h=>SX a b i j hi hj (RH _ (sQ a i _ hi)) (RG _ (sQ b j _ hj)) o zO H T)
    (λn i o _ h=>by simp;omega) (λn j o _ h=>by simp;omega) (λn i j o _ _ h=>by simp;omega)
   rw[zb,<-hr] at c;generalize jm a b=r at *;have k1:(SU H r T.length)[H.length]?=some (.cells [.sl r.length (bD r) (.own T.length)]):=by simp[SU]
   have hH:∃rH,SU H r T.length=H++rH:=⟨_,rfl⟩
   have hT:∃rT,Dd T r=T++rT:=⟨_,rfl⟩
   apply ar;refine zQ ?_;refine ai (c1) ?_;refine zQ ?_;refine ai (c2) ?_;refine zQ ?_;apply aB rfl;apply aj;refine zQ ?_;apply aN;clear aN;refine JI 2 H 0 [] zO zS ?_;apply ar;refine zQ ?_;refine ai (c) ?_;refine zQ ?_;apply ar;simp(disch:=omega)[k1];refine aI ?_;exact⟨hH,hT⟩
def lC (l:PL):List Int:=if cC l=true then aw l else []
attribute [-simp] getD_eq_getElem?_getD in
theorem E6 (l:PL)(hl:l.length<=5000)(hp:∀p∈l,p.2.length<=maxLen)(H:List aA)(T:au)(tg:Tag) :
  aq prog 56 [.sl l.length (bD l) tg] H T (Is (.sl (lC l).length (ints (lC l)) .none) H T):=by
 refine aq.bR ?_;refine aq.bK ?_ zS;have c1:=jP l hl hp H T .none;have c2:=ud l hl H T .none;refine ah 3 [] Tryz.ntmps56 Tryz.func56 rfl (λ_ _=>Tryz.call56 _ _) zS (λHO=>?_);refine af ?_;refine ae λK1 aN=>?_
 cases hv:cC l with
 |false=>
  rw[hv] at c1;apply ar;refine zQ ?_;refine ai (c1) ?_;refine zQ ?_;apply aC rfl;refine af ?_;refine aI ?_;simp[lC,hv,ints]
 |true=>
  rw[hv] at c1;have hd:(lC l)=aw l:=by unfold lC;rw[ahF hv]
  apply ar;refine zQ ?_;refine ai (c1) ?_;refine zQ ?_;apply aB rfl;apply aj;refine zQ ?_;apply aN;clear aN;apply ar;refine zQ ?_;refine ai (c2) ?_;refine zQ ?_;refine aI ?_;rw[hd];simp[aw]
attribute [-simp] getD_eq_getElem?_getD in
theorem MC (l:PL)(hl:l.length<=5000)(hp:∀p∈l,p.2.length<=maxLen)(H:List aA)(T:au)(tg:Tag) :
  aq prog 137 [.sl l.length (bD l) tg] H T (Is (.sl (lC l).length (ints (lC l)) .none) H T):=by
 refine aq.bR ?_;refine aq.bK ?_ zS;have c1:=As l hl hp H T .none;have c2:=E5 l hl H T .none;refine ah 3 [] Tryz.ntmps137 Tryz.func137 rfl (λ_ _=>Tryz.call137 _ _) zS (λHO=>?_);refine af ?_;refine ae λK1 aN=>?_
 cases hv:cC l with
 |false=>
  rw[hv] at c1;apply ar;refine zQ ?_;refine ai (c1) ?_;refine zQ ?_;apply aC rfl;refine af ?_;refine aI ?_;simp[lC,hv,ints]
 |true=>
  rw[hv] at c1;have hd:(lC l)=aw l:=by unfold lC;rw[ahF hv]
  apply ar;refine zQ ?_;refine ai (c1) ?_;refine zQ ?_;apply aB rfl;apply aj;refine zQ ?_;apply aN;clear aN;apply ar;refine zQ ?_;refine ai (c2) ?_;refine zQ ?_;refine aI ?_;rw[hd];simp[aw]
def gX (l:PL)(d:Int):Nat:=(l.takeWhile (λp=>decide (p.1<d))).length
def xN (l:PL)(d:Int):gX l d<=l.length:=(List.takeWhile_sublist _).length_le
theorem qf {l:PL}(h:lR l)(d:Int):∀j,j<l.length->((l.getD j (0,[])).1<d↔j<gX l d):=by
 induction l with
 |nil=>intro j hj;simp at hj
 |cons p l ih=>
  obtain⟨h1,h2⟩:=jA h;intro j hj;unfold gX
  by_cases hp:p.1<d
  ·rw[List.takeWhile_cons_of_pos (zU hp)]
   cases j with
   |zero=>simp[hp]
   |succ j=>
    have:=ih h1 j (zU hj);unfold gX at this;simp only[List.getD_cons_succ,ahY];omega
  ·rw[List.takeWhile_cons_of_neg (zU hp)]
   cases j with
   |zero=>simp;omega
   |succ j=>
    have:=h2 _ (sQ l j (0,[]) (zU hj));simp only[List.getD_cons_succ,ais];omega
attribute [-simp] getD_eq_getElem?_getD in
theorem S3 (l:PL)(f0:Nat)(d:Int)(hl:l.length<=5000)(hs:lR l)(hf:f0<=gX l d)(H:List aA)(T:au) :
  aq prog 148 [.sl l.length (bD l) .none,.int .i64 (f0:Nat),.int .i64 d] H T (Is (.int .i64 (gX l d:Nat)) H T):=by
 have hle:=xN l d;have bp:=qf hs d;generalize gX l d=N at *;refine ah 8 [] Tryz.ntmps148 Tryz.func148 rfl (λ_ _=>Tryz.call148 _ _) zS (λHO=>?_);refine af ?_;refine af ?_;refine ae λK1 aN=>?_;apply ag;refine aG (X:=Nat×Nat) (λx=>⟨[(0,.sl l.length (bD l) .none),(1,.int .i64 (x.1:Nat)),(2,.int .i64 d),(7,.int .i64 (x.2:Nat))],H,T⟩) (λx=>x.1<=N/\x.2<=x.1+1/\∃k,x.2=2 ^ k) (λx=>l.length-x.1) (f0,1) ?_ ?_ ?_
 ·exact⟨hf,zS,0,rfl⟩
 ·exact wk HO
 ·rintro⟨f,s⟩ ⟨h1,h2,k,h3⟩;simp only at h1 h2 h3;have agM:0<s:=by rw[h3];exact Nat.two_pow_pos k
  have fin:N<f+s->∀e,bA H.length T.length e [(0,.sl l.length (bD l) .none),(1,.int .i64 (f:Nat)),(2,.int .i64 d),(7,.int .i64 (s:Nat))]->K1 ⟨e,H,T⟩:=λhN e he=>by
   refine aN _ (aF ⟨[(0,.sl l.length (bD l) .none),(1,.int .i64 (f:Nat)),(2,.int .i64 d),(7,.int .i64 (s:Nat))],H,T⟩ (ak [] [] zS zS zS zS HO he) ?_);refine ae λK5 iT=>?_;apply ag;refine aG (X:=Nat×Nat) (λx=>⟨[(0,.sl l.length (bD l) .none),(1,.int .i64 (x.1:Nat)),(2,.int .i64 d),(7,.int .i64 (x.2:Nat))],H,T⟩) (λx=>x.1<=N/\x.2<=5001/\(x.2=0/\x.1=N\/(∃k,x.2=2 ^ k)/\N<x.1+2*x.2)) (λx=>x.2) (f,s) ?_ ?_ ?_
   ·exact⟨h1,by simp only;omega,.inr ⟨⟨k,h3⟩,by simp only;omega⟩⟩
   ·exact wk HO
   ·rintro⟨g,t⟩ ⟨g1,g2,g3⟩;simp only at g1 g2 g3;refine ae λK6 jZ=>?_;refine af ?_;rcases g3 with⟨g3,g4⟩|⟨⟨m,g3⟩,g4⟩
    ·subst g3;subst g4;apply aB rfl;apply aD;refine zQ ?_;apply iT;clear iT;refine af ?_;refine aI ?_;exact⟨rfl,rfl,rfl⟩
    ·have agL:0<t:=by rw[g3];exact Nat.two_pow_pos m
     have hq:∀g':Nat,g'<=N->N<g'+t->(g'<=N/\t / 2<=5001/\(t / 2=0/\g'=N\/(∃k,t / 2=2 ^ k)/\N<g'+2*(t / 2))):=λg' q1 q2=>by
      refine⟨q1,zO,?_⟩
      cases m with
      |zero=>simp at g3;subst g3;exact .inl ⟨rfl,zO⟩
      |succ m=>
       have e:t / 2=2 ^ m:=by rw[g3,pow_succ];omega
       refine .inr ⟨⟨m,e⟩,?_⟩;rw[e];rw[g3,pow_succ] at q2;omega
     have CX:(t:Int) / 2=((t / 2:Nat):Int):=zO;refine aV rfl (λh=>?_) (λh=>absurd h (by simp;omega));apply aj;refine zQ ?_;apply jZ;clear jZ;refine ae λK7 RW=>?_;apply ag
     by_cases c1:g+t<=l.length
     ·have b1:decide ((g:Int)+t<=l.length)=true:=by simp;omega
      have ek:((g:Int)+t-1).toNat=g+t-1:=zO;have gA:=(iH l (g+t-1) zO).1;have kZ:=bp (g+t-1) zO;have R7:((g:Int)+t<=l.length):=zO
      by_cases c2:(l.getD (g+t-1) (0,[])).1<d
      ·have b2:decide ((l.getD (g+t-1) (0,[])).1<d)=true:=by simpa using c2
       have:=kZ.1 c2;apply ar;simp(disch:=omega)[b1,R7,ek,gA,bc,b2,c2];apply aC rfl;refine aJ ?_;apply RW;clear RW;refine aJ ?_;refine⟨(g+t,t / 2),hq (g+t) zO zO,by show t / 2<t;omega,?_⟩;exact wk HO
      ·have b2:decide ((l.getD (g+t-1) (0,[])).1<d)=false:=by simpa using c2
       have:¬g+t-1<N:=λhh=>c2 (kZ.2 hh);apply ar;simp(disch:=omega)[b1,R7,ek,gA,bc,b2,c2];apply aB rfl;apply aj;refine zQ ?_;apply RW;clear RW;refine aJ ?_;refine⟨(g,t / 2),hq g zO zO,by show t / 2<t;omega,?_⟩;exact wk HO
     ·have b1:decide ((g:Int)+t<=l.length)=false:=by simp;omega
      have R7:¬((g:Int)+t<=l.length):=zO;apply ar;simp(disch:=omega)[b1,R7];apply aB rfl;apply aj;refine zQ ?_;apply RW;clear RW;refine aJ ?_;refine⟨(g,t / 2),hq g zO zO,by show t / 2<t;omega,?_⟩;exact wk HO
  clear aN;refine ae λK2 ba=>?_
  by_cases c1:f+s<=l.length
  ·have b1:decide ((f:Int)+s<=l.length)=true:=by simp;omega
   have R7:((f:Int)+s<=l.length):=zO;have ek:((f:Int)+s-1).toNat=f+s-1:=zO;have gA:=(iH l (f+s-1) zO).1;have kZ:=bp (f+s-1) zO
   by_cases c2:(l.getD (f+s-1) (0,[])).1<d
   ·have b2:decide ((l.getD (f+s-1) (0,[])).1<d)=true:=by simpa using c2
    have:=kZ.1 c2;apply ar;simp(disch:=omega)[b1,R7,ek,gA,bc,b2,c2];apply aC rfl;apply aj;refine zQ ?_;apply ba;clear ba;apply ag;refine af ?_;refine aJ ?_;refine⟨(f+s,s*2),⟨by show f+s<=N;omega,by show s*2<=f+s+1;omega,k+1,by show s*2=2 ^ (k+1);rw[h3,pow_succ]⟩,by show l.length-(f+s)<l.length-f;omega,?_⟩;exact wk HO
   ·have b2:decide ((l.getD (f+s-1) (0,[])).1<d)=false:=by simpa using c2
    have:¬f+s-1<N:=λhh=>c2 (kZ.2 hh);apply ar;simp(disch:=omega)[b1,R7,ek,gA,bc,b2,c2];apply aB rfl;apply aD;refine zQ ?_;exact fin zO _ zS
  ·have b1:decide ((f:Int)+s<=l.length)=false:=by simp;omega
   have R7:¬((f:Int)+s<=l.length):=zO;apply ar;simp(disch:=omega)[b1,R7];apply aB rfl;apply aD;refine zQ ?_;exact fin zO _ zS
def sG (p:Int×List Int)(l:PL):aw (p::l)=p.1::aw l:=rfl
theorem UM {a:PL}(h:lR a):a=(aw a).map (λd=>(d,posOf a d)):=by
 induction a with
 |nil=>rfl
 |cons p a ih=>
  obtain⟨h1,h2⟩:=jA h;have e:(aw a).map (λd=>(d,posOf (p::a) d))=(aw a).map (λd=>(d,posOf a d)):=aib λd hd=>by
   obtain⟨q,hq,e⟩:=ahz.1 hd;have:=h2 q hq;rw[cM zO]
  show p::a=(p.1,posOf (p::a) p.1)::(aw a).map (λd=>(d,posOf (p::a) d));rw[e,<-ih h1,df]
def Fm {a b:PL}(ha:lR a)(hb:lR b)(h1:∀d,d∈aw a↔d∈aw b)(h2:∀d,d∈aw a->posOf a d=posOf b d):a=b:=by
 have e:aw a=aw b:=jc _ _ ha hb h1;rw[UM ha,UM hb,<-e];exact aib λd hd=>by rw[h2 d hd]
def C4 (l:PL)(ds:List Int):PL:=(ds.filter (λd=>decide (d∈aw l))).map (λd=>(d,posOf l d))
def Yg (l:PL)(ds:List Int):PL:=l.filter (λp=>decide (p.1∈ds))
theorem CD {l:PL}(h:lR l)(f:Int->Bool)(d:Int)(hf:f d=true):posOf (l.filter (λp=>f p.1)) d=posOf l d:=by
 induction l with
 |nil=>rfl
 |cons p l ih=>
  obtain⟨h1,h2⟩:=jA h
  by_cases hp:f p.1=true
  ·rw[aiI (p:=λp:Int×List Int=>f p.1) hp];unfold posOf;rw[ih h1]
  ·rw[aiE (p:=λp:Int×List Int=>f p.1) hp,ih h1,cM (λe=>hp (by rw[e];exact hf))]
theorem AI (g:Int->List Int)(ds:List Int)(d:Int)(h:d∈ds):posOf (ds.map (λd=>(d,g d))) d=g d:=by
 induction ds with
 |nil=>simp at h
 |cons x ds ih=>
  show (if x=d then g x else posOf (ds.map (λd=>(d,g d))) d)=g d
  by_cases e:x=d
  ·rw[ahF e,e]
  ·rw[ahC e];rcases ah4.1 h with h|h
   ·exact absurd h.symm e
   ·exact ih h
def E4 (g:Int->List Int)(ds:List Int):aw (ds.map (λd=>(d,g d)))=ds:=by
 unfold aw;rw[aiA];exact List.map_id ds
theorem F3 (f:Int->Bool)(l:PL):aw (l.filter (λp=>f p.1))=(aw l).filter f:=by
 induction l with
 |nil=>rfl
 |cons p l ih=>
  by_cases hp:f p.1=true
  ·rw[aiI (p:=λp:Int×List Int=>f p.1) hp,sG,sG,aiI hp,ih]
  ·rw[aiE (p:=λp:Int×List Int=>f p.1) hp,sG,aiE hp,ih]
def Z5 {l:PL}{ds:List Int}(hl:lR l)(hd:kI ds):Yg l ds=C4 l ds:=by
 have e1:aw (Yg l ds)=(aw l).filter (λd=>decide (d∈ds)):=F3 (λd=>decide (d∈ds)) l;have e2:aw (C4 l ds)=ds.filter (λd=>decide (d∈aw l)):=E4 _ _;refine Fm ?_ ?_ (λd=>?_) λd h=>?_
 ·show kI (aw (Yg l ds));rw[e1];exact hl.filter _
 ·show kI (aw (C4 l ds));rw[e2];exact hd.filter _
 ·rw[e1,e2,ahU,ahU];simp[and_comm]
 ·rw[e1,ahU] at h;have h2:=ajy h.2;have g1:posOf (Yg l ds) d=posOf l d:=CD hl (λd=>decide (d∈ds)) d h.2;have g2:posOf (C4 l ds) d=posOf l d:=AI (posOf l) _ d (ahU.2 ⟨h2,ahx h.1⟩);rw[g1,g2]
def PZ (l:PL)(ds:List Int)(k:Nat)(h:k<ds.length):C4 l (ds.take (k+1))=C4 l (ds.take k)++(if ds.getD k 0∈aw l then [(ds.getD k 0,posOf l (ds.getD k 0))] else []):=by
 unfold C4;rw[qz ds k (λd=>decide (d∈aw l)) h]
 by_cases hm:ds.getD k 0∈aw l
 ·rw[ahF (zU hm),ahF hm,ahJ];rfl
 ·rw[ahC (zU hm),ahC hm,ahS]
def Tq (l:PL)(ds:List Int):(C4 l ds).length<=ds.length:=by
 unfold C4;rw[ahL];exact ahX _ _
def HH {l:PL}(h:lR l){d e:Int}(hd:d<=e):gX l d<=gX l e:=by
 rcases ahD (gX l e) (gX l d) with h1|h1
 ·exfalso;have hle:=xN l d;have:=(qf h d (gX l e) zO).2 h1;have:=(qf h e (gX l e) zO).1 zO;omega
 ·exact h1
def Ls {l:PL}(h:lR l)(d:Int):d∈aw l↔gX l d<l.length/\(l.getD (gX l d) (0,[])).1=d:=by
 constructor
 ·intro hm;obtain⟨p,hp,e⟩:=ahz.1 hm;obtain⟨j,hj,e2⟩:=jQ (0,[]) hp;have hjd:(l.getD j (0,[])).1=d:=by rw[e2];exact e
  have n1:=qf h d j hj;have:gX l d<=j:=zO;have bp:gX l d<l.length:=zO;refine⟨bp,?_⟩;have n2:=qf h d _ bp;rcases ahD (gX l d) j with h3|h3
  ·have:(aw l).getD (gX l d) 0<(aw l).getD j 0:=qJ h h3 (by simp[aw];omega);have g:∀k,k<l.length->(aw l).getD k 0=(l.getD k (0,[])).1:=λk hk=>by
    simp[aw,ahs,aiD,ahu hk]
   rw[g _ bp,g _ hj] at this;omega
  ·have:gX l d=j:=zO;rw[this];exact hjd
 ·rintro⟨h1,h2⟩;exact ahz.2 ⟨_,sQ l _ (0,[]) h1,h2⟩
def LN {l:PL}(h:lR l){k:Nat}(hk:k<l.length):posOf l (l.getD k (0,[])).1=(l.getD k (0,[])).2:=qS h (sQ l k _ hk)
def my (l:PL)(ds:List Int):PL:=if cC l=true/\jI ds 1 1000000000=true then C4 l ds else []
attribute [-simp] getD_eq_getElem?_getD in
theorem Tp (l:PL)(ds:List Int)(hl:l.length<=1000)(hp:∀p∈l,p.2.length<=1000)(hd:ds.length<=1000)(H:List aA)(T:au)(ta tb:Tag) :
  aq prog 81 [.sl l.length (bD l) ta,.sl ds.length (ints ds) tb] H T (Is (.sl (my l ds).length (bD (my l ds)) .none) H T):=by
 refine aq.bR (aq.mC ?_);refine aq.bK ?_ zS;have jU:1000<=maxLen:=zD;have c1:=jP l zO (λp h=>ahA (hp p h) jU) H T .none;have c2:=iN ds zO H T .none;refine ah 21 [] Tryz.ntmps81 Tryz.func81 rfl (λ_ _=>Tryz.call81 _ _) zS (λHO=>?_);refine af ?_;refine af ?_;refine ae λK1 aN=>?_
 cases hv:cC l with
 |false=>
  rw[hv] at c1;apply ar;refine zQ ?_;refine ai (c1) ?_;refine zQ ?_;apply aC rfl;refine af ?_;refine aI ?_;simp[my,hv,bD]
 |true=>
  rw[hv] at c1
  cases hw:jI ds 1 1000000000 with
  |false=>
   rw[hw] at c2;apply ar;refine zQ ?_;refine ai (c1) ?_;refine zQ ?_;refine ai (c2) ?_;refine zQ ?_;apply aC rfl;refine af ?_;refine aI ?_;simp[my,hw,bD]
  |true=>
   rw[hw] at c2;obtain⟨a1,a2,a3⟩:=de hv;have YF:=iY hw;have hr:my l ds=C4 l ds:=by unfold my;rw[ahF ⟨hv,hw⟩]
   apply ar;refine zQ ?_;refine ai (c1) ?_;refine zQ ?_;refine ai (c2) ?_;refine zQ ?_;apply aB rfl;apply aj;refine zQ ?_;apply aN;clear aN;refine af ?_;refine ae λK1 aN=>?_;refine af ?_;apply ag;refine ki 5 0 2 [] zO zS ?_;refine aG (X:=Nat×Nat) (λx=>⟨[(0,.sl l.length (bD l) .none),(5,.sl (C4 l (ds.take x.1)).length (bD (C4 l (ds.take x.1))) (.own T.length)),(6,.int .i64 (x.2:Nat)),(18,.sl ds.length (ints ds) .none),(19,.int .i64 (ds.length:Nat)),(20,.int .i64 (x.1:Nat))],H,T++[((C4 l (ds.take x.1)).length*2,2)]⟩) (λx=>x.1<=ds.length/\(x.1<ds.length->x.2<=gX l (ds.getD x.1 0))/\x.2<=1000) (λx=>ds.length-x.1) (0,0) ?_ ?_ ?_
   ·exact⟨ahE _,λ_=>ahE _,zS⟩
   ·refine ak [] [] ?_ ?_ ?_ ?_ (HO.fS zS) ?_
    all_goals simp[tJ,C4]
   ·rintro⟨k,at_⟩ ⟨h1,h2,h3⟩;simp only at h1 h2 h3;have hlen:=Tq l (ds.take k);rw[ahW] at hlen;refine af ?_;refine ae λK2 ba=>?_;refine aV rfl (λhk=>?_) (λhk=>?_)
    ·simp  at hk;have hgk:=aS (xs:=ds) (k:=k) hk;have fe:=PZ l ds k hk;have VB:=Ls a1 (ds.getD k 0);have XC:=xN l (ds.getD k 0);have c3:=S3 l at_ (ds.getD k 0) zO a1 (h2 hk) H (T++[((C4 l (ds.take k)).length*2,2)]);have kX:k+1<ds.length->gX l (ds.getD k 0)<=gX l (ds.getD (k+1) 0):=λhh=>HH a1 (Int.le_of_lt (qJ YF zO hh));have hpg:∀m,m<l.length->(l.getD m (0,[])).1=ds.getD k 0->posOf l (ds.getD k 0)=(l.getD m (0,[])).2:=λm hm e=>by rw[<-e];exact LN a1 hm
     generalize C4 l (ds.take k)=out at *;generalize hdd:ds.getD k 0=d at *;generalize gX l d=N at *;apply aj;refine zQ ?_;apply ba;clear ba;refine ae λK3 bH=>?_;apply ag;apply ar;simp(disch:=omega)[hgk,hk];apply ar;refine zQ ?_;refine ai (c3) ?_;refine zQ ?_
     by_cases c1:N<l.length
     ·have b1:decide ((N:Int)<l.length)=true:=by simp;omega
      have gA:=iH l N c1;have zM:=hp _ (sQ l N (0,[]) c1);have aeZ:=hpg N c1;generalize l.getD N (0,[])=p at *
      by_cases c2:p.1=d
      ·have b2:(p.1==d)=true:=by simpa using c2
       have hm:d∈aw l:=VB.2 ⟨c1,c2⟩;rw[ahF hm,aeZ c2] at fe;have ue:=oh out d p.2;have c4:=vf p.2 zO H (T++[(out.length*2,2)]);apply ar;simp(disch:=omega)[b1,c1,gA.1,bc,b2];apply aC rfl;refine br λK hK=>?_;simp(disch:=omega)[gA.2,bc,ue,c1];refine ai (c4) ?_;simp(disch:=omega)[ue,bc];apply hK;apply bH;clear bH;refine aJ ?_;refine⟨(k+1,N),⟨by show k+1<=_;omega,kX,by show N<=1000;omega⟩,by show ds.length-(k+1)<ds.length-k;omega,?_⟩;simp only[fe];exact wk (HO.fS zS)
      ·have b2:(p.1==d)=false:=by simpa using c2
       have hm:¬d∈aw l:=λh=>c2 (VB.1 h).2;rw[ahC hm,ahS] at fe;apply ar;simp(disch:=omega)[b1,c1,gA.1,bc,b2];apply aB rfl;apply aj;refine zQ ?_;apply bH;clear bH;refine aJ ?_;refine⟨(k+1,N),⟨by show k+1<=_;omega,kX,by show N<=1000;omega⟩,by show ds.length-(k+1)<ds.length-k;omega,?_⟩;simp only[fe];exact wk (HO.fS zS)
     ·have b1:decide ((N:Int)<l.length)=false:=by simp;omega
      have hm:¬d∈aw l:=λh=>c1 (VB.1 h).1;rw[ahC hm,ahS] at fe;apply ar;simp(disch:=omega)[b1,c1];apply aB rfl;apply aj;refine zQ ?_;apply bH;clear bH;refine aJ ?_;refine⟨(k+1,N),⟨by show k+1<=_;omega,kX,by show N<=1000;omega⟩,by show ds.length-(k+1)<ds.length-k;omega,?_⟩;simp only[fe];exact wk (HO.fS zS)
    ·simp at hk;have:k=ds.length:=zO;subst this;rw[ahO];apply aD;refine zQ ?_;apply aN;clear aN;refine af ?_;refine aI ?_;rw[hr];exact⟨rfl,rfl⟩
def VL (l:PL):Prop:=cC l=true
def KT {l:PL}(h1:lR l)(h2:∀p∈l,1<=p.1/\p.1<=1000000000)(h3:∀p∈l,p.2≠[]/\kI p.2/\∀q∈p.2,0<=q/\q<=1000000):VL l:=by
 unfold VL cC;rw[ahG];refine⟨lj h1 λq hq=>?_,?_⟩
 ·obtain⟨p,hp,rfl⟩:=ahz.1 hq;exact h2 p hp
 ·have:l.any jl=false:=by
   rw[ajm];intro p hp;obtain⟨g1,g2,g3⟩:=h3 p hp;have e:jI p.2 0 1000000=true:=lj g2 g3;simp[jl,e,g1]
  rw[this];rfl
theorem uB {l:PL}{d z:Int}(h:z∈posOf l d):∃p∈l,p.1=d/\posOf l d=p.2:=by
 induction l with
 |nil=>simp[posOf] at h
 |cons p l ih=>
  by_cases e:p.1=d
  ·subst e;exact⟨p,zS,rfl,df⟩
  ·rw[cM e] at h ⊢;obtain⟨q,g1,g2,g3⟩:=ih h;exact⟨q,by simp[g1],g2,g3⟩
theorem gM {l:PL}(h:VL l)(d:Int):kI (posOf l d):=by
 cases e:posOf l d with
 |nil=>exact List.Pairwise.nil
 |cons z r=>
  obtain⟨p,h1,_,h3⟩:=uB (l:=l) (d:=d) (z:=z) (by rw[e];simp);rw[<-e,h3];exact((de h).2.2 p h1).2.1
def wP {l:PL}(h:VL l)(d:Int):d∈aw l↔∃z,z∈posOf l d:=by
 obtain⟨a1,a2,a3⟩:=de h
 constructor
 ·intro hd;obtain⟨p,hp,rfl⟩:=ahz.1 hd;rw[qS a1 hp];exact aiX _ (a3 p hp).1
 ·rintro⟨z,hz⟩;obtain⟨p,h1,h2,_⟩:=uB hz;exact ahz.2 ⟨p,h1,h2⟩
def Zb {a b:PL}(ha:VL a)(hb:VL b)(h:∀d z,z∈posOf a d↔z∈posOf b d):a=b:=by
 refine Fm (de ha).1 (de hb).1 (λd=>?_) λd _=>jc _ _ (gM ha d) (gM hb d) (h d);rw[wP ha,wP hb];exact exists_congr (h d)
def Au {a b:PL}(ha:VL a)(hb:VL b):jm a b=Nq a b:=by unfold jm;rw[ahF ⟨ha,hb⟩]
def E0 (a b:PL):aw (Nq a b)=jn (aw a) (aw b):=E4 (λd=>jn (posOf a d) (posOf b d)) _
def LL {a b:PL}(ha:VL a)(hb:VL b)(d:Int):posOf (Nq a b) d=jn (posOf a d) (posOf b d):=by
 by_cases h:d∈jn (aw a) (aw b)
 ·exact AI (λd=>jn (posOf a d) (posOf b d)) _ d h
 ·have e:posOf (Nq a b) d=[]:=xR (by rw[show (Nq a b).map (·.1)=aw (Nq a b) from rfl,E0];exact h);rw[p7 (a:=aw a) (b:=aw b) (de ha).1 (de hb).1] at h;have e1:posOf a d=[]:=xR (λhh=>h (.inl hh));have e2:posOf b d=[]:=xR (λhh=>h (.inr hh));rw[e,e1,e2];rfl
def OC {a b:PL}(ha:VL a)(hb:VL b)(d z:Int):z∈posOf (jm a b) d↔z∈posOf a d\/z∈posOf b d:=by
 rw[Au ha hb,LL ha hb,p7 (gM ha d) (gM hb d)]
def Zc {a b:PL}(ha:VL a)(hb:VL b):VL (jm a b):=by
 obtain⟨a1,a2,a3⟩:=de ha;obtain⟨b1,b2,b3⟩:=de hb;rw[Au ha hb];have key:∀d,d∈jn (aw a) (aw b)->d∈aw a\/d∈aw b:=λd hd=>(p7 a1 b1 d).1 hd;refine KT ?_ (λp hp=>?_) λp hp=>?_
 ·show kI (aw (Nq a b));rw[E0];exact xB a1 b1
 ·obtain⟨d,hd,rfl⟩:=ahz.1 hp;rcases key d hd with h|h
  ·obtain⟨q,hq,e⟩:=ahz.1 h;have:=a2 q hq;rw[e] at this;exact this
  ·obtain⟨q,hq,e⟩:=ahz.1 h;have:=b2 q hq;rw[e] at this;exact this
 ·obtain⟨d,hd,rfl⟩:=ahz.1 hp;refine⟨λe=>?_,xB (gM ha d) (gM hb d),λq hq=>?_⟩
  ·have e':jn (posOf a d) (posOf b d)=[]:=e;have nQ:∀z,¬(z∈posOf a d\/z∈posOf b d):=λz hz=>by
    rw[<-p7 (gM ha d) (gM hb d),e'] at hz;simp at hz
   rcases key d hd with h|h
   ·obtain⟨z,hz⟩:=(wP ha d).1 h;exact nQ z (.inl hz)
   ·obtain⟨z,hz⟩:=(wP hb d).1 h;exact nQ z (.inr hz)
  ·rcases (p7 (gM ha d) (gM hb d) q).1 hq with h|h
   ·obtain⟨p,h1,_,h3⟩:=uB h;rw[h3] at h;exact(a3 p h1).2.2 q h
   ·obtain⟨p,h1,_,h3⟩:=uB h;rw[h3] at h;exact(b3 p h1).2.2 q h
section
variable {a b c : PL} (ha : VL a) (hb : VL b) (hc : VL c)
include ha
include hb
include hc
end
end Go.Proofs.YtoejlmpbebjemaaGreat
