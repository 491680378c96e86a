/- slices.DeleteFunc of strings in a box.
  Conditions: lengths, as the theorems say. -/
import Derived.Test.YtoejlmpbebjemaaGreatXStr
import Derived.Test.YtoejlmpbebjemaaGreatGZy
set_option linter.all false
set_option maxRecDepth 100000
set_option maxHeartbeats 8000000
open List (getD_eq_getElem?_getD)
namespace Go.Proofs.YtoejlmpbebjemaaGreat
open Go Go.Am ie cN eN
def qd (l:List Bs):(strs l).length=l.length:=by simp[strs]
def Pe (l:List Bs)(i:Nat)(x:Bs):(strs l).set i (.str x)=strs (l.set i x):=by unfold strs;rw[List.map_set]
def Jc (l:List Bs)(i:Nat)(h:i<l.length):(strs l).getD i .top=.str (l.getD i []):=by
 simp[strs,ahs,aiD,ahu h]
def Dh (p:Bs->Bool)(l:List Bs):Int:=if l.any p=true then (l.findIdx p:Nat) else -1
def TQ {p:Bs->Bool}{l:List Bs}(h:∀j,j<l.length->p (l.getD j [])=false):Dh p l=-1:=by
 unfold Dh;rw[ahC];rw[ai6];rintro⟨x,hx,hp⟩;obtain⟨i,hi,rfl⟩:=bP [] hx;rw[h i hi] at hp;cases hp
def TS {p:Bs->Bool}{l:List Bs}{k:Nat}(hk:k<l.length)(h:∀j,j<k->p (l.getD j [])=false)(e:p (l.getD k [])=true):Dh p l=k:=by
 have g:∀j (hj:j<l.length),l.getD j []=l[j]:=λj hj=>by rw[ahs,ahu hj];rfl
 rw[g k hk] at e;unfold Dh;rw[ahF (ai6.2 ⟨_,ah2 hk,e⟩)];have:l.findIdx p=k:=by
  rw[List.findIdx_eq hk];refine⟨e,λj hj=>?_⟩;have:=h j hj;rw[g j zO] at this;exact this
 rw[this]
def Qg (p:Bs->Bool)(l:List Bs):(Dh p l=-1/\∀d∈l,p d=false)\/∃k,k<l.length/\Dh p l=(k:Nat)/\(∀j,j<k->p (l.getD j [])=false)/\p (l.getD k [])=true:=by
 unfold Dh
 by_cases h:l.any p=true
 ·right
  rw[ahF h];obtain⟨x,hx,hp⟩:=ai6.1 h;have bp:l.findIdx p<l.length:=List.findIdx_lt_length.2 ⟨x,hx,hp⟩;have g:∀j (hj:j<l.length),l.getD j []=l[j]:=λj hj=>by rw[ahs,ahu hj];rfl
  refine⟨_,bp,rfl,λj hj=>?_,?_⟩
  ·rw[g j zO];have:=List.not_of_lt_findIdx hj;simpa using this
  ·rw[g _ bp];exact List.findIdx_getElem
 ·left
  rw[ahC h];refine⟨rfl,λd hd=>?_⟩;have:=ajm.1 (by simpa using h:l.any p=false) d hd;simpa using this
attribute [-simp] getD_eq_getElem?_getD in
theorem H9 (p:Bs->Bool)(l:List Bs)(hl:l.length<=1000000)(g:FuncId)(cF R:List AV)(J:List aA)(T:au)(i:Nat)(ry:aL J.length T.length cF)(hJ:J[i]?=some (.cells (strs l++R)))
  (hc:∀d∈l,aq Tryz.prog g ([.str d]++cF) J T (Is (.bool (p d)) J T)) :
  aq Tryz.prog 160 [.cV i 0 l.length,.fn g [] cF] J T (Is (.int .i64 (Dh p l)) J T):=by
 have jY:l.length<=9223372036854775807:=zO;have li:=(aht.1 hJ).1;have ei:=aZ hJ;refine ah 9 [] Tryz.ntmps160 Tryz.func160 rfl (λ_ _=>Tryz.call160 _ _) zS (λHO=>?_);refine af ?_;refine ae λK1 aN=>?_;refine af ?_;apply ag;refine aG (X:=Nat) (λk=>⟨[(0,.cV i 0 l.length),(1,.fn g [] cF),(7,.int .i64 (l.length:Nat)),(8,.int .i64 (k:Nat))],J,T⟩) (λk=>k<=l.length/\∀j,j<k->p (l.getD j [])=false) (λk=>l.length-k) 0 ?_ ?_ ?_
 ·exact⟨ahE _,λj hj=>absurd hj (ahT _)⟩
 ·refine ak [] [] ?_ ?_ ?_ ?_ HO ?_
  all_goals simp[li]
  all_goals exact ry
 ·rintro k ⟨h1,h2⟩;refine af ?_;refine ae λK2 ba=>?_;refine aV rfl (λhk=>?_) (λhk=>?_)
  ·simp  at hk;have bB:(strs l++R).getD k .top=.str (l.getD k []):=by
    rw[ahs,ahB (by rw[qd];exact hk),<-getD_eq_getElem?_getD];exact Jc l k hk
   have c:=hc _ (aQ l k [] hk);have gA:=λh e=>TS hk h e (p:=p);have st:p (l.getD k [])=false->∀j,j<k+1->p (l.getD j [])=false:=λe j hj=>by
    rcases ahD j k with h3|h3
    ·exact h2 j h3
    ·have:j=k:=zO;subst this;exact e
   have hlen:=qd l;have gy:k<l.length+R.length:=zO;apply aj;refine zQ ?_;apply ba;clear ba;refine ae λK3 bH=>?_;apply ag;refine af ?_
   cases hp:p (l.getD k []) with
   |true=>
    have hi:=gA h2 hp;rw[hp] at c;generalize l.getD k []=x at *;apply ar;simp(disch:=omega)[bB,hlen,hk,li,ei,gy];refine ai (c) ?_;refine zQ ?_;apply aC rfl;refine af ?_;refine aI ?_;rw[hi];exact⟨rfl,rfl,rfl⟩
   |false=>
    have st2:=st hp;rw[hp] at c;generalize l.getD k []=x at *;apply ar;simp(disch:=omega)[bB,hlen,hk,li,ei,gy];refine ai (c) ?_;refine zQ ?_;apply aB rfl;apply aj;refine zQ ?_;apply bH;clear bH;refine aJ ?_;refine⟨k+1,⟨zO,st2⟩,zO,?_⟩;refine ak [] [] ?_ ?_ ?_ ?_ HO ?_
    all_goals simp[li]
    all_goals exact ry
  ·simp  at hk;have e:k=l.length:=zO;subst e;apply aD;refine zQ ?_;apply aN;clear aN;refine af ?_;refine aI ?_;rw[TQ h2];exact⟨rfl,rfl,rfl⟩
def nT (p:Bs->Bool)(l:List Bs)(j:Nat):List Bs:=(l.take j).filter λd=>!p d
def G9 (p:Bs->Bool)(l:List Bs)(j:Nat):(nT p l j).length<=j:=by
 unfold nT;have:=ahX (λd=>!p d) (l.take j);rw[ahW] at this;omega
def wW (p:Bs->Bool)(l:List Bs)(j:Nat):List Bs:=nT p l j++l.drop (nT p l j).length
def SM (p:Bs->Bool)(l:List Bs){j:Nat}(hj:j<=l.length):(wW p l j).length=l.length:=by
 have:=G9 p l j;rw[wW,ahw,aii];omega
def SN {p:Bs->Bool}{l:List Bs}{j:Nat}:(wW p l j).getD j []=l.getD j []:=by
 have:=G9 p l j;rw[wW,ahs,ahP this,aja,show (nT p l j).length+(j-(nT p l j).length)=j by omega,<-getD_eq_getElem?_getD]
def Cd {p:Bs->Bool}{l:List Bs}{j:Nat}(hj:j<l.length)(h:p (l.getD j [])=true):nT p l (j+1)=nT p l j:=by
 unfold nT;rw[aX l j [] hj,aij];simp[h,-getD_eq_getElem?_getD]
def OO {p:Bs->Bool}{l:List Bs}{j:Nat}(hj:j<l.length)(h:p (l.getD j [])=false):nT p l (j+1)=nT p l j++[l.getD j []]:=by
 unfold nT;rw[aX l j [] hj,aij];simp[h,-getD_eq_getElem?_getD]
def SL {p:Bs->Bool}{l:List Bs}{j:Nat}(hj:j<l.length)(h:p (l.getD j [])=true):wW p l (j+1)=wW p l j:=by
 rw[wW,wW,Cd hj h]
def WI {p:Bs->Bool}{l:List Bs}{j:Nat}(hj:j<l.length)(h:p (l.getD j [])=false):wW p l (j+1)=(wW p l j).set (nT p l j).length (l.getD j []):=by
 have hl:=G9 p l j;rw[wW,wW,OO hj h,ai2 _ _ (ahv _),aiT,ahw,ahM]
 congr 1
 rw[aiW (by omega:(nT p l j).length<l.length)];rfl
def Me {p:Bs->Bool}{l:List Bs}{k:Nat}(hk:k<=l.length)(h:∀j,j<k->p (l.getD j [])=false):nT p l k=l.take k:=by
 unfold nT;rw[ai4];intro d hd;obtain⟨i,hi,e⟩:=bP [] hd;rw[ahW] at hi;have h2:=h i zO;have e2:(l.take k).getD i []=l.getD i []:=by rw[ahs,ahs,aim,ahF zO]
 rw[e2] at e;rw[<-e,h2];rfl
def TK (p:Bs->Bool)(l:List Bs):nT p l l.length=l.filter λd=>!p d:=by unfold nT;rw[ahO]
attribute [-simp] getD_eq_getElem?_getD in
theorem Ij (p:Bs->Bool)(l:List Bs)(hl:l.length<=1000000)(g:FuncId)(cF R:List AV)(J:List aA)(T:au)(i:Nat)(ry:aL J.length T.length cF)(hR:aL J.length T.length R)(hJ:J[i]?=some (.cells (strs l++R)))
  (hc:∀d∈l,∀vs,aq Tryz.prog g ([.str d]++cF) (J.set i (.cells vs)) T (Is (.bool (p d)) (J.set i (.cells vs)) T)) :
  aq Tryz.prog 96 [.cV i 0 l.length,.fn g [] cF] J T
   (λr H' T'=>r=.cV i 0 (l.filter λd=>!p d).length/\T'=T/\∃rest,H'=J.set i (.cells (strs (l.filter λd=>!p d)++rest))):=by
 have jY:l.length<=9223372036854775807:=zO;have li:=(aht.1 hJ).1;have ei:=aZ hJ;have Og:J.set i (.cells (strs l++R))=J:=by
  apply ajn;intro k;rw[aj9]
  split
  ·rename_i h;subst h;rw[hJ]
  ·rfl
 have ci:=H9 p l hl g cF R J T i ry hJ (λd hd=>by have:=hc d hd (strs l++R);rwa [Og] at this);refine ah 10 [] Tryz.ntmps96 Tryz.func96 rfl (λ_ _=>Tryz.call96 _ _) zS (λHO=>?_);refine af ?_;rcases Qg p l with⟨e,nQ⟩|⟨k,hk,e,bp,Wa⟩
 ·rw[e] at ci;have hf:l.filter (λd=>!p d)=l:=by
   rw[ai4];intro d hd;rw[nQ d hd];rfl
  apply ar;refine zQ ?_;refine ai (ci) ?_;refine zQ ?_;apply hY;refine af ?_;apply aC rfl;refine af ?_;refine aI ?_;rw[hf];exact⟨rfl,R,Og.symm⟩
 rw[e] at ci;have RM:((k:Nat):Int)≠-1:=zO;have bk:(((k:Nat):Int)==-1)=false:=zS;apply ar;refine zQ ?_;refine ai (ci) ?_;refine zQ ?_;refine ae λK1 aN=>?_;apply ar;simp(disch:=omega)[bk];apply aB rfl;apply aj;refine zQ ?_;apply aN;clear aN;refine ae λK1 aN=>?_;have Gx:nT p l k=l.take k:=Me zO bp;have eL:nT p l (k+1)=l.take k:=by rw[Cd hk Wa,Gx]
 have wX:(nT p l (k+1)).length=k:=by rw[eL,ahW];omega
 have hk4:wW p l (k+1)=l:=by rw[wW,wX,eL,ah1]
 have RV:∀j,bM (J.set i (.cells (strs (wW p l j)++R))) T:=λj=>HO.set (λv hv=>by
  rcases ahI.1 hv with h|h
  ·exact(Iz:aL J.length T.length (strs (wW p l j))) v h
  ·exact hR v h)
 refine af ?_;apply ag;refine aG (X:=Nat) (λj=>⟨[(0,.cV i 0 l.length),(1,.fn g [] cF),(5,.int .i64 ((nT p l (k+1+j)).length:Nat)),(6,.int .i64 ((k+1+j:Nat):Int))],J.set i (.cells (strs (wW p l (k+1+j))++R)),T⟩)
  (λj=>k+1+j<=l.length/\(nT p l (k+1+j)).length<k+1+j) (λj=>l.length-(k+1+j)) 0 ?_ ?_ ?_
 ·exact⟨hk,by rw[ajW,wX];omega⟩
 ·refine ak [] [] ?_ ?_ ?_ ?_ (RV _) ?_
  all_goals simp[wX,hk4,Og,li]
  all_goals exact ry
 ·rintro j ⟨h1,h2⟩;obtain⟨q,hq⟩:∃q,q=k+1+j:=⟨_,rfl⟩
  have pW:∀P:Nat->Prop,P (q+1)->P (k+1+(j+1)):=λP h=>by rw[hq] at h;exact h
  rw[<-hq] at h1 h2 ⊢;have qC:=SM p l h1;have hlen:(strs (wW p l q)).length=l.length:=by rw[qd,qC]
  refine ae λK2 ba=>?_;refine af ?_;refine aV rfl (λhj=>?_) (λhj=>?_)
  ·simp  at hj;have bB:(strs (wW p l q)++R).getD q .top=.str (l.getD q []):=by
    rw[ahs,ahB (by rw[hlen];exact hj),<-getD_eq_getElem?_getD,Jc _ _ zO,SN]
   have c:=hc _ (aQ l q [] hj) (strs (wW p l q)++R);have hOi:=RV q;have hql:q<l.length+R.length:=zO;apply aj;refine zQ ?_;apply ba;clear ba;refine ae λK3 bH=>?_;apply ag;have out:∀(i':Nat) e,i'=q+1->(nT p l i').length<i'->bA J.length T.length e [(0,.cV i 0 l.length),(1,.fn g [] cF),(5,.int .i64 ((nT p l i').length:Nat)),(6,.int .i64 ((q:Nat):Int))]->K3 ⟨e,J.set i (.cells (strs (wW p l i')++R)),T⟩:=by
    intro i' e jf kZ he;refine bH _ (aF ⟨[(0,.cV i 0 l.length),(1,.fn g [] cF),(5,.int .i64 ((nT p l i').length:Nat)),(6,.int .i64 ((q:Nat):Int))],J.set i (.cells (strs (wW p l i')++R)),T⟩ (wk (RV _) (zU he)) ?_);refine aJ ?_;refine⟨j+1,⟨by show k+1+(j+1)<=_;omega,?_⟩,by show l.length-(k+1+(j+1))<l.length-q;omega,?_⟩
    ·refine pW (λx=>(nT p l x).length<x) ?_;rw[<-jf];exact kZ
    ·have e1:k+1+(j+1)=i':=zO;have e2:((i':Nat):Int)=(q:Nat)+1:=zO;simp only[e1];refine ak [] [] ?_ ?_ ?_ ?_ (RV _) ?_
     all_goals simp[e2,li]
     all_goals exact ry
   clear bH;apply ar;simp(disch:=omega)[bB,hlen,hj,li,hql]
   cases hp:p (l.getD q []) with
   |true=>
    rw[hp] at c;have e1:=Cd hj hp;have e2:=SL hj hp;have out:=λe=>out (q+1) e rfl (by rw[e1];omega);rw[e1,e2] at out;generalize l.getD q []=x at *;apply ar;refine zQ ?_;refine ai (c) ?_;refine zQ ?_;apply aB rfl;apply aj;refine zQ ?_;refine out _ ?_;simp[li];exact ry
   |false=>
    rw[hp] at c;have e1:=OO hj hp;have e2:=WI hj hp;have e3:(nT p l (q+1)).length=(nT p l q).length+1:=by rw[e1];simp
    have out:=λe=>out (q+1) e rfl (by rw[e3];omega);rw[e3,e2,<-Pe] at out;have Wm:(nT p l q).length<l.length:=zO;have afa:(nT p l q).length+1<=l.length+R.length:=zO;generalize l.getD q []=x at *;generalize (nT p l q).length=m at *;apply ar;refine zQ ?_;refine ai (c) ?_;refine zQ ?_;apply aC rfl;apply ar;simp(disch:=omega)[Wm,afa,hlen,li];refine aJ ?_;refine out _ ?_;simp[li];exact ry
  ·simp  at hj;have e:q=l.length:=zO;have hw:wW p l q=nT p l q++l.drop (nT p l q).length:=rfl;have Rf:nT p l q=l.filter λd=>!p d:=by rw[e,TK]
   rw[hw,<-vH] at hlen ⊢;have XS:=qd (nT p l q);have nJ:=λxs=>ua (strs (nT p l q)) xs (strs (l.drop (nT p l q).length)++R) 0;rw[XS,ajW] at nJ;have hle:(nT p l q).length<=l.length:=zO;have gg:(nT p l q).length<l.length:=zO;generalize nT p l q=c at hlen XS nJ h2 Rf hle gg ⊢;rw[ahM];generalize hE:strs (l.drop c.length)=E at hlen nJ ⊢;have YS:E.length=l.length-c.length:=by rw[<-hE,qd,aii]
   apply aD;refine zQ ?_;apply aN;clear aN;apply ar;simp(disch:=omega)[gg,hlen,li,XS,YS];rw[nJ];apply ar;simp(disch:=omega)[hle,li];refine aI ?_;rw[Rf];exact⟨rfl,_,rfl⟩
end Go.Proofs.YtoejlmpbebjemaaGreat
