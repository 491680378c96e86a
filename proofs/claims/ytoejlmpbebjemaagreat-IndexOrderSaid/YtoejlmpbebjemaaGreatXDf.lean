/- slices.DeleteFunc of strings in a box.
  Conditions: lengths, as the theorems say. -/
import Derived.Test.YtoejlmpbebjemaaGreatXStr
import Derived.Test.YtoejlmpbebjemaaGreatGZy
set_option linter.all false
set_option maxRecDepth 100000
set_option maxHeartbeats 8000000
open List (getD_eq_getElem?_getD)
namespace Go.Proofs.YtoejlmpbebjemaaGreat
open Go Go.Am ia cO eN
def pG (l:List Bs):(strs l).length=l.length:=by simp[strs]
def OC (l:List Bs)(i:Nat)(x:Bs):(strs l).set i (.str x)=strs (l.set i x):=by unfold strs;rw[List.map_set]
def IB (l:List Bs)(i:Nat)(h:i<l.length):(strs l).getD i .top=.str (l.getD i []):=by
 simp[strs,agB,ahJ,agD h]
def CE (p:Bs->Bool)(l:List Bs):Int:=if l.any p=true then (l.findIdx p:Nat) else -1
def SY {p:Bs->Bool}{l:List Bs}(h:∀j,j<l.length->p (l.getD j [])=false):CE p l=-1:=by
 unfold CE;rw[agL];rw[aij];rintro⟨x,hx,hp⟩;obtain⟨i,hi,rfl⟩:=bK [] hx;rw[h i hi] at hp;cases hp
def SZ {p:Bs->Bool}{l:List Bs}{k:Nat}(hk:k<l.length)(h:∀j,j<k->p (l.getD j [])=false)(e:p (l.getD k [])=true):CE p l=k:=by
 have g:∀j (hj:j<l.length),l.getD j []=l[j]:=λj hj=>by rw[agB,agD hj];rfl
 rw[g k hk] at e;unfold CE;rw[agN (aij.2 ⟨_,ahb hk,e⟩)];have:l.findIdx p=k:=by
  rw[List.findIdx_eq hk];refine⟨e,λj hj=>?_⟩;have:=h j hj;rw[g j (by omega)] at this;exact this
 rw[this]
def PB (p:Bs->Bool)(l:List Bs):(CE p l=-1/\∀d∈l,p d=false)\/∃k,k<l.length/\CE p l=(k:Nat)/\(∀j,j<k->p (l.getD j [])=false)/\p (l.getD k [])=true:=by
 unfold CE
 by_cases h:l.any p=true
 ·right
  rw[agN h];obtain⟨x,hx,hp⟩:=aij.1 h;have aZ:l.findIdx p<l.length:=List.findIdx_lt_length.2 ⟨x,hx,hp⟩;have g:∀j (hj:j<l.length),l.getD j []=l[j]:=λj hj=>by rw[agB,agD hj];rfl
  refine⟨_,aZ,rfl,λj hj=>?_,?_⟩
  ·rw[g j (by omega)];have:=List.not_of_lt_findIdx hj;simpa using this
  ·rw[g _ aZ];exact List.findIdx_getElem
 ·left
  rw[agL h];refine⟨rfl,λd hd=>?_⟩;have:=aiv.1 (by simpa using h:l.any p=false) d hd;simpa using this
attribute [-simp] getD_eq_getElem?_getD in
theorem Hu (p:Bs->Bool)(l:List Bs)(hl:l.length<=1000000)(g:FuncId)(cz R:List AV)(J:List aA)(T:au)(i:Nat)(qL:aM J.length T.length cz)(hJ:J[i]?=some (.cells (strs l++R)))
  (hc:∀d∈l,ar Tryz.prog g ([.str d]++cz) J T (Is (.bool (p d)) J T)) :
  ar Tryz.prog 160 [.cN i 0 l.length,.fn g [] cz] J T (Is (.int .i64 (CE p l)) J T):=by
 have jJ:l.length<=9223372036854775807:=by omega
 have li:=(agC.1 hJ).1;have ei:=aX hJ;refine ah 9 [] Tryz.ntmps160 Tryz.func160 rfl (λ_ _=>Tryz.call160 _ _) (by simp) (λHO=>?_);apply ae;intro K Z;simp(disch:=omega);apply Z;refine af λK1 aP=>?_;apply ae;intro K Z;simp(disch:=omega);apply Z;apply aj;refine aJ (X:=Nat) (λk=>⟨[(0,.cN i 0 l.length),(1,.fn g [] cz),(7,.int .i64 (l.length:Nat)),(8,.int .i64 (k:Nat))],J,T⟩) (λk=>k<=l.length/\∀j,j<k->p (l.getD j [])=false) (λk=>l.length-k) 0 ?_ ?_ ?_
 ·exact⟨agP _,λj hj=>absurd hj (ag9 _)⟩
 ·refine ag [] [] ?_ ?_ ?_ ?_ HO ?_
  all_goals simp[li]
  all_goals exact qL
 ·rintro k ⟨h1,h2⟩;apply ae;intro K Z;simp(disch:=omega);apply Z;refine af λK2 bp=>?_;refine aU rfl (λhk=>?_) (λhk=>?_)
  ·simp  at hk;have bu:(strs l++R).getD k .top=.str (l.getD k []):=by
    rw[agB,agK (by rw[pG];exact hk),<-getD_eq_getElem?_getD];exact IB l k hk
   have c:=hc _ (aT l k [] hk);have jl:=λh e=>SZ hk h e (p:=p);have st:p (l.getD k [])=false->∀j,j<k+1->p (l.getD j [])=false:=λe j hj=>by
    rcases agM j k with h3|h3
    ·exact h2 j h3
    ·have:j=k:=by omega
     subst this;exact e
   have hlen:=pG l;have gO:k<l.length+R.length:=by omega
   apply aq;simp(disch:=omega) ;apply bp;clear bp;refine af λK3 bG=>?_;apply aj;apply ae;intro K Z;simp(disch:=omega);apply Z
   cases hp:p (l.getD k []) with
   |true=>
    have hi:=jl h2 hp;rw[hp] at c;generalize l.getD k []=x at *;refine ae λK hK=>?_;simp(disch:=omega)[bu,hlen,hk,li,ei,gO];refine ak (c) ?_;simp(disch:=omega) ;apply hK;apply aH rfl;apply ae;intro K Z;simp(disch:=omega);apply Z;apply az;simp(disch:=omega) ;rw[hi];exact⟨rfl,rfl,rfl⟩
   |false=>
    have st2:=st hp;rw[hp] at c;generalize l.getD k []=x at *;refine ae λK hK=>?_;simp(disch:=omega)[bu,hlen,hk,li,ei,gO];refine ak (c) ?_;simp(disch:=omega) ;apply hK;apply aF rfl;apply aq;simp(disch:=omega) ;apply bG;clear bG;refine aC λK hK=>?_;simp(disch:=omega) ;apply hK;refine⟨k+1,⟨by omega,st2⟩,by omega,?_⟩;refine ag [] [] ?_ ?_ ?_ ?_ HO ?_
    all_goals simp[li]
    all_goals exact qL
  ·simp  at hk;have e:k=l.length:=by omega
   subst e;apply aG;simp(disch:=omega) ;apply aP;clear aP;apply ae;intro K Z;simp(disch:=omega);apply Z;apply az;simp(disch:=omega) ;rw[SY h2];exact⟨rfl,rfl,rfl⟩
def nu (p:Bs->Bool)(l:List Bs)(j:Nat):List Bs:=(l.take j).filter λd=>!p d
def Gt (p:Bs->Bool)(l:List Bs)(j:Nat):(nu p l j).length<=j:=by
 unfold nu;have:=ahf (λd=>!p d) (l.take j);rw[ag5] at this;omega
def wz (p:Bs->Bool)(l:List Bs)(j:Nat):List Bs:=nu p l j++l.drop (nu p l j).length
def RQ (p:Bs->Bool)(l:List Bs){j:Nat}(hj:j<=l.length):(wz p l j).length=l.length:=by
 have:=Gt p l j;rw[wz,agF,ahp];omega
def RR {p:Bs->Bool}{l:List Bs}{j:Nat}:(wz p l j).getD j []=l.getD j []:=by
 have:=Gt p l j;rw[wz,agB,agX this,aii,show (nu p l j).length+(j-(nu p l j).length)=j by omega,<-getD_eq_getElem?_getD]
def By {p:Bs->Bool}{l:List Bs}{j:Nat}(hj:j<l.length)(h:p (l.getD j [])=true):nu p l (j+1)=nu p l j:=by
 unfold nu;rw[aV l j [] hj,aht];simp[h,-getD_eq_getElem?_getD]
def N5 {p:Bs->Bool}{l:List Bs}{j:Nat}(hj:j<l.length)(h:p (l.getD j [])=false):nu p l (j+1)=nu p l j++[l.getD j []]:=by
 unfold nu;rw[aV l j [] hj,aht];simp[h,-getD_eq_getElem?_getD]
def RP {p:Bs->Bool}{l:List Bs}{j:Nat}(hj:j<l.length)(h:p (l.getD j [])=true):wz p l (j+1)=wz p l j:=by
 rw[wz,wz,By hj h]
def VT {p:Bs->Bool}{l:List Bs}{j:Nat}(hj:j<l.length)(h:p (l.getD j [])=false):wz p l (j+1)=(wz p l j).set (nu p l j).length (l.getD j []):=by
 have hl:=Gt p l j;rw[wz,wz,N5 hj h,aib _ _ (agE _),ah1,agF,agV]
 congr 1
 rw[ah5 (by omega:(nu p l j).length<l.length)];rfl
def Lx {p:Bs->Bool}{l:List Bs}{k:Nat}(hk:k<=l.length)(h:∀j,j<k->p (l.getD j [])=false):nu p l k=l.take k:=by
 unfold nu;rw[aid];intro d hd;obtain⟨i,hi,e⟩:=bK [] hd;rw[ag5] at hi;have h2:=h i (by omega);have e2:(l.take k).getD i []=l.getD i []:=by rw[agB,agB,ahu,agN (by omega)]
 rw[e2] at e;rw[<-e,h2];rfl
def SQ (p:Bs->Bool)(l:List Bs):nu p l l.length=l.filter λd=>!p d:=by unfold nu;rw[agZ]
attribute [-simp] getD_eq_getElem?_getD in
theorem HD (p:Bs->Bool)(l:List Bs)(hl:l.length<=1000000)(g:FuncId)(cz R:List AV)(J:List aA)(T:au)(i:Nat)(qL:aM J.length T.length cz)(hR:aM J.length T.length R)(hJ:J[i]?=some (.cells (strs l++R)))
  (hc:∀d∈l,∀vs,ar Tryz.prog g ([.str d]++cz) (J.set i (.cells vs)) T (Is (.bool (p d)) (J.set i (.cells vs)) T)) :
  ar Tryz.prog 96 [.cN i 0 l.length,.fn g [] cz] J T
   (λr H' T'=>r=.cN i 0 (l.filter λd=>!p d).length/\T'=T/\∃rest,H'=J.set i (.cells (strs (l.filter λd=>!p d)++rest))):=by
 have jJ:l.length<=9223372036854775807:=by omega
 have li:=(agC.1 hJ).1;have ei:=aX hJ;have Ny:J.set i (.cells (strs l++R))=J:=by
  apply aiw;intro k;rw[aji]
  split
  ·rename_i h;subst h;rw[hJ]
  ·rfl
 have ci:=Hu p l hl g cz R J T i qL hJ (λd hd=>by have:=hc d hd (strs l++R);rwa [Ny] at this);refine ah 10 [] Tryz.ntmps96 Tryz.func96 rfl (λ_ _=>Tryz.call96 _ _) (by simp) (λHO=>?_);apply ae;intro K Z;simp(disch:=omega);apply Z;rcases PB p l with⟨e,oh⟩|⟨k,hk,e,aZ,Vn⟩
 ·rw[e] at ci;have hf:l.filter (λd=>!p d)=l:=by
   rw[aid];intro d hd;rw[oh d hd];rfl
  refine ae λK hK=>?_;simp(disch:=omega) ;refine ak (ci) ?_;simp(disch:=omega) ;apply hK;refine af λK1 aP=>?_;apply ae;intro K Z;simp(disch:=omega);apply Z;apply aH rfl;apply ae;intro K Z;simp(disch:=omega);apply Z;apply az;simp(disch:=omega) ;rw[hf];exact⟨rfl,R,Ny.symm⟩
 rw[e] at ci;have QW:((k:Nat):Int)≠-1:=by omega
 have bk:(((k:Nat):Int)==-1)=false:=by simp
 refine ae λK hK=>?_;simp(disch:=omega) ;refine ak (ci) ?_;simp(disch:=omega) ;apply hK;refine af λK1 aP=>?_;refine ae λK hK=>?_;simp(disch:=omega)[bk];apply hK;apply aF rfl;apply aq;simp(disch:=omega) ;apply aP;clear aP;refine af λK1 aP=>?_;have FU:nu p l k=l.take k:=Lx (by omega) aZ;have fX:nu p l (k+1)=l.take k:=by rw[By hk Vn,FU]
 have yx:(nu p l (k+1)).length=k:=by rw[fX,ag5];omega
 have hk4:wz p l (k+1)=l:=by rw[wz,yx,fX,ag7]
 have Q3:∀j,bN (J.set i (.cells (strs (wz p l j)++R))) T:=λj=>HO.set (λv hv=>by
  rcases agR.1 hv with h|h
  ·exact(HT:aM J.length T.length (strs (wz p l j))) v h
  ·exact hR v h)
 apply ae;intro K Z;simp(disch:=omega);apply Z;apply aj;refine aJ (X:=Nat) (λj=>⟨[(0,.cN i 0 l.length),(1,.fn g [] cz),(5,.int .i64 ((nu p l (k+1+j)).length:Nat)),(6,.int .i64 ((k+1+j:Nat):Int))],J.set i (.cells (strs (wz p l (k+1+j))++R)),T⟩)
  (λj=>k+1+j<=l.length/\(nu p l (k+1+j)).length<k+1+j) (λj=>l.length-(k+1+j)) 0 ?_ ?_ ?_
 ·exact⟨hk,by rw[ai3,yx];omega⟩
 ·refine ag [] [] ?_ ?_ ?_ ?_ (Q3 _) ?_
  all_goals simp[yx,hk4,Ny,li]
  all_goals exact qL
 ·rintro j ⟨h1,h2⟩;obtain⟨q,hq⟩:∃q,q=k+1+j:=⟨_,rfl⟩
  have px:∀P:Nat->Prop,P (q+1)->P (k+1+(j+1)):=λP h=>by rw[hq] at h;exact h
  rw[<-hq] at h1 h2 ⊢;have sa:=RQ p l h1;have hlen:(strs (wz p l q)).length=l.length:=by rw[pG,sa]
  refine af λK2 bp=>?_;apply ae;intro K Z;simp(disch:=omega);apply Z;refine aU rfl (λhj=>?_) (λhj=>?_)
  ·simp  at hj;have bu:(strs (wz p l q)++R).getD q .top=.str (l.getD q []):=by
    rw[agB,agK (by rw[hlen];exact hj),<-getD_eq_getElem?_getD,IB _ _ (by omega),RR]
   have c:=hc _ (aT l q [] hj) (strs (wz p l q)++R);have hOi:=Q3 q;have hql:q<l.length+R.length:=by omega
   apply aq;simp(disch:=omega) ;apply bp;clear bp;refine af λK3 bG=>?_;apply aj;have out:∀(i':Nat) e,i'=q+1->(nu p l i').length<i'->bC J.length T.length e [(0,.cN i 0 l.length),(1,.fn g [] cz),(5,.int .i64 ((nu p l i').length:Nat)),(6,.int .i64 ((q:Nat):Int))]->K3 ⟨e,J.set i (.cells (strs (wz p l i')++R)),T⟩:=by
    intro i' e iP kr he;refine bG _ (aI ⟨[(0,.cN i 0 l.length),(1,.fn g [] cz),(5,.int .i64 ((nu p l i').length:Nat)),(6,.int .i64 ((q:Nat):Int))],J.set i (.cells (strs (wz p l i')++R)),T⟩ (ag [] [] (by simp) (by simp) (by simp) (by simp) (Q3 _) (by simpa using he)) ?_);refine aC λK hK=>?_;simp(disch:=omega) ;apply hK;refine⟨j+1,⟨by show k+1+(j+1)<=_;omega,?_⟩,by show l.length-(k+1+(j+1))<l.length-q;omega,?_⟩
    ·refine px (λx=>(nu p l x).length<x) ?_;rw[<-iP];exact kr
    ·have e1:k+1+(j+1)=i':=by omega
     have e2:((i':Nat):Int)=(q:Nat)+1:=by omega
     simp only[e1];refine ag [] [] ?_ ?_ ?_ ?_ (Q3 _) ?_
     all_goals simp[e2,li]
     all_goals exact qL
   clear bG;refine ae λK hK=>?_;simp(disch:=omega)[bu,hlen,hj,li,hql];apply hK
   cases hp:p (l.getD q []) with
   |true=>
    rw[hp] at c;have e1:=By hj hp;have e2:=RP hj hp;have out:=λe=>out (q+1) e rfl (by rw[e1];omega);rw[e1,e2] at out;generalize l.getD q []=x at *;refine ae λK hK=>?_;simp(disch:=omega) ;refine ak (c) ?_;simp(disch:=omega) ;apply hK;apply aF rfl;apply aq;simp(disch:=omega) ;refine out _ ?_;simp[li];exact qL
   |false=>
    rw[hp] at c;have e1:=N5 hj hp;have e2:=VT hj hp;have e3:(nu p l (q+1)).length=(nu p l q).length+1:=by rw[e1];simp
    have out:=λe=>out (q+1) e rfl (by rw[e3];omega);rw[e3,e2,<-OC] at out;have Vv:(nu p l q).length<l.length:=by omega
    have ael:(nu p l q).length+1<=l.length+R.length:=by omega
    generalize l.getD q []=x at *;generalize (nu p l q).length=m at *;refine ae λK hK=>?_;simp(disch:=omega) ;refine ak (c) ?_;simp(disch:=omega) ;apply hK;apply aH rfl;refine ae λK hK=>?_;simp(disch:=omega)[Vv,ael,hlen,li];apply hK;refine aC λK hK=>?_;simp(disch:=omega) ;apply hK;refine out _ ?_;simp[li];exact qL
  ·simp  at hj;have e:q=l.length:=by omega
   have hw:wz p l q=nu p l q++l.drop (nu p l q).length:=rfl;have WV:nu p l q=l.filter λd=>!p d:=by rw[e,SQ]
   rw[hw,<-vf] at hlen ⊢;have W2:=pG (nu p l q);have mU:=λxs=>tC (strs (nu p l q)) xs (strs (l.drop (nu p l q).length)++R) 0;rw[W2,ai3] at mU;have hle:(nu p l q).length<=l.length:=by omega
   have gC:(nu p l q).length<l.length:=by omega
   generalize nu p l q=c at hlen W2 mU h2 WV hle gC ⊢;rw[agV];generalize hE:strs (l.drop c.length)=E at hlen mU ⊢;have X5:E.length=l.length-c.length:=by rw[<-hE,pG,ahp]
   apply aG;simp(disch:=omega) ;apply aP;clear aP;refine ae λK hK=>?_;simp(disch:=omega)[gC,hlen,li,W2,X5];apply hK;rw[mU];refine ae λK hK=>?_;simp(disch:=omega)[hle,li];apply hK;apply az;simp(disch:=omega) ;rw[WV];exact⟨rfl,_,rfl⟩
end Go.Proofs.YtoejlmpbebjemaaGreat
