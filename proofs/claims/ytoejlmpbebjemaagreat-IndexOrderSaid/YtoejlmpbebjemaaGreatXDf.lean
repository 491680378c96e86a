/- slices.DeleteFunc of strings in a box.
  Conditions: lengths, as the theorems say. -/
import Derived.Test.YtoejlmpbebjemaaGreatXStr
import Derived.Test.YtoejlmpbebjemaaGreatGZy
set_option linter.all false
set_option maxRecDepth 100000
set_option maxHeartbeats 8000000
open List (getD_eq_getElem?_getD)
namespace Go.Proofs.YtoejlmpbebjemaaGreat
open Go Go.Am im cL eT
def pN (l:List Bs):(strs l).length=l.length:=by simp[strs]
def Pu (l:List Bs)(i:Nat)(x:Bs):(strs l).set i (.str x)=strs (l.set i x):=by unfold strs;rw[List.map_set]
def Jq (l:List Bs)(i:Nat)(h:i<l.length):(strs l).getD i .top=.str (l.getD i []):=by
 simp[strs,ahg,aip,ahi h]
def C6 (p:Bs->Bool)(l:List Bs):Int:=if l.any p=true then (l.findIdx p:Nat) else -1
def T6 {p:Bs->Bool}{l:List Bs}(h:∀j,j<l.length->p (l.getD j [])=false):C6 p l=-1:=by
 unfold C6;rw[ahq];rw[aiY];rintro⟨x,hx,hp⟩;obtain⟨i,hi,rfl⟩:=bH [] hx;rw[h i hi] at hp;cases hp
def T7 {p:Bs->Bool}{l:List Bs}{k:Nat}(hk:k<l.length)(h:∀j,j<k->p (l.getD j [])=false)(e:p (l.getD k [])=true):C6 p l=k:=by
 have g:∀j (hj:j<l.length),l.getD j []=l[j]:=λj hj=>by rw[ahg,ahi hj];rfl
 rw[g k hk] at e;unfold C6;rw[ahs (aiY.2 ⟨_,ahP hk,e⟩)];have:l.findIdx p=k:=by
  rw[List.findIdx_eq hk];refine⟨e,λj hj=>?_⟩;have:=h j hj;rw[g j (by omega)] at this;exact this
 rw[this]
def Qu (p:Bs->Bool)(l:List Bs):(C6 p l=-1/\∀d∈l,p d=false)\/∃k,k<l.length/\C6 p l=(k:Nat)/\(∀j,j<k->p (l.getD j [])=false)/\p (l.getD k [])=true:=by
 unfold C6
 by_cases h:l.any p=true
 ·right
  rw[ahs h];obtain⟨x,hx,hp⟩:=aiY.1 h;have hlt:l.findIdx p<l.length:=List.findIdx_lt_length.2 ⟨x,hx,hp⟩;have g:∀j (hj:j<l.length),l.getD j []=l[j]:=λj hj=>by rw[ahg,ahi hj];rfl
  refine⟨_,hlt,rfl,λj hj=>?_,?_⟩
  ·rw[g j (by omega)];have:=List.not_of_lt_findIdx hj;simpa using this
  ·rw[g _ hlt];exact List.findIdx_getElem
 ·left
  rw[ahq h];refine⟨rfl,λd hd=>?_⟩;have:=ai9.1 (by simpa using h:l.any p=false) d hd;simpa using this
attribute [-simp] getD_eq_getElem?_getD in
theorem Ij (p:Bs->Bool)(l:List Bs)(hl:l.length<=1000000)(g:FuncId)(bY R:List AV)(J:List az)(T:au)(i:Nat)(qP:aK J.length T.length bY)(hJ:J[i]?=some (.cells (strs l++R)))
  (hc:∀d∈l,ar Tryz.prog g ([.str d]++bY) J T (Is (.bool (p d)) J T)) :
  ar Tryz.prog 160 [.cK i 0 l.length,.fn g [] bY] J T (Is (.int .i64 (C6 p l)) J T):=by
 have jR:l.length<=9223372036854775807:=by omega
 have li:=(ahh.1 hJ).1;have ei:=aW hJ;refine ah 9 [] Tryz.ntmps160 Tryz.func160 rfl (λ_ _=>Tryz.call160 _ _) (by simp) (λHO=>?_);apply ae;intro K Z;simp(disch:=omega);apply Z;refine af λK1 aO=>?_;apply ae;intro K Z;simp(disch:=omega);apply Z;apply aj;refine aI (X:=Nat) (λk=>⟨[(0,.cK i 0 l.length),(1,.fn g [] bY),(7,.int .i64 (l.length:Nat)),(8,.int .i64 (k:Nat))],J,T⟩) (λk=>k<=l.length/\∀j,j<k->p (l.getD j [])=false) (λk=>l.length-k) 0 ?_ ?_ ?_
 ·exact⟨ahu _,λj hj=>absurd hj (ahO _)⟩
 ·refine ag [] [] ?_ ?_ ?_ ?_ HO ?_
  all_goals simp[li]
  all_goals exact qP
 ·rintro k ⟨h1,h2⟩;apply ae;intro K Z;simp(disch:=omega);apply Z;refine af λK2 bc=>?_;refine aT rfl (λhk=>?_) (λhk=>?_)
  ·simp  at hk;have hcut:(strs l++R).getD k .top=.str (l.getD k []):=by
    rw[ahg,ahp (by rw[pN];exact hk),<-getD_eq_getElem?_getD];exact Jq l k hk
   have c:=hc _ (aS l k [] hk);have jv:=λh e=>T7 hk h e (p:=p);have st:p (l.getD k [])=false->∀j,j<k+1->p (l.getD j [])=false:=λe j hj=>by
    rcases ahr j k with h3|h3
    ·exact h2 j h3
    ·have:j=k:=by omega
     subst this;exact e
   have hlen:=pN l;have gV:k<l.length+R.length:=by omega
   apply aq;simp(disch:=omega) ;apply bc;clear bc;refine af λK3 bD=>?_;apply aj;apply ae;intro K Z;simp(disch:=omega);apply Z
   cases hp:p (l.getD k []) with
   |true=>
    have hi:=jv h2 hp;rw[hp] at c;generalize l.getD k []=x at *;refine ae λK hK=>?_;simp(disch:=omega)[hcut,hlen,hk,li,ei,gV];refine ak (c) ?_;simp(disch:=omega) ;apply hK;apply aG rfl;apply ae;intro K Z;simp(disch:=omega);apply Z;apply ay;simp(disch:=omega) ;rw[hi];exact⟨rfl,rfl,rfl⟩
   |false=>
    have st2:=st hp;rw[hp] at c;generalize l.getD k []=x at *;refine ae λK hK=>?_;simp(disch:=omega)[hcut,hlen,hk,li,ei,gV];refine ak (c) ?_;simp(disch:=omega) ;apply hK;apply aD rfl;apply aq;simp(disch:=omega) ;apply bD;clear bD;refine aB λK hK=>?_;simp(disch:=omega) ;apply hK;refine⟨k+1,⟨by omega,st2⟩,by omega,?_⟩;refine ag [] [] ?_ ?_ ?_ ?_ HO ?_
    all_goals simp[li]
    all_goals exact qP
  ·simp  at hk;have e:k=l.length:=by omega
   subst e;apply aF;simp(disch:=omega) ;apply aO;clear aO;apply ae;intro K Z;simp(disch:=omega);apply Z;apply ay;simp(disch:=omega) ;rw[T6 h2];exact⟨rfl,rfl,rfl⟩
def nA (p:Bs->Bool)(l:List Bs)(j:Nat):List Bs:=(l.take j).filter λd=>!p d
def GY (p:Bs->Bool)(l:List Bs)(j:Nat):(nA p l j).length<=j:=by
 unfold nA;have:=ahU (λd=>!p d) (l.take j);rw[ahJ] at this;omega
def wK (p:Bs->Bool)(l:List Bs)(j:Nat):List Bs:=nA p l j++l.drop (nA p l j).length
def SQ (p:Bs->Bool)(l:List Bs){j:Nat}(hj:j<=l.length):(wK p l j).length=l.length:=by
 have:=GY p l j;rw[wK,ahk,ah4];omega
def SS {p:Bs->Bool}{l:List Bs}{j:Nat}:(wK p l j).getD j []=l.getD j []:=by
 have:=GY p l j;rw[wK,ahg,ahC this,aiX,show (nA p l j).length+(j-(nA p l j).length)=j by omega,<-getD_eq_getElem?_getD]
def BT {p:Bs->Bool}{l:List Bs}{j:Nat}(hj:j<l.length)(h:p (l.getD j [])=true):nA p l (j+1)=nA p l j:=by
 unfold nA;rw[aU l j [] hj,ah8];simp[h,-getD_eq_getElem?_getD]
def OZ {p:Bs->Bool}{l:List Bs}{j:Nat}(hj:j<l.length)(h:p (l.getD j [])=false):nA p l (j+1)=nA p l j++[l.getD j []]:=by
 unfold nA;rw[aU l j [] hj,ah8];simp[h,-getD_eq_getElem?_getD]
def SP {p:Bs->Bool}{l:List Bs}{j:Nat}(hj:j<l.length)(h:p (l.getD j [])=true):wK p l (j+1)=wK p l j:=by
 rw[wK,wK,BT hj h]
def WK {p:Bs->Bool}{l:List Bs}{j:Nat}(hj:j<l.length)(h:p (l.getD j [])=false):wK p l (j+1)=(wK p l j).set (nA p l j).length (l.getD j []):=by
 have hl:=GY p l j;rw[wK,wK,OZ hj h,aiS _ _ (ahj _),aiH,ahk,ahA]
 congr 1
 rw[aiK (by omega:(nA p l j).length<l.length)];rfl
def Mn {p:Bs->Bool}{l:List Bs}{k:Nat}(hk:k<=l.length)(h:∀j,j<k->p (l.getD j [])=false):nA p l k=l.take k:=by
 unfold nA;rw[aiT];intro d hd;obtain⟨i,hi,e⟩:=bH [] hd;rw[ahJ] at hi;have h2:=h i (by omega);have e2:(l.take k).getD i []=l.getD i []:=by rw[ahg,ahg,ah9,ahs (by omega)]
 rw[e2] at e;rw[<-e,h2];rfl
def TY (p:Bs->Bool)(l:List Bs):nA p l l.length=l.filter λd=>!p d:=by unfold nA;rw[ahE]
attribute [-simp] getD_eq_getElem?_getD in
theorem Iu (p:Bs->Bool)(l:List Bs)(hl:l.length<=1000000)(g:FuncId)(bY R:List AV)(J:List az)(T:au)(i:Nat)(qP:aK J.length T.length bY)(hR:aK J.length T.length R)(hJ:J[i]?=some (.cells (strs l++R)))
  (hc:∀d∈l,∀vs,ar Tryz.prog g ([.str d]++bY) (J.set i (.cells vs)) T (Is (.bool (p d)) (J.set i (.cells vs)) T)) :
  ar Tryz.prog 96 [.cK i 0 l.length,.fn g [] bY] J T
   (λr H' T'=>r=.cK i 0 (l.filter λd=>!p d).length/\T'=T/\∃rest,H'=J.set i (.cells (strs (l.filter λd=>!p d)++rest))):=by
 have jR:l.length<=9223372036854775807:=by omega
 have li:=(ahh.1 hJ).1;have ei:=aW hJ;have Oq:J.set i (.cells (strs l++R))=J:=by
  apply aja;intro k;rw[ajW]
  split
  ·rename_i h;subst h;rw[hJ]
  ·rfl
 have ci:=Ij p l hl g bY R J T i qP hJ (λd hd=>by have:=hc d hd (strs l++R);rwa [Oq] at this);refine ah 10 [] Tryz.ntmps96 Tryz.func96 rfl (λ_ _=>Tryz.call96 _ _) (by simp) (λHO=>?_);apply ae;intro K Z;simp(disch:=omega);apply Z;rcases Qu p l with⟨e,hno⟩|⟨k,hk,e,hlt,Wf⟩
 ·rw[e] at ci;have hf:l.filter (λd=>!p d)=l:=by
   rw[aiT];intro d hd;rw[hno d hd];rfl
  refine ae λK hK=>?_;simp(disch:=omega) ;refine ak (ci) ?_;simp(disch:=omega) ;apply hK;refine af λK1 aO=>?_;apply ae;intro K Z;simp(disch:=omega);apply Z;apply aG rfl;apply ae;intro K Z;simp(disch:=omega);apply Z;apply ay;simp(disch:=omega) ;rw[hf];exact⟨rfl,R,Oq.symm⟩
 rw[e] at ci;have RQ:((k:Nat):Int)≠-1:=by omega
 have bk:(((k:Nat):Int)==-1)=false:=by simp
 refine ae λK hK=>?_;simp(disch:=omega) ;refine ak (ci) ?_;simp(disch:=omega) ;apply hK;refine af λK1 aO=>?_;refine ae λK hK=>?_;simp(disch:=omega)[bk];apply hK;apply aD rfl;apply aq;simp(disch:=omega) ;apply aO;clear aO;refine af λK1 aO=>?_;have hk1:nA p l k=l.take k:=Mn (by omega) hlt;have gq:nA p l (k+1)=l.take k:=by rw[BT hk Wf,hk1]
 have yK:(nA p l (k+1)).length=k:=by rw[gq,ahJ];omega
 have hk4:wK p l (k+1)=l:=by rw[wK,yK,gq,ahM]
 have RW:∀j,bJ (J.set i (.cells (strs (wK p l j)++R))) T:=λj=>HO.set (λv hv=>by
  rcases ahw.1 hv with h|h
  ·exact(II:aK J.length T.length (strs (wK p l j))) v h
  ·exact hR v h)
 apply ae;intro K Z;simp(disch:=omega);apply Z;apply aj;refine aI (X:=Nat) (λj=>⟨[(0,.cK i 0 l.length),(1,.fn g [] bY),(5,.int .i64 ((nA p l (k+1+j)).length:Nat)),(6,.int .i64 ((k+1+j:Nat):Int))],J.set i (.cells (strs (wK p l (k+1+j))++R)),T⟩)
  (λj=>k+1+j<=l.length/\(nA p l (k+1+j)).length<k+1+j) (λj=>l.length-(k+1+j)) 0 ?_ ?_ ?_
 ·exact⟨hk,by rw[ajJ,yK];omega⟩
 ·refine ag [] [] ?_ ?_ ?_ ?_ (RW _) ?_
  all_goals simp[yK,hk4,Oq,li]
  all_goals exact qP
 ·rintro j ⟨h1,h2⟩;obtain⟨q,hq⟩:∃q,q=k+1+j:=⟨_,rfl⟩
  have pD:∀P:Nat->Prop,P (q+1)->P (k+1+(j+1)):=λP h=>by rw[hq] at h;exact h
  rw[<-hq] at h1 h2 ⊢;have sr:=SQ p l h1;have hlen:(strs (wK p l q)).length=l.length:=by rw[pN,sr]
  refine af λK2 bc=>?_;apply ae;intro K Z;simp(disch:=omega);apply Z;refine aT rfl (λhj=>?_) (λhj=>?_)
  ·simp  at hj;have hcut:(strs (wK p l q)++R).getD q .top=.str (l.getD q []):=by
    rw[ahg,ahp (by rw[hlen];exact hj),<-getD_eq_getElem?_getD,Jq _ _ (by omega),SS]
   have c:=hc _ (aS l q [] hj) (strs (wK p l q)++R);have hOi:=RW q;have hql:q<l.length+R.length:=by omega
   apply aq;simp(disch:=omega) ;apply bc;clear bc;refine af λK3 bD=>?_;apply aj;have out:∀(i':Nat) e,i'=q+1->(nA p l i').length<i'->bu J.length T.length e [(0,.cK i 0 l.length),(1,.fn g [] bY),(5,.int .i64 ((nA p l i').length:Nat)),(6,.int .i64 ((q:Nat):Int))]->K3 ⟨e,J.set i (.cells (strs (wK p l i')++R)),T⟩:=by
    intro i' e iV kE he;refine bD _ (aH ⟨[(0,.cK i 0 l.length),(1,.fn g [] bY),(5,.int .i64 ((nA p l i').length:Nat)),(6,.int .i64 ((q:Nat):Int))],J.set i (.cells (strs (wK p l i')++R)),T⟩ (ag [] [] (by simp) (by simp) (by simp) (by simp) (RW _) (by simpa using he)) ?_);refine aB λK hK=>?_;simp(disch:=omega) ;apply hK;refine⟨j+1,⟨by show k+1+(j+1)<=_;omega,?_⟩,by show l.length-(k+1+(j+1))<l.length-q;omega,?_⟩
    ·refine pD (λx=>(nA p l x).length<x) ?_;rw[<-iV];exact kE
    ·have e1:k+1+(j+1)=i':=by omega
     have e2:((i':Nat):Int)=(q:Nat)+1:=by omega
     simp only[e1];refine ag [] [] ?_ ?_ ?_ ?_ (RW _) ?_
     all_goals simp[e2,li]
     all_goals exact qP
   clear bD;refine ae λK hK=>?_;simp(disch:=omega)[hcut,hlen,hj,li,hql];apply hK
   cases hp:p (l.getD q []) with
   |true=>
    rw[hp] at c;have e1:=BT hj hp;have e2:=SP hj hp;have out:=λe=>out (q+1) e rfl (by rw[e1];omega);rw[e1,e2] at out;generalize l.getD q []=x at *;refine ae λK hK=>?_;simp(disch:=omega) ;refine ak (c) ?_;simp(disch:=omega) ;apply hK;apply aD rfl;apply aq;simp(disch:=omega) ;refine out _ ?_;simp[li];exact qP
   |false=>
    rw[hp] at c;have e1:=OZ hj hp;have e2:=WK hj hp;have e3:(nA p l (q+1)).length=(nA p l q).length+1:=by rw[e1];simp
    have out:=λe=>out (q+1) e rfl (by rw[e3];omega);rw[e3,e2,<-Pu] at out;have hlt3:(nA p l q).length<l.length:=by omega
    have ae5:(nA p l q).length+1<=l.length+R.length:=by omega
    generalize l.getD q []=x at *;generalize (nA p l q).length=m at *;refine ae λK hK=>?_;simp(disch:=omega) ;refine ak (c) ?_;simp(disch:=omega) ;apply hK;apply aG rfl;refine ae λK hK=>?_;simp(disch:=omega)[hlt3,ae5,hlen,li];apply hK;refine aB λK hK=>?_;simp(disch:=omega) ;apply hK;refine out _ ?_;simp[li];exact qP
  ·simp  at hj;have e:q=l.length:=by omega
   have hw:wK p l q=nA p l q++l.drop (nA p l q).length:=rfl;have hka:nA p l q=l.filter λd=>!p d:=by rw[e,TY]
   rw[hw,<-vw] at hlen ⊢;have XO:=pN (nA p l q);have m7:=λxs=>tP (strs (nA p l q)) xs (strs (l.drop (nA p l q).length)++R) 0;rw[XO,ajJ] at m7;have hle:(nA p l q).length<=l.length:=by omega
   have hcl:(nA p l q).length<l.length:=by omega
   generalize nA p l q=c at hlen XO m7 h2 hka hle hcl ⊢;rw[ahA];generalize hE:strs (l.drop c.length)=E at hlen m7 ⊢;have YM:E.length=l.length-c.length:=by rw[<-hE,pN,ah4]
   apply aF;simp(disch:=omega) ;apply aO;clear aO;refine ae λK hK=>?_;simp(disch:=omega)[hcl,hlen,li,XO,YM];apply hK;rw[m7];refine ae λK hK=>?_;simp(disch:=omega)[hle,li];apply hK;apply ay;simp(disch:=omega) ;rw[hka];exact⟨rfl,_,rfl⟩
end Go.Proofs.YtoejlmpbebjemaaGreat
