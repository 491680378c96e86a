/- Merge, of the program and of the reference (layer 39). slices.Contains of numbers; slices.DeleteFunc of documents in a box (layer 39). slices.DeleteFunc of documents in a box; Drop (layer 39). Drop, of the program and of the reference (layer 39). Sizes of what is merged of small segments (layer 39, plain).
  Conditions: as the theorems say. -/
import Derived.Test.YtoejlmpbebjemaaGreatGZx
import Derived.Test.YtoejlmpbebjemaaGreatGLA
set_option linter.all false
set_option maxRecDepth 100000
set_option maxHeartbeats 8000000
open List (getD_eq_getElem?_getD)
namespace Go.Proofs.YtoejlmpbebjemaaGreat
open Go.Proofs.Tryz(prog)
open Go Go.Am ia cO eN
def Fb {s t:Sg}(h:aY s=false):jO s t=(bV,1):=by unfold jO;rw[agL λx=>by rw[x.1] at h;cases h]
def Fa {s t:Sg}(h:aY t=false):jO s t=(bV,1):=by unfold jO;rw[agL λx=>by rw[x.2] at h;cases h]
def Hm {s t:Sg}(h1:aY s=true)(h2:aY t=true)(h:comb (λp q=>p&&q) s.aB t.aB≠[]):jO s t=(bV,10):=by unfold jO;rw[agN ⟨h1,h2⟩,agL h]
def Lp {s t:Sg}(h1:aY s=true)(h2:aY t=true)(h:comb (λp q=>p&&q) s.aB t.aB=[]):jO s t=cZ (eh s++eh t):=by unfold jO;rw[agN ⟨h1,h2⟩,agN h]
def xF {s:Sg}(hs:uX s):∀d∈eh s,d.ns.length<=1000000:=by
 intro d hd;unfold eh at hd
 split at hd
 ·rename_i hv;exact(El hv hs.t (λt ht=>⟨(hs.w t ht).1,(hs.w t ht).2.2⟩) hs.c hs.x d hd).2.2
 ·simp at hd
def wh {s:Sg}(hv:aY s=true):(eh s).length=s.aB.length:=by unfold eh;rw[agN hv];simp[ja]
attribute [-simp] getD_eq_getElem?_getD in
theorem Hl (s t:Sg)(hs:uX s)(ht:uX t)(hl:aY s=true->aY t=true->s.aB.length+t.aB.length<=19)(H:List aA)(T:au) :
  ar prog 130 [jM s,jM t] H T (Is (.df [jM (jO s t).1,.int .i64 (jO s t).2]) H T):=by
 refine ar.pf ?_;show ar prog _ _ H T (BQ H T _);have cs:=λH T=>jQ s hs H T;have ct:=λH T=>jQ t ht H T;have ca:=λH T=>Ol s.aB t.aB hs.d ht.d H T .none .none;have cd:=λH T=>kz s hs H T;have ce:=λH T=>rj t ht H T;have z1:=uM hs;have z2:=uM ht;have y1:=uL hs;have y2:=uL ht;have x1:=xF hs;have x2:=xF ht;refine ah 6 [] Tryz.ntmps130 Tryz.func130 rfl (λ_ _=>Tryz.call130 _ _) (by simp) (λHO=>?_);apply ae;intro K Z;simp(disch:=omega);apply Z;refine af λK1 aP=>?_
 cases hv:aY s with
 |false=>
  rw[Fb hv];rw[hv] at cs;refine ae λK hK=>?_;simp(disch:=omega) ;refine ak (cs _ _) ?_;simp(disch:=omega) ;apply hK;apply aH rfl;apply ae;intro K Z;simp(disch:=omega);apply Z;apply az;simp(disch:=omega) ;exact⟨⟨_,rfl⟩,⟨[],by simp⟩,ke _⟩
 |true=>
 rw[hv] at cs
 cases H8:aY t with
 |false=>
  rw[Fa H8];rw[H8] at ct;refine ae λK hK=>?_;simp(disch:=omega) ;refine ak (cs _ _) ?_;simp(disch:=omega) ;refine ak (ct _ _) ?_;simp(disch:=omega) ;apply hK;apply aH rfl;apply ae;intro K Z;simp(disch:=omega);apply Z;apply az;simp(disch:=omega) ;exact⟨⟨_,rfl⟩,⟨[],by simp⟩,ke _⟩
 |true=>
 rw[H8] at ct;have hlen:=hl hv H8;rw[<-wh hv,<-wh H8] at hlen;refine ae λK hK=>?_;simp(disch:=omega) ;refine ak (cs _ _) ?_;simp(disch:=omega) ;refine ak (ct _ _) ?_;simp(disch:=omega) ;apply hK;apply aF rfl;apply aq;simp(disch:=omega) ;apply aP;clear aP;refine af λK1 aP=>?_
 by_cases hc:comb (λp q=>p&&q) s.aB t.aB=[]
 rotate_left
 ·rw[Hm hv H8 hc];have Ia:(0:Int)<((comb (λp q=>p&&q) s.aB t.aB).length:Nat):=by
   have:=ahN.2 hc;omega
  have oU:decide ((0:Int)<((comb (λp q=>p&&q) s.aB t.aB).length:Nat))=true:=agH Ia;generalize comb (λp q=>p&&q) s.aB t.aB=c at *;refine ae λK hK=>?_;simp(disch:=omega) ;refine ak (ca _ _) ?_;simp(disch:=omega)[oU,hc];apply hK;refine aU rfl (λh=>?_) (λh=>absurd h (by simp[hc]));apply ae;intro K Z;simp(disch:=omega);apply Z;apply az;simp(disch:=omega) ;exact⟨⟨_,rfl⟩,⟨[],by simp⟩,ke _⟩
 have hM:=Lp hv H8 hc;rw[hc] at ca;refine ae λK hK=>?_;simp(disch:=omega) ;refine ak (ca _ _) ?_;simp(disch:=omega) ;apply hK;apply aF rfl;apply aq;simp(disch:=omega) ;apply aP;clear aP;have cb:=λH T tg=>qC (eh s++eh t) (by rw[agF];omega) (λd hd=>(agR.1 hd).elim (y1 d) (y2 d)) (λd hd=>(agR.1 hd).elim (x1 d) (x2 d)) H T tg;rw[agF,<-Eo] at cb;generalize eh s=ds at *;generalize eh t=dt at *;generalize cZ (ds++dt)=r at *;refine aK [4,8] [0,0,0,0,0,1,1,1,1,2] [[],[]] aw (by kernel_rfl) (by kernel_rfl) λK hK=>?_;simp(disch:=omega)[bf];refine aD (cd _ _) rfl ?_;simp(disch:=omega) ;refine aD (ce _ _) rfl ?_;simp(disch:=omega)[bf];refine aD (cb _ _ _) rfl ?_;simp(disch:=omega) ;apply hK;apply az;simp(disch:=omega) ;rw[hM];refine⟨⟨_,rfl⟩,⟨_,rfl⟩,.same ?_⟩;simp
def CF (l:List Int)(n:Int):Int:=if n∈l then (l.findIdx (·==n):Nat) else -1
def S0 {l:List Int}{n:Int}(h:∀j,j<l.length->l.getD j 0≠n):CF l n=-1:=by
 unfold CF;rw[agL];intro hm;obtain⟨i,hi,e⟩:=agW.1 hm;exact h i hi (by rw[agB,agD hi];exact e)
def S2 {l:List Int}{n:Int}{k:Nat}(hk:k<l.length)(h:∀j,j<k->l.getD j 0≠n)(e:l.getD k 0=n):CF l n=k:=by
 have ek:l[k]=n:=by rw[agB,agD hk] at e;exact e
 unfold CF;rw[agN (by rw[<-ek];exact ahb hk)];have:l.findIdx (·==n)=k:=by
  rw[List.findIdx_eq hk];refine⟨by simpa using ek,λj hj=>?_⟩;have:=h j hj;rw[agB,agD (by omega)] at this;simpa using this
 rw[this]
def PC (l:List Int)(n:Int):decide (0<=CF l n)=decide (n∈l):=by
 unfold CF
 by_cases h:n∈l
 ·rw[agN h,agH h];exact agH (by omega)
 ·rw[agL h,agI h];exact agI (by omega)
attribute [-simp] getD_eq_getElem?_getD in
def B1 (l:List Int)(n:Int)(hl:l.length<=maxLen)(H:List aA)(T:au):ar prog 155 [.sl l.length (ints l) .none,.int .i64 n] H T (Is (.int .i64 (CF l n)) H T):=by
 have jJ:l.length<=9223372036854775807:=agJ hl (by decide);refine ar.bZ ?_ (by simp);refine ah 9 [] Tryz.ntmps155 Tryz.func155 rfl (λ_ _=>Tryz.call155 _ _) (by simp) (λHO=>?_);apply ae;intro K Z;simp(disch:=omega);apply Z;refine af λK1 aP=>?_;apply ae;intro K Z;simp(disch:=omega);apply Z;apply aj;refine aJ (X:=Nat) (λk=>⟨[(0,.sl l.length (ints l) .none),(1,.int .i64 n),(7,.int .i64 (l.length:Nat)),(8,.int .i64 (k:Nat))],H,T⟩) (λk=>k<=l.length/\∀j,j<k->l.getD j 0≠n) (λk=>l.length-k) 0 ?_ ?_ ?_
 ·exact⟨agP _,λj hj=>absurd hj (ag9 _)⟩
 ·refine ag [] [] ?_ ?_ ?_ ?_ HO ?_
  all_goals simp
 ·rintro k ⟨h1,h2⟩;apply ae;intro K Z;simp(disch:=omega);apply Z;refine af λK2 bp=>?_;refine aU rfl (λhk=>?_) (λhk=>?_)
  ·simp  at hk;have jl:=bM hk;have gO:k<(ints l).length:=by simpa using hk
   apply aq;simp(disch:=omega) ;apply bp;clear bp;refine af λK3 bG=>?_;apply aj;apply ae;intro K Z;simp(disch:=omega);apply Z
   by_cases he:l.getD k 0=n
   ·have hi:=S2 hk h2 he;have b1:(n==l.getD k 0)=true:=by simpa using he.symm
    refine ae λK hK=>?_;simp(disch:=omega)[jl,gO,hk,b1,he];apply hK;apply aH rfl;apply ae;intro K Z;simp(disch:=omega);apply Z;apply az;simp(disch:=omega) ;rw[hi]
   ·have b1:(n==l.getD k 0)=false:=by simpa using λe=>he e.symm
    have st:∀j,j<k+1->l.getD j 0≠n:=λj hj=>by
     rcases agM j k with h3|h3
     ·exact h2 j h3
     ·have:j=k:=by omega
      subst this;exact he
    generalize l.getD k 0=x at *;refine ae λK hK=>?_;simp(disch:=omega)[jl,gO,hk,b1];apply hK;apply aF rfl;apply aq;simp(disch:=omega) ;apply bG;clear bG;refine aC λK hK=>?_;simp(disch:=omega) ;apply hK;refine⟨k+1,⟨by omega,st⟩,by omega,?_⟩;refine ag [] [] ?_ ?_ ?_ ?_ HO ?_
    all_goals simp
  ·simp  at hk;have e:k=l.length:=by omega
   subst e;apply aG;simp(disch:=omega) ;apply aP;clear aP;apply ae;intro K Z;simp(disch:=omega);apply Z;apply az;simp(disch:=omega) ;rw[S0 h2]
attribute [-simp] getD_eq_getElem?_getD in
def pZ (l:List Int)(n:Int)(hl:l.length<=maxLen)(H:List aA)(T:au)(tg:Tag):ar prog 89 [.sl l.length (ints l) tg,.int .i64 n] H T (Is (.bool (decide (n∈l))) H T):=by
 refine ar.cF ?_;refine ar.bZ ?_ (by simp);have c:=λH T=>B1 l n hl H T;rw[<-PC];generalize CF l n=v at *;refine ah 5 [] Tryz.ntmps89 Tryz.func89 rfl (λ_ _=>Tryz.call89 _ _) (by simp) (λHO=>?_);apply ae;intro K Z;simp(disch:=omega);apply Z;refine ae λK hK=>?_;simp(disch:=omega) ;refine ak (c _ _) ?_;simp(disch:=omega) ;apply hK;apply az;simp(disch:=omega) 
def qz (x:Dc)(u:List Dc):aN (x::u)=.int .i64 x.id::.sl x.zs.length (fg x.zs) .none::.sl x.ns.length (bA x.ns) .none::aN u:=rfl
theorem LY:∀(u:List Dc)(i:Nat)(x:Dc),i<u.length->(((aN u).set (i*3) (.int .i64 x.id)).set (i*3+1) (.sl x.zs.length (fg x.zs) .none)).set (i*3+1+1) (.sl x.ns.length (bA x.ns) .none)=aN (u.set i x):=by
 intro u
 induction u with
 |nil=>intro i x h;simp at h
 |cons p u ih=>
  intro i x h
  cases i with
  |zero=>
   rw[qz];show _=aN (x::u);rw[qz];rfl
  |succ i=>
   have:=ih i x (by simpa using h);rw[qz,List.set_cons_succ,qz,show (i+1)*3=i*3+1+1+1 by omega,<-this];rfl
def CG (p:Dc->Bool)(l:List Dc):Int:=if l.any p=true then (l.findIdx p:Nat) else -1
def S3 {p:Dc->Bool}{l:List Dc}(h:∀j,j<l.length->p (l.getD j d0)=false):CG p l=-1:=by
 unfold CG;rw[agL];rw[aij];rintro⟨x,hx,hp⟩;obtain⟨i,hi,rfl⟩:=bK d0 hx;rw[h i hi] at hp;cases hp
def S4 {p:Dc->Bool}{l:List Dc}{k:Nat}(hk:k<l.length)(h:∀j,j<k->p (l.getD j d0)=false)(e:p (l.getD k d0)=true):CG p l=k:=by
 have g:∀j (hj:j<l.length),l.getD j d0=l[j]:=λj hj=>by rw[agB,agD hj];rfl
 rw[g k hk] at e;unfold CG;rw[agN (aij.2 ⟨_,ahb hk,e⟩)];have:l.findIdx p=k:=by
  rw[List.findIdx_eq hk];refine⟨e,λj hj=>?_⟩;have:=h j hj;rw[g j (by omega)] at this;exact this
 rw[this]
def PD (p:Dc->Bool)(l:List Dc):(CG p l=-1/\∀d∈l,p d=false)\/∃k,k<l.length/\CG p l=(k:Nat)/\(∀j,j<k->p (l.getD j d0)=false)/\p (l.getD k d0)=true:=by
 unfold CG
 by_cases h:l.any p=true
 ·right
  rw[agN h];obtain⟨x,hx,hp⟩:=aij.1 h;have aZ:l.findIdx p<l.length:=List.findIdx_lt_length.2 ⟨x,hx,hp⟩;have g:∀j (hj:j<l.length),l.getD j d0=l[j]:=λj hj=>by rw[agB,agD hj];rfl
  refine⟨_,aZ,rfl,λj hj=>?_,?_⟩
  ·rw[g j (by omega)];have:=List.not_of_lt_findIdx hj;simpa using this
  ·rw[g _ aZ];exact List.findIdx_getElem
 ·left
  rw[agL h];refine⟨rfl,λd hd=>?_⟩;have:=aiv.1 (by simpa using h:l.any p=false) d hd;simpa using this
attribute [-simp] getD_eq_getElem?_getD in
theorem Hv (p:Dc->Bool)(l:List Dc)(hl:l.length<=1000000)(g:FuncId)(cz:List AV)(Hx:List aA)(T:au)(qL:aM Hx.length T.length cz)
  (hc:∀d∈l,∀X,ar prog g ([.agg (dO d)]++cz) (Hx++X) T (Is (.bool (p d)) (Hx++X) T)) :
  ar prog 175 [.cN Hx.length 0 l.length,.fn g [] cz] (Hx++[.cells (aN l)]) T (Is (.int .i64 (CG p l)) (Hx++[.cells (aN l)]) T):=by
 have jJ:l.length<=9223372036854775807:=by omega
 refine ah 9 [] Tryz.ntmps175 Tryz.func175 rfl (λ_ _=>Tryz.call175 _ _) (by simp) (λHO=>?_);have Gg:aM (Hx.length+1) T.length cz:=λv hv=>(qL v hv).more (by omega) (agE _);apply ae;intro K Z;simp(disch:=omega);apply Z;refine af λK1 aP=>?_;apply ae;intro K Z;simp(disch:=omega);apply Z;apply aj;refine aJ (X:=Nat) (λk=>⟨[(0,.cN Hx.length 0 l.length),(1,.fn g [] cz),(7,.int .i64 (l.length:Nat)),(8,.int .i64 (k:Nat))],Hx++[.cells (aN l)],T⟩) (λk=>k<=l.length/\∀j,j<k->p (l.getD j d0)=false) (λk=>l.length-k) 0 ?_ ?_ ?_
 ·exact⟨agP _,λj hj=>absurd hj (ag9 _)⟩
 ·refine ag [] [] ?_ ?_ ?_ ?_ HO ?_
  all_goals simp
  all_goals exact Gg
 ·rintro k ⟨h1,h2⟩;apply ae;intro K Z;simp(disch:=omega);apply Z;refine af λK2 bp=>?_;refine aU rfl (λhk=>?_) (λhk=>?_)
  ·simp  at hk;have bu:=fC l k hk;have c:=λX=>hc _ (aT l k d0 hk) X;have jl:=λh e=>S4 hk h e (p:=p);have st:p (l.getD k d0)=false->∀j,j<k+1->p (l.getD j d0)=false:=λe j hj=>by
    rcases agM j k with h3|h3
    ·exact h2 j h3
    ·have:j=k:=by omega
     subst this;exact e
   have hlen:=bf l;apply aq;simp(disch:=omega) ;apply bp;clear bp;refine af λK3 bG=>?_;apply aj;apply ae;intro K Z;simp(disch:=omega);apply Z
   cases hp:p (l.getD k d0) with
   |true=>
    have hi:=jl h2 hp;rw[hp] at c;generalize l.getD k d0=x at *;refine ae λK hK=>?_;simp(disch:=omega)[bu,hlen,hk];refine ak (c _) ?_;simp(disch:=omega) ;apply hK;apply aH rfl;apply ae;intro K Z;simp(disch:=omega);apply Z;apply az;simp(disch:=omega) ;rw[hi];exact⟨rfl,rfl,rfl⟩
   |false=>
    have st2:=st hp;rw[hp] at c;generalize l.getD k d0=x at *;refine ae λK hK=>?_;simp(disch:=omega)[bu,hlen,hk];refine ak (c _) ?_;simp(disch:=omega) ;apply hK;apply aF rfl;apply aq;simp(disch:=omega) ;apply bG;clear bG;refine aC λK hK=>?_;simp(disch:=omega) ;apply hK;refine⟨k+1,⟨by omega,st2⟩,by omega,?_⟩;refine ag [] [] ?_ ?_ ?_ ?_ HO ?_
    all_goals simp
    all_goals exact Gg
  ·simp  at hk;have e:k=l.length:=by omega
   subst e;apply aG;simp(disch:=omega) ;apply aP;clear aP;apply ae;intro K Z;simp(disch:=omega);apply Z;apply az;simp(disch:=omega) ;rw[S3 h2];exact⟨rfl,rfl,rfl⟩
def og (p:Dc->Bool)(l:List Dc)(j:Nat):List Dc:=(l.take j).filter λd=>!p d
def Gs (p:Dc->Bool)(l:List Dc)(j:Nat):(og p l j).length<=j:=by
 unfold og;have:=ahf (λd=>!p d) (l.take j);rw[ag5] at this;omega
def vT (p:Dc->Bool)(l:List Dc)(j:Nat):List Dc:=og p l j++l.drop (og p l j).length
def RV (p:Dc->Bool)(l:List Dc){j:Nat}(hj:j<=l.length):(vT p l j).length=l.length:=by
 have:=Gs p l j;rw[vT,agF,ahp];omega
def RW {p:Dc->Bool}{l:List Dc}{j:Nat}:(vT p l j).getD j d0=l.getD j d0:=by
 have:=Gs p l j;rw[vT,agB,agX this,aii,show (og p l j).length+(j-(og p l j).length)=j by omega,<-getD_eq_getElem?_getD]
def Bx {p:Dc->Bool}{l:List Dc}{j:Nat}(hj:j<l.length)(h:p (l.getD j d0)=true):og p l (j+1)=og p l j:=by
 unfold og;rw[aV l j d0 hj,aht];simp[h,-getD_eq_getElem?_getD]
def N4 {p:Dc->Bool}{l:List Dc}{j:Nat}(hj:j<l.length)(h:p (l.getD j d0)=false):og p l (j+1)=og p l j++[l.getD j d0]:=by
 unfold og;rw[aV l j d0 hj,aht];simp[h,-getD_eq_getElem?_getD]
def RS {p:Dc->Bool}{l:List Dc}{j:Nat}(hj:j<l.length)(h:p (l.getD j d0)=true):vT p l (j+1)=vT p l j:=by
 rw[vT,vT,Bx hj h]
def VU {p:Dc->Bool}{l:List Dc}{j:Nat}(hj:j<l.length)(h:p (l.getD j d0)=false):vT p l (j+1)=(vT p l j).set (og p l j).length (l.getD j d0):=by
 have hl:=Gs p l j;rw[vT,vT,N4 hj h,aib _ _ (agE _),ah1,agF,agV]
 congr 1
 rw[ah5 (by omega:(og p l j).length<l.length)];rfl
def Lw {p:Dc->Bool}{l:List Dc}{k:Nat}(hk:k<=l.length)(h:∀j,j<k->p (l.getD j d0)=false):og p l k=l.take k:=by
 unfold og;rw[aid];intro d hd;obtain⟨i,hi,e⟩:=bK d0 hd;rw[ag5] at hi;have h2:=h i (by omega);have e2:(l.take k).getD i d0=l.getD i d0:=by rw[agB,agB,ahu,agN (by omega)]
 rw[e2] at e;rw[<-e,h2];rfl
def SP (p:Dc->Bool)(l:List Dc):og p l l.length=l.filter λd=>!p d:=by unfold og;rw[agZ]
def bN.V5 {H:List aA}{T:au}{b:aA}{vs:List AV}(h:bN (H++[b]) T)(hv:aM (H.length+1) T.length vs):bN (H++[.cells vs]) T:=by
 have:=h.set (k:=H.length) (vs:=vs) (by rw[agF];exact hv);simpa using this
theorem tC (a:List AV):∀(xs b:List AV)(o:Nat),setMany (a++b) (a.length+o) xs=a++setMany b o xs:=by
 intro xs
 induction xs with
 |nil=>intro b o;rfl
 |cons x r ih=>
  intro b o;rw[setMany,setMany,aib _ _ (by omega),Nat.add_sub_cancel_left,Nat.add_assoc,ih]
attribute [-simp] getD_eq_getElem?_getD in
theorem HE (p:Dc->Bool)(l:List Dc)(hl:l.length<=1000000)(g:FuncId)(cz:List AV)(Hx:List aA)(T:au)(qL:aM Hx.length T.length cz)
  (hc:∀d∈l,∀X,ar prog g ([.agg (dO d)]++cz) (Hx++X) T (Is (.bool (p d)) (Hx++X) T)) :
  ar prog 178 [.cN Hx.length 0 l.length,.fn g [] cz] (Hx++[.cells (aN l)]) T
   (λr H' T'=>r=.cN Hx.length 0 (l.filter λd=>!p d).length/\T'=T/\∃rest X,H'=Hx++(.cells (aN (l.filter λd=>!p d)++rest)::X)):=by
 have jJ:l.length<=9223372036854775807:=by omega
 have ci:=Hv p l hl g cz Hx T qL hc;refine ah 10 [] Tryz.ntmps178 Tryz.func178 rfl (λ_ _=>Tryz.call178 _ _) (by simp) (λHO=>?_);have Gg:∀n,Hx.length<=n->aM n T.length cz:=λn hn v hv=>(qL v hv).more hn (agE _);apply ae;intro K Z;simp(disch:=omega);apply Z;rcases PD p l with⟨e,oh⟩|⟨k,hk,e,aZ,Vn⟩
 ·rw[e] at ci;have hf:l.filter (λd=>!p d)=l:=by
   rw[aid];intro d hd;rw[oh d hd];rfl
  refine ae λK hK=>?_;simp(disch:=omega) ;refine ak (ci) ?_;simp(disch:=omega) ;apply hK;refine af λK1 aP=>?_;apply ae;intro K Z;simp(disch:=omega);apply Z;apply aH rfl;apply ae;intro K Z;simp(disch:=omega);apply Z;apply az;simp(disch:=omega) ;rw[hf];exact⟨rfl,[],by simp⟩
 rw[e] at ci;have QW:((k:Nat):Int)≠-1:=by omega
 have bk:(((k:Nat):Int)==-1)=false:=by simp
 refine ae λK hK=>?_;simp(disch:=omega) ;refine ak (ci) ?_;simp(disch:=omega) ;apply hK;refine af λK1 aP=>?_;refine ae λK hK=>?_;simp(disch:=omega)[bk,QW];apply hK;apply aF rfl;apply aq;simp(disch:=omega) ;apply aP;clear aP;refine af λK1 aP=>?_;have FU:og p l k=l.take k:=Lw (by omega) aZ;have fX:og p l (k+1)=l.take k:=by rw[Bx hk Vn,FU]
 have yx:(og p l (k+1)).length=k:=by rw[fX,ag5];omega
 have hk4:vT p l (k+1)=l:=by rw[vT,yx,fX,ag7]
 have Q3:∀i,bN (Hx++[.cells (aN (vT p l i))]) T:=λi=>bN.V5 HO (xQ _ _ _);apply ae;intro K Z;simp(disch:=omega);apply Z;apply aj;refine aJ (X:=Nat) (λj=>⟨[(0,.cN Hx.length 0 l.length),(1,.fn g [] cz),(5,.int .i64 ((og p l (k+1+j)).length:Nat)),(6,.int .i64 ((k+1+j:Nat):Int))],Hx++[.cells (aN (vT p l (k+1+j)))],T⟩)
  (λj=>k+1+j<=l.length/\(og p l (k+1+j)).length<k+1+j) (λj=>l.length-(k+1+j)) 0 ?_ ?_ ?_
 ·exact⟨hk,by rw[ai3,yx];omega⟩
 ·refine ag [] [] ?_ ?_ ?_ ?_ (Q3 _) ?_
  all_goals simp[yx,hk4]
  all_goals exact Gg _ (by omega)
 ·rintro j ⟨h1,h2⟩;obtain⟨i,hi⟩:∃i,i=k+1+j:=⟨_,rfl⟩
  have px:∀P:Nat->Prop,P (i+1)->P (k+1+(j+1)):=λP h=>by rw[hi] at h;exact h
  rw[<-hi] at h1 h2 ⊢;have sa:=RV p l h1;have hlen:(aN (vT p l i)).length=l.length*3:=by rw[bf,sa]
  refine af λK2 bp=>?_;apply ae;intro K Z;simp(disch:=omega);apply Z;refine aU rfl (λhj=>?_) (λhj=>?_)
  ·simp  at hj;have bu:=fC (vT p l i) i (by omega);rw[RW] at bu;have c:=λX=>hc _ (aT l i d0 hj) X;have hOi:=Q3 i;apply aq;simp(disch:=omega) ;apply bp;clear bp;refine af λK3 bG=>?_;apply aj;have out:∀(i':Nat) e,i'=i+1->(og p l i').length<i'->bC (Hx.length+1) T.length e [(0,.cN Hx.length 0 l.length),(1,.fn g [] cz),(5,.int .i64 ((og p l i').length:Nat)),(6,.int .i64 ((i:Nat):Int))]->∀X,K3 ⟨e,Hx++.cells (aN (vT p l i'))::X,T⟩:=by
    intro i' e iP kr he X;refine bG _ (aI ⟨[(0,.cN Hx.length 0 l.length),(1,.fn g [] cz),(5,.int .i64 ((og p l i').length:Nat)),(6,.int .i64 ((i:Nat):Int))],Hx++[.cells (aN (vT p l i'))],T⟩ (ag X [] (by simp) (by simp) (by simp) (by simp) (Q3 _) (by simpa using he)) ?_);refine aC λK hK=>?_;simp(disch:=omega) ;apply hK;refine⟨j+1,⟨by show k+1+(j+1)<=_;omega,?_⟩,by show l.length-(k+1+(j+1))<l.length-i;omega,?_⟩
    ·refine px (λx=>(og p l x).length<x) ?_;rw[<-iP];exact kr
    ·have e1:k+1+(j+1)=i':=by omega
     have e2:((i':Nat):Int)=(i:Nat)+1:=by omega
     simp only[e1];refine ag [] [] ?_ ?_ ?_ ?_ (Q3 _) ?_
     all_goals simp[e2]
     all_goals exact Gg _ (by omega)
   clear bG;refine ae λK hK=>?_;simp(disch:=omega)[bu,hlen,hj];apply hK;have hOd:bN (Hx++[.cells (aN (vT p l i)),.cells (dO (l.getD i d0))]) T:=by
    have:=hOi.snoc (vs:=dO (l.getD i d0)) (by simp);simpa using this
   cases hp:p (l.getD i d0) with
   |true=>
    rw[hp] at c;have e1:=Bx hj hp;have e2:=RS hj hp;have out:=λe=>out (i+1) e rfl (by rw[e1];omega);rw[e1,e2] at out;generalize l.getD i d0=x at *;refine ae λK hK=>?_;simp(disch:=omega) ;refine ak (c _) ?_;simp(disch:=omega) ;apply hK;apply aF rfl;apply aq;simp(disch:=omega) ;refine out _ ?_ _;simp;exact Gg _ (by omega)
   |false=>
    rw[hp] at c;have e1:=N4 hj hp;have e2:=VU hj hp;have e3:(og p l (i+1)).length=(og p l i).length+1:=by rw[e1];simp
    have mU:=LY (vT p l i) (og p l i).length (l.getD i d0) (by omega);have out:=λe=>out (i+1) e rfl (by rw[e3];omega);rw[e3,e2,<-mU] at out;have Vv:(og p l i).length<l.length:=by omega
    generalize l.getD i d0=x at *;generalize (og p l i).length=m at *;generalize aN (vT p l i)=B at *;refine ae λK hK=>?_;simp(disch:=omega) ;refine ak (c _) ?_;simp(disch:=omega) ;apply hK;apply aH rfl;refine ae λK hK=>?_;simp(disch:=omega)[Vv,hlen];apply hK;refine aC λK hK=>?_;simp(disch:=omega) ;apply hK;refine out _ ?_ _;simp;exact Gg _ (by omega)
  ·simp  at hj;have e:i=l.length:=by omega
   have hw:vT p l i=og p l i++l.drop (og p l i).length:=rfl;have WV:og p l i=l.filter λd=>!p d:=by rw[e,SP]
   rw[hw,<-Eo] at hlen ⊢;have W2:=bf (og p l i);have mU:=λxs=>tC (aN (og p l i)) xs (aN (l.drop (og p l i).length)) 0;rw[W2,ai3] at mU;generalize og p l i=c at hlen W2 mU h2 WV ⊢;generalize aN (l.drop c.length)=R at hlen mU ⊢;apply aG;simp(disch:=omega) ;apply aP;clear aP;have hle:c.length<=l.length:=by omega
   have gC:c.length<l.length:=by omega
   refine ae λK hK=>?_;simp(disch:=omega)[gC,hlen];apply hK;rw[mU];refine ae λK hK=>?_;simp(disch:=omega)[hle];apply hK;apply az;simp(disch:=omega) ;rw[WV];exact⟨rfl,_,rfl⟩
attribute [-simp] getD_eq_getElem?_getD in
def Fm (ids:List Int)(hi:ids.length<=maxLen)(d:Dc)(b:Nat)(H:List aA)(T:au)(hb:H[b]?=some (.cells [.sl ids.length (ints ids) .none])) :
  ar prog 179 ([.agg (dO d)]++[.ptr b 0]) H T (Is (.bool (decide (d.id∈ids))) H T):=by
 refine ar.bZ ?_ (by simp);have c:=λH T=>pZ ids d.id hi H T .none;obtain⟨id,zs,ns⟩:=d;simp only at c;have vF:=(agC.1 hb).1;have jl:=aX hb;generalize decide (id∈ids)=q at *;refine ah 5 [] Tryz.ntmps179 Tryz.func179 rfl (λ_ _=>Tryz.call179 _ _) (by simp) (λHO=>?_);apply ae;intro K Z;simp(disch:=omega);apply Z;refine ae λK hK=>?_;simp(disch:=omega)[agK,ahS,hb,vF,jl];refine ak (c _ _) ?_;simp(disch:=omega) ;apply hK;apply az;simp(disch:=omega) 
attribute [-simp] getD_eq_getElem?_getD in
def Fi (g:FuncId)(cz:List AV)(H:List aA)(T:au)(qL:aM H.length T.length cz) :
  ar prog 175 [.sl 0 [] .none,.fn g [] cz] H T (Is (.int .i64 (-1)) H T):=by
 refine ar.bZ ?_ (by simp);refine ah 9 [] Tryz.ntmps175 Tryz.func175 rfl (λ_ _=>Tryz.call175 _ _) (by simp) (λHO=>?_);apply ae;intro K Z;simp(disch:=omega);apply Z;refine af λK1 aP=>?_;apply ae;intro K Z;simp(disch:=omega);apply Z;apply aj;refine aJ (X:=Nat) (λk=>⟨[(7,.int .i64 0),(8,.int .i64 0)],H,T⟩) (λk=>True) (λk=>0) 0 trivial ?_ ?_
 ·refine ag [] [] ?_ ?_ ?_ ?_ HO ?_
  all_goals simp
 ·intro k _;apply ae;intro K Z;simp(disch:=omega);apply Z;refine af λK2 bp=>?_;refine aU rfl (λhk=>?_) (λhk=>?_)
  ·simp at hk
  ·apply aG;simp(disch:=omega) ;apply aP;clear aP;apply ae;intro K Z;simp(disch:=omega);apply Z;apply az;simp(disch:=omega) 
attribute [-simp] getD_eq_getElem?_getD in
def B3 (g:FuncId)(cz:List AV)(H:List aA)(T:au)(qL:aM H.length T.length cz) :
  ar prog 178 [.sl 0 [] .none,.fn g [] cz] H T (Is (.sl 0 [] .none) H T):=by
 refine ar.bZ ?_ (by simp);have ci:=Fi g cz H T qL;refine ah 10 [] Tryz.ntmps178 Tryz.func178 rfl (λ_ _=>Tryz.call178 _ _) (by simp) (λHO=>?_);apply ae;intro K Z;simp(disch:=omega);apply Z;refine ae λK hK=>?_;simp(disch:=omega) ;refine ak (ci) ?_;simp(disch:=omega) ;apply hK;refine af λK1 aP=>?_;apply ae;intro K Z;simp(disch:=omega);apply Z;apply aH rfl;apply ae;intro K Z;simp(disch:=omega);apply Z;apply az;simp(disch:=omega) 
def Ah {s:Sg}{ids:List Int}{d:Dc}(h:d∈qX s ids):d∈eh s:=(ag0.1 h).1
def Ls (s:Sg)(ids:List Int):(qX s ids).length<=(eh s).length:=ahf _ _
def Lt {s:Sg}{ids:List Int}(h:aY s=false):qX s ids=[]:=by
 unfold qX eh;rw[agL (by rw[h];decide)];rfl
attribute [-simp] getD_eq_getElem?_getD in
theorem uI (s:Sg)(hs:uX s)(hl:aY s=true->s.aB.length<=19)(ids:List Int)(hi:ids.length<=maxLen)(H:List aA)(T:au)(tg:Tag) :
  ar prog 129 [jM s,.sl ids.length (ints ids) tg] H T (Is (jM (Il s ids)) H T):=by
 refine ar.tZ ?_;refine ar.bZ ?_ (by simp);have y1:=uL hs;have x1:=xF hs;have z1:=uM hs;have CB:bN H T->bN (H++[.cells (dA s),.cells [.sl ids.length (ints ids) .none],.cells [.sl 0 [] .full,.sl 0 [] .full,.sl 0 [] .full]]) T:=λHO=>by
  have:=((HO.snoc (vs:=dA s) (by simp)).snoc (vs:=[.sl ids.length (ints ids) .none]) (by simp)).snoc (vs:=[.sl 0 [] .full,.sl 0 [] .full,.sl 0 [] .full]) (by simp);simpa using this
 have cb:=λhv H T=>qC (qX s ids) (by have h1:=Ls s ids;have h2:=hl hv;rw[wh hv] at h1;omega) (λd hd=>y1 d (Ah hd)) (λd hd=>x1 d (Ah hd)) H T .none;unfold Il
 cases hv:aY s with
 |false=>
  have cd:=λH T=>yj s hs hv H T;have ce:=fun(H:List aA) (T:au) (b:Nat) hb=>ar.cF (B3 179 [.ptr b 0] H T hb) (a:=.sl 0 [] .full);have cb0:∀H T,ar prog 68 [.sl 0 [] .none] H T (Is (.df [jM (cZ []).1,.int .i64 (cZ []).2]) H T):=λH T=>qC [] (by simp) (λd hd=>by simp at hd) (λd hd=>by simp at hd) H T .none;rw[Lt hv];generalize cZ []=r at *;refine ah 8 [] Tryz.ntmps129 Tryz.func129 rfl (λ_ _=>Tryz.call129 _ _) (by simp) (λHO=>?_);apply ae;intro K Z;simp(disch:=omega);apply Z;refine ae λK hK=>?_;simp(disch:=omega) ;refine ak (cd _ _) ?_;simp(disch:=omega) ;refine ak (ce _ _ _ (by simp)) ?_;simp(disch:=omega) ;apply hK;refine ae λK hK=>?_;simp(disch:=omega) ;refine ak (cb0 _ _) ?_;simp(disch:=omega) ;apply hK;apply ae;intro K Z;simp(disch:=omega);apply Z;apply az;simp(disch:=omega) 
 |true=>
  have cb:=cb hv;have cd:=λH T=>yk s hs hv H T;have hP:eh s=ja s:=by unfold eh;rw[agN hv]
  have hn:s.aB.length=(ja s).length:=by rw[<-hP,wh hv]
  have Zw:qX s ids=(ja s).filter λd=>!decide (d.id∈ids):=by unfold qX;rw[hP]
  have mN:(ja s).length<=1000000:=by have:=hl hv;omega
  have wL:=HE (λd=>decide (d.id∈ids)) (ja s) mN 179 [.ptr (H.length+1) 0] (H++[.cells (dA s),.cells [.sl ids.length (ints ids) .none],.cells [.sl 0 [] .full,.sl 0 [] .full,.sl 0 [] .full],.cells (dA s)]) T (by simp) (λd hd X=>Fm ids hi d (H.length+1) _ T (by simp));have wL:=ar.cF (a:=.bJ (H++[aA.cells (dA s),aA.cells [.sl ids.length (ints ids) .none],aA.cells [.sl 0 [] .full,.sl 0 [] .full,.sl 0 [] .full],aA.cells (dA s)]).length (ja s).length (ja s).length) wL;rw[<-Zw,<-hn] at wL;rw[hn] at cd;rw[hn] at wL;simp only[agV,aiQ,aic,agF,ahd,ahV] at wL;generalize ja s=ds at *;generalize qX s ids=lf at *;generalize cZ lf=r at *;refine ah 8 [] Tryz.ntmps129 Tryz.func129 rfl (λ_ _=>Tryz.call129 _ _) (by simp) (λHO=>?_);have CB:=CB HO;apply ae;intro K Z;simp(disch:=omega);apply Z;refine ae λK hK=>?_;simp(disch:=omega) ;refine ak (cd _ _) ?_;simp(disch:=omega) ;refine⟨_,wL,?_⟩;rintro r' H' T' ⟨rfl,rfl,rest,X,rfl⟩;simp(disch:=omega) ;apply hK;have hG:H++aA.cells (dA s)::aA.cells [AV.sl ids.length (ints ids) Tag.none]::aA.cells [AV.sl 0 [] Tag.full,AV.sl 0 [] Tag.full,AV.sl 0 [] Tag.full]::aA.cells (dA s)::aA.cells (aN lf++rest)::X
    = (H++[.cells (dA s),.cells [.sl ids.length (ints ids) .none],.cells [.sl 0 [] .full,.sl 0 [] .full,.sl 0 [] .full]])++aA.cells (dA s)::aA.cells (aN lf++rest)::X:=by simp
  rw[hG,<-List.append_nil T'];refine Oi (H:=H++[.cells (dA s),.cells [.sl ids.length (ints ids) .none],.cells [.sl 0 [] .full,.sl 0 [] .full,.sl 0 [] .full]]) (T:=T') (e':=[(2,.ptr H.length 0),(4,.ptr (H.length+2) 0),(5,.sl lf.length (aN lf) .none)]) ?_ ?_ CB ?_ ?_
  ·simp
  ·simp
  ·refine⟨fU.same (by simp),fU.same (by simp),fU.M5 (rest:=rest) (by simp) ?_ (by simp),trivial⟩;rw[<-hG];simp
  refine ae λK hK=>?_;simp(disch:=omega) ;refine ak (cb _ _) ?_;simp(disch:=omega) ;apply hK;apply ae;intro K Z;simp(disch:=omega);apply Z;apply az;simp(disch:=omega) 
structure Sm (s:Sg):Prop where
 d:s.aB.length<=20
 t:s.bO.length<=60
 w:∀t∈s.bO,t.w.length<=maxLen/\t.l.length<=30/\∀p∈t.l,p.2.length<=30
 c:s.aO.length<=6
 x:∀c∈s.aO,c.x.length<=30
def Sm.sz {s:Sg}(h:Sm s):uX s:=⟨by have:=h.d;omega,by have:=h.t;omega,λt ht=>⟨(h.w t ht).1,by have:=(h.w t ht).2.1;omega,λp hp=>by have:=(h.w t ht).2.2 p hp;omega⟩,by have:=h.c;omega,λc hc=>by have:=h.x c hc;omega⟩
end Go.Proofs.YtoejlmpbebjemaaGreat
