/- Merge, of the program and of the reference (layer 39). slices.Contains of numbers; slices.DeleteFunc of documents in a box (layer 39). slices.DeleteFunc of documents in a box; Drop (layer 39). Drop, of the program and of the reference (layer 39). Sizes of what is merged of small segments (layer 39, plain).
  Conditions: as the theorems say. -/
import Derived.Test.YtoejlmpbebjemaaGreatGZx
import Derived.Test.YtoejlmpbebjemaaGreatGLA
set_option linter.all false
set_option maxRecDepth 100000
set_option maxHeartbeats 8000000
open List (getD_eq_getElem?_getD)
namespace Go.Proofs.YtoejlmpbebjemaaGreat
open Go.Proofs.Tryz(prog)
open Go Go.Am im cL eT
def FH {s t:Sg}(h:aX s=false):jU s t=(bR,1):=by unfold jU;rw[ahq λx=>by rw[x.1] at h;cases h]
def FE {s t:Sg}(h:aX t=false):jU s t=(bR,1):=by unfold jU;rw[ahq λx=>by rw[x.2] at h;cases h]
def Ia {s t:Sg}(h1:aX s=true)(h2:aX t=true)(h:comb (λp q=>p&&q) s.aA t.aA≠[]):jU s t=(bR,10):=by unfold jU;rw[ahs ⟨h1,h2⟩,ahq h]
def Mf {s t:Sg}(h1:aX s=true)(h2:aX t=true)(h:comb (λp q=>p&&q) s.aA t.aA=[]):jU s t=cZ (et s++et t):=by unfold jU;rw[ahs ⟨h1,h2⟩,ahs h]
def xT {s:Sg}(hs:ve s):∀d∈et s,d.ns.length<=1000000:=by
 intro d hd;unfold et at hd
 split at hd
 ·rename_i hv;exact(EP hv hs.t (λt ht=>⟨(hs.w t ht).1,(hs.w t ht).2.2⟩) hs.c hs.x d hd).2.2
 ·simp at hd
def wC {s:Sg}(hv:aX s=true):(et s).length=s.aA.length:=by unfold et;rw[ahs hv];simp[jh]
attribute [-simp] getD_eq_getElem?_getD in
theorem H9 (s t:Sg)(hs:ve s)(ht:ve t)(hl:aX s=true->aX t=true->s.aA.length+t.aA.length<=19)(H:List az)(T:au) :
  ar prog 130 [jS s,jS t] H T (Is (.df [jS (jU s t).1,.int .i64 (jU s t).2]) H T):=by
 refine ar.pn ?_;show ar prog _ _ H T (BQ H T _);have cs:=λH T=>jW s hs H T;have ct:=λH T=>jW t ht H T;have ca:=λH T=>Pd s.aA t.aA hs.d ht.d H T .none .none;have cd:=λH T=>kG s hs H T;have ce:=λH T=>rq t ht H T;have z1:=uX hs;have z2:=uX ht;have y1:=uW hs;have y2:=uW ht;have x1:=xT hs;have x2:=xT ht;refine ah 6 [] Tryz.ntmps130 Tryz.func130 rfl (λ_ _=>Tryz.call130 _ _) (by simp) (λHO=>?_);apply ae;intro K Z;simp(disch:=omega);apply Z;refine af λK1 aO=>?_
 cases hv:aX s with
 |false=>
  rw[FH hv];rw[hv] at cs;refine ae λK hK=>?_;simp(disch:=omega) ;refine ak (cs _ _) ?_;simp(disch:=omega) ;apply hK;apply aG rfl;apply ae;intro K Z;simp(disch:=omega);apply Z;apply ay;simp(disch:=omega) ;exact⟨⟨_,rfl⟩,⟨[],by simp⟩,kn _⟩
 |true=>
 rw[hv] at cs
 cases I1:aX t with
 |false=>
  rw[FE I1];rw[I1] at ct;refine ae λK hK=>?_;simp(disch:=omega) ;refine ak (cs _ _) ?_;simp(disch:=omega) ;refine ak (ct _ _) ?_;simp(disch:=omega) ;apply hK;apply aG rfl;apply ae;intro K Z;simp(disch:=omega);apply Z;apply ay;simp(disch:=omega) ;exact⟨⟨_,rfl⟩,⟨[],by simp⟩,kn _⟩
 |true=>
 rw[I1] at ct;have hlen:=hl hv I1;rw[<-wC hv,<-wC I1] at hlen;refine ae λK hK=>?_;simp(disch:=omega) ;refine ak (cs _ _) ?_;simp(disch:=omega) ;refine ak (ct _ _) ?_;simp(disch:=omega) ;apply hK;apply aD rfl;apply aq;simp(disch:=omega) ;apply aO;clear aO;refine af λK1 aO=>?_
 by_cases hc:comb (λp q=>p&&q) s.aA t.aA=[]
 rotate_left
 ·rw[Ia hv I1 hc];have hc1:(0:Int)<((comb (λp q=>p&&q) s.aA t.aA).length:Nat):=by
   have:=ait.2 hc;omega
  have hc2:decide ((0:Int)<((comb (λp q=>p&&q) s.aA t.aA).length:Nat))=true:=ahm hc1;generalize comb (λp q=>p&&q) s.aA t.aA=c at *;refine ae λK hK=>?_;simp(disch:=omega) ;refine ak (ca _ _) ?_;simp(disch:=omega)[hc2,hc];apply hK;refine aT rfl (λh=>?_) (λh=>absurd h (by simp[hc]));apply ae;intro K Z;simp(disch:=omega);apply Z;apply ay;simp(disch:=omega) ;exact⟨⟨_,rfl⟩,⟨[],by simp⟩,kn _⟩
 have hM:=Mf hv I1 hc;rw[hc] at ca;refine ae λK hK=>?_;simp(disch:=omega) ;refine ak (ca _ _) ?_;simp(disch:=omega) ;apply hK;apply aD rfl;apply aq;simp(disch:=omega) ;apply aO;clear aO;have cb:=λH T tg=>qG (et s++et t) (by rw[ahk];omega) (λd hd=>(ahw.1 hd).elim (y1 d) (y2 d)) (λd hd=>(ahw.1 hd).elim (x1 d) (x2 d)) H T tg;rw[ahk,<-ES] at cb;generalize et s=ds at *;generalize et t=dt at *;generalize cZ (ds++dt)=r at *;refine aJ [4,8] [0,0,0,0,0,1,1,1,1,2] [[],[]] aw (by kernel_rfl) (by kernel_rfl) λK hK=>?_;simp(disch:=omega)[ba];refine aC (cd _ _) rfl ?_;simp(disch:=omega) ;refine aC (ce _ _) rfl ?_;simp(disch:=omega)[ba];refine aC (cb _ _ _) rfl ?_;simp(disch:=omega) ;apply hK;apply ay;simp(disch:=omega) ;rw[hM];refine⟨⟨_,rfl⟩,⟨_,rfl⟩,.same ?_⟩;simp
def C7 (l:List Int)(n:Int):Int:=if n∈l then (l.findIdx (·==n):Nat) else -1
def T8 {l:List Int}{n:Int}(h:∀j,j<l.length->l.getD j 0≠n):C7 l n=-1:=by
 unfold C7;rw[ahq];intro hm;obtain⟨i,hi,e⟩:=ahB.1 hm;exact h i hi (by rw[ahg,ahi hi];exact e)
def T9 {l:List Int}{n:Int}{k:Nat}(hk:k<l.length)(h:∀j,j<k->l.getD j 0≠n)(e:l.getD k 0=n):C7 l n=k:=by
 have ek:l[k]=n:=by rw[ahg,ahi hk] at e;exact e
 unfold C7;rw[ahs (by rw[<-ek];exact ahP hk)];have:l.findIdx (·==n)=k:=by
  rw[List.findIdx_eq hk];refine⟨by simpa using ek,λj hj=>?_⟩;have:=h j hj;rw[ahg,ahi (by omega)] at this;simpa using this
 rw[this]
def Qv (l:List Int)(n:Int):decide (0<=C7 l n)=decide (n∈l):=by
 unfold C7
 by_cases h:n∈l
 ·rw[ahs h,ahm h];exact ahm (by omega)
 ·rw[ahq h,ahn h];exact ahn (by omega)
attribute [-simp] getD_eq_getElem?_getD in
def Cq (l:List Int)(n:Int)(hl:l.length<=maxLen)(H:List az)(T:au):ar prog 155 [.sl l.length (ints l) .none,.int .i64 n] H T (Is (.int .i64 (C7 l n)) H T):=by
 have jR:l.length<=9223372036854775807:=aho hl (by decide);refine ar.bV ?_ (by simp);refine ah 9 [] Tryz.ntmps155 Tryz.func155 rfl (λ_ _=>Tryz.call155 _ _) (by simp) (λHO=>?_);apply ae;intro K Z;simp(disch:=omega);apply Z;refine af λK1 aO=>?_;apply ae;intro K Z;simp(disch:=omega);apply Z;apply aj;refine aI (X:=Nat) (λk=>⟨[(0,.sl l.length (ints l) .none),(1,.int .i64 n),(7,.int .i64 (l.length:Nat)),(8,.int .i64 (k:Nat))],H,T⟩) (λk=>k<=l.length/\∀j,j<k->l.getD j 0≠n) (λk=>l.length-k) 0 ?_ ?_ ?_
 ·exact⟨ahu _,λj hj=>absurd hj (ahO _)⟩
 ·refine ag [] [] ?_ ?_ ?_ ?_ HO ?_
  all_goals simp
 ·rintro k ⟨h1,h2⟩;apply ae;intro K Z;simp(disch:=omega);apply Z;refine af λK2 bc=>?_;refine aT rfl (λhk=>?_) (λhk=>?_)
  ·simp  at hk;have jv:=bI hk;have gV:k<(ints l).length:=by simpa using hk
   apply aq;simp(disch:=omega) ;apply bc;clear bc;refine af λK3 bD=>?_;apply aj;apply ae;intro K Z;simp(disch:=omega);apply Z
   by_cases he:l.getD k 0=n
   ·have hi:=T9 hk h2 he;have b1:(n==l.getD k 0)=true:=by simpa using he.symm
    refine ae λK hK=>?_;simp(disch:=omega)[jv,gV,hk,b1,he];apply hK;apply aG rfl;apply ae;intro K Z;simp(disch:=omega);apply Z;apply ay;simp(disch:=omega) ;rw[hi]
   ·have b1:(n==l.getD k 0)=false:=by simpa using λe=>he e.symm
    have st:∀j,j<k+1->l.getD j 0≠n:=λj hj=>by
     rcases ahr j k with h3|h3
     ·exact h2 j h3
     ·have:j=k:=by omega
      subst this;exact he
    generalize l.getD k 0=x at *;refine ae λK hK=>?_;simp(disch:=omega)[jv,gV,hk,b1];apply hK;apply aD rfl;apply aq;simp(disch:=omega) ;apply bD;clear bD;refine aB λK hK=>?_;simp(disch:=omega) ;apply hK;refine⟨k+1,⟨by omega,st⟩,by omega,?_⟩;refine ag [] [] ?_ ?_ ?_ ?_ HO ?_
    all_goals simp
  ·simp  at hk;have e:k=l.length:=by omega
   subst e;apply aF;simp(disch:=omega) ;apply aO;clear aO;apply ae;intro K Z;simp(disch:=omega);apply Z;apply ay;simp(disch:=omega) ;rw[T8 h2]
attribute [-simp] getD_eq_getElem?_getD in
def qd (l:List Int)(n:Int)(hl:l.length<=maxLen)(H:List az)(T:au)(tg:Tag):ar prog 89 [.sl l.length (ints l) tg,.int .i64 n] H T (Is (.bool (decide (n∈l))) H T):=by
 refine ar.cg ?_;refine ar.bV ?_ (by simp);have c:=λH T=>Cq l n hl H T;rw[<-Qv];generalize C7 l n=v at *;refine ah 5 [] Tryz.ntmps89 Tryz.func89 rfl (λ_ _=>Tryz.call89 _ _) (by simp) (λHO=>?_);apply ae;intro K Z;simp(disch:=omega);apply Z;refine ae λK hK=>?_;simp(disch:=omega) ;refine ak (c _ _) ?_;simp(disch:=omega) ;apply hK;apply ay;simp(disch:=omega) 
def qD (x:Dc)(u:List Dc):aM (x::u)=.int .i64 x.id::.sl x.zs.length (fu x.zs) .none::.sl x.ns.length (br x.ns) .none::aM u:=rfl
theorem MQ:∀(u:List Dc)(i:Nat)(x:Dc),i<u.length->(((aM u).set (i*3) (.int .i64 x.id)).set (i*3+1) (.sl x.zs.length (fu x.zs) .none)).set (i*3+1+1) (.sl x.ns.length (br x.ns) .none)=aM (u.set i x):=by
 intro u
 induction u with
 |nil=>intro i x h;simp at h
 |cons p u ih=>
  intro i x h
  cases i with
  |zero=>
   rw[qD];show _=aM (x::u);rw[qD];rfl
  |succ i=>
   have:=ih i x (by simpa using h);rw[qD,List.set_cons_succ,qD,show (i+1)*3=i*3+1+1+1 by omega,<-this];rfl
def C8 (p:Dc->Bool)(l:List Dc):Int:=if l.any p=true then (l.findIdx p:Nat) else -1
def Ua {p:Dc->Bool}{l:List Dc}(h:∀j,j<l.length->p (l.getD j d0)=false):C8 p l=-1:=by
 unfold C8;rw[ahq];rw[aiY];rintro⟨x,hx,hp⟩;obtain⟨i,hi,rfl⟩:=bH d0 hx;rw[h i hi] at hp;cases hp
def Ub {p:Dc->Bool}{l:List Dc}{k:Nat}(hk:k<l.length)(h:∀j,j<k->p (l.getD j d0)=false)(e:p (l.getD k d0)=true):C8 p l=k:=by
 have g:∀j (hj:j<l.length),l.getD j d0=l[j]:=λj hj=>by rw[ahg,ahi hj];rfl
 rw[g k hk] at e;unfold C8;rw[ahs (aiY.2 ⟨_,ahP hk,e⟩)];have:l.findIdx p=k:=by
  rw[List.findIdx_eq hk];refine⟨e,λj hj=>?_⟩;have:=h j hj;rw[g j (by omega)] at this;exact this
 rw[this]
def Qw (p:Dc->Bool)(l:List Dc):(C8 p l=-1/\∀d∈l,p d=false)\/∃k,k<l.length/\C8 p l=(k:Nat)/\(∀j,j<k->p (l.getD j d0)=false)/\p (l.getD k d0)=true:=by
 unfold C8
 by_cases h:l.any p=true
 ·right
  rw[ahs h];obtain⟨x,hx,hp⟩:=aiY.1 h;have hlt:l.findIdx p<l.length:=List.findIdx_lt_length.2 ⟨x,hx,hp⟩;have g:∀j (hj:j<l.length),l.getD j d0=l[j]:=λj hj=>by rw[ahg,ahi hj];rfl
  refine⟨_,hlt,rfl,λj hj=>?_,?_⟩
  ·rw[g j (by omega)];have:=List.not_of_lt_findIdx hj;simpa using this
  ·rw[g _ hlt];exact List.findIdx_getElem
 ·left
  rw[ahq h];refine⟨rfl,λd hd=>?_⟩;have:=ai9.1 (by simpa using h:l.any p=false) d hd;simpa using this
attribute [-simp] getD_eq_getElem?_getD in
theorem Ik (p:Dc->Bool)(l:List Dc)(hl:l.length<=1000000)(g:FuncId)(bY:List AV)(Hx:List az)(T:au)(qP:aK Hx.length T.length bY)
  (hc:∀d∈l,∀X,ar prog g ([.agg (dP d)]++bY) (Hx++X) T (Is (.bool (p d)) (Hx++X) T)) :
  ar prog 175 [.cK Hx.length 0 l.length,.fn g [] bY] (Hx++[.cells (aM l)]) T (Is (.int .i64 (C8 p l)) (Hx++[.cells (aM l)]) T):=by
 have jR:l.length<=9223372036854775807:=by omega
 refine ah 9 [] Tryz.ntmps175 Tryz.func175 rfl (λ_ _=>Tryz.call175 _ _) (by simp) (λHO=>?_);have GH:aK (Hx.length+1) T.length bY:=λv hv=>(qP v hv).more (by omega) (ahj _);apply ae;intro K Z;simp(disch:=omega);apply Z;refine af λK1 aO=>?_;apply ae;intro K Z;simp(disch:=omega);apply Z;apply aj;refine aI (X:=Nat) (λk=>⟨[(0,.cK Hx.length 0 l.length),(1,.fn g [] bY),(7,.int .i64 (l.length:Nat)),(8,.int .i64 (k:Nat))],Hx++[.cells (aM l)],T⟩) (λk=>k<=l.length/\∀j,j<k->p (l.getD j d0)=false) (λk=>l.length-k) 0 ?_ ?_ ?_
 ·exact⟨ahu _,λj hj=>absurd hj (ahO _)⟩
 ·refine ag [] [] ?_ ?_ ?_ ?_ HO ?_
  all_goals simp
  all_goals exact GH
 ·rintro k ⟨h1,h2⟩;apply ae;intro K Z;simp(disch:=omega);apply Z;refine af λK2 bc=>?_;refine aT rfl (λhk=>?_) (λhk=>?_)
  ·simp  at hk;have hcut:=fJ l k hk;have c:=λX=>hc _ (aS l k d0 hk) X;have jv:=λh e=>Ub hk h e (p:=p);have st:p (l.getD k d0)=false->∀j,j<k+1->p (l.getD j d0)=false:=λe j hj=>by
    rcases ahr j k with h3|h3
    ·exact h2 j h3
    ·have:j=k:=by omega
     subst this;exact e
   have hlen:=ba l;apply aq;simp(disch:=omega) ;apply bc;clear bc;refine af λK3 bD=>?_;apply aj;apply ae;intro K Z;simp(disch:=omega);apply Z
   cases hp:p (l.getD k d0) with
   |true=>
    have hi:=jv h2 hp;rw[hp] at c;generalize l.getD k d0=x at *;refine ae λK hK=>?_;simp(disch:=omega)[hcut,hlen,hk];refine ak (c _) ?_;simp(disch:=omega) ;apply hK;apply aG rfl;apply ae;intro K Z;simp(disch:=omega);apply Z;apply ay;simp(disch:=omega) ;rw[hi];exact⟨rfl,rfl,rfl⟩
   |false=>
    have st2:=st hp;rw[hp] at c;generalize l.getD k d0=x at *;refine ae λK hK=>?_;simp(disch:=omega)[hcut,hlen,hk];refine ak (c _) ?_;simp(disch:=omega) ;apply hK;apply aD rfl;apply aq;simp(disch:=omega) ;apply bD;clear bD;refine aB λK hK=>?_;simp(disch:=omega) ;apply hK;refine⟨k+1,⟨by omega,st2⟩,by omega,?_⟩;refine ag [] [] ?_ ?_ ?_ ?_ HO ?_
    all_goals simp
    all_goals exact GH
  ·simp  at hk;have e:k=l.length:=by omega
   subst e;apply aF;simp(disch:=omega) ;apply aO;clear aO;apply ae;intro K Z;simp(disch:=omega);apply Z;apply ay;simp(disch:=omega) ;rw[Ua h2];exact⟨rfl,rfl,rfl⟩
def oo (p:Dc->Bool)(l:List Dc)(j:Nat):List Dc:=(l.take j).filter λd=>!p d
def GW (p:Dc->Bool)(l:List Dc)(j:Nat):(oo p l j).length<=j:=by
 unfold oo;have:=ahU (λd=>!p d) (l.take j);rw[ahJ] at this;omega
def wa (p:Dc->Bool)(l:List Dc)(j:Nat):List Dc:=oo p l j++l.drop (oo p l j).length
def SX (p:Dc->Bool)(l:List Dc){j:Nat}(hj:j<=l.length):(wa p l j).length=l.length:=by
 have:=GW p l j;rw[wa,ahk,ah4];omega
def SY {p:Dc->Bool}{l:List Dc}{j:Nat}:(wa p l j).getD j d0=l.getD j d0:=by
 have:=GW p l j;rw[wa,ahg,ahC this,aiX,show (oo p l j).length+(j-(oo p l j).length)=j by omega,<-getD_eq_getElem?_getD]
def BS {p:Dc->Bool}{l:List Dc}{j:Nat}(hj:j<l.length)(h:p (l.getD j d0)=true):oo p l (j+1)=oo p l j:=by
 unfold oo;rw[aU l j d0 hj,ah8];simp[h,-getD_eq_getElem?_getD]
def OY {p:Dc->Bool}{l:List Dc}{j:Nat}(hj:j<l.length)(h:p (l.getD j d0)=false):oo p l (j+1)=oo p l j++[l.getD j d0]:=by
 unfold oo;rw[aU l j d0 hj,ah8];simp[h,-getD_eq_getElem?_getD]
def SV {p:Dc->Bool}{l:List Dc}{j:Nat}(hj:j<l.length)(h:p (l.getD j d0)=true):wa p l (j+1)=wa p l j:=by
 rw[wa,wa,BS hj h]
def WL {p:Dc->Bool}{l:List Dc}{j:Nat}(hj:j<l.length)(h:p (l.getD j d0)=false):wa p l (j+1)=(wa p l j).set (oo p l j).length (l.getD j d0):=by
 have hl:=GW p l j;rw[wa,wa,OY hj h,aiS _ _ (ahj _),aiH,ahk,ahA]
 congr 1
 rw[aiK (by omega:(oo p l j).length<l.length)];rfl
def Mm {p:Dc->Bool}{l:List Dc}{k:Nat}(hk:k<=l.length)(h:∀j,j<k->p (l.getD j d0)=false):oo p l k=l.take k:=by
 unfold oo;rw[aiT];intro d hd;obtain⟨i,hi,e⟩:=bH d0 hd;rw[ahJ] at hi;have h2:=h i (by omega);have e2:(l.take k).getD i d0=l.getD i d0:=by rw[ahg,ahg,ah9,ahs (by omega)]
 rw[e2] at e;rw[<-e,h2];rfl
def TX (p:Dc->Bool)(l:List Dc):oo p l l.length=l.filter λd=>!p d:=by unfold oo;rw[ahE]
def bJ.WX {H:List az}{T:au}{b:az}{vs:List AV}(h:bJ (H++[b]) T)(hv:aK (H.length+1) T.length vs):bJ (H++[.cells vs]) T:=by
 have:=h.set (k:=H.length) (vs:=vs) (by rw[ahk];exact hv);simpa using this
theorem tP (a:List AV):∀(xs b:List AV)(o:Nat),setMany (a++b) (a.length+o) xs=a++setMany b o xs:=by
 intro xs
 induction xs with
 |nil=>intro b o;rfl
 |cons x r ih=>
  intro b o;rw[setMany,setMany,aiS _ _ (by omega),Nat.add_sub_cancel_left,Nat.add_assoc,ih]
attribute [-simp] getD_eq_getElem?_getD in
theorem Iv (p:Dc->Bool)(l:List Dc)(hl:l.length<=1000000)(g:FuncId)(bY:List AV)(Hx:List az)(T:au)(qP:aK Hx.length T.length bY)
  (hc:∀d∈l,∀X,ar prog g ([.agg (dP d)]++bY) (Hx++X) T (Is (.bool (p d)) (Hx++X) T)) :
  ar prog 178 [.cK Hx.length 0 l.length,.fn g [] bY] (Hx++[.cells (aM l)]) T
   (λr H' T'=>r=.cK Hx.length 0 (l.filter λd=>!p d).length/\T'=T/\∃rest X,H'=Hx++(.cells (aM (l.filter λd=>!p d)++rest)::X)):=by
 have jR:l.length<=9223372036854775807:=by omega
 have ci:=Ik p l hl g bY Hx T qP hc;refine ah 10 [] Tryz.ntmps178 Tryz.func178 rfl (λ_ _=>Tryz.call178 _ _) (by simp) (λHO=>?_);have GH:∀n,Hx.length<=n->aK n T.length bY:=λn hn v hv=>(qP v hv).more hn (ahj _);apply ae;intro K Z;simp(disch:=omega);apply Z;rcases Qw p l with⟨e,hno⟩|⟨k,hk,e,hlt,Wf⟩
 ·rw[e] at ci;have hf:l.filter (λd=>!p d)=l:=by
   rw[aiT];intro d hd;rw[hno d hd];rfl
  refine ae λK hK=>?_;simp(disch:=omega) ;refine ak (ci) ?_;simp(disch:=omega) ;apply hK;refine af λK1 aO=>?_;apply ae;intro K Z;simp(disch:=omega);apply Z;apply aG rfl;apply ae;intro K Z;simp(disch:=omega);apply Z;apply ay;simp(disch:=omega) ;rw[hf];exact⟨rfl,[],by simp⟩
 rw[e] at ci;have RQ:((k:Nat):Int)≠-1:=by omega
 have bk:(((k:Nat):Int)==-1)=false:=by simp
 refine ae λK hK=>?_;simp(disch:=omega) ;refine ak (ci) ?_;simp(disch:=omega) ;apply hK;refine af λK1 aO=>?_;refine ae λK hK=>?_;simp(disch:=omega)[bk,RQ];apply hK;apply aD rfl;apply aq;simp(disch:=omega) ;apply aO;clear aO;refine af λK1 aO=>?_;have hk1:oo p l k=l.take k:=Mm (by omega) hlt;have gq:oo p l (k+1)=l.take k:=by rw[BS hk Wf,hk1]
 have yK:(oo p l (k+1)).length=k:=by rw[gq,ahJ];omega
 have hk4:wa p l (k+1)=l:=by rw[wa,yK,gq,ahM]
 have RW:∀i,bJ (Hx++[.cells (aM (wa p l i))]) T:=λi=>bJ.WX HO (ya _ _ _);apply ae;intro K Z;simp(disch:=omega);apply Z;apply aj;refine aI (X:=Nat) (λj=>⟨[(0,.cK Hx.length 0 l.length),(1,.fn g [] bY),(5,.int .i64 ((oo p l (k+1+j)).length:Nat)),(6,.int .i64 ((k+1+j:Nat):Int))],Hx++[.cells (aM (wa p l (k+1+j)))],T⟩)
  (λj=>k+1+j<=l.length/\(oo p l (k+1+j)).length<k+1+j) (λj=>l.length-(k+1+j)) 0 ?_ ?_ ?_
 ·exact⟨hk,by rw[ajJ,yK];omega⟩
 ·refine ag [] [] ?_ ?_ ?_ ?_ (RW _) ?_
  all_goals simp[yK,hk4]
  all_goals exact GH _ (by omega)
 ·rintro j ⟨h1,h2⟩;obtain⟨i,hi⟩:∃i,i=k+1+j:=⟨_,rfl⟩
  have pD:∀P:Nat->Prop,P (i+1)->P (k+1+(j+1)):=λP h=>by rw[hi] at h;exact h
  rw[<-hi] at h1 h2 ⊢;have sr:=SX p l h1;have hlen:(aM (wa p l i)).length=l.length*3:=by rw[ba,sr]
  refine af λK2 bc=>?_;apply ae;intro K Z;simp(disch:=omega);apply Z;refine aT rfl (λhj=>?_) (λhj=>?_)
  ·simp  at hj;have hcut:=fJ (wa p l i) i (by omega);rw[SY] at hcut;have c:=λX=>hc _ (aS l i d0 hj) X;have hOi:=RW i;apply aq;simp(disch:=omega) ;apply bc;clear bc;refine af λK3 bD=>?_;apply aj;have out:∀(i':Nat) e,i'=i+1->(oo p l i').length<i'->bu (Hx.length+1) T.length e [(0,.cK Hx.length 0 l.length),(1,.fn g [] bY),(5,.int .i64 ((oo p l i').length:Nat)),(6,.int .i64 ((i:Nat):Int))]->∀X,K3 ⟨e,Hx++.cells (aM (wa p l i'))::X,T⟩:=by
    intro i' e iV kE he X;refine bD _ (aH ⟨[(0,.cK Hx.length 0 l.length),(1,.fn g [] bY),(5,.int .i64 ((oo p l i').length:Nat)),(6,.int .i64 ((i:Nat):Int))],Hx++[.cells (aM (wa p l i'))],T⟩ (ag X [] (by simp) (by simp) (by simp) (by simp) (RW _) (by simpa using he)) ?_);refine aB λK hK=>?_;simp(disch:=omega) ;apply hK;refine⟨j+1,⟨by show k+1+(j+1)<=_;omega,?_⟩,by show l.length-(k+1+(j+1))<l.length-i;omega,?_⟩
    ·refine pD (λx=>(oo p l x).length<x) ?_;rw[<-iV];exact kE
    ·have e1:k+1+(j+1)=i':=by omega
     have e2:((i':Nat):Int)=(i:Nat)+1:=by omega
     simp only[e1];refine ag [] [] ?_ ?_ ?_ ?_ (RW _) ?_
     all_goals simp[e2]
     all_goals exact GH _ (by omega)
   clear bD;refine ae λK hK=>?_;simp(disch:=omega)[hcut,hlen,hj];apply hK;have hOd:bJ (Hx++[.cells (aM (wa p l i)),.cells (dP (l.getD i d0))]) T:=by
    have:=hOi.snoc (vs:=dP (l.getD i d0)) (by simp);simpa using this
   cases hp:p (l.getD i d0) with
   |true=>
    rw[hp] at c;have e1:=BS hj hp;have e2:=SV hj hp;have out:=λe=>out (i+1) e rfl (by rw[e1];omega);rw[e1,e2] at out;generalize l.getD i d0=x at *;refine ae λK hK=>?_;simp(disch:=omega) ;refine ak (c _) ?_;simp(disch:=omega) ;apply hK;apply aD rfl;apply aq;simp(disch:=omega) ;refine out _ ?_ _;simp;exact GH _ (by omega)
   |false=>
    rw[hp] at c;have e1:=OY hj hp;have e2:=WL hj hp;have e3:(oo p l (i+1)).length=(oo p l i).length+1:=by rw[e1];simp
    have m7:=MQ (wa p l i) (oo p l i).length (l.getD i d0) (by omega);have out:=λe=>out (i+1) e rfl (by rw[e3];omega);rw[e3,e2,<-m7] at out;have hlt3:(oo p l i).length<l.length:=by omega
    generalize l.getD i d0=x at *;generalize (oo p l i).length=m at *;generalize aM (wa p l i)=B at *;refine ae λK hK=>?_;simp(disch:=omega) ;refine ak (c _) ?_;simp(disch:=omega) ;apply hK;apply aG rfl;refine ae λK hK=>?_;simp(disch:=omega)[hlt3,hlen];apply hK;refine aB λK hK=>?_;simp(disch:=omega) ;apply hK;refine out _ ?_ _;simp;exact GH _ (by omega)
  ·simp  at hj;have e:i=l.length:=by omega
   have hw:wa p l i=oo p l i++l.drop (oo p l i).length:=rfl;have hka:oo p l i=l.filter λd=>!p d:=by rw[e,TX]
   rw[hw,<-ES] at hlen ⊢;have XO:=ba (oo p l i);have m7:=λxs=>tP (aM (oo p l i)) xs (aM (l.drop (oo p l i).length)) 0;rw[XO,ajJ] at m7;generalize oo p l i=c at hlen XO m7 h2 hka ⊢;generalize aM (l.drop c.length)=R at hlen m7 ⊢;apply aF;simp(disch:=omega) ;apply aO;clear aO;have hle:c.length<=l.length:=by omega
   have hcl:c.length<l.length:=by omega
   refine ae λK hK=>?_;simp(disch:=omega)[hcl,hlen];apply hK;rw[m7];refine ae λK hK=>?_;simp(disch:=omega)[hle];apply hK;apply ay;simp(disch:=omega) ;rw[hka];exact⟨rfl,_,rfl⟩
attribute [-simp] getD_eq_getElem?_getD in
def FR (ids:List Int)(hi:ids.length<=maxLen)(d:Dc)(b:Nat)(H:List az)(T:au)(hb:H[b]?=some (.cells [.sl ids.length (ints ids) .none])) :
  ar prog 179 ([.agg (dP d)]++[.ptr b 0]) H T (Is (.bool (decide (d.id∈ids))) H T):=by
 refine ar.bV ?_ (by simp);have c:=λH T=>qd ids d.id hi H T .none;obtain⟨id,zs,ns⟩:=d;simp only at c;have vO:=(ahh.1 hb).1;have jv:=aW hb;generalize decide (id∈ids)=q at *;refine ah 5 [] Tryz.ntmps179 Tryz.func179 rfl (λ_ _=>Tryz.call179 _ _) (by simp) (λHO=>?_);apply ae;intro K Z;simp(disch:=omega);apply Z;refine ae λK hK=>?_;simp(disch:=omega)[ahp,aiz,hb,vO,jv];refine ak (c _ _) ?_;simp(disch:=omega) ;apply hK;apply ay;simp(disch:=omega) 
attribute [-simp] getD_eq_getElem?_getD in
def FN (g:FuncId)(bY:List AV)(H:List az)(T:au)(qP:aK H.length T.length bY) :
  ar prog 175 [.sl 0 [] .none,.fn g [] bY] H T (Is (.int .i64 (-1)) H T):=by
 refine ar.bV ?_ (by simp);refine ah 9 [] Tryz.ntmps175 Tryz.func175 rfl (λ_ _=>Tryz.call175 _ _) (by simp) (λHO=>?_);apply ae;intro K Z;simp(disch:=omega);apply Z;refine af λK1 aO=>?_;apply ae;intro K Z;simp(disch:=omega);apply Z;apply aj;refine aI (X:=Nat) (λk=>⟨[(7,.int .i64 0),(8,.int .i64 0)],H,T⟩) (λk=>True) (λk=>0) 0 trivial ?_ ?_
 ·refine ag [] [] ?_ ?_ ?_ ?_ HO ?_
  all_goals simp
 ·intro k _;apply ae;intro K Z;simp(disch:=omega);apply Z;refine af λK2 bc=>?_;refine aT rfl (λhk=>?_) (λhk=>?_)
  ·simp at hk
  ·apply aF;simp(disch:=omega) ;apply aO;clear aO;apply ae;intro K Z;simp(disch:=omega);apply Z;apply ay;simp(disch:=omega) 
attribute [-simp] getD_eq_getElem?_getD in
def Cs (g:FuncId)(bY:List AV)(H:List az)(T:au)(qP:aK H.length T.length bY) :
  ar prog 178 [.sl 0 [] .none,.fn g [] bY] H T (Is (.sl 0 [] .none) H T):=by
 refine ar.bV ?_ (by simp);have ci:=FN g bY H T qP;refine ah 10 [] Tryz.ntmps178 Tryz.func178 rfl (λ_ _=>Tryz.call178 _ _) (by simp) (λHO=>?_);apply ae;intro K Z;simp(disch:=omega);apply Z;refine ae λK hK=>?_;simp(disch:=omega) ;refine ak (ci) ?_;simp(disch:=omega) ;apply hK;refine af λK1 aO=>?_;apply ae;intro K Z;simp(disch:=omega);apply Z;apply aG rfl;apply ae;intro K Z;simp(disch:=omega);apply Z;apply ay;simp(disch:=omega) 
def Au {s:Sg}{ids:List Int}{d:Dc}(h:d∈rf s ids):d∈et s:=(ahF.1 h).1
def Mi (s:Sg)(ids:List Int):(rf s ids).length<=(et s).length:=ahU _ _
def Mj {s:Sg}{ids:List Int}(h:aX s=false):rf s ids=[]:=by
 unfold rf et;rw[ahq (by rw[h];decide)];rfl
attribute [-simp] getD_eq_getElem?_getD in
theorem uT (s:Sg)(hs:ve s)(hl:aX s=true->s.aA.length<=19)(ids:List Int)(hi:ids.length<=maxLen)(H:List az)(T:au)(tg:Tag) :
  ar prog 129 [jS s,.sl ids.length (ints ids) tg] H T (Is (jS (Jc s ids)) H T):=by
 refine ar.uk ?_;refine ar.bV ?_ (by simp);have y1:=uW hs;have x1:=xT hs;have z1:=uX hs;have CZ:bJ H T->bJ (H++[.cells (dC s),.cells [.sl ids.length (ints ids) .none],.cells [.sl 0 [] .full,.sl 0 [] .full,.sl 0 [] .full]]) T:=λHO=>by
  have:=((HO.snoc (vs:=dC s) (by simp)).snoc (vs:=[.sl ids.length (ints ids) .none]) (by simp)).snoc (vs:=[.sl 0 [] .full,.sl 0 [] .full,.sl 0 [] .full]) (by simp);simpa using this
 have cb:=λhv H T=>qG (rf s ids) (by have h1:=Mi s ids;have h2:=hl hv;rw[wC hv] at h1;omega) (λd hd=>y1 d (Au hd)) (λd hd=>x1 d (Au hd)) H T .none;unfold Jc
 cases hv:aX s with
 |false=>
  have cd:=λH T=>yC s hs hv H T;have ce:=fun(H:List az) (T:au) (b:Nat) hb=>ar.cg (Cs 179 [.ptr b 0] H T hb) (a:=.sl 0 [] .full);have cb0:∀H T,ar prog 68 [.sl 0 [] .none] H T (Is (.df [jS (cZ []).1,.int .i64 (cZ []).2]) H T):=λH T=>qG [] (by simp) (λd hd=>by simp at hd) (λd hd=>by simp at hd) H T .none;rw[Mj hv];generalize cZ []=r at *;refine ah 8 [] Tryz.ntmps129 Tryz.func129 rfl (λ_ _=>Tryz.call129 _ _) (by simp) (λHO=>?_);apply ae;intro K Z;simp(disch:=omega);apply Z;refine ae λK hK=>?_;simp(disch:=omega) ;refine ak (cd _ _) ?_;simp(disch:=omega) ;refine ak (ce _ _ _ (by simp)) ?_;simp(disch:=omega) ;apply hK;refine ae λK hK=>?_;simp(disch:=omega) ;refine ak (cb0 _ _) ?_;simp(disch:=omega) ;apply hK;apply ae;intro K Z;simp(disch:=omega);apply Z;apply ay;simp(disch:=omega) 
 |true=>
  have cb:=cb hv;have cd:=λH T=>yD s hs hv H T;have hP:et s=jh s:=by unfold et;rw[ahs hv]
  have hn:s.aA.length=(jh s).length:=by rw[<-hP,wC hv]
  have aah:rf s ids=(jh s).filter λd=>!decide (d.id∈ids):=by unfold rf;rw[hP]
  have hdl:(jh s).length<=1000000:=by have:=hl hv;omega
  have wW:=Iv (λd=>decide (d.id∈ids)) (jh s) hdl 179 [.ptr (H.length+1) 0] (H++[.cells (dC s),.cells [.sl ids.length (ints ids) .none],.cells [.sl 0 [] .full,.sl 0 [] .full,.sl 0 [] .full],.cells (dC s)]) T (by simp) (λd hd X=>FR ids hi d (H.length+1) _ T (by simp));have wW:=ar.cg (a:=.bG (H++[az.cells (dC s),az.cells [.sl ids.length (ints ids) .none],az.cells [.sl 0 [] .full,.sl 0 [] .full,.sl 0 [] .full],az.cells (dC s)]).length (jh s).length (jh s).length) wW;rw[<-aah,<-hn] at wW;rw[hn] at cd;rw[hn] at wW;simp only[ahA,ajv,aiQ,ahk,ahS,aiB] at wW;generalize jh s=ds at *;generalize rf s ids=lf at *;generalize cZ lf=r at *;refine ah 8 [] Tryz.ntmps129 Tryz.func129 rfl (λ_ _=>Tryz.call129 _ _) (by simp) (λHO=>?_);have CZ:=CZ HO;apply ae;intro K Z;simp(disch:=omega);apply Z;refine ae λK hK=>?_;simp(disch:=omega) ;refine ak (cd _ _) ?_;simp(disch:=omega) ;refine⟨_,wW,?_⟩;rintro r' H' T' ⟨rfl,rfl,rest,X,rfl⟩;simp(disch:=omega) ;apply hK;have hG:H++az.cells (dC s)::az.cells [AV.sl ids.length (ints ids) Tag.none]::az.cells [AV.sl 0 [] Tag.full,AV.sl 0 [] Tag.full,AV.sl 0 [] Tag.full]::az.cells (dC s)::az.cells (aM lf++rest)::X
    = (H++[.cells (dC s),.cells [.sl ids.length (ints ids) .none],.cells [.sl 0 [] .full,.sl 0 [] .full,.sl 0 [] .full]])++az.cells (dC s)::az.cells (aM lf++rest)::X:=by simp
  rw[hG,<-List.append_nil T'];refine Pb (H:=H++[.cells (dC s),.cells [.sl ids.length (ints ids) .none],.cells [.sl 0 [] .full,.sl 0 [] .full,.sl 0 [] .full]]) (T:=T') (e':=[(2,.ptr H.length 0),(4,.ptr (H.length+2) 0),(5,.sl lf.length (aM lf) .none)]) ?_ ?_ CZ ?_ ?_
  ·simp
  ·simp
  ·refine⟨gj.same (by simp),gj.same (by simp),gj.NT (rest:=rest) (by simp) ?_ (by simp),trivial⟩;rw[<-hG];simp
  refine ae λK hK=>?_;simp(disch:=omega) ;refine ak (cb _ _) ?_;simp(disch:=omega) ;apply hK;apply ae;intro K Z;simp(disch:=omega);apply Z;apply ay;simp(disch:=omega) 
structure Sm (s:Sg):Prop where
 d:s.aA.length<=20
 t:s.bK.length<=60
 w:∀t∈s.bK,t.w.length<=maxLen/\t.l.length<=30/\∀p∈t.l,p.2.length<=30
 c:s.aN.length<=6
 x:∀c∈s.aN,c.x.length<=30
def Sm.sz {s:Sg}(h:Sm s):ve s:=⟨by have:=h.d;omega,by have:=h.t;omega,λt ht=>⟨(h.w t ht).1,by have:=(h.w t ht).2.1;omega,λp hp=>by have:=(h.w t ht).2.2 p hp;omega⟩,by have:=h.c;omega,λc hc=>by have:=h.x c hc;omega⟩
end Go.Proofs.YtoejlmpbebjemaaGreat
