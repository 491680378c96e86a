/- Merge, of the program and of the reference (layer 39). slices.Contains of numbers; slices.DeleteFunc of documents in a box (layer 39). slices.DeleteFunc of documents in a box; Drop (layer 39). Drop, of the program and of the reference (layer 39). Sizes of what is merged of small segments (layer 39, plain).
  Conditions: as the theorems say. -/
import Derived.Test.YtoejlmpbebjemaaGreatGZx
import Derived.Test.YtoejlmpbebjemaaGreatGLA
set_option linter.all false
set_option maxRecDepth 100000
set_option maxHeartbeats 8000000
open List (getD_eq_getElem?_getD)
namespace Go.Proofs.YtoejlmpbebjemaaGreat
open Go.Proofs.Tryz(prog)
open Go Go.Am ie cN eN
def FR {s t:Sg}(h:aT s=false):kg s t=(bY,1):=by unfold kg;rw[ahC λx=>by rw[x.1] at h;cases h]
def FQ {s t:Sg}(h:aT t=false):kg s t=(bY,1):=by unfold kg;rw[ahC λx=>by rw[x.2] at h;cases h]
def HZ {s t:Sg}(h1:aT s=true)(h2:aT t=true)(h:comb (λp q=>p&&q) s.aw t.aw≠[]):kg s t=(bY,10):=by unfold kg;rw[ahF ⟨h1,h2⟩,ahC h]
def L6 {s t:Sg}(h1:aT s=true)(h2:aT t=true)(h:comb (λp q=>p&&q) s.aw t.aw=[]):kg s t=dH (eC s++eC t):=by unfold kg;rw[ahF ⟨h1,h2⟩,ahF h]
def ya {s:Sg}(hs:rz s):∀d∈eC s,d.ns.length<=1000000:=by
 intro d hd;unfold eC at hd
 split at hd
 ·rename_i hv;exact(E7 hv hs.t (λt ht=>⟨(hs.w t ht).1,(hs.w t ht).2.2⟩) hs.c hs.x d hd).2.2
 ·simp at hd
def wO {s:Sg}(hv:aT s=true):(eC s).length=s.aw.length:=by unfold eC;rw[ahF hv];simp[jx]
attribute [-simp] getD_eq_getElem?_getD in
theorem HY (s t:Sg)(hs:rz s)(ht:rz t)(hl:aT s=true->aT t=true->s.aw.length+t.aw.length<=19)(H:List aA)(T:au) :
  aq prog 130 [jh s,jh t] H T (Is (.dn [jh (kg s t).1,.int .i64 (kg s t).2]) H T):=by
 refine aq.pF ?_;show aq prog _ _ H T (BQ H T _);have cs:=λH T=>kj s hs H T;have ct:=λH T=>kj t ht H T;have ca:=λH T=>O2 s.aw t.aw hs.d ht.d H T .none .none;have cd:=λH T=>lq s hs H T;have ce:=λH T=>rR t ht H T;have z1:=ve hs;have z2:=ve ht;have y1:=vb hs;have y2:=vb ht;have x1:=ya hs;have x2:=ya ht;refine ah 6 [] Tryz.ntmps130 Tryz.func130 rfl (λ_ _=>Tryz.call130 _ _) zS (λHO=>?_);refine af ?_;refine ae λK1 aN=>?_
 cases hv:aT s with
 |false=>
  rw[FR hv];rw[hv] at cs;apply ar;refine zQ ?_;refine ai (cs _ _) ?_;refine zQ ?_;apply aC rfl;refine af ?_;refine aI ?_;exact⟨⟨_,rfl⟩,⟨[],zS⟩,kS _⟩
 |true=>
 rw[hv] at cs
 cases IH:aT t with
 |false=>
  rw[FQ IH];rw[IH] at ct;apply ar;refine zQ ?_;refine ai (cs _ _) ?_;refine zQ ?_;refine ai (ct _ _) ?_;refine zQ ?_;apply aC rfl;refine af ?_;refine aI ?_;exact⟨⟨_,rfl⟩,⟨[],zS⟩,kS _⟩
 |true=>
 rw[IH] at ct;have hlen:=hl hv IH;rw[<-wO hv,<-wO IH] at hlen;apply ar;refine zQ ?_;refine ai (cs _ _) ?_;refine zQ ?_;refine ai (ct _ _) ?_;refine zQ ?_;apply aB rfl;apply aj;refine zQ ?_;apply aN;clear aN;refine ae λK1 aN=>?_
 by_cases hc:comb (λp q=>p&&q) s.aw t.aw=[]
 rotate_left
 ·rw[HZ hv IH hc];have IJ:(0:Int)<((comb (λp q=>p&&q) s.aw t.aw).length:Nat):=by
   have:=aiV.2 hc;omega
  have pn:decide ((0:Int)<((comb (λp q=>p&&q) s.aw t.aw).length:Nat))=true:=ahx IJ;generalize comb (λp q=>p&&q) s.aw t.aw=c at *;apply ar;refine zQ ?_;refine ai (ca _ _) ?_;simp(disch:=omega)[pn,hc];refine aV rfl (λh=>?_) (λh=>absurd h (by simp[hc]));refine af ?_;refine aI ?_;exact⟨⟨_,rfl⟩,⟨[],zS⟩,kS _⟩
 have hM:=L6 hv IH hc;rw[hc] at ca;apply ar;refine zQ ?_;refine ai (ca _ _) ?_;refine zQ ?_;apply aB rfl;apply aj;refine zQ ?_;apply aN;clear aN;have cb:=λH T tg=>rj (eC s++eC t) (by rw[ahw];omega) (λd hd=>(ahI.1 hd).elim (y1 d) (y2 d)) (λd hd=>(ahI.1 hd).elim (x1 d) (x2 d)) H T tg;rw[ahw,<-E9] at cb;generalize eC s=ds at *;generalize eC t=dt at *;generalize dH (ds++dt)=r at *;refine bC [4,8] [0,0,0,0,0,1,1,1,1,2] [[],[]] ?_;simp(disch:=omega)[bI];refine az (cd _ _) rfl ?_;refine zQ ?_;refine az (ce _ _) rfl ?_;simp(disch:=omega)[bI];refine az (cb _ _ _) rfl ?_;refine zQ ?_;refine aI ?_;rw[hM];refine⟨⟨_,rfl⟩,⟨_,rfl⟩,.same ?_⟩;simp
def Di (l:List Int)(n:Int):Int:=if n∈l then (l.findIdx (·==n):Nat) else -1
def TU {l:List Int}{n:Int}(h:∀j,j<l.length->l.getD j 0≠n):Di l n=-1:=by
 unfold Di;rw[ahC];intro hm;obtain⟨i,hi,e⟩:=ahN.1 hm;exact h i hi (by rw[ahs,ahu hi];exact e)
def TV {l:List Int}{n:Int}{k:Nat}(hk:k<l.length)(h:∀j,j<k->l.getD j 0≠n)(e:l.getD k 0=n):Di l n=k:=by
 have ek:l[k]=n:=by rw[ahs,ahu hk] at e;exact e
 unfold Di;rw[ahF (by rw[<-ek];exact ah2 hk)];have:l.findIdx (·==n)=k:=by
  rw[List.findIdx_eq hk];refine⟨by simpa using ek,λj hj=>?_⟩;have:=h j hj;rw[ahs,ahu zO] at this;simpa using this
 rw[this]
def Qh (l:List Int)(n:Int):decide (0<=Di l n)=decide (n∈l):=by
 unfold Di
 by_cases h:n∈l
 ·rw[ahF h,ahx h];exact ahx zO
 ·rw[ahC h,ahy h];exact ahy zO
attribute [-simp] getD_eq_getElem?_getD in
def CF (l:List Int)(n:Int)(hl:l.length<=maxLen)(H:List aA)(T:au):aq prog 155 [.sl l.length (ints l) .none,.int .i64 n] H T (Is (.int .i64 (Di l n)) H T):=by
 have jY:l.length<=9223372036854775807:=ahA hl zD;refine aq.bK ?_ zS;refine ah 9 [] Tryz.ntmps155 Tryz.func155 rfl (λ_ _=>Tryz.call155 _ _) zS (λHO=>?_);refine af ?_;refine ae λK1 aN=>?_;refine af ?_;apply ag;refine aG (X:=Nat) (λk=>⟨[(0,.sl l.length (ints l) .none),(1,.int .i64 n),(7,.int .i64 (l.length:Nat)),(8,.int .i64 (k:Nat))],H,T⟩) (λk=>k<=l.length/\∀j,j<k->l.getD j 0≠n) (λk=>l.length-k) 0 ?_ ?_ ?_
 ·exact⟨ahE _,λj hj=>absurd hj (ahT _)⟩
 ·exact wk HO
 ·rintro k ⟨h1,h2⟩;refine af ?_;refine ae λK2 ba=>?_;refine aV rfl (λhk=>?_) (λhk=>?_)
  ·simp  at hk;have gA:=aS hk;have gy:k<(ints l).length:=by simpa using hk
   apply aj;refine zQ ?_;apply ba;clear ba;refine ae λK3 bH=>?_;apply ag;refine af ?_
   by_cases he:l.getD k 0=n
   ·have hi:=TV hk h2 he;have b1:(n==l.getD k 0)=true:=by simpa using he.symm
    apply ar;simp(disch:=omega)[gA,gy,hk,b1,he];apply aC rfl;refine af ?_;refine aI ?_;rw[hi]
   ·have b1:(n==l.getD k 0)=false:=by simpa using λe=>he e.symm
    have st:∀j,j<k+1->l.getD j 0≠n:=λj hj=>by
     rcases ahD j k with h3|h3
     ·exact h2 j h3
     ·have:j=k:=zO;subst this;exact he
    generalize l.getD k 0=x at *;apply ar;simp(disch:=omega)[gA,gy,hk,b1];apply aB rfl;apply aj;refine zQ ?_;apply bH;clear bH;refine aJ ?_;refine⟨k+1,⟨zO,st⟩,zO,?_⟩;exact wk HO
  ·simp  at hk;have e:k=l.length:=zO;subst e;apply aD;refine zQ ?_;apply aN;clear aN;refine af ?_;refine aI ?_;rw[TU h2]
attribute [-simp] getD_eq_getElem?_getD in
def qA (l:List Int)(n:Int)(hl:l.length<=maxLen)(H:List aA)(T:au)(tg:Tag):aq prog 89 [.sl l.length (ints l) tg,.int .i64 n] H T (Is (.bool (decide (n∈l))) H T):=by
 refine aq.bR ?_;refine aq.bK ?_ zS;have c:=λH T=>CF l n hl H T;rw[<-Qh];generalize Di l n=v at *;refine ah 5 [] Tryz.ntmps89 Tryz.func89 rfl (λ_ _=>Tryz.call89 _ _) zS (λHO=>?_);refine af ?_;apply ar;refine zQ ?_;refine ai (c _ _) ?_;refine zQ ?_;exact bu zC
def re (x:Dc)(u:List Dc):aM (x::u)=.int .i64 x.id::.sl x.zs.length (fy x.zs) .none::.sl x.ns.length (bG x.ns) .none::aM u:=rfl
theorem MH:∀(u:List Dc)(i:Nat)(x:Dc),i<u.length->(((aM u).set (i*3) (.int .i64 x.id)).set (i*3+1) (.sl x.zs.length (fy x.zs) .none)).set (i*3+1+1) (.sl x.ns.length (bG x.ns) .none)=aM (u.set i x):=by
 intro u
 induction u with
 |nil=>intro i x h;simp at h
 |cons p u ih=>
  intro i x h
  cases i with
  |zero=>
   rw[re];show _=aM (x::u);rw[re];rfl
  |succ i=>
   have:=ih i x (zU h);rw[re,List.set_cons_succ,re,show (i+1)*3=i*3+1+1+1 by omega,<-this];rfl
def Dj (p:Dc->Bool)(l:List Dc):Int:=if l.any p=true then (l.findIdx p:Nat) else -1
def TW {p:Dc->Bool}{l:List Dc}(h:∀j,j<l.length->p (l.getD j d0)=false):Dj p l=-1:=by
 unfold Dj;rw[ahC];rw[ai6];rintro⟨x,hx,hp⟩;obtain⟨i,hi,rfl⟩:=bP d0 hx;rw[h i hi] at hp;cases hp
def TX {p:Dc->Bool}{l:List Dc}{k:Nat}(hk:k<l.length)(h:∀j,j<k->p (l.getD j d0)=false)(e:p (l.getD k d0)=true):Dj p l=k:=by
 have g:∀j (hj:j<l.length),l.getD j d0=l[j]:=λj hj=>by rw[ahs,ahu hj];rfl
 rw[g k hk] at e;unfold Dj;rw[ahF (ai6.2 ⟨_,ah2 hk,e⟩)];have:l.findIdx p=k:=by
  rw[List.findIdx_eq hk];refine⟨e,λj hj=>?_⟩;have:=h j hj;rw[g j zO] at this;exact this
 rw[this]
def Qi (p:Dc->Bool)(l:List Dc):(Dj p l=-1/\∀d∈l,p d=false)\/∃k,k<l.length/\Dj p l=(k:Nat)/\(∀j,j<k->p (l.getD j d0)=false)/\p (l.getD k d0)=true:=by
 unfold Dj
 by_cases h:l.any p=true
 ·right
  rw[ahF h];obtain⟨x,hx,hp⟩:=ai6.1 h;have bp:l.findIdx p<l.length:=List.findIdx_lt_length.2 ⟨x,hx,hp⟩;have g:∀j (hj:j<l.length),l.getD j d0=l[j]:=λj hj=>by rw[ahs,ahu hj];rfl
  refine⟨_,bp,rfl,λj hj=>?_,?_⟩
  ·rw[g j zO];have:=List.not_of_lt_findIdx hj;simpa using this
  ·rw[g _ bp];exact List.findIdx_getElem
 ·left
  rw[ahC h];refine⟨rfl,λd hd=>?_⟩;have:=ajm.1 (by simpa using h:l.any p=false) d hd;simpa using this
attribute [-simp] getD_eq_getElem?_getD in
theorem Ia (p:Dc->Bool)(l:List Dc)(hl:l.length<=1000000)(g:FuncId)(cF:List AV)(Hx:List aA)(T:au)(ry:aL Hx.length T.length cF)
  (hc:∀d∈l,∀X,aq prog g ([.agg (dY d)]++cF) (Hx++X) T (Is (.bool (p d)) (Hx++X) T)) :
  aq prog 175 [.cV Hx.length 0 l.length,.fn g [] cF] (Hx++[.cells (aM l)]) T (Is (.int .i64 (Dj p l)) (Hx++[.cells (aM l)]) T):=by
 have jY:l.length<=9223372036854775807:=by omega
 refine ah 9 [] Tryz.ntmps175 Tryz.func175 rfl (λ_ _=>Tryz.call175 _ _) (by simp) (λHO=>?_);have GS:aL (Hx.length+1) T.length cF:=λv hv=>(ry v hv).more (by omega) (ahv _);apply aK;intro K Z;simp(disch:=omega);apply Z;refine ae λK1 aN=>?_;apply aK;intro K Z;simp(disch:=omega);apply Z;apply ag;refine aG (X:=Nat) (λk=>⟨[(0,.cV Hx.length 0 l.length),(1,.fn g [] cF),(7,.int .i64 (l.length:Nat)),(8,.int .i64 (k:Nat))],Hx++[.cells (aM l)],T⟩) (λk=>k<=l.length/\∀j,j<k->p (l.getD j d0)=false) (λk=>l.length-k) 0 ?_ ?_ ?_
 ·exact⟨ahE _,λj hj=>absurd hj (ahT _)⟩
 ·refine ak [] [] ?_ ?_ ?_ ?_ HO ?_
  all_goals simp
  all_goals exact GS
 ·rintro k ⟨h1,h2⟩;apply aK;intro K Z;simp(disch:=omega);apply Z;refine ae λK2 ba=>?_;refine aV rfl (λhk=>?_) (λhk=>?_)
  ·simp  at hk;have bB:=iw l k hk;have c:=λX=>hc _ (aQ l k d0 hk) X;have gA:=λh e=>TX hk h e (p:=p);have st:p (l.getD k d0)=false->∀j,j<k+1->p (l.getD j d0)=false:=λe j hj=>by
    rcases ahD j k with h3|h3
    ·exact h2 j h3
    ·have:j=k:=by omega
     subst this;exact e
   have hlen:=bI l;apply aj;simp(disch:=omega) ;apply ba;clear ba;refine ae λK3 bH=>?_;apply ag;apply aK;intro K Z;simp(disch:=omega);apply Z
   cases hp:p (l.getD k d0) with
   |true=>
    have hi:=gA h2 hp;rw[hp] at c;generalize l.getD k d0=x at *;refine aK λK hK=>?_;simp(disch:=omega)[bB,hlen,hk];refine ai (c _) ?_;simp(disch:=omega) ;apply hK;apply aC rfl;apply aK;intro K Z;simp(disch:=omega);apply Z;apply bu;simp(disch:=omega) ;rw[hi];exact⟨rfl,rfl,rfl⟩
   |false=>
    have st2:=st hp;rw[hp] at c;generalize l.getD k d0=x at *;refine aK λK hK=>?_;simp(disch:=omega)[bB,hlen,hk];refine ai (c _) ?_;simp(disch:=omega) ;apply hK;apply aB rfl;apply aj;simp(disch:=omega) ;apply bH;clear bH;refine br λK hK=>?_;simp(disch:=omega) ;apply hK;refine⟨k+1,⟨by omega,st2⟩,by omega,?_⟩;refine ak [] [] ?_ ?_ ?_ ?_ HO ?_
    all_goals simp
    all_goals exact GS
  ·simp  at hk;have e:k=l.length:=by omega
   subst e;apply aD;simp(disch:=omega) ;apply aN;clear aN;apply aK;intro K Z;simp(disch:=omega);apply Z;apply bu;simp(disch:=omega) ;rw[TW h2];exact⟨rfl,rfl,rfl⟩
def oH (p:Dc->Bool)(l:List Dc)(j:Nat):List Dc:=(l.take j).filter λd=>!p d
def G8 (p:Dc->Bool)(l:List Dc)(j:Nat):(oH p l j).length<=j:=by
 unfold oH;have:=ahX (λd=>!p d) (l.take j);rw[ahW] at this;omega
def wy (p:Dc->Bool)(l:List Dc)(j:Nat):List Dc:=oH p l j++l.drop (oH p l j).length
def SP (p:Dc->Bool)(l:List Dc){j:Nat}(hj:j<=l.length):(wy p l j).length=l.length:=by
 have:=G8 p l j;rw[wy,ahw,aii];omega
def SQ {p:Dc->Bool}{l:List Dc}{j:Nat}:(wy p l j).getD j d0=l.getD j d0:=by
 have:=G8 p l j;rw[wy,ahs,ahP this,aja,show (oH p l j).length+(j-(oH p l j).length)=j by omega,<-getD_eq_getElem?_getD]
def Cc {p:Dc->Bool}{l:List Dc}{j:Nat}(hj:j<l.length)(h:p (l.getD j d0)=true):oH p l (j+1)=oH p l j:=by
 unfold oH;rw[aX l j d0 hj,aij];simp[h,-getD_eq_getElem?_getD]
def ON {p:Dc->Bool}{l:List Dc}{j:Nat}(hj:j<l.length)(h:p (l.getD j d0)=false):oH p l (j+1)=oH p l j++[l.getD j d0]:=by
 unfold oH;rw[aX l j d0 hj,aij];simp[h,-getD_eq_getElem?_getD]
def SO {p:Dc->Bool}{l:List Dc}{j:Nat}(hj:j<l.length)(h:p (l.getD j d0)=true):wy p l (j+1)=wy p l j:=by
 rw[wy,wy,Cc hj h]
def WJ {p:Dc->Bool}{l:List Dc}{j:Nat}(hj:j<l.length)(h:p (l.getD j d0)=false):wy p l (j+1)=(wy p l j).set (oH p l j).length (l.getD j d0):=by
 have hl:=G8 p l j;rw[wy,wy,ON hj h,ai2 _ _ (ahv _),aiT,ahw,ahM]
 congr 1
 rw[aiW (by omega:(oH p l j).length<l.length)];rfl
def Md {p:Dc->Bool}{l:List Dc}{k:Nat}(hk:k<=l.length)(h:∀j,j<k->p (l.getD j d0)=false):oH p l k=l.take k:=by
 unfold oH;rw[ai4];intro d hd;obtain⟨i,hi,e⟩:=bP d0 hd;rw[ahW] at hi;have h2:=h i zO;have e2:(l.take k).getD i d0=l.getD i d0:=by rw[ahs,ahs,aim,ahF zO]
 rw[e2] at e;rw[<-e,h2];rfl
def TI (p:Dc->Bool)(l:List Dc):oH p l l.length=l.filter λd=>!p d:=by unfold oH;rw[ahO]
def bM.WU {H:List aA}{T:au}{b:aA}{vs:List AV}(h:bM (H++[b]) T)(hv:aL (H.length+1) T.length vs):bM (H++[.cells vs]) T:=by
 have:=h.set (k:=H.length) (vs:=vs) (by rw[ahw];exact hv);simpa using this
theorem ua (a:List AV):∀(xs b:List AV)(o:Nat),setMany (a++b) (a.length+o) xs=a++setMany b o xs:=by
 intro xs
 induction xs with
 |nil=>intro b o;rfl
 |cons x r ih=>
  intro b o;rw[setMany,setMany,ai2 _ _ zO,Nat.add_sub_cancel_left,Nat.add_assoc,ih]
attribute [-simp] getD_eq_getElem?_getD in
theorem Ik (p:Dc->Bool)(l:List Dc)(hl:l.length<=1000000)(g:FuncId)(cF:List AV)(Hx:List aA)(T:au)(ry:aL Hx.length T.length cF)
  (hc:∀d∈l,∀X,aq prog g ([.agg (dY d)]++cF) (Hx++X) T (Is (.bool (p d)) (Hx++X) T)) :
  aq prog 178 [.cV Hx.length 0 l.length,.fn g [] cF] (Hx++[.cells (aM l)]) T
   (λr H' T'=>r=.cV Hx.length 0 (l.filter λd=>!p d).length/\T'=T/\∃rest X,H'=Hx++(.cells (aM (l.filter λd=>!p d)++rest)::X)):=by
 have jY:l.length<=9223372036854775807:=zO;have ci:=Ia p l hl g cF Hx T ry hc;refine ah 10 [] Tryz.ntmps178 Tryz.func178 rfl (λ_ _=>Tryz.call178 _ _) zS (λHO=>?_);have GS:∀n,Hx.length<=n->aL n T.length cF:=λn hn v hv=>(ry v hv).more hn (ahv _);refine af ?_;rcases Qi p l with⟨e,nQ⟩|⟨k,hk,e,bp,Wa⟩
 ·rw[e] at ci;have hf:l.filter (λd=>!p d)=l:=by
   rw[ai4];intro d hd;rw[nQ d hd];rfl
  apply ar;refine zQ ?_;refine ai (ci) ?_;refine zQ ?_;apply hY;refine af ?_;apply aC rfl;refine af ?_;refine aI ?_;rw[hf];exact⟨rfl,[],zS⟩
 rw[e] at ci;have RM:((k:Nat):Int)≠-1:=zO;have bk:(((k:Nat):Int)==-1)=false:=zS;apply ar;refine zQ ?_;refine ai (ci) ?_;refine zQ ?_;refine ae λK1 aN=>?_;apply ar;simp(disch:=omega)[bk,RM];apply aB rfl;apply aj;refine zQ ?_;apply aN;clear aN;refine ae λK1 aN=>?_;have Gx:oH p l k=l.take k:=Md zO bp;have eL:oH p l (k+1)=l.take k:=by rw[Cc hk Wa,Gx]
 have wX:(oH p l (k+1)).length=k:=by rw[eL,ahW];omega
 have hk4:wy p l (k+1)=l:=by rw[wy,wX,eL,ah1]
 have RV:∀i,bM (Hx++[.cells (aM (wy p l i))]) T:=λi=>bM.WU HO (ym _ _ _);refine af ?_;apply ag;refine aG (X:=Nat) (λj=>⟨[(0,.cV Hx.length 0 l.length),(1,.fn g [] cF),(5,.int .i64 ((oH p l (k+1+j)).length:Nat)),(6,.int .i64 ((k+1+j:Nat):Int))],Hx++[.cells (aM (wy p l (k+1+j)))],T⟩)
  (λj=>k+1+j<=l.length/\(oH p l (k+1+j)).length<k+1+j) (λj=>l.length-(k+1+j)) 0 ?_ ?_ ?_
 ·exact⟨hk,by rw[ajW,wX];omega⟩
 ·refine ak [] [] ?_ ?_ ?_ ?_ (RV _) ?_
  all_goals simp[wX,hk4]
  all_goals exact GS _ zO
 ·rintro j ⟨h1,h2⟩;obtain⟨i,hi⟩:∃i,i=k+1+j:=⟨_,rfl⟩
  have pW:∀P:Nat->Prop,P (i+1)->P (k+1+(j+1)):=λP h=>by rw[hi] at h;exact h
  rw[<-hi] at h1 h2 ⊢;have qC:=SP p l h1;have hlen:(aM (wy p l i)).length=l.length*3:=by rw[bI,qC]
  refine ae λK2 ba=>?_;refine af ?_;refine aV rfl (λhj=>?_) (λhj=>?_)
  ·simp  at hj;have bB:=iw (wy p l i) i zO;rw[SQ] at bB;have c:=λX=>hc _ (aQ l i d0 hj) X;have hOi:=RV i;apply aj;refine zQ ?_;apply ba;clear ba;refine ae λK3 bH=>?_;apply ag;have out:∀(i':Nat) e,i'=i+1->(oH p l i').length<i'->bA (Hx.length+1) T.length e [(0,.cV Hx.length 0 l.length),(1,.fn g [] cF),(5,.int .i64 ((oH p l i').length:Nat)),(6,.int .i64 ((i:Nat):Int))]->∀X,K3 ⟨e,Hx++.cells (aM (wy p l i'))::X,T⟩:=by
    intro i' e jf kZ he X;refine bH _ (aF ⟨[(0,.cV Hx.length 0 l.length),(1,.fn g [] cF),(5,.int .i64 ((oH p l i').length:Nat)),(6,.int .i64 ((i:Nat):Int))],Hx++[.cells (aM (wy p l i'))],T⟩ (ak X [] zS zS zS zS (RV _) (zU he)) ?_);refine aJ ?_;refine⟨j+1,⟨by show k+1+(j+1)<=_;omega,?_⟩,by show l.length-(k+1+(j+1))<l.length-i;omega,?_⟩
    ·refine pW (λx=>(oH p l x).length<x) ?_;rw[<-jf];exact kZ
    ·have e1:k+1+(j+1)=i':=zO;have e2:((i':Nat):Int)=(i:Nat)+1:=zO;simp only[e1];refine ak [] [] ?_ ?_ ?_ ?_ (RV _) ?_
     all_goals simp[e2]
     all_goals exact GS _ zO
   clear bH;apply ar;simp(disch:=omega)[bB,hlen,hj];have hOd:bM (Hx++[.cells (aM (wy p l i)),.cells (dY (l.getD i d0))]) T:=by
    have:=hOi.snoc (vs:=dY (l.getD i d0)) zS;simpa using this
   cases hp:p (l.getD i d0) with
   |true=>
    rw[hp] at c;have e1:=Cc hj hp;have e2:=SO hj hp;have out:=λe=>out (i+1) e rfl (by rw[e1];omega);rw[e1,e2] at out;generalize l.getD i d0=x at *;apply ar;refine zQ ?_;refine ai (c _) ?_;refine zQ ?_;apply aB rfl;apply aj;refine zQ ?_;refine out _ ?_ _;simp;exact GS _ zO
   |false=>
    rw[hp] at c;have e1:=ON hj hp;have e2:=WJ hj hp;have e3:(oH p l (i+1)).length=(oH p l i).length+1:=by rw[e1];simp
    have nJ:=MH (wy p l i) (oH p l i).length (l.getD i d0) zO;have out:=λe=>out (i+1) e rfl (by rw[e3];omega);rw[e3,e2,<-nJ] at out;have Wm:(oH p l i).length<l.length:=zO;generalize l.getD i d0=x at *;generalize (oH p l i).length=m at *;generalize aM (wy p l i)=B at *;apply ar;refine zQ ?_;refine ai (c _) ?_;refine zQ ?_;apply aC rfl;apply ar;simp(disch:=omega)[Wm,hlen];refine aJ ?_;refine out _ ?_ _;simp;exact GS _ zO
  ·simp  at hj;have e:i=l.length:=zO;have hw:wy p l i=oH p l i++l.drop (oH p l i).length:=rfl;have Rf:oH p l i=l.filter λd=>!p d:=by rw[e,TI]
   rw[hw,<-E9] at hlen ⊢;have XS:=bI (oH p l i);have nJ:=λxs=>ua (aM (oH p l i)) xs (aM (l.drop (oH p l i).length)) 0;rw[XS,ajW] at nJ;generalize oH p l i=c at hlen XS nJ h2 Rf ⊢;generalize aM (l.drop c.length)=R at hlen nJ ⊢;apply aD;refine zQ ?_;apply aN;clear aN;have hle:c.length<=l.length:=zO;have gg:c.length<l.length:=zO;apply ar;simp(disch:=omega)[gg,hlen];rw[nJ];apply ar;simp(disch:=omega)[hle];refine aI ?_;rw[Rf];exact⟨rfl,_,rfl⟩
attribute [-simp] getD_eq_getElem?_getD in
def F0 (ids:List Int)(hi:ids.length<=maxLen)(d:Dc)(b:Nat)(H:List aA)(T:au)(hb:H[b]?=some (.cells [.sl ids.length (ints ids) .none])) :
  aq prog 179 ([.agg (dY d)]++[.ptr b 0]) H T (Is (.bool (decide (d.id∈ids))) H T):=by
 refine aq.bK ?_ zS;have c:=λH T=>qA ids d.id hi H T .none;obtain⟨id,zs,ns⟩:=d;simp only at c;have vw:=(aht.1 hb).1;have gA:=aZ hb;generalize decide (id∈ids)=q at *;refine ah 5 [] Tryz.ntmps179 Tryz.func179 rfl (λ_ _=>Tryz.call179 _ _) zS (λHO=>?_);refine af ?_;apply ar;simp(disch:=omega)[ahB,aiL,hb,vw,gA];refine ai (c _ _) ?_;refine zQ ?_;exact bu zC
attribute [-simp] getD_eq_getElem?_getD in
def FX (g:FuncId)(cF:List AV)(H:List aA)(T:au)(ry:aL H.length T.length cF) :
  aq prog 175 [.sl 0 [] .none,.fn g [] cF] H T (Is (.int .i64 (-1)) H T):=by
 refine aq.bK ?_ zS;refine ah 9 [] Tryz.ntmps175 Tryz.func175 rfl (λ_ _=>Tryz.call175 _ _) zS (λHO=>?_);refine af ?_;refine ae λK1 aN=>?_;refine af ?_;apply ag;refine aG (X:=Nat) (λk=>⟨[(7,.int .i64 0),(8,.int .i64 0)],H,T⟩) (λk=>True) (λk=>0) 0 trivial ?_ ?_
 ·exact wk HO
 ·intro k _;refine af ?_;apply hY;refine aV rfl (λhk=>?_) (λhk=>?_)
  ·simp at hk
  ·apply aD;refine zQ ?_;apply aN;clear aN;refine af ?_;exact bu zC
attribute [-simp] getD_eq_getElem?_getD in
def CH (g:FuncId)(cF:List AV)(H:List aA)(T:au)(ry:aL H.length T.length cF) :
  aq prog 178 [.sl 0 [] .none,.fn g [] cF] H T (Is (.sl 0 [] .none) H T):=by
 refine aq.bK ?_ zS;have ci:=FX g cF H T ry;refine ah 10 [] Tryz.ntmps178 Tryz.func178 rfl (λ_ _=>Tryz.call178 _ _) zS (λHO=>?_);refine af ?_;apply ar;refine zQ ?_;refine ai (ci) ?_;refine zQ ?_;apply hY;refine af ?_;apply aC rfl;refine af ?_;exact bu zC
def AT {s:Sg}{ids:List Int}{d:Dc}(h:d∈rM s ids):d∈eC s:=(ahU.1 h).1
def L9 (s:Sg)(ids:List Int):(rM s ids).length<=(eC s).length:=ahX _ _
def Ma {s:Sg}{ids:List Int}(h:aT s=false):rM s ids=[]:=by
 unfold rM eC;rw[ahC (by rw[h];decide)];rfl
attribute [-simp] getD_eq_getElem?_getD in
theorem u7 (s:Sg)(hs:rz s)(hl:aT s=true->s.aw.length<=19)(ids:List Int)(hi:ids.length<=maxLen)(H:List aA)(T:au)(tg:Tag) :
  aq prog 129 [jh s,.sl ids.length (ints ids) tg] H T (Is (jh (IV s ids)) H T):=by
 refine aq.mC ?_;refine aq.bK ?_ zS;have y1:=vb hs;have x1:=ya hs;have z1:=ve hs;have De:bM H T->bM (H++[.cells (cH s),.cells [.sl ids.length (ints ids) .none],.cells [.sl 0 [] .full,.sl 0 [] .full,.sl 0 [] .full]]) T:=λHO=>by
  have:=((HO.snoc (vs:=cH s) zS).snoc (vs:=[.sl ids.length (ints ids) .none]) zS).snoc (vs:=[.sl 0 [] .full,.sl 0 [] .full,.sl 0 [] .full]) zS;simpa using this
 have cb:=λhv H T=>rj (rM s ids) (by have h1:=L9 s ids;have h2:=hl hv;rw[wO hv] at h1;omega) (λd hd=>y1 d (AT hd)) (λd hd=>x1 d (AT hd)) H T .none;unfold IV
 cases hv:aT s with
 |false=>
  have cd:=λH T=>yO s hs hv H T;have ce:=fun(H:List aA) (T:au) (b:Nat) hb=>aq.bR (CH 179 [.ptr b 0] H T hb) (a:=.sl 0 [] .full);have cb0:∀H T,aq prog 68 [.sl 0 [] .none] H T (Is (.dn [jh (dH []).1,.int .i64 (dH []).2]) H T):=λH T=>rj [] zS (λd hd=>by simp at hd) (λd hd=>by simp at hd) H T .none;rw[Ma hv];generalize dH []=r at *;refine ah 8 [] Tryz.ntmps129 Tryz.func129 rfl (λ_ _=>Tryz.call129 _ _) zS (λHO=>?_);refine af ?_;apply ar;refine zQ ?_;refine ai (cd _ _) ?_;refine zQ ?_;refine ai (ce _ _ _ zS) ?_;refine zQ ?_;apply ar;refine zQ ?_;refine ai (cb0 _ _) ?_;refine zQ ?_;refine af ?_;exact bu zC
 |true=>
  have cb:=cb hv;have cd:=λH T=>yP s hs hv H T;have hP:eC s=jx s:=by unfold eC;rw[ahF hv]
  have hn:s.aw.length=(jx s).length:=by rw[<-hP,wO hv]
  have aao:rM s ids=(jx s).filter λd=>!decide (d.id∈ids):=by unfold rM;rw[hP]
  have kW:(jx s).length<=1000000:=by have:=hl hv;omega
  have xh:=Ik (λd=>decide (d.id∈ids)) (jx s) kW 179 [.ptr (H.length+1) 0] (H++[.cells (cH s),.cells [.sl ids.length (ints ids) .none],.cells [.sl 0 [] .full,.sl 0 [] .full,.sl 0 [] .full],.cells (cH s)]) T zS (λd hd X=>F0 ids hi d (H.length+1) _ T zS);have xh:=aq.bR (a:=.bQ (H++[aA.cells (cH s),aA.cells [.sl ids.length (ints ids) .none],aA.cells [.sl 0 [] .full,.sl 0 [] .full,.sl 0 [] .full],aA.cells (cH s)]).length (jx s).length (jx s).length) xh;rw[<-aao,<-hn] at xh;rw[hn] at cd;rw[hn] at xh;simp only[ahM,ajI,ai3,ahw,ahY,ais] at xh;generalize jx s=ds at *;generalize rM s ids=lf at *;generalize dH lf=r at *;refine ah 8 [] Tryz.ntmps129 Tryz.func129 rfl (λ_ _=>Tryz.call129 _ _) zS (λHO=>?_);have De:=De HO;refine af ?_;apply ar;refine zQ ?_;refine ai (cd _ _) ?_;refine zQ ?_;refine⟨_,xh,?_⟩;rintro r' H' T' ⟨rfl,rfl,rest,X,rfl⟩;refine zQ ?_;have hG:H++aA.cells (cH s)::aA.cells [AV.sl ids.length (ints ids) Tag.none]::aA.cells [AV.sl 0 [] Tag.full,AV.sl 0 [] Tag.full,AV.sl 0 [] Tag.full]::aA.cells (cH s)::aA.cells (aM lf++rest)::X
    = (H++[.cells (cH s),.cells [.sl ids.length (ints ids) .none],.cells [.sl 0 [] .full,.sl 0 [] .full,.sl 0 [] .full]])++aA.cells (cH s)::aA.cells (aM lf++rest)::X:=zS
  rw[hG,<-List.append_nil T'];refine O0 (H:=H++[.cells (cH s),.cells [.sl ids.length (ints ids) .none],.cells [.sl 0 [] .full,.sl 0 [] .full,.sl 0 [] .full]]) (T:=T') (e':=[(2,.ptr H.length 0),(4,.ptr (H.length+2) 0),(5,.sl lf.length (aM lf) .none)]) ?_ ?_ De ?_ ?_
  ·simp
  ·simp
  ·refine⟨gp.same zS,gp.same zS,gp.NO (rest:=rest) zS ?_ zS,trivial⟩;rw[<-hG];simp
  apply ar;refine zQ ?_;refine ai (cb _ _) ?_;refine zQ ?_;refine af ?_;exact bu zC
structure Sm (s:Sg):Prop where
 d:s.aw.length<=20
 t:s.aW.length<=60
 w:∀t∈s.aW,t.w.length<=maxLen/\t.l.length<=30/\∀p∈t.l,p.2.length<=30
 c:s.aH.length<=6
 x:∀c∈s.aH,c.x.length<=30
def Sm.sz {s:Sg}(h:Sm s):rz s:=⟨by have:=h.d;omega,by have:=h.t;omega,λt ht=>⟨(h.w t ht).1,by have:=(h.w t ht).2.1;omega,λp hp=>by have:=(h.w t ht).2.2 p hp;omega⟩,by have:=h.c;omega,λc hc=>by have:=h.x c hc;omega⟩
end Go.Proofs.YtoejlmpbebjemaaGreat
