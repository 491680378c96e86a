/- Merge, of the program and of the reference (layer 39). slices.Contains of numbers; slices.DeleteFunc of documents in a box (layer 39). slices.DeleteFunc of documents in a box; Drop (layer 39). Drop, of the program and of the reference (layer 39). Drop of the reference (layer 39). Sizes of what is merged of small segments (layer 39, plain).
   Conditions: as the theorems say. -/
import Derived.Test.YtneohapkboaplaaGreatGZx
import Derived.Test.YtneohapkboaplaaGreatGLA
set_option linter.all false
set_option maxRecDepth 100000
set_option maxHeartbeats 8000000
open List (getD_eq_getElem?_getD length_append getElem?_eq_getElem length_take length_map)
namespace Go.Proofs.YtneohapkboaplaaGreat
open Go Go.Am iF dh eJ
theorem sK {s t:Sg}(h:aP s=false):gO s t=(fl,1):=by unfold gO;rw[if_neg fun x=>by rw[x.1] at h;cases h]
theorem sJ {s t:Sg}(h:aP t=false):gO s t=(fl,1):=by unfold gO;rw[if_neg fun x=>by rw[x.2] at h;cases h]
theorem vx {s t:Sg}(h1:aP s=true)(h2:aP t=true)(h:comb (fun p q=>p&&q) s.an t.an≠[]):gO s t=(fl,10):=by unfold gO;rw[if_pos ⟨h1,h2⟩,if_neg h]
theorem xx {s t:Sg}(h1:aP s=true)(h2:aP t=true)(h:comb (fun p q=>p&&q) s.an t.an=[]):gO s t=bY (bI s++bI t):=by unfold gO;rw[if_pos ⟨h1,h2⟩,if_pos h]
theorem u9 {s:Sg}(hs:mh s):∀d∈bI s,d.ns.length≤1000000:=by
 intro d hd;unfold bI at hd
 split at hd
 ·rename_i hv;exact(va hv hs.t (fun t ht=>⟨(hs.w t ht).1,(hs.w t ht).2.2⟩) hs.c hs.x d hd).2.2
 ·simp at hd
theorem tV {s:Sg}(hv:aP s=true):(bI s).length=s.an.length:=by unfold bI;rw[if_pos hv];simp[fG]
attribute [-simp] getD_eq_getElem?_getD in
theorem DP (s t:Sg)(hs:mh s)(ht:mh t)(hl:aP s=true→aP t=true→s.an.length+t.an.length≤40)(H:List aA)(T:ar) :
  aq Tryz.prog 43 [ec s,ec t] H T (Is (.df [ec (gO s t).1,.int .i64 (gO s t).2]) H T):=by
 refine aq.nF ?_;show aq Tryz.prog _ _ H T (BQ H T _);have cs:=fun H T=>iV s hs H T;have ct:=fun H T=>iV t ht H T;have ca:=fun H T=>QW s.an t.an hs.d ht.d H T .none .none;have cd:=fun H T=>jz s hs H T;have ce:=fun H T=>wz t ht H T;have z1:=j0 hs;have z2:=j0 ht;have y1:=jZ hs;have y2:=jZ ht;have x1:=u9 hs;have x2:=u9 ht;refine aj 6 [] Tryz.ntmps43 Tryz.func43 rfl (fun _ _=>Tryz.call43 _ _) (by simp) (fun HO=>?_);apply ae;intro K h;simp(disch:=omega);apply h;clear h K;refine af fun K1 aQ=>?_
 cases hv:aP s with
 |false=>
  rw[sK hv];rw[hv] at cs;refine ae fun K hK=>?_;simp(disch:=omega) ;refine ak (cs _ _) ?_;simp(disch:=omega) ;apply hK;clear hK K;apply aF rfl;apply ae;intro K h;simp(disch:=omega);apply h;clear h K;apply az;simp(disch:=omega) ;exact⟨⟨_,rfl⟩,⟨[],by simp⟩,fY _⟩
 |true=>
 rw[hv] at cs
 cases qk:aP t with
 |false=>
  rw[sJ qk];rw[qk] at ct;refine ae fun K hK=>?_;simp(disch:=omega) ;refine ak (cs _ _) ?_;simp(disch:=omega) ;refine ak (ct _ _) ?_;simp(disch:=omega) ;apply hK;clear hK K;apply aF rfl;apply ae;intro K h;simp(disch:=omega);apply h;clear h K;apply az;simp(disch:=omega) ;exact⟨⟨_,rfl⟩,⟨[],by simp⟩,fY _⟩
 |true=>
 rw[qk] at ct;have hlen:=hl hv qk;rw[←tV hv,←tV qk] at hlen;refine ae fun K hK=>?_;simp(disch:=omega) ;refine ak (cs _ _) ?_;simp(disch:=omega) ;refine ak (ct _ _) ?_;simp(disch:=omega) ;apply hK;clear hK K;apply aD rfl;apply ai;simp(disch:=omega) ;apply aQ;clear aQ;refine af fun K1 aQ=>?_
 by_cases hc:comb (fun p q=>p&&q) s.an t.an=[]
 rotate_left
 ·rw[vx hv qk hc];have nD:(0:Int)<((comb (fun p q=>p&&q) s.an t.an).length:Nat):=by
   have:=List.length_pos_iff.2 hc;omega
  have jg:decide ((0:Int)<((comb (fun p q=>p&&q) s.an t.an).length:Nat))=true:=decide_eq_true nD;generalize comb (fun p q=>p&&q) s.an t.an=c at *;refine ae fun K hK=>?_;simp(disch:=omega) ;refine ak (ca _ _) ?_;simp(disch:=omega)[jg,hc];apply hK;clear hK K;refine aN rfl (fun h=>?_) (fun h=>absurd h (by simp[hc]));apply ae;intro K h;simp(disch:=omega);apply h;clear h K;apply az;simp(disch:=omega) ;exact⟨⟨_,rfl⟩,⟨[],by simp⟩,fY _⟩
 have hM:=xx hv qk hc;rw[hc] at ca;refine ae fun K hK=>?_;simp(disch:=omega) ;refine ak (ca _ _) ?_;simp(disch:=omega) ;apply hK;clear hK K;apply aD rfl;apply ai;simp(disch:=omega) ;apply aQ;clear aQ;have cb:=fun H T tg=>o7 (bI s++bI t) (by rw[length_append];omega) (fun d hd=>(List.mem_append.1 hd).elim (y1 d) (y2 d)) (fun d hd=>(List.mem_append.1 hd).elim (x1 d) (x2 d)) H T tg;rw[length_append,←vb] at cb;generalize bI s=ds at *;generalize bI t=dt at *;generalize bY (ds++dt)=r at *;refine aI [4,8] [0,0,0,0,0,1,1,1,1,2] [[],[]] al (by kernel_rfl) (by kernel_rfl) fun K hK=>?_;simp(disch:=omega)[bD];refine aB (cd _ _) rfl ?_;simp(disch:=omega) ;refine aB (ce _ _) rfl ?_;simp(disch:=omega)[bD];refine aB (cb _ _ _) rfl ?_;simp(disch:=omega) ;apply hK;clear hK K;apply az;simp(disch:=omega) ;rw[hM];refine⟨⟨_,rfl⟩,⟨_,rfl⟩,.same ?_⟩;simp
attribute [-simp] getD_eq_getElem?_getD in
theorem DO (s t:Sg)(hs:mh s)(ht:mh t)(hk:((bI s++bI t).flatMap dF).length≤1000000)(hn:((bI s++bI t).flatMap fun d=>d.ns).length≤1000000)(H:List aA)(T:ar) :
  aq Tryz.prog 44 [ec s,ec t] H T (Is (.df [ec (gO s t).1,.int .i64 (gO s t).2]) H T):=by
 refine aq.nF ?_;show aq Tryz.prog _ _ H T (BQ H T _);have cs:=fun H T=>qb s hs H T;have ct:=fun H T=>qb t ht H T;have ca:=fun H T=>Oj s.an t.an hs.d ht.d H T .none .none;rw[←and_eq] at ca;have cd:=fun hv H T=>BX s hs hv H T;have ce:=fun H T=>vu t ht H T;simp only[Bg] at cd ce;have z1:=j0 hs;have z2:=j0 ht;have y1:=jZ hs;have y2:=jZ ht;refine aj 6 [] Tryz.ntmps44 Tryz.func44 rfl (fun _ _=>Tryz.call44 _ _) (by simp) (fun HO=>?_);apply ae;intro K h;simp(disch:=omega);apply h;clear h K;refine af fun K1 aQ=>?_
 cases hv:aP s with
 |false=>
  rw[sK hv];rw[hv] at cs;refine ae fun K hK=>?_;simp(disch:=omega) ;refine ak (cs _ _) ?_;simp(disch:=omega) ;apply hK;clear hK K;apply aF rfl;apply ae;intro K h;simp(disch:=omega);apply h;clear h K;apply az;simp(disch:=omega) ;exact⟨⟨_,rfl⟩,⟨[],by simp⟩,fY _⟩
 |true=>
 rw[hv] at cs
 cases qk:aP t with
 |false=>
  rw[sJ qk];rw[qk] at ct;refine ae fun K hK=>?_;simp(disch:=omega) ;refine ak (cs _ _) ?_;simp(disch:=omega) ;refine ak (ct _ _) ?_;simp(disch:=omega) ;apply hK;clear hK K;apply aF rfl;apply ae;intro K h;simp(disch:=omega);apply h;clear h K;apply az;simp(disch:=omega) ;exact⟨⟨_,rfl⟩,⟨[],by simp⟩,fY _⟩
 |true=>
 rw[qk] at ct;replace cd:=cd hv;refine ae fun K hK=>?_;simp(disch:=omega) ;refine ak (cs _ _) ?_;simp(disch:=omega) ;refine ak (ct _ _) ?_;simp(disch:=omega) ;apply hK;clear hK K;apply aD rfl;apply ai;simp(disch:=omega) ;apply aQ;clear aQ;refine af fun K1 aQ=>?_
 by_cases hc:comb (fun p q=>p&&q) s.an t.an=[]
 rotate_left
 ·rw[vx hv qk hc];have nD:(0:Int)<((comb (fun p q=>p&&q) s.an t.an).length:Nat):=by
   have:=List.length_pos_iff.2 hc;omega
  have jg:decide ((0:Int)<((comb (fun p q=>p&&q) s.an t.an).length:Nat))=true:=decide_eq_true nD;generalize comb (fun p q=>p&&q) s.an t.an=c at *;refine ae fun K hK=>?_;simp(disch:=omega) ;refine ak (ca _ _) ?_;simp(disch:=omega)[jg,hc];apply hK;clear hK K;refine aN rfl (fun h=>?_) (fun h=>absurd h (by simp[hc]));apply ae;intro K h;simp(disch:=omega);apply h;clear h K;apply az;simp(disch:=omega) ;exact⟨⟨_,rfl⟩,⟨[],by simp⟩,fY _⟩
 have hM:=xx hv qk hc;rw[hc] at ca;refine ae fun K hK=>?_;simp(disch:=omega) ;refine ak (ca _ _) ?_;simp(disch:=omega) ;apply hK;clear hK K;apply aD rfl;apply ai;simp(disch:=omega) ;apply aQ;clear aQ;have cb:=fun H T tg=>x3 (bI s++bI t) (by rw[length_append];omega) (fun d hd=>(List.mem_append.1 hd).elim (y1 d) (y2 d)) (fun _=>hk) hn H T tg;rw[length_append,←vb] at cb;generalize bI s=ds at *;generalize bI t=dt at *;generalize bY (ds++dt)=r at *;refine aI [1,4,8] [0,0,0,1,1,2,2,2,2,3] [[],[],[]] al (by kernel_rfl) (by kernel_rfl) fun K hK=>?_;simp(disch:=omega)[bD];refine oZ (cd _ _) rfl ?_;simp(disch:=omega) ;refine aB (ce _ _) rfl ?_;simp(disch:=omega)[bD];refine aB (cb _ _ _) rfl ?_;simp(disch:=omega) ;apply hK;clear hK K;apply az;simp(disch:=omega) ;rw[hM];refine⟨⟨_,rfl⟩,⟨_,rfl⟩,.same ?_⟩;simp
def zI (l:List Int)(n:Int):Int:=if n∈l then (l.findIdx (·==n):Nat) else -1
theorem NU {l:List Int}{n:Int}(h:∀j,j<l.length→l.getD j 0≠n):zI l n=-1:=by
 unfold zI;rw[if_neg];intro hm;obtain⟨i,hi,e⟩:=List.mem_iff_getElem.1 hm;exact h i hi (by rw[getD_eq_getElem?_getD,getElem?_eq_getElem hi];exact e)
theorem NV {l:List Int}{n:Int}{k:Nat}(hk:k<l.length)(h:∀j,j<k→l.getD j 0≠n)(e:l.getD k 0=n):zI l n=k:=by
 have ek:l[k]=n:=by rw[getD_eq_getElem?_getD,getElem?_eq_getElem hk] at e;exact e
 unfold zI;rw[if_pos (by rw[←ek];exact List.getElem_mem hk)];have:l.findIdx (·==n)=k:=by
  rw[List.findIdx_eq hk];refine⟨by simpa using ek,fun j hj=>?_⟩;have:=h j hj;rw[getD_eq_getElem?_getD,getElem?_eq_getElem (by omega)] at this;simpa using this
 rw[this]
theorem Lg (l:List Int)(n:Int):decide (0≤zI l n)=decide (n∈l):=by
 unfold zI
 by_cases h:n∈l
 ·rw[if_pos h,decide_eq_true h];exact decide_eq_true (by omega)
 ·rw[if_neg h,decide_eq_false h];exact decide_eq_false (by omega)
attribute [-simp] getD_eq_getElem?_getD in
theorem zb (l:List Int)(n:Int)(hl:l.length≤maxLen)(H:List aA)(T:ar):aq Tryz.prog 162 [.sl l.length (ints l) .none,.int .i64 n] H T (Is (.int .i64 (zI l n)) H T):=by
 have mO:l.length≤9223372036854775807:=Nat.le_trans hl (by decide);refine aq.cH ?_ (by simp);refine aj 9 [] Tryz.ntmps162 Tryz.func162 rfl (fun _ _=>Tryz.call162 _ _) (by simp) (fun HO=>?_);apply ae;intro K h;simp(disch:=omega);apply h;clear h K;refine af fun K1 aQ=>?_;apply ae;intro K h;simp(disch:=omega);apply h;clear h K;apply ah;refine aG (X:=Nat) (fun k=>⟨[(0,.sl l.length (ints l) .none),(1,.int .i64 n),(7,.int .i64 (l.length:Nat)),(8,.int .i64 (k:Nat))],H,T⟩) (fun k=>k≤l.length∧∀j,j<k→l.getD j 0≠n) (fun k=>l.length-k) 0 ?_ ?_ ?_
 ·exact⟨Nat.zero_le _,fun j hj=>absurd hj (Nat.not_lt_zero _)⟩
 ·refine ag [] [] ?_ ?_ ?_ ?_ HO ?_
  all_goals simp
 ·rintro k ⟨h1,h2⟩;apply ae;intro K h;simp(disch:=omega);apply h;clear h K;refine af fun K2 aW=>?_;refine aN rfl (fun hk=>?_) (fun hk=>?_)
  ·simp  at hk;have fP:=aS hk;have gB:k<(ints l).length:=by simpa using hk
   apply ai;simp(disch:=omega) ;apply aW;clear aW;refine af fun K3 bz=>?_;apply ah;apply ae;intro K h;simp(disch:=omega);apply h;clear h K
   by_cases he:l.getD k 0=n
   ·have hi:=NV hk h2 he;have b1:(n==l.getD k 0)=true:=by simpa using he.symm
    refine ae fun K hK=>?_;simp(disch:=omega)[fP,gB,hk,b1,he];apply hK;clear hK K;apply aF rfl;apply ae;intro K h;simp(disch:=omega);apply h;clear h K;apply az;simp(disch:=omega) ;rw[hi]
   ·have b1:(n==l.getD k 0)=false:=by simpa using fun e=>he e.symm
    have st:∀j,j<k+1→l.getD j 0≠n:=fun j hj=>by
     rcases Nat.lt_or_ge j k with h3|h3
     ·exact h2 j h3
     ·have:j=k:=by omega
      subst this;exact he
    generalize l.getD k 0=x at *;refine ae fun K hK=>?_;simp(disch:=omega)[fP,gB,hk,b1];apply hK;clear hK K;apply aD rfl;apply ai;simp(disch:=omega) ;apply bz;clear bz;refine au fun K hK=>?_;simp(disch:=omega) ;apply hK;clear hK K;refine⟨k+1,⟨by omega,st⟩,by omega,?_⟩;refine ag [] [] ?_ ?_ ?_ ?_ HO ?_
    all_goals simp
  ·simp  at hk;have e:k=l.length:=by omega
   subst e;apply aC;simp(disch:=omega) ;apply aQ;clear aQ;apply ae;intro K h;simp(disch:=omega);apply h;clear h K;apply az;simp(disch:=omega) ;rw[NU h2]
attribute [-simp] getD_eq_getElem?_getD in
theorem Ce (l:List Int)(n:Int)(hl:l.length≤maxLen)(H:List aA)(T:ar)(tg:Tag):aq Tryz.prog 109 [.sl l.length (ints l) tg,.int .i64 n] H T (Is (.bool (decide (n∈l))) H T):=by
 refine aq.cD ?_;refine aq.cH ?_ (by simp);have c:=fun H T=>zb l n hl H T;rw[←Lg];generalize zI l n=v at *;refine aj 5 [] Tryz.ntmps109 Tryz.func109 rfl (fun _ _=>Tryz.call109 _ _) (by simp) (fun HO=>?_);apply ae;intro K h;simp(disch:=omega);apply h;clear h K;refine ae fun K hK=>?_;simp(disch:=omega) ;refine ak (c _ _) ?_;simp(disch:=omega) ;apply hK;clear hK K;apply az;simp(disch:=omega) 
theorem o3 (x:Dc)(u:List Dc):aM (x::u)=.int .i64 x.id::.sl x.zs.length (dS x.zs) .none::.sl x.ns.length (aU x.ns) .none::aM u:=rfl
theorem H9:∀(u:List Dc)(i:Nat)(x:Dc),i<u.length→(((aM u).set (i*3) (.int .i64 x.id)).set (i*3+1) (.sl x.zs.length (dS x.zs) .none)).set (i*3+1+1) (.sl x.ns.length (aU x.ns) .none)=aM (u.set i x):=by
 intro u
 induction u with
 |nil=>intro i x h;simp at h
 |cons p u ih=>
  intro i x h
  cases i with
  |zero=>
   rw[o3];show _=aM (x::u);rw[o3];rfl
  |succ i=>
   have:=ih i x (by simpa using h);rw[o3,List.set_cons_succ,o3,show (i+1)*3=i*3+1+1+1 by omega,←this];rfl
def zJ (p:Dc→Bool)(l:List Dc):Int:=if l.any p=true then (l.findIdx p:Nat) else -1
theorem NW {p:Dc→Bool}{l:List Dc}(h:∀j,j<l.length→p (l.getD j d0)=false):zJ p l=-1:=by
 unfold zJ;rw[if_neg];rw[List.any_eq_true];rintro⟨x,hx,hp⟩;obtain⟨i,hi,rfl⟩:=bS d0 hx;rw[h i hi] at hp;cases hp
theorem NX {p:Dc→Bool}{l:List Dc}{k:Nat}(hk:k<l.length)(h:∀j,j<k→p (l.getD j d0)=false)(e:p (l.getD k d0)=true):zJ p l=k:=by
 have g:∀j (hj:j<l.length),l.getD j d0=l[j]:=fun j hj=>by rw[getD_eq_getElem?_getD,getElem?_eq_getElem hj];rfl
 rw[g k hk] at e;unfold zJ;rw[if_pos (List.any_eq_true.2 ⟨_,List.getElem_mem hk,e⟩)];have:l.findIdx p=k:=by
  rw[List.findIdx_eq hk];refine⟨e,fun j hj=>?_⟩;have:=h j hj;rw[g j (by omega)] at this;exact this
 rw[this]
theorem Lh (p:Dc→Bool)(l:List Dc):(zJ p l=-1∧∀d∈l,p d=false)∨∃k,k<l.length∧zJ p l=(k:Nat)∧(∀j,j<k→p (l.getD j d0)=false)∧p (l.getD k d0)=true:=by
 unfold zJ
 by_cases h:l.any p=true
 ·right
  rw[if_pos h];obtain⟨x,hx,hp⟩:=List.any_eq_true.1 h;have aZ:l.findIdx p<l.length:=List.findIdx_lt_length.2 ⟨x,hx,hp⟩;have g:∀j (hj:j<l.length),l.getD j d0=l[j]:=fun j hj=>by rw[getD_eq_getElem?_getD,getElem?_eq_getElem hj];rfl
  refine⟨_,aZ,rfl,fun j hj=>?_,?_⟩
  ·rw[g j (by omega)];have:=List.not_of_lt_findIdx hj;simpa using this
  ·rw[g _ aZ];exact List.findIdx_getElem
 ·left
  rw[if_neg h];refine⟨rfl,fun d hd=>?_⟩;have:=List.any_eq_false.1 (by simpa using h:l.any p=false) d hd;simpa using this
attribute [-simp] getD_eq_getElem?_getD in
theorem DX (p:Dc→Bool)(l:List Dc)(hl:l.length≤1000000)(g:FuncId)(db:List AV)(Hx:List aA)(T:ar)(v7:aJ Hx.length T.length db)
  (hc:∀d∈l,∀X,aq Tryz.prog g ([.agg (fw d)]++db) (Hx++X) T (Is (.bool (p d)) (Hx++X) T)) :
  aq Tryz.prog 139 [.bV Hx.length 0 l.length,.fn g [] db] (Hx++[.cells (aM l)]) T (Is (.int .i64 (zJ p l)) (Hx++[.cells (aM l)]) T):=by
 have mO:l.length≤9223372036854775807:=by omega
 refine aj 9 [] Tryz.ntmps139 Tryz.func139 rfl (fun _ _=>Tryz.call139 _ _) (by simp) (fun HO=>?_);have CS:aJ (Hx.length+1) T.length db:=fun v hv=>(v7 v hv).more (by omega) (Nat.le_refl _);apply ae;intro K h;simp(disch:=omega);apply h;clear h K;refine af fun K1 aQ=>?_;apply ae;intro K h;simp(disch:=omega);apply h;clear h K;apply ah;refine aG (X:=Nat) (fun k=>⟨[(0,.bV Hx.length 0 l.length),(1,.fn g [] db),(7,.int .i64 (l.length:Nat)),(8,.int .i64 (k:Nat))],Hx++[.cells (aM l)],T⟩) (fun k=>k≤l.length∧∀j,j<k→p (l.getD j d0)=false) (fun k=>l.length-k) 0 ?_ ?_ ?_
 ·exact⟨Nat.zero_le _,fun j hj=>absurd hj (Nat.not_lt_zero _)⟩
 ·refine ag [] [] ?_ ?_ ?_ ?_ HO ?_
  all_goals simp
  all_goals exact CS
 ·rintro k ⟨h1,h2⟩;apply ae;intro K h;simp(disch:=omega);apply h;clear h K;refine af fun K2 aW=>?_;refine aN rfl (fun hk=>?_) (fun hk=>?_)
  ·simp  at hk;have bA:=iz l k hk;have c:=fun X=>hc _ (aR l k d0 hk) X;have fP:=fun h e=>NX hk h e (p:=p);have st:p (l.getD k d0)=false→∀j,j<k+1→p (l.getD j d0)=false:=fun e j hj=>by
    rcases Nat.lt_or_ge j k with h3|h3
    ·exact h2 j h3
    ·have:j=k:=by omega
     subst this;exact e
   have hlen:=bD l;apply ai;simp(disch:=omega) ;apply aW;clear aW;refine af fun K3 bz=>?_;apply ah;apply ae;intro K h;simp(disch:=omega);apply h;clear h K
   cases hp:p (l.getD k d0) with
   |true=>
    have hi:=fP h2 hp;rw[hp] at c;generalize l.getD k d0=x at *;refine ae fun K hK=>?_;simp(disch:=omega)[bA,hlen,hk];refine ak (c _) ?_;simp(disch:=omega) ;apply hK;clear hK K;apply aF rfl;apply ae;intro K h;simp(disch:=omega);apply h;clear h K;apply az;simp(disch:=omega) ;rw[hi];exact⟨rfl,rfl,rfl⟩
   |false=>
    have st2:=st hp;rw[hp] at c;generalize l.getD k d0=x at *;refine ae fun K hK=>?_;simp(disch:=omega)[bA,hlen,hk];refine ak (c _) ?_;simp(disch:=omega) ;apply hK;clear hK K;apply aD rfl;apply ai;simp(disch:=omega) ;apply bz;clear bz;refine au fun K hK=>?_;simp(disch:=omega) ;apply hK;clear hK K;refine⟨k+1,⟨by omega,st2⟩,by omega,?_⟩;refine ag [] [] ?_ ?_ ?_ ?_ HO ?_
    all_goals simp
    all_goals exact CS
  ·simp  at hk;have e:k=l.length:=by omega
   subst e;apply aC;simp(disch:=omega) ;apply aQ;clear aQ;apply ae;intro K h;simp(disch:=omega);apply h;clear h K;apply az;simp(disch:=omega) ;rw[NW h2];exact⟨rfl,rfl,rfl⟩
def jA (p:Dc→Bool)(l:List Dc)(j:Nat):List Dc:=(l.take j).filter fun d=>!p d
theorem yA (p:Dc→Bool)(l:List Dc)(j:Nat):(jA p l j).length≤j:=by
 unfold jA;have:=List.length_filter_le (fun d=>!p d) (l.take j);rw[length_take] at this;omega
def tG (p:Dc→Bool)(l:List Dc)(j:Nat):List Dc:=jA p l j++l.drop (jA p l j).length
theorem Nf (p:Dc→Bool)(l:List Dc){j:Nat}(hj:j≤l.length):(tG p l j).length=l.length:=by
 have:=yA p l j;rw[tG,length_append,List.length_drop];omega
theorem Ng {p:Dc→Bool}{l:List Dc}{j:Nat}:(tG p l j).getD j d0=l.getD j d0:=by
 have:=yA p l j;rw[tG,getD_eq_getElem?_getD,List.getElem?_append_right this,List.getElem?_drop,show (jA p l j).length+(j-(jA p l j).length)=j by omega,←getD_eq_getElem?_getD]
theorem tU {p:Dc→Bool}{l:List Dc}{j:Nat}(hj:j<l.length)(h:p (l.getD j d0)=true):jA p l (j+1)=jA p l j:=by
 unfold jA;rw[bf l j d0 hj,List.filter_append];simp[h,-getD_eq_getElem?_getD]
theorem C2 {p:Dc→Bool}{l:List Dc}{j:Nat}(hj:j<l.length)(h:p (l.getD j d0)=false):jA p l (j+1)=jA p l j++[l.getD j d0]:=by
 unfold jA;rw[bf l j d0 hj,List.filter_append];simp[h,-getD_eq_getElem?_getD]
theorem Nd {p:Dc→Bool}{l:List Dc}{j:Nat}(hj:j<l.length)(h:p (l.getD j d0)=true):tG p l (j+1)=tG p l j:=by
 rw[tG,tG,tU hj h]
theorem Qv {p:Dc→Bool}{l:List Dc}{j:Nat}(hj:j<l.length)(h:p (l.getD j d0)=false):tG p l (j+1)=(tG p l j).set (jA p l j).length (l.getD j d0):=by
 have hl:=yA p l j;rw[tG,tG,C2 hj h,List.set_append_right _ _ (Nat.le_refl _),Nat.sub_self,length_append,List.append_assoc]
 congr 1
 rw[List.drop_eq_getElem_cons (by omega:(jA p l j).length<l.length)];rfl
theorem HH {p:Dc→Bool}{l:List Dc}{k:Nat}(hk:k≤l.length)(h:∀j,j<k→p (l.getD j d0)=false):jA p l k=l.take k:=by
 unfold jA;rw[List.filter_eq_self];intro d hd;obtain⟨i,hi,e⟩:=bS d0 hd;rw[length_take] at hi;have h2:=h i (by omega);have e2:(l.take k).getD i d0=l.getD i d0:=by rw[getD_eq_getElem?_getD,getD_eq_getElem?_getD,List.getElem?_take,if_pos (by omega)]
 rw[e2] at e;rw[←e,h2];rfl
theorem E6 (p:Dc→Bool)(l:List Dc):jA p l l.length=l.filter fun d=>!p d:=by unfold jA;rw[List.take_length]
theorem bC.QE {H:List aA}{T:ar}{b:aA}{vs:List AV}(h:bC (H++[b]) T)(hv:aJ (H.length+1) T.length vs):bC (H++[.cells vs]) T:=by
 have:=h.set (k:=H.length) (vs:=vs) (by rw[length_append];exact hv);simpa using this
theorem y8 (a:List AV):∀(xs b:List AV)(o:Nat),setMany (a++b) (a.length+o) xs=a++setMany b o xs:=by
 intro xs
 induction xs with
 |nil=>intro b o;rfl
 |cons x r ih=>
  intro b o;rw[setMany,setMany,List.set_append_right _ _ (by omega),Nat.add_sub_cancel_left,Nat.add_assoc,ih]
attribute [-simp] getD_eq_getElem?_getD in
theorem D4 (p:Dc→Bool)(l:List Dc)(hl:l.length≤1000000)(g:FuncId)(db:List AV)(Hx:List aA)(T:ar)(v7:aJ Hx.length T.length db)
  (hc:∀d∈l,∀X,aq Tryz.prog g ([.agg (fw d)]++db) (Hx++X) T (Is (.bool (p d)) (Hx++X) T)) :
  aq Tryz.prog 107 [.bV Hx.length 0 l.length,.fn g [] db] (Hx++[.cells (aM l)]) T
   (fun r H' T'=>r=.bV Hx.length 0 (l.filter fun d=>!p d).length∧T'=T∧∃rest X,H'=Hx++(.cells (aM (l.filter fun d=>!p d)++rest)::X)):=by
 have mO:l.length≤9223372036854775807:=by omega
 have ci:=DX p l hl g db Hx T v7 hc;refine aj 10 [] Tryz.ntmps107 Tryz.func107 rfl (fun _ _=>Tryz.call107 _ _) (by simp) (fun HO=>?_);have CS:∀n,Hx.length≤n→aJ n T.length db:=fun n hn v hv=>(v7 v hv).more hn (Nat.le_refl _);apply ae;intro K h;simp(disch:=omega);apply h;clear h K;rcases Lh p l with⟨e,nC⟩|⟨k,hk,e,aZ,Z7⟩
 ·rw[e] at ci;have hf:l.filter (fun d=>!p d)=l:=by
   rw[List.filter_eq_self];intro d hd;rw[nC d hd];rfl
  refine ae fun K hK=>?_;simp(disch:=omega) ;refine ak (ci) ?_;simp(disch:=omega) ;apply hK;clear hK K;refine af fun K1 aQ=>?_;apply ae;intro K h;simp(disch:=omega);apply h;clear h K;apply aF rfl;apply ae;intro K h;simp(disch:=omega);apply h;clear h K;apply az;simp(disch:=omega) ;rw[hf];exact⟨rfl,[],by simp⟩
 rw[e] at ci;have Ru:((k:Nat):Int)≠-1:=by omega
 have bk:(((k:Nat):Int)==-1)=false:=by simp
 refine ae fun K hK=>?_;simp(disch:=omega) ;refine ak (ci) ?_;simp(disch:=omega) ;apply hK;clear hK K;refine af fun K1 aQ=>?_;refine ae fun K hK=>?_;simp(disch:=omega)[bk,Ru];apply hK;clear hK K;apply aD rfl;apply ai;simp(disch:=omega) ;apply aQ;clear aQ;refine af fun K1 aQ=>?_;have CF:jA p l k=l.take k:=HH (by omega) aZ;have dg:jA p l (k+1)=l.take k:=by rw[tU hk Z7,CF]
 have qm:(jA p l (k+1)).length=k:=by rw[dg,length_take];omega
 have Zv:tG p l (k+1)=l:=by rw[tG,qm,dg,List.take_append_drop]
 have Xg:∀i,bC (Hx++[.cells (aM (tG p l i))]) T:=fun i=>bC.QE HO (vl _ _ _);apply ae;intro K h;simp(disch:=omega);apply h;clear h K;apply ah;refine aG (X:=Nat) (fun j=>⟨[(0,.bV Hx.length 0 l.length),(1,.fn g [] db),(5,.int .i64 ((jA p l (k+1+j)).length:Nat)),(6,.int .i64 ((k+1+j:Nat):Int))],Hx++[.cells (aM (tG p l (k+1+j)))],T⟩)
  (fun j=>k+1+j≤l.length∧(jA p l (k+1+j)).length<k+1+j) (fun j=>l.length-(k+1+j)) 0 ?_ ?_ ?_
 ·exact⟨hk,by rw[Nat.add_zero,qm];omega⟩
 ·refine ag [] [] ?_ ?_ ?_ ?_ (Xg _) ?_
  all_goals simp[qm,Zv]
  all_goals exact CS _ (by omega)
 ·rintro j ⟨h1,h2⟩;obtain⟨i,hi⟩:∃i,i=k+1+j:=⟨_,rfl⟩
  have z8:∀P:Nat→Prop,P (i+1)→P (k+1+(j+1)):=fun P h=>by rw[hi] at h;exact h
  rw[←hi] at h1 h2 ⊢;have ua:=Nf p l h1;have hlen:(aM (tG p l i)).length=l.length*3:=by rw[bD,ua]
  refine af fun K2 aW=>?_;apply ae;intro K h;simp(disch:=omega);apply h;clear h K;refine aN rfl (fun hj=>?_) (fun hj=>?_)
  ·simp  at hj;have bA:=iz (tG p l i) i (by omega);rw[Ng] at bA;have c:=fun X=>hc _ (aR l i d0 hj) X;have hOi:=Xg i;apply ai;simp(disch:=omega) ;apply aW;clear aW;refine af fun K3 bz=>?_;apply ah;have out:∀(i':Nat) e,i'=i+1→(jA p l i').length<i'→bt (Hx.length+1) T.length e [(0,.bV Hx.length 0 l.length),(1,.fn g [] db),(5,.int .i64 ((jA p l i').length:Nat)),(6,.int .i64 ((i:Nat):Int))]→∀X,K3 ⟨e,Hx++.cells (aM (tG p l i'))::X,T⟩:=by
    intro i' e gX nu he X;refine bz _ (aH ⟨[(0,.bV Hx.length 0 l.length),(1,.fn g [] db),(5,.int .i64 ((jA p l i').length:Nat)),(6,.int .i64 ((i:Nat):Int))],Hx++[.cells (aM (tG p l i'))],T⟩ (ag X [] (by simp) (by simp) (by simp) (by simp) (Xg _) (by simpa using he)) ?_);refine au fun K hK=>?_;simp(disch:=omega) ;apply hK;clear hK K;refine⟨j+1,⟨by show k+1+(j+1)≤_;omega,?_⟩,by show l.length-(k+1+(j+1))<l.length-i;omega,?_⟩
    ·refine z8 (fun x=>(jA p l x).length<x) ?_;rw[←gX];exact nu
    ·have e1:k+1+(j+1)=i':=by omega
     have e2:((i':Nat):Int)=(i:Nat)+1:=by omega
     simp only[e1];refine ag [] [] ?_ ?_ ?_ ?_ (Xg _) ?_
     all_goals simp[e2]
     all_goals exact CS _ (by omega)
   clear bz;refine ae fun K hK=>?_;simp(disch:=omega)[bA,hlen,hj];apply hK;clear hK K;have hOd:bC (Hx++[.cells (aM (tG p l i)),.cells (fw (l.getD i d0))]) T:=by
    have:=hOi.snoc (vs:=fw (l.getD i d0)) (by simp);simpa using this
   cases hp:p (l.getD i d0) with
   |true=>
    rw[hp] at c;have e1:=tU hj hp;have e2:=Nd hj hp;have out:=fun e=>out (i+1) e rfl (by rw[e1];omega);rw[e1,e2] at out;generalize l.getD i d0=x at *;refine ae fun K hK=>?_;simp(disch:=omega) ;refine ak (c _) ?_;simp(disch:=omega) ;apply hK;clear hK K;apply aD rfl;apply ai;simp(disch:=omega) ;refine out _ ?_ _;simp;exact CS _ (by omega)
   |false=>
    rw[hp] at c;have e1:=C2 hj hp;have e2:=Qv hj hp;have e3:(jA p l (i+1)).length=(jA p l i).length+1:=by rw[e1];simp
    have pn:=H9 (tG p l i) (jA p l i).length (l.getD i d0) (by omega);have out:=fun e=>out (i+1) e rfl (by rw[e3];omega);rw[e3,e2,←pn] at out;have aao:(jA p l i).length<l.length:=by omega
    generalize l.getD i d0=x at *;generalize (jA p l i).length=m at *;generalize aM (tG p l i)=B at *;refine ae fun K hK=>?_;simp(disch:=omega) ;refine ak (c _) ?_;simp(disch:=omega) ;apply hK;clear hK K;apply aF rfl;refine ae fun K hK=>?_;simp(disch:=omega)[aao,hlen];apply hK;clear hK K;refine au fun K hK=>?_;simp(disch:=omega) ;apply hK;clear hK K;refine out _ ?_ _;simp;exact CS _ (by omega)
  ·simp  at hj;have e:i=l.length:=by omega
   have hw:tG p l i=jA p l i++l.drop (jA p l i).length:=rfl;have Rv:jA p l i=l.filter fun d=>!p d:=by rw[e,E6]
   rw[hw,←vb] at hlen ⊢;have hcm:=bD (jA p l i);have pn:=fun xs=>y8 (aM (jA p l i)) xs (aM (l.drop (jA p l i).length)) 0;rw[hcm,Nat.add_zero] at pn;generalize jA p l i=c at hlen hcm pn h2 Rv ⊢;generalize aM (l.drop c.length)=R at hlen pn ⊢;apply aC;simp(disch:=omega) ;apply aQ;clear aQ;have hle:c.length≤l.length:=by omega
   have fK:c.length<l.length:=by omega
   refine ae fun K hK=>?_;simp(disch:=omega)[fK,hlen];apply hK;clear hK K;rw[pn];refine ae fun K hK=>?_;simp(disch:=omega)[hle];apply hK;clear hK K;apply az;simp(disch:=omega) ;rw[Rv];exact⟨rfl,_,rfl⟩
attribute [-simp] getD_eq_getElem?_getD in
theorem Ca (ids:List Int)(hi:ids.length≤maxLen)(d:Dc)(b:Nat)(H:List aA)(T:ar)(hb:H[b]?=some (.cells [.sl ids.length (ints ids) .none])) :
  aq Tryz.prog 108 ([.agg (fw d)]++[.ptr b 0]) H T (Is (.bool (decide (d.id∈ids))) H T):=by
 refine aq.cH ?_ (by simp);have c:=fun H T=>Ce ids d.id hi H T .none;obtain⟨id,zs,ns⟩:=d;simp only at c;have sr:=(List.getElem?_eq_some_iff.1 hb).1;have fP:=aV hb;generalize decide (id∈ids)=q at *;refine aj 5 [] Tryz.ntmps108 Tryz.func108 rfl (fun _ _=>Tryz.call108 _ _) (by simp) (fun HO=>?_);apply ae;intro K h;simp(disch:=omega);apply h;clear h K;refine ae fun K hK=>?_;simp(disch:=omega)[List.getElem?_append_left,List.getElem_append_left,hb,sr,fP];refine ak (c _ _) ?_;simp(disch:=omega) ;apply hK;clear hK K;apply az;simp(disch:=omega) 
attribute [-simp] getD_eq_getElem?_getD in
theorem B6 (g:FuncId)(db:List AV)(H:List aA)(T:ar)(v7:aJ H.length T.length db) :
  aq Tryz.prog 139 [.sl 0 [] .none,.fn g [] db] H T (Is (.int .i64 (-1)) H T):=by
 refine aq.cH ?_ (by simp);refine aj 9 [] Tryz.ntmps139 Tryz.func139 rfl (fun _ _=>Tryz.call139 _ _) (by simp) (fun HO=>?_);apply ae;intro K h;simp(disch:=omega);apply h;clear h K;refine af fun K1 aQ=>?_;apply ae;intro K h;simp(disch:=omega);apply h;clear h K;apply ah;refine aG (X:=Nat) (fun k=>⟨[(7,.int .i64 0),(8,.int .i64 0)],H,T⟩) (fun k=>True) (fun k=>0) 0 trivial ?_ ?_
 ·refine ag [] [] ?_ ?_ ?_ ?_ HO ?_
  all_goals simp
 ·intro k _;apply ae;intro K h;simp(disch:=omega);apply h;clear h K;refine af fun K2 aW=>?_;refine aN rfl (fun hk=>?_) (fun hk=>?_)
  ·simp at hk
  ·apply aC;simp(disch:=omega) ;apply aQ;clear aQ;apply ae;intro K h;simp(disch:=omega);apply h;clear h K;apply az;simp(disch:=omega) 
attribute [-simp] getD_eq_getElem?_getD in
theorem zh (g:FuncId)(db:List AV)(H:List aA)(T:ar)(v7:aJ H.length T.length db) :
  aq Tryz.prog 107 [.sl 0 [] .none,.fn g [] db] H T (Is (.sl 0 [] .none) H T):=by
 refine aq.cH ?_ (by simp);have ci:=B6 g db H T v7;refine aj 10 [] Tryz.ntmps107 Tryz.func107 rfl (fun _ _=>Tryz.call107 _ _) (by simp) (fun HO=>?_);apply ae;intro K h;simp(disch:=omega);apply h;clear h K;refine ae fun K hK=>?_;simp(disch:=omega) ;refine ak (ci) ?_;simp(disch:=omega) ;apply hK;clear hK K;refine af fun K1 aQ=>?_;apply ae;intro K h;simp(disch:=omega);apply h;clear h K;apply aF rfl;apply ae;intro K h;simp(disch:=omega);apply h;clear h K;apply az;simp(disch:=omega) 
theorem rZ {s:Sg}{ids:List Int}{d:Dc}(h:d∈ig s ids):d∈bI s:=(List.mem_filter.1 h).1
theorem r4 (s:Sg)(ids:List Int):(ig s ids).length≤(bI s).length:=List.length_filter_le _ _
theorem HE {s:Sg}{ids:List Int}(h:aP s=false):ig s ids=[]:=by
 unfold ig bI;rw[if_neg (by rw[h];decide)];rfl
attribute [-simp] getD_eq_getElem?_getD in
theorem H5 (s:Sg)(hs:mh s)(hl:aP s=true→s.an.length≤40)(ids:List Int)(hi:ids.length≤maxLen)(H:List aA)(T:ar)(tg:Tag) :
  aq Tryz.prog 45 [ec s,.sl ids.length (ints ids) tg] H T (Is (ec (qE s ids)) H T):=by
 refine aq.lD ?_;refine aq.cH ?_ (by simp);have y1:=jZ hs;have x1:=u9 hs;have z1:=j0 hs;have Z1:bC H T→bC (H++[.cells (bH s),.cells [.sl ids.length (ints ids) .none],.cells [.sl 0 [] .full,.sl 0 [] .full,.sl 0 [] .full]]) T:=fun HO=>by
  have:=((HO.snoc (vs:=bH s) (by simp)).snoc (vs:=[.sl ids.length (ints ids) .none]) (by simp)).snoc (vs:=[.sl 0 [] .full,.sl 0 [] .full,.sl 0 [] .full]) (by simp);simpa using this
 have cb:=fun hv H T=>o7 (ig s ids) (by have h1:=r4 s ids;have h2:=hl hv;rw[tV hv] at h1;omega) (fun d hd=>y1 d (rZ hd)) (fun d hd=>x1 d (rZ hd)) H T .none;unfold qE
 cases hv:aP s with
 |false=>
  have cd:=fun H T=>vH s hs hv H T;have ce:=fun(H:List aA) (T:ar) (b:Nat) hb=>aq.cD (zh 108 [.ptr b 0] H T hb) (a:=.sl 0 [] .full);have cb0:∀H T,aq Tryz.prog 13 [.sl 0 [] .none] H T (Is (.df [ec (bY []).1,.int .i64 (bY []).2]) H T):=fun H T=>o7 [] (by simp) (fun d hd=>by simp at hd) (fun d hd=>by simp at hd) H T .none;rw[HE hv];generalize bY []=r at *;refine aj 8 [] Tryz.ntmps45 Tryz.func45 rfl (fun _ _=>Tryz.call45 _ _) (by simp) (fun HO=>?_);apply ae;intro K h;simp(disch:=omega);apply h;clear h K;refine ae fun K hK=>?_;simp(disch:=omega) ;refine ak (cd _ _) ?_;simp(disch:=omega) ;refine ak (ce _ _ _ (by simp)) ?_;simp(disch:=omega) ;apply hK;clear hK K;refine ae fun K hK=>?_;simp(disch:=omega) ;refine ak (cb0 _ _) ?_;simp(disch:=omega) ;apply hK;clear hK K;apply ae;intro K h;simp(disch:=omega);apply h;clear h K;apply az;simp(disch:=omega) 
 |true=>
  have cb:=cb hv;have cd:=fun H T=>vI s hs hv H T;have hP:bI s=fG s:=by unfold bI;rw[if_pos hv]
  have hn:s.an.length=(fG s).length:=by rw[←hP,tV hv]
  have Up:ig s ids=(fG s).filter fun d=>!decide (d.id∈ids):=by unfold ig;rw[hP]
  have lN:(fG s).length≤1000000:=by have:=hl hv;omega
  have Ge:=D4 (fun d=>decide (d.id∈ids)) (fG s) lN 108 [.ptr (H.length+1) 0] (H++[.cells (bH s),.cells [.sl ids.length (ints ids) .none],.cells [.sl 0 [] .full,.sl 0 [] .full,.sl 0 [] .full],.cells (bH s)]) T (by simp) (fun d hd X=>Ca ids hi d (H.length+1) _ T (by simp));have Ge:=aq.cD (a:=.bJ (H++[aA.cells (bH s),aA.cells [.sl ids.length (ints ids) .none],aA.cells [.sl 0 [] .full,.sl 0 [] .full,.sl 0 [] .full],aA.cells (bH s)]).length (fG s).length (fG s).length) Ge;rw[←Up,←hn] at Ge;rw[hn] at cd;rw[hn] at Ge;simp only[List.append_assoc,List.cons_append,List.nil_append,length_append,List.length_cons,List.length_nil] at Ge;generalize fG s=ds at *;generalize ig s ids=lf at *;generalize bY lf=r at *;refine aj 8 [] Tryz.ntmps45 Tryz.func45 rfl (fun _ _=>Tryz.call45 _ _) (by simp) (fun HO=>?_);have Z1:=Z1 HO;apply ae;intro K h;simp(disch:=omega);apply h;clear h K;refine ae fun K hK=>?_;simp(disch:=omega) ;refine ak (cd _ _) ?_;simp(disch:=omega) ;refine⟨_,Ge,?_⟩;rintro r' H' T' ⟨rfl,rfl,rest,X,rfl⟩;simp(disch:=omega) ;apply hK;clear hK K;have hG:H++aA.cells (bH s)::aA.cells [AV.sl ids.length (ints ids) Tag.none]::aA.cells [AV.sl 0 [] Tag.full,AV.sl 0 [] Tag.full,AV.sl 0 [] Tag.full]::aA.cells (bH s)::aA.cells (aM lf++rest)::X
    = (H++[.cells (bH s),.cells [.sl ids.length (ints ids) .none],.cells [.sl 0 [] .full,.sl 0 [] .full,.sl 0 [] .full]])++aA.cells (bH s)::aA.cells (aM lf++rest)::X:=by simp
  rw[hG,←List.append_nil T'];refine Kf (H:=H++[.cells (bH s),.cells [.sl ids.length (ints ids) .none],.cells [.sl 0 [] .full,.sl 0 [] .full,.sl 0 [] .full]]) (T:=T') (e':=[(2,.ptr H.length 0),(4,.ptr (H.length+2) 0),(5,.sl lf.length (aM lf) .none)]) ?_ ?_ Z1 ?_ ?_
  ·simp
  ·simp
  ·refine⟨gk.same (by simp),gk.same (by simp),gk.PZ (rest:=rest) (by simp) ?_ (by simp),trivial⟩;rw[←hG];simp
  refine ae fun K hK=>?_;simp(disch:=omega) ;refine ak (cb _ _) ?_;simp(disch:=omega) ;apply hK;clear hK K;apply ae;intro K h;simp(disch:=omega);apply h;clear h K;apply az;simp(disch:=omega) 
attribute [-simp] getD_eq_getElem?_getD in
theorem H4 (s:Sg)(hs:mh s)(ids:List Int)(hi:ids.length≤maxLen)(hk:((ig s ids).flatMap dF).length≤1000000)(hn:((ig s ids).flatMap fun d=>d.ns).length≤1000000)(H:List aA)(T:ar)(tg:Tag) :
  aq Tryz.prog 46 [ec s,.sl ids.length (ints ids) tg] H T (Is (ec (qE s ids)) H T):=by
 refine aq.lD ?_;refine aq.cH ?_ (by simp);have y1:=jZ hs;have z1:=j0 hs;have cd:=fun H T=>vu s hs H T;rw[Bg] at cd;have cb:=fun H T tg=>x3 (ig s ids) (by have h1:=r4 s ids;omega) (fun d hd=>y1 d (rZ hd)) (fun _=>hk) hn H T tg;have Rq:ig s ids=jA (fun d=>decide (d.id∈ids)) (bI s) (bI s).length:=(E6 _ _).symm;have wG:=r4 s ids;unfold qE;rw[Rq] at cb wG;rw[Rq];clear Rq hk hn;have hln:(bI s).length≤9223372036854775807:=by omega
 generalize bI s=ds at *;generalize hR:bY (jA (fun d=>decide (d.id∈ids)) ds ds.length)=r at *;refine aj 10 [] Tryz.ntmps46 Tryz.func46 rfl (fun _ _=>Tryz.call46 _ _) (by simp) (fun HO=>?_);have eX:bC (H++[.cells (bH s),.cells [.sl 0 [] .full,.sl 0 [] .full,.sl 0 [] .full]]) T:=by
  have:=(HO.snoc (vs:=bH s) (by simp)).snoc (vs:=[.sl 0 [] .full,.sl 0 [] .full,.sl 0 [] .full]) (by simp);simpa using this
 apply ae;intro K h;simp(disch:=omega);apply h;clear h K;apply ae;intro K h;simp(disch:=omega);apply h;clear h K;refine ae fun K hK=>?_;simp(disch:=omega) ;refine ak (cd _ _) ?_;simp(disch:=omega) ;apply hK;clear hK K;refine lF 5 0 3 [] (by omega) rfl ?_;refine af fun K1 aQ=>?_;apply ae;intro K h;simp(disch:=omega);apply h;clear h K;apply ah;refine aG (X:=Nat) (fun i=>⟨[(1,.sl ids.length (ints ids) .none),(2,.ptr H.length 0),(4,.ptr (H.length+1) 0),(5,.sl (jA (fun d=>decide (d.id∈ids)) ds i).length (aM (jA (fun d=>decide (d.id∈ids)) ds i)) (.own T.length)),(6,.sl ds.length (aM ds) .none),(7,.int .i64 (i:Nat))],
   H++[.cells (bH s),.cells [.sl 0 [] .full,.sl 0 [] .full,.sl 0 [] .full]],T++[((jA (fun d=>decide (d.id∈ids)) ds i).length*3,3)]⟩)
  (fun i=>i≤ds.length) (fun i=>ds.length-i) 0 ?_ ?_ ?_
 ·exact Nat.zero_le _
 ·refine ag [] [] ?_ ?_ ?_ ?_ (eX.fQ (by simp)) ?_
  all_goals simp[jA,kC]
 ·intro i h1;have gB:=yA (fun d=>decide (d.id∈ids)) ds i;refine af fun K2 aW=>?_;apply ae;intro K h;simp(disch:=omega);apply h;clear h K;refine aN rfl (fun hj=>?_) (fun hj=>?_)
  ·simp  at hj;have bA:=iz ds i hj;have fP:=(jc ds i hj).1;have ky:=tU hj (p:=fun d=>decide (d.id∈ids));have kn:=C2 hj (p:=fun d=>decide (d.id∈ids));have ch:=fun H T=>uI ids (ds.getD i d0).id hi H T .none;have hlen:=bD ds;apply ai;simp(disch:=omega) ;apply aW;clear aW;refine af fun K3 bz=>?_;apply ah
   cases hp:decide ((ds.getD i d0).id∈ids) with
   |true=>
    rw[hp] at ch;replace ky:=ky hp;generalize ds.getD i d0=x at *;refine ae fun K hK=>?_;simp(disch:=omega)[fP,hlen,hj];refine ak (ch _ _) ?_;simp(disch:=omega) ;apply hK;clear hK K;apply aD rfl;apply ai;simp(disch:=omega) ;apply bz;clear bz;refine au fun K hK=>?_;simp(disch:=omega) ;apply hK;clear hK K;refine⟨i+1,by show i+1≤_;omega,by show ds.length-(i+1)<ds.length-i;omega,?_⟩;simp only[ky];refine ag [] [] ?_ ?_ ?_ ?_ (eX.fQ (by simp)) ?_
    all_goals simp
   |false=>
    rw[hp] at ch;replace kn:=kn hp;have kl:(jA (fun d=>decide (d.id∈ids)) ds (i+1)).length=(jA (fun d=>decide (d.id∈ids)) ds i).length+1:=by rw[kn];simp
    have pG:=xS (jA (fun d=>decide (d.id∈ids)) ds i) (ds.getD i d0);rw[←kn] at pG;have hkc:=bD (jA (fun d=>decide (d.id∈ids)) ds i);generalize ds.getD i d0=x at *;refine ae fun K hK=>?_;simp(disch:=omega)[fP,hlen,hj];refine ak (ch _ _) ?_;simp(disch:=omega) ;apply hK;clear hK K;apply aF rfl;refine au fun K hK=>?_;simp(disch:=omega)[bA,hlen,hj,hkc];apply hK;clear hK K;refine bz _ ?_;refine au fun K hK=>?_;simp(disch:=omega) ;apply hK;clear hK K;refine⟨i+1,by show i+1≤_;omega,by show ds.length-(i+1)<ds.length-i;omega,?_⟩;simp only[kl,←pG];refine ag [] [] ?_ ?_ ?_ ?_ (eX.fQ (by simp)) ?_
    all_goals simp
  ·simp  at hj;have e:i=ds.length:=by omega
   subst e;generalize jA (fun d=>decide (d.id∈ids)) ds ds.length=lf at *;apply aC;simp(disch:=omega) ;apply aQ;clear aQ;refine ae fun K hK=>?_;simp(disch:=omega) ;refine ak (cb _ _ _) ?_;simp(disch:=omega) ;apply hK;clear hK K;apply ae;intro K h;simp(disch:=omega);apply h;clear h K;apply az;simp(disch:=omega) 
structure Sm (s:Sg):Prop where
 d:s.an.length≤20
 t:s.aK.length≤60
 w:∀t∈s.aK,t.w.length≤maxLen∧t.l.length≤30∧∀p∈t.l,p.2.length≤30
 c:s.aw.length≤6
 x:∀c∈s.aw,c.x.length≤30
theorem AB {s:Sg}(h:ko s=true)(ha:RP s):Sm s:=by
 unfold ko at h;simp only[Bool.and_eq_true,decide_eq_true_eq] at h;obtain⟨⟨h1,h2⟩,h3,h4,h5⟩:=h;refine⟨by omega,by omega,fun t ht=>?_,by omega,fun c hc=>?_⟩
 ·obtain⟨i,hi,rfl⟩:=bS t0 ht;have:=of_decide_eq_true (lG h1 hi);exact⟨(ha.w _ ht).1,by omega,fun p hp=>by have:=this.2 p hp;omega⟩
 ·obtain⟨i,hi,rfl⟩:=bS c0 hc;have:=of_decide_eq_true (lG h2 hi);omega
theorem Sm.sz {s:Sg}(h:Sm s):mh s:=⟨by have:=h.d;omega,by have:=h.t;omega,fun t ht=>⟨(h.w t ht).1,by have:=(h.w t ht).2.1;omega,fun p hp=>by have:=(h.w t ht).2.2 p hp;omega⟩,by have:=h.c;omega,fun c hc=>by have:=h.x c hc;omega⟩
theorem Km {s:Sg}(hv:aP s=true){t u:Tm}(ht:t∈s.aK)(hu:u∈s.aK)(h:t.k=u.k):t=u:=by
 have ho:=qa hv;obtain⟨i,hi,rfl⟩:=bS t0 ht;obtain⟨j,hj,rfl⟩:=bS t0 hu;rcases Nat.lt_trichotomy i j with h1|h1|h1
 ·have:=ho i j h1 hj;rw[h] at this;rw[eH] at this;cases this
 ·subst h1;rfl
 ·have:=ho j i h1 hi;rw[h] at this;rw[eH] at this;cases this
theorem re {s:Sg}(hv:aP s=true){d:Dc}(hd:d∈bI s)(Sn:aX d=true){k:Ky}{p:Int}(hp:p∈iI d k):∃t∈s.aK,t.k=k∧p∈posOf t.l d.id:=by
 rw[lX Sn,uR] at hp;obtain⟨z,hz,hf,he⟩:=yM hp;rw[he] at hp;unfold bI at hd;rw[if_pos hv] at hd;unfold fG at hd;obtain⟨id,_,rfl⟩:=List.mem_map.1 hd;obtain⟨_,h2,_⟩:=ll (g:=fun f=>gw (occs s.aK id f)) hz;rw[h2] at hp;obtain⟨t,ht,a,b,c⟩:=(AR hv).1 ((iY _).1.mem_iff.1 hp);refine⟨t,ht,?_,c⟩;show (t.f,t.w)=k;rw[a,b,hf]
theorem sP {s:Sg}(hv:aP s=true)(hS:Sm s){d:Dc}(hd:d∈bI s)(Sn:aX d=true)(k:Ky):(iI d k).length≤30:=by
 rcases Classical.em (iI d k=[]) with he|he
 ·rw[he];simp
 ·obtain⟨q,hq⟩:=List.exists_mem_of_ne_nil _ he;obtain⟨t,ht,hk,_⟩:=re hv hd Sn hq;have lr:(iI d k).Nodup:=(qY Sn k).1.imp fun h=>by omega
  refine Nat.le_trans (qM lr (m:=posOf t.l d.id) fun p hp=>?_) (rX (hS.w t ht).2.2 _);obtain⟨u,hu,dg,hp2⟩:=re hv hd Sn hp;rw[Km hv ht hu (hk.trans dg.symm)];exact hp2
theorem Bh {s:Sg}(hv:aP s=true){d:Dc}(hd:d∈bI s){f n:Int}(h:(f,n)∈d.ns):(n,d.id)∈s.aw.flatMap (·.x):=by
 unfold bI at hd;rw[if_pos hv] at hd;unfold fG at hd;obtain⟨id,_,rfl⟩:=List.mem_map.1 hd;have h:(f,n)∈El s.aw id:=h;unfold El at h;obtain⟨c,hc,h⟩:=List.mem_flatMap.1 h;obtain⟨y,hy,e⟩:=List.mem_map.1 h;obtain⟨h1,h2⟩:=List.mem_filter.1 hy;have e2:y.2=id:=by simpa using h2
 have e3:=(Prod.mk.inj e).2;refine List.mem_flatMap.2 ⟨c,hc,?_⟩;have:y=(n,id):=by rw[←e2,←e3]
 rw[←this];exact h1
theorem xw {s t:Sg}(hv:aP s=true)(qk:aP t=true)(hS:Sm s)(hT:Sm t){L:List Dc}(hL:VD L)(hn:L.length≤40)(hm:∀d∈L,d∈bI s∨d∈bI t):mh (Iu L):=by
 have L4:∀k∈dE L,k∈(s.aK++t.aK).map Tm.k:=fun k hk=>by
  obtain⟨d,hd,hp⟩:=yV hk;obtain⟨q,hq⟩:=List.exists_mem_of_ne_nil _ hp;rcases hm d hd with h|h
  ·obtain⟨u,hu,e,_⟩:=re hv h (hL.v d hd) hq;exact List.mem_map.2 ⟨u,List.mem_append_left _ hu,e⟩
  ·obtain⟨u,hu,e,_⟩:=re qk h (hL.v d hd) hq;exact List.mem_map.2 ⟨u,List.mem_append_right _ hu,e⟩
 have Ru:(dE L).Nodup:=(oX L).imp fun {a b} h e=>by rw[e,eH] at h;cases h
 have gB:(dE L).length≤120:=by
  have:=qM Ru L4;rw[length_map,length_append] at this;have:=hS.t;have:=hT.t;omega
 refine⟨?_,?_,fun u hu=>?_,?_,fun c hc=>?_⟩
 ·show (L.map (·.id)).length≤400;rw[length_map];omega
 ·show (cQ L).length≤1000;unfold cQ;rw[length_map];omega
 ·obtain⟨k,hk,rfl⟩:=List.mem_map.1 (show u∈(dE L).map _ from hu);refine⟨?_,?_,fun p hp=>?_⟩
  ·obtain⟨v,Zg,e⟩:=List.mem_map.1 (L4 k hk);show k.2.length≤maxLen;rw[←e];rcases List.mem_append.1 Zg with h|h
   ·exact(hS.w v h).1
   ·exact(hT.w v h).1
  ·show (eY L k).length≤400;unfold eY;have:=fZ (fun d=>Ek d k) 1 L fun d _=>by unfold Ek;split<;>simp
   omega
  ·obtain⟨d,hd,rfl,_⟩:=gu hp;rcases hm d hd with h|h
   ·have:=sP hv hS h (hL.v d hd) k;show (iI d k).length≤400;omega
   ·have:=sP qk hT h (hL.v d hd) k;show (iI d k).length≤400;omega
 ·show (dG L).length≤1000;unfold dG mq;rw[length_append,length_append];have h1:∀f,(if fe L f=[] then ([]:List Cl) else [⟨f,di (fe L f)⟩]).length≤1:=fun f=>by split<;>simp
  have:=h1 5;have:=h1 6;have:=h1 7;omega
 ·obtain⟨_,_,e⟩:=o4 (show c∈dG L from hc);rw[e,(eZ _).length_eq];have h1:=qM (qg hL.lt hL.v c.f) (m:=(s.aw++t.aw).flatMap (·.x)) fun y hy=>by
   obtain⟨d,hd,e2,h2⟩:=u4 hy;obtain⟨n,i⟩:=y;simp only at e2 h2;rw[e2,List.flatMap_append];rcases hm d hd with h|h
   ·exact List.mem_append_left _ (Bh hv h h2)
   ·exact List.mem_append_right _ (Bh qk h h2)
  have h2:=fZ (fun c:Cl=>c.x) 30 (s.aw++t.aw) fun c hc=>(List.mem_append.1 hc).elim (hS.x c) (hT.x c);rw[length_append] at h2;have:=hS.c;have:=hT.c;omega
theorem qK {s:Sg}(hS:Sm s):(bI s).length≤20∧∀d∈bI s,(dF d).length≤7200∧d.ns.length≤180:=by
 unfold bI
 split
 ·rename_i hv;refine⟨by simp[fG];exact hS.d,fun d hd=>?_⟩;obtain⟨h1,h2,h3⟩:=va hv hS.t (fun t ht=>⟨(hS.w t ht).1,(hS.w t ht).2.2⟩) hS.c hS.x d hd;exact⟨by have:=xR h1 fun z hz=>(h2 z hz).1;omega,by omega⟩
 ·simp
theorem JQ {l:List Dc}(hl:l.length≤40)(h:∀d∈l,(dF d).length≤7200∧d.ns.length≤180):(l.flatMap dF).length≤1000000∧(l.flatMap fun d=>d.ns).length≤1000000:=by
 have h1:=fZ dF 7200 l fun d hd=>(h d hd).1;have h2:=fZ (fun d:Dc=>d.ns) 180 l fun d hd=>(h d hd).2
 constructor
 ·have:l.length*7200≤40*7200:=Nat.mul_le_mul_right _ hl;omega
 ·have:l.length*180≤40*180:=Nat.mul_le_mul_right _ hl;omega
theorem KZ {s t:Sg}(hS:Sm s)(hT:Sm t):mh (gO s t).1:=by
 unfold gO
 split
 ·rename_i h;obtain⟨hv,qk⟩:=h
  split
  ·by_cases hb:(bY (bI s++bI t)).2=0
   ·have hg:=vA hb;rw[hg.build];refine xw hv qk hS hT hg.vd ?_ fun d hd=>List.mem_append.1 ((oR d).1 hd);rw[lR,length_append];have:=(qK hS).1;have:=(qK hT).1;omega
   ·rw[xZ hb];exact oi
  ·exact oi
 ·exact oi
theorem N5 {s:Sg}(hS:Sm s)(ids:List Int):mh (qE s ids):=by
 unfold qE
 by_cases hb:(bY (ig s ids)).2=0
 ·have hg:=vA hb;rw[hg.build]
  cases hv:aP s with
  |true=>
   refine xw hv hv hS hS hg.vd ?_ fun d hd=>.inl (List.mem_filter.1 ((oR d).1 hd)).1;rw[lR];have:=(qK hS).1;have:(ig s ids).length≤(bI s).length:=List.length_filter_le _ _;omega
  |false=>
   have:ig s ids=[]:=by unfold ig bI;rw[if_neg (by rw[hv];decide)];rfl
   rw[this];exact(show Iu (dU [])=fl from rfl)▸oi
 ·rw[xZ hb];exact oi
end Go.Proofs.YtneohapkboaplaaGreat
