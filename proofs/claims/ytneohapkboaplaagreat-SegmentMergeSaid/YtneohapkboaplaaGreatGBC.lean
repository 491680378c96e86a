/- segment.Build (layer 39): what comes out of the maps, as a plain function of the documents. segment.Build (layer 39): the whole. segment.Build (layer 39): the contract.
  Conditions: lengths below 400 or 1000, as each theorem says. -/
import Derived.Test.YtneohapkboaplaaGreatGBB
set_option linter.all false
set_option maxRecDepth 100000
set_option maxHeartbeats 16000000
open List (getD_eq_getElem?_getD flatMap_map getElem?_eq_getElem pairwise_map length_append flatMap_cons perm_middle foldl_cons append_nil getElem_inj mem_cons length_cons)
namespace eJ
open iF
def jJ (k:Ky):List Ky→List Ky
 |[]=>[k]
 |x::r=>if bM x k=true then x::jJ k r else if bM k x=true then k::x::r else x::r
def lO (k:Nm):List Nm→List Nm
 |[]=>[k]
 |x::r=>if cP x k=true then x::lO k r else k::x::r
def nq (d:Dc):List Dc→List Dc
 |[]=>[d]
 |x::r=>if x.id≤d.id then x::nq d r else d::x::r
def dU (l:List Dc):List Dc:=l.foldl (fun a d=>nq d a) []
def di (l:List Nm):List Nm:=l.foldl (fun a d=>lO d a) []
def dE (L:List Dc):List Ky:=(L.flatMap fun d=>(et d.zs).map (·.1)).foldl (fun a k=>jJ k a) []
def iI (d:Dc)(k:Ky):List Int:=((et d.zs).filter fun w=>w.1==k).map (·.2)
def Ek (d:Dc)(k:Ky):List Ps:=if iI d k=[] then [] else [(d.id,iI d k)]
def eY (L:List Dc)(k:Ky):List Ps:=L.flatMap fun d=>Ek d k
def cQ (L:List Dc):List Tm:=(dE L).map fun k=>⟨k.1,k.2,eY L k⟩
def fe (L:List Dc)(f:Int):List Nm:=L.flatMap fun d=>(d.ns.filter fun x=>x.1==f).map fun x=>(x.2,d.id)
def mq (L:List Dc)(f:Int):List Cl:=if fe L f=[] then [] else [⟨f,di (fe L f)⟩]
def dG (L:List Dc):List Cl:=mq L 5++mq L 6++mq L 7
def bY (l:List Dc):Sg×Int:=
 if 2000<l.length then (fl,3) else if l.any (fun d=>!aX d)=true then (fl,1)
 else if ¬(l.map (·.id)).Nodup then (fl,10) else (⟨(dU l).map (·.id),cQ (dU l),dG (dU l)⟩,0)
theorem xH (d:Dc)(l:List Dc):(nq d l).Perm (d::l):=by
 induction l with
 |nil=>exact .refl _
 |cons x r ih=>
  unfold nq
  split
  ·exact(ih.cons x).trans (.swap _ _ _)
  ·exact .refl _
theorem Le (d:Dc){l:List Dc}(h:l.Pairwise fun x y=>x.id≤y.id):(nq d l).Pairwise fun x y=>x.id≤y.id:=by
 induction l with
 |nil=>simp[nq]
 |cons x r ih=>
  have ⟨h1,h2⟩:=List.pairwise_cons.1 h;unfold nq
  split
  ·rename_i hx;refine List.pairwise_cons.2 ⟨fun y hy=>?_,ih h2⟩;rcases List.mem_cons.1 ((xH d r).mem_iff.1 hy) with rfl|hy
   ·exact hx
   ·exact h1 y hy
  ·rename_i hx;refine List.pairwise_cons.2 ⟨fun y hy=>?_,h⟩;rcases List.mem_cons.1 hy with rfl|hy
   ·omega
   ·have:=h1 y hy;omega
theorem gj (l:List Dc):qH l (dU l):=by
 have key:∀(l a:List Dc),(a.Pairwise fun x y=>x.id≤y.id)→(l.foldl (fun a d=>nq d a) a).Perm (l++a)∧(l.foldl (fun a d=>nq d a) a).Pairwise fun x y=>x.id≤y.id:=by
  intro l
  induction l with
  |nil=>intro a h;exact⟨.refl _,h⟩
  |cons d r ih=>
   intro a h;obtain⟨h1,h2⟩:=ih (nq d a) (Le d h);refine⟨h1.trans ?_,h2⟩;exact((xH d a).append_left r).trans perm_middle
 obtain⟨h1,h2⟩:=key l [] .nil;rw[append_nil] at h1;exact⟨h1,h2⟩
theorem zd {l a b:List Dc}(ha:qH l a)(hb:qH l b)(hn:(l.map (·.id)).Nodup):a=b:=by
 refine List.Perm.eq_of_pairwise (le:=fun x y=>x.id≤y.id) ?_ ha.ord hb.ord (ha.perm.trans hb.perm.symm);intro x y hx hy h1 h2;have IU:=ha.perm.mem_iff.1 hx;have zo:=hb.perm.mem_iff.1 hy;have e:x.id=y.id:=by omega
 obtain⟨i,hi,e1⟩:=List.mem_iff_getElem.1 IU;obtain⟨j,hj,e2⟩:=List.mem_iff_getElem.1 zo;have jt:i=j:=(getElem_inj (xs:=l.map (·.id)) (h₀:=by simpa using hi) (h₁:=by simpa using hj) hn).1 (by simp[e1,e2,e]);subst jt;rw[←e1,←e2]
theorem x8 {L:List Dc}(h:L.Pairwise fun x y=>x.id≤y.id)(ha:∀i,0<i→i<L.length→(L.getD (i-1) d0).id≠(L.getD i d0).id):L.Pairwise fun x y=>x.id<y.id:=by
 rw[List.pairwise_iff_getElem] at h ⊢;intro i j hi hj jt;have h1:=ha (i+1) (by omega) (by omega);rw[show i+1-1=i by omega,getD_eq_getElem?_getD,getD_eq_getElem?_getD,getElem?_eq_getElem hi,getElem?_eq_getElem (by omega:i+1<L.length)] at h1;simp only[Option.getD_some] at h1;have h2:=h i (i+1) hi (by omega) (by omega);rcases Nat.eq_or_lt_of_le (Nat.succ_le_of_lt jt) with e|e
 ·have e':j=i+1:=by omega
  subst e';omega
 ·have:=h (i+1) j (by omega) hj e;omega
theorem ra {L:List Dc}(h:L.Pairwise fun x y=>x.id<y.id):(L.map (·.id)).Nodup:=by
 rw[List.Nodup,pairwise_map];exact h.imp fun iZ=>by omega
theorem Fw {L:List Dc}{i:Nat}(h0:0<i)(hi:i<L.length)(h:(L.getD (i-1) d0).id=(L.getD i d0).id):¬(L.map (·.id)).Nodup:=by
 intro hn;have h1:i-1<L.length:=by omega
 rw[getD_eq_getElem?_getD,getD_eq_getElem?_getD,getElem?_eq_getElem hi,getElem?_eq_getElem h1] at h;have:=(getElem_inj (xs:=L.map (·.id)) (h₀:=by simpa using h1) (h₁:=by simpa using hi) hn).1 (by simpa using h);omega
theorem A2 (k:Ky)(l:List Ky)(x:Ky):x∈jJ k l↔x=k∨x∈l:=by
 induction l with
 |nil=>simp[jJ]
 |cons y r ih=>
  unfold jJ
  split
  ·rw[mem_cons,ih,mem_cons]
   constructor
   ·rintro (h|h|h)<;>simp[h]
   ·rintro (h|h|h)<;>simp[h]
  ·rename_i h1
   split
   ·simp
   ·rename_i h2;have:y=k:=kI (by simpa using h1) (by simpa using h2);subst this;simp
theorem Ld (k:Ky){l:List Ky}(h:l.Pairwise fun x y=>bM x y=true):(jJ k l).Pairwise fun x y=>bM x y=true:=by
 induction l with
 |nil=>simp[jJ]
 |cons y r ih=>
  have ⟨h1,h2⟩:=List.pairwise_cons.1 h;unfold jJ
  split
  ·rename_i hy;refine List.pairwise_cons.2 ⟨fun z hz=>?_,ih h2⟩;rcases (A2 k r z).1 hz with rfl|hz
   ·exact hy
   ·exact h1 z hz
  ·split
   ·rename_i hy;refine List.pairwise_cons.2 ⟨fun z hz=>?_,h⟩;rcases List.mem_cons.1 hz with rfl|hz
    ·exact hy
    ·exact gf hy (h1 z hz)
   ·exact h
theorem O7 {l:List Ky}:∀{a:List Ky},(a.Pairwise fun x y=>bM x y=true)→((l.foldl (fun a k=>jJ k a) a).Pairwise fun x y=>bM x y=true)∧∀x,x∈l.foldl (fun a k=>jJ k a) a↔x∈l∨x∈a:=by
 induction l with
 |nil=>intro a h;exact⟨h,by simp⟩
 |cons k r ih=>
  intro a h;obtain⟨h1,h2⟩:=ih (Ld k h);refine⟨h1,fun x=>?_⟩;rw[foldl_cons,h2,A2,mem_cons]
  constructor
  ·rintro (h|h|h)<;>simp[h]
  ·rintro ((h|h)|h)<;>simp[h]
theorem oX (L:List Dc):(dE L).Pairwise fun x y=>bM x y=true:=(O7 .nil).1
theorem r8 (L:List Dc)(k:Ky):k∈dE L↔∃d∈L,∃p,(k,p)∈et d.zs:=by
 unfold dE;rw[(O7 .nil).2];simp
theorem DT {a b:List Ky}(ha:a.Pairwise fun x y=>bM x y=true)(hb:b.Pairwise fun x y=>bM x y=true)(h:∀x,x∈a↔x∈b):a=b:=by
 have nd:∀{l:List Ky},(l.Pairwise fun x y=>bM x y=true)→l.Nodup:=fun h=>h.imp fun {x y} Cy=>by
  rintro rfl;rw[eH] at Cy;cases Cy
 refine List.Perm.eq_of_pairwise (le:=fun x y=>bM x y=true) ?_ ha hb ((List.perm_ext_iff_of_nodup (nd ha) (nd hb)).2 h);intro x y _ _ h1 h2;have:=gf h1 h2;rw[eH] at this;cases this
theorem xG (k:Nm)(l:List Nm):(lO k l).Perm (k::l):=by
 induction l with
 |nil=>exact .refl _
 |cons x r ih=>
  unfold lO
  split
  ·exact(ih.cons x).trans (.swap _ _ _)
  ·exact .refl _
theorem qf {a b:Nm}(h:cP a b=true):cP b a=false:=by
 cases h2:cP b a with
 |false=>rfl
 |true=>have:=qd h h2;rw[sH] at this;cases this
theorem A1 (k:Nm){l:List Nm}(h:l.Pairwise fun x y=>cP y x=false):(lO k l).Pairwise fun x y=>cP y x=false:=by
 induction l with
 |nil=>simp[lO]
 |cons x r ih=>
  have ⟨h1,h2⟩:=List.pairwise_cons.1 h;unfold lO
  split
  ·rename_i hx;refine List.pairwise_cons.2 ⟨fun y hy=>?_,ih h2⟩;rcases List.mem_cons.1 ((xG k r).mem_iff.1 hy) with rfl|hy
   ·exact qf hx
   ·exact h1 y hy
  ·rename_i hx;refine List.pairwise_cons.2 ⟨fun y hy=>?_,h⟩;rcases List.mem_cons.1 hy with rfl|hy
   ·simpa using hx
   ·exact oB (h1 y hy) (by simpa using hx)
theorem xD (l:List Nm):di l=nP l:=by
 have key:∀(l a:List Nm),(a.Pairwise fun x y=>cP y x=false)→(l.foldl (fun a d=>lO d a) a).Perm (l++a)∧(l.foldl (fun a d=>lO d a) a).Pairwise fun x y=>cP y x=false:=by
  intro l
  induction l with
  |nil=>intro a h;exact⟨.refl _,h⟩
  |cons d r ih=>
   intro a h;obtain⟨h1,h2⟩:=ih (lO d a) (A1 d h);exact⟨h1.trans (((xG d a).append_left r).trans perm_middle),h2⟩
 obtain⟨h1,h2⟩:=key l [] .nil;have h3:(nP l).Pairwise fun x y=>cP y x=false:=by
  have:=List.pairwise_mergeSort (le:=fun x y=>!(cP y x)) (fun a b c h1 h2=>by
   rw[Bool.not_eq_true'] at h1 h2 ⊢;exact oB h2 h1) (fun a b=>by
   cases h:cP b a with
   |false=>rfl
   |true=>rw[qf h];rfl) l
  exact this.imp fun h=>by simpa using h
 refine List.Perm.eq_of_pairwise (le:=fun x y=>cP y x=false) (fun x y _ _ h1 h2=>qe h2 h1) h2 h3 ?_;have:(l.foldl (fun a d=>lO d a) []).Perm l:=by simpa using h1
 exact this.trans (List.mergeSort_perm _ _).symm
end eJ
namespace Go.Proofs.YtneohapkboaplaaGreat
open Go Go.Am iF eJ
theorem Nz {id:Int}{E E':List En}{l:List (Ky×Int)}(h:mr id E l E')(k:Ky):LW E' k=l.foldl (fun a w=>if w.1=k then ur a id w.2 else a) (LW E k):=by
 induction h with
 |nil=>rfl
 |@snoc E1 E2 l k' p h h2 ih=>
  rw[List.foldl_append,←ih,h2.lk k];simp only[foldl_cons,List.foldl_nil]
  by_cases hk:k=k'
  ·subst hk;simp
  ·rw[if_neg hk,if_neg (Ne.symm hk)]
theorem NA {id:Int}{E E':List En}{l:List (Ky×Int)}(h:mr id E l E')(k:Ky):k∈E'.map (·.k)↔k∈E.map (·.k)∨∃p,(k,p)∈l:=by
 induction h with
 |nil=>simp
 |@snoc E1 E2 l k' p h h2 ih=>
  rw[h2.ks,ih]
  constructor
  ·rintro (rfl|h|⟨q,h⟩)
   ·exact .inr ⟨p,by simp⟩
   ·exact .inl h
   ·exact .inr ⟨q,by simp[h]⟩
  ·rintro (h|⟨q,h⟩)
   ·exact .inr (.inl h)
   ·rcases List.mem_append.1 h with h|h
    ·exact .inr (.inr ⟨q,h⟩)
    ·simp at h;exact .inl h.1
theorem Ny {F F':List Ef}{l:List (Int×Nm)}(h:qx F l F')(f:Int):Mj F' f=Mj F f++(l.filter fun x=>x.1==f).map (·.2):=by
 induction h with
 |nil=>simp
 |@snoc E1 E2 l k' p h h2 ih=>
  rw[h2.lk f,List.filter_append,List.map_append,←List.append_assoc,←ih]
  by_cases hk:f=k'
  ·subst hk;simp
  ·rw[if_neg hk,List.filter_cons_of_neg (by simpa using Ne.symm hk)];simp
theorem Lk (id:Int)(k:Ky):∀(l:List (Ky×Int)) (a:List Ps),(∀q∈a,q.1≠id)→l.foldl (fun a w=>if w.1=k then ur a id w.2 else a) a=a++(if (l.filter fun w=>w.1==k)=[] then [] else [(id,(l.filter fun w=>w.1==k).map (·.2))]):=by
 have two:∀(l:List (Ky×Int)) (a:List Ps) (at_:List Int),l.foldl (fun a w=>if w.1=k then ur a id w.2 else a) (a++[(id,at_)])=a++[(id,at_++(l.filter fun w=>w.1==k).map (·.2))]:=by
  intro l
  induction l with
  |nil=>intro a at_;simp
  |cons w r ih=>
   intro a at_;rw[foldl_cons]
   by_cases hw:w.1=k
   ·rw[if_pos hw,pe,if_pos rfl,ih,List.filter_cons_of_pos (by simpa using hw)];simp
   ·rw[if_neg hw,ih,List.filter_cons_of_neg (by simpa using hw)]
 intro l
 induction l with
 |nil=>intro a _;simp
 |cons w r ih=>
  intro a ha;rw[foldl_cons]
  by_cases hw:w.1=k
  ·have h1:ur a id w.2=a++[(id,[w.2])]:=by
    rcases List.eq_nil_or_concat a with rfl|⟨b,q,rfl⟩
    ·rfl
    ·obtain⟨q1,q2⟩:=q;rw[List.concat_eq_append,pe,if_neg (ha (q1,q2) (by simp))]
   rw[if_pos hw,h1,two,List.filter_cons_of_pos (by simpa using hw)];simp
  ·rw[if_neg hw,ih a ha,List.filter_cons_of_neg (by simpa using hw)]
theorem Nv {L:List Dc}{E:List En}{F:List Ef}(h:qw L E F)(hs:L.Pairwise fun x y=>x.id<y.id)(k:Ky):LW E k=eY L k:=by
 induction h with
 |nil=>rfl
 |@snoc l d E E' F F' h h1 h2 ih=>
  rw[List.pairwise_append] at hs;have hi:=ih hs.1;rw[Nz h1 k,hi,Lk d.id k _ _ (fun q hq=>?_)]
  ·have Ty:iI d k=[]↔((et d.zs).filter fun w=>w.1==k)=[]:=by simp only[iI,List.map_eq_nil_iff]
   have hp:eY (l++[d]) k=eY l k++Ek d k:=by simp[eY]
   rw[hp,Ek]
   by_cases hh:((et d.zs).filter fun w=>w.1==k)=[]
   ·rw[if_pos hh,if_pos (Ty.2 hh)]
   ·rw[if_neg hh,if_neg (fun x=>hh (Ty.1 x))];rfl
  ·obtain⟨x,hx,hq⟩:=List.mem_flatMap.1 hq;have:=hs.2.2 x hx d (by simp);unfold Ek at hq
   split at hq
   ·simp at hq
   ·simp at hq;rw[hq];simp only;omega
theorem Nx {L:List Dc}{E:List En}{F:List Ef}(h:qw L E F)(k:Ky):k∈E.map (·.k)↔∃d∈L,∃p,(k,p)∈et d.zs:=by
 induction h with
 |nil=>simp
 |@snoc l d E E' F F' h h1 h2 ih=>
  rw[NA h1,ih];simp only[List.mem_append,List.mem_singleton]
  constructor
  ·rintro (⟨x,hx,hp⟩|hp)
   ·exact⟨x,.inl hx,hp⟩
   ·exact⟨d,.inr rfl,hp⟩
  ·rintro⟨x,hx|rfl,hp⟩
   ·exact .inl ⟨x,hx,hp⟩
   ·exact .inr hp
theorem Nw {L:List Dc}{E:List En}{F:List Ef}(h:qw L E F)(f:Int):Mj F f=fe L f:=by
 induction h with
 |nil=>rfl
 |@snoc l d E E' F F' h h1 h2 ih=>
  rw[Ny h2,ih];simp[fe,zP,List.filter_map,Function.comp_def]
theorem K0 {E:List En}(hn:(E.map (·.k)).Nodup){e:En}(he:e∈E):LW E e.k=e.pl:=by
 obtain⟨E1,E2,rfl⟩:=List.append_of_mem he;unfold LW;rw[om hn,if_pos rfl]
def fT (E:List En):List En:=E.mergeSort fun x y=>!(bM y.k x.k)
theorem gP (E:List En):(fT E).Perm E:=List.mergeSort_perm _ _
theorem r5 (a b c:Ky)(h1:(!(bM b a))=true)(h2:(!(bM c b))=true):(!(bM c a))=true:=by
 rw[Bool.not_eq_true'] at h1 h2 ⊢;exact sL h2 h1
theorem r7 (a b:Ky):((!(bM b a))||(!(bM a b)))=true:=by
 cases h:bM b a with
 |false=>rfl
 |true=>rw[DU h];rfl
theorem GR {E:List En}(hn:(E.map (·.k)).Nodup):((fT E).map (·.k)).Pairwise fun x y=>bM x y=true:=by
 have h1:=List.pairwise_mergeSort (le:=fun x y:En=>!(bM y.k x.k)) (fun a b c=>r5 _ _ _) (fun a b=>r7 _ _) E;have h2:((fT E).map (·.k)).Nodup:=((gP E).map _).nodup_iff.2 hn;rw[pairwise_map];rw[List.Nodup,pairwise_map] at h2;refine(List.Pairwise.and h1 h2).imp fun {a b} iZ=>?_;obtain⟨g1,g2⟩:=iZ
 cases h3:bM a.k b.k with
 |true=>rfl
 |false=>exact absurd (kI h3 (by simpa using g1)) g2
theorem Ds {E:List En}(hn:(E.map (·.k)).Nodup){rows:List (Ky×AV)}(hp:rows.Perm (E.map eW)):EE rows=(fT E).map eW:=by
 have hk:∀{l:List (Ky×AV)},l.Perm (E.map eW)→(l.map (·.1)).Nodup:=fun h=>(h.map _).nodup_iff.2 (by
  have:(E.map eW).map (·.1)=E.map (·.k):=by simp[eW,Function.comp_def]
  rw[this];exact hn)
 have p1:(EE rows).Perm (E.map eW):=(List.mergeSort_perm _ _).trans hp;have p2:((fT E).map eW).Perm (E.map eW):=(gP E).map _;have o1:(EE rows).Pairwise fun x y=>(!(bM y.1 x.1))=true:=List.pairwise_mergeSort (le:=fun x y:Ky×AV=>!(bM y.1 x.1)) (fun a b c=>r5 _ _ _) (fun a b=>r7 _ _) rows;have o2:((fT E).map eW).Pairwise fun x y=>(!(bM y.1 x.1))=true:=by
  rw[pairwise_map];exact List.pairwise_mergeSort (le:=fun x y:En=>!(bM y.k x.k)) (fun a b c=>r5 _ _ _) (fun a b=>r7 _ _) E
 refine List.Perm.eq_of_pairwise (le:=fun x y=>(!(bM y.1 x.1))=true) ?_ o1 o2 (p1.trans p2.symm);intro x y hx hy h1 h2;have e:x.1=y.1:=kI (by simpa using h2) (by simpa using h1);have IU:=p1.mem_iff.1 hx;have zo:=p2.mem_iff.1 hy;obtain⟨i,hi,e1⟩:=List.mem_iff_getElem.1 IU;obtain⟨j,hj,e2⟩:=List.mem_iff_getElem.1 zo;have jt:i=j:=(getElem_inj (xs:=(E.map eW).map (·.1)) (h₀:=by simpa using hi) (h₁:=by simpa using hj) (hk (.refl _))).1 (by
  simp only[List.getElem_map] at e1 e2 ⊢;rw[e1,e2,e])
 subst jt;rw[←e1,←e2]
theorem Kn {L:List Dc}{E:List En}{F:List Ef}(h:qw L E F)(hs:L.Pairwise fun x y=>x.id<y.id)(hn:(E.map (·.k)).Nodup):(fT E).map (fun e=>(⟨e.k.1,e.k.2,e.pl⟩:Tm))=cQ L:=by
 have hk:(fT E).map (·.k)=dE L:=DT (GR hn) (oX L) fun x=>by
  rw[r8,←Nx h];exact((gP E).map _).mem_iff
 unfold cQ;rw[←hk,List.map_map];refine List.map_congr_left fun e he=>?_;have:=K0 hn ((gP E).mem_iff.1 he);rw[Nv h hs] at this;simp[this]
theorem N7 {L:List Dc}{E:List En}{F:List Ef}(h:qw L E F)(hp:∀e∈F,0<e.x.length):(ie F 3).map (fun e=>(⟨e.f,e.x⟩:Cl))=dG L:=by
 have one:∀g:Nat,(match F.find? (fun e=>e.f==(5+g:Int)) with|some e=>[(⟨(qn e).f,(qn e).x⟩:Cl)]|none=>[])=mq L (5+g):=by
  intro g;have Rq:=Nw h (5+g);unfold Mj at Rq;unfold mq;rw[←Rq]
  cases hf:F.find? (fun e=>e.f==(5+g:Int)) with
  |none=>simp
  |some e=>
   have h1:=List.find?_some hf;have h2:=hp e (List.mem_of_find?_eq_some hf);have h3:e.f=5+g:=by simpa using h1
   simp only;rw[if_neg (by intro hh;rw[hh] at h2;simp at h2),xD];simp[qn,h3]
 have o0:=one 0;have o1:=one 1;have o2:=one 2;unfold dG;rw[show (5:Int)=5+((0:Nat):Int) by rfl,show (6:Int)=5+((1:Nat):Int) by rfl,show (7:Int)=5+((2:Nat):Int) by rfl,←o0,←o1,←o2];simp only[ie]
 cases F.find? (fun e=>e.f==(5+((0:Nat):Int)))<;>cases F.find? (fun e=>e.f==(5+((1:Nat):Int)))<;>cases F.find? (fun e=>e.f==(5+((2:Nat):Int)))<;>simp
end Go.Proofs.YtneohapkboaplaaGreat
namespace eJ
open iF
theorem cM {d:Dc}(h:aX d=true):(1≤d.id∧d.id≤1000000000)∧(∀i,i<d.zs.length→kO d.zs i=true)∧∀i,i<d.ns.length→pN d.ns i=true:=by
 unfold aX at h;simp only[Bool.and_eq_true,decide_eq_true_eq] at h;exact⟨h.1,fun i hi=>lG h.2.1 hi,fun i hi=>lG h.2.2 hi⟩
theorem fh {zs:List Zn}{i:Nat}(h:kO zs i=true):gy zs i<(zs.getD i z0).f∧(zs.getD i z0).f≤4∧(zs.getD i z0).ws.length≠0∧∀k,k<(zs.getD i z0).ws.length→nm (zs.getD i z0).ws k=true:=by
 unfold kO at h;simp only[Bool.and_eq_true,decide_eq_true_eq] at h;exact⟨h.1.1,h.1.2,h.2.1,fun k hk=>lG h.2.2 hk⟩
theorem kH {ws:List Wd}{k:Nat}(h:nm ws k=true):okW (ws.getD k w0).1=true∧gF ws k<(ws.getD k w0).2∧(ws.getD k w0).2≤1000000:=by
 unfold nm at h;simp only[Bool.and_eq_true,decide_eq_true_eq] at h;exact⟨h.1,h.2.1,h.2.2⟩
theorem rO {ws:List Wd}(h:∀k,k<ws.length→nm ws k=true):∀k,k<ws.length→(k:Int)≤(ws.getD k w0).2
 |0,hk=>by have:=(kH (h 0 hk)).2.1;unfold gF at this;rw[if_pos rfl] at this;omega
 |k+1,hk=>by
  have h1:=rO h k (by omega);have h2:=(kH (h (k+1) hk)).2.1;unfold gF at h2;rw[if_neg (by omega),Nat.add_sub_cancel] at h2;omega
theorem Kk {ws:List Wd}(h:∀k,k<ws.length→nm ws k=true):ws.length≤1000001:=by
 rcases Nat.eq_zero_or_pos ws.length with h0|h0
 ·omega
 ·have h1:=rO h (ws.length-1) (by omega);have h2:=(kH (h (ws.length-1) (by omega))).2.2;omega
theorem jr {zs:List Zn}(h:∀k,k<zs.length→kO zs k=true):∀k,k<zs.length→(k:Int)+1≤(zs.getD k z0).f
 |0,hk=>by have:=(fh (h 0 hk)).1;unfold gy at this;rw[if_pos rfl] at this;omega
 |k+1,hk=>by
  have h1:=jr h k (by omega);have h2:=(fh (h (k+1) hk)).1;unfold gy at h2;rw[if_neg (by omega),Nat.add_sub_cancel] at h2;omega
theorem qS {zs:List Zn}(h:∀k,k<zs.length→kO zs k=true):zs.length≤4:=by
 rcases Nat.eq_zero_or_pos zs.length with h0|h0
 ·omega
 ·have h1:=jr h (zs.length-1) (by omega);have h2:=(fh (h (zs.length-1) (by omega))).2.1;omega
theorem Dh {d:Dc}(h:aX d=true):(et d.zs).length≤4000004:=by
 obtain⟨_,h2,_⟩:=cM h;have h4:=qS h2;have:∀zs:List Zn,(∀z∈zs,z.ws.length≤1000001)→(et zs).length≤zs.length*1000001:=by
  intro zs
  induction zs with
  |nil=>intro _;simp[et]
  |cons z r ih=>
   intro hz;have h1:=ih fun y hy=>hz y (by simp[hy]);have h2:=hz z (by simp);have e:et (z::r)=nh z.f z.ws++et r:=by simp[et]
   rw[e,length_append,length_cons];have:(nh z.f z.ws).length=z.ws.length:=by simp[nh]
   omega
 have h5:=this d.zs fun z hz=>by
  obtain⟨i,hi,e⟩:=Go.Am.bS z0 hz;have:=Kk (fh (h2 i hi)).2.2.2;rw[e] at this;exact this
 omega
end eJ
namespace Go.Proofs.YtneohapkboaplaaGreat
open Go Go.Am iF eJ
theorem Dg {d:Dc}(h:aX d=true)(hs:wa d):JK d:=by
 obtain⟨_,h2,h3⟩:=cM h;refine⟨fun z hz=>⟨?_,(hs.w z hz).2⟩,fun x hx=>?_⟩
 ·obtain⟨i,hi,e⟩:=bS z0 hz;have h4:=jr h2 i hi;have h5:=(fh (h2 i hi)).2.1;rw[e] at h4 h5;omega
 ·obtain⟨i,hi,e⟩:=bS n0 hx;have:=h3 i hi;unfold pN uh at this;simp only[Bool.and_eq_true,decide_eq_true_eq] at this;rw[e] at this;omega
theorem vm:∀l:List Dc,(∀d∈l,aX d=true)→jG l≤l.length*4000004
 |[],_=>by simp[jG]
 |d::r,h=>by
  have h1:=vm r fun x hx=>h x (by simp[hx]);have h2:=Dh (h d (by simp));have:jG (d::r)=(et d.zs).length+jG r:=by simp[jG]
  rw[this,length_cons];omega
theorem vv:∀l:List Dc,(∀d∈l,d.ns.length≤1000000)→lx l≤l.length*1000000
 |[],_=>by simp[lx]
 |d::r,h=>by
  have h1:=vv r fun x hx=>h x (by simp[hx]);have h2:=h d (by simp);have:lx (d::r)=d.ns.length+lx r:=by simp[lx]
  rw[this,length_cons];omega
theorem iy {α:Type}{fa fb:α→List AV}{k n0 t0:Nat}{H:List aA}(ha:eC fa k)(hb:eC fb k):∀(l:List α) (h:∀x∈l,∀j,j<k→gk n0 t0 H ((fa x).getD j .top) ((fb x).getD j .top)) (rest:List AV) (j:Nat) (hj:j<(l.flatMap fb).length),gk n0 t0 H ((l.flatMap fa++rest).getD j .top) ((l.flatMap fb)[j]'hj)
 |[],_,_,j,hj=>by simp at hj
 |x::r,h,rest,j,hj=>by
  have hx:=h x (by simp)
  by_cases L5:j<k
  ·have e1:((x::r).flatMap fa++rest).getD j .top=(fa x).getD j .top:=by
    rw[flatMap_cons,List.append_assoc,getD_eq_getElem?_getD,getD_eq_getElem?_getD,List.getElem?_append_left (by rw[ha];exact L5)]
   have e2:((x::r).flatMap fb)[j]'hj=(fb x).getD j .top:=by
    have:j<(fb x).length:=by rw[hb];exact L5
    simp only[flatMap_cons];rw[List.getElem_append_left this,getD_eq_getElem?_getD,getElem?_eq_getElem this];rfl
   rw[e1,e2];exact hx j L5
  ·have hl:((x::r).flatMap fb).length=k+(r.flatMap fb).length:=by rw[flatMap_cons,length_append,hb]
   have ih:=iy ha hb r (fun y hy=>h y (by simp[hy])) rest (j-k) (by omega);have e1:((x::r).flatMap fa++rest).getD j .top=(r.flatMap fa++rest).getD (j-k) .top:=by
    rw[flatMap_cons,List.append_assoc,getD_eq_getElem?_getD,getD_eq_getElem?_getD,List.getElem?_append_right (by rw[ha];omega),ha]
   have e2:((x::r).flatMap fb)[j]'hj=(r.flatMap fb)[j-k]'(by omega):=by
    simp only[flatMap_cons];rw[List.getElem_append_right (by rw[hb];omega)];simp only[hb x]
   rw[e1,e2];exact ih
theorem A8 {n0 t0:Nat}{H:List aA}{e:En}(hi:n0≤e.i)(hH:H[e.i]?=some e.nf):gk n0 t0 H (.bV e.i 0 e.n) (.sl e.pl.length (bp e.pl) .none):=by
 have hn:e.n=e.pl.length:=by simp[En.n,En.pl]
 have pt:bp e.pl=(e.dJ++[((e.d,e.at_),Tag.own e.tk)]).flatMap fun x=>Sb x.1:=by simp[En.pl,bp,flatMap_map]
 have Iz:e.nf=.cells ((e.dJ++[((e.d,e.at_),Tag.own e.tk)]).flatMap WO++e.rest):=by
  unfold En.nf fS j8 iN;simp
 rw[Iz] at hH;rw[hn,pt];refine .bV hi hH ?_ fun j hj=>?_
 ·rw[length_append,b9 (f:=fun x:Ps×Tag=>Sb x.1) (k:=2) (fun _=>rfl),b9 yP];omega
 ·rw[Nat.zero_add];refine iy (fa:=WO) (fb:=fun x=>Sb x.1) yP (fun _=>rfl) _ (fun x _ j hj=>?_) e.rest j hj
  match j,hj with
  |0,_=>exact .keep (.inl rfl) (.int _ _)
  |1,_=>exact .keep (.inr rfl) (by simp)
theorem HT {n0 t0:Nat}{H:List aA}{l:List En}{it n:Nat}{rest:List AV}(wH:n0≤it)(hH:H[it]?=some (.cells (dQ (l.map eW)++rest)))(he:∀e∈l,n0≤e.i∧H[e.i]?=some e.nf):gk n0 t0 H (.bV it 0 n) (.sl n (bO (l.map fun e=>(⟨e.k.1,e.k.2,e.pl⟩:Tm))) .none):=by
 have h1:dQ (l.map eW)=l.flatMap fun e=>LS (eW e):=by simp[dQ,flatMap_map]
 have h2:bO (l.map fun e=>(⟨e.k.1,e.k.2,e.pl⟩:Tm))=l.flatMap fun e=>js ⟨e.k.1,e.k.2,e.pl⟩:=by simp[bO,flatMap_map]
 rw[h1] at hH;rw[h2];refine .bV wH hH ?_ fun j hj=>?_
 ·rw[length_append,b9 (f:=fun e:En=>js ⟨e.k.1,e.k.2,e.pl⟩) (k:=3) (fun _=>rfl),b9 (f:=fun e:En=>LS (eW e)) (k:=3) (fun _=>rfl)];omega
 ·rw[Nat.zero_add];refine iy (fa:=fun e=>LS (eW e)) (fb:=fun e=>js ⟨e.k.1,e.k.2,e.pl⟩) (k:=3) (fun _=>rfl) (fun _=>rfl) l (fun e yi j hj=>?_) rest j hj
  match j,hj with
  |0,_=>exact .keep (.inl rfl) (.int _ _)
  |1,_=>exact .keep (.inl rfl) (.str _)
  |2,_=>exact A8 (he e yi).1 (he e yi).2
theorem DY {n0 t0:Nat}{H:List aA}{l:List En}{it n cap:Nat}{rest:List AV}(wH:n0≤it)(hH:H[it]?=some (.cells (dQ (l.map eW)++rest)))(he:∀e∈l,n0≤e.i∧H[e.i]?=some e.nf):gk n0 t0 H (.bJ it n cap) (.sl n (bO (l.map fun e=>(⟨e.k.1,e.k.2,e.pl⟩:Tm))) .none):=by
 have h1:dQ (l.map eW)=l.flatMap fun e=>LS (eW e):=by simp[dQ,flatMap_map]
 have h2:bO (l.map fun e=>(⟨e.k.1,e.k.2,e.pl⟩:Tm))=l.flatMap fun e=>js ⟨e.k.1,e.k.2,e.pl⟩:=by simp[bO,flatMap_map]
 rw[h1] at hH;rw[h2];refine .bJ wH hH ?_ fun j hj=>?_
 ·rw[length_append,b9 (f:=fun e:En=>js ⟨e.k.1,e.k.2,e.pl⟩) (k:=3) (fun _=>rfl),b9 (f:=fun e:En=>LS (eW e)) (k:=3) (fun _=>rfl)];omega
 ·refine iy (fa:=fun e=>LS (eW e)) (fb:=fun e=>js ⟨e.k.1,e.k.2,e.pl⟩) (k:=3) (fun _=>rfl) (fun _=>rfl) l (fun e yi j hj=>?_) rest j hj
  match j,hj with
  |0,_=>exact .keep (.inl rfl) (.int _ _)
  |1,_=>exact .keep (.inl rfl) (.str _)
  |2,_=>exact A8 (he e yi).1 (he e yi).2
theorem Li {n0 t0:Nat}{H:List aA}{l:List Ef}{n:Nat}{tg:Tag}(he:∀e∈l,n0≤e.i∧H[e.i]?=some (Ef.nf e)):gk n0 t0 H (.sl n (tC l) tg) (.sl n (cR (l.map fun e=>(⟨e.f,e.x⟩:Cl))) .none):=by
 have h1:tC l=l.flatMap ZX++[]:=by simp[tC]
 have h2:cR (l.map fun e=>(⟨e.f,e.x⟩:Cl))=l.flatMap fun e=>fL ⟨e.f,e.x⟩:=by simp[cR,flatMap_map]
 rw[h2];refine .sl ?_ fun j hj=>?_
 ·rw[Bq,b9 (f:=fun e:Ef=>fL ⟨e.f,e.x⟩) (k:=2) (fun _=>rfl)]
 ·rw[h1];refine iy (fa:=ZX) (fb:=fun e=>fL ⟨e.f,e.x⟩) Fs (fun _=>rfl) l (fun e yi j hj=>?_) [] j hj
  match j,hj with
  |0,_=>exact .keep (.inl rfl) (.int _ _)
  |1,_=>exact .PZ (he e yi).1 (he e yi).2 (by simp)
def BQ (H:List aA)(T:ar)(r0:AV):AV→List aA→ar→Prop:=fun r H' T'=>(∃G,H'=H++G)∧(∃rT,T'=T++rT)∧gk H.length T.length H' r r0
theorem ve {F:List Ef}:∀{g:Nat} {e:Ef},e∈ie F g→∃e0∈F,e=qn e0∧5≤e0.f∧e0.f<5+g
 |0,e,h=>by simp[ie] at h
 |g+1,e,h=>by
  unfold ie at h
  split at h
  ·rename_i e0 hf;rcases List.mem_append.1 h with h|h
   ·obtain⟨x,h1,h2,h3,h4⟩:=ve h;exact⟨x,h1,h2,h3,by omega⟩
   ·simp at h;have h1:=List.find?_some hf;have h2:e0.f=5+g:=by simpa using h1
    exact⟨e0,List.mem_of_find?_eq_some hf,h,by omega,by omega⟩
  ·obtain⟨x,h1,h2,h3,h4⟩:=ve h;exact⟨x,h1,h2,h3,by omega⟩
attribute [-simp] getD_eq_getElem?_getD in
theorem Ij (H:List aA)(T:ar)(nb tb N M:Nat)(fO:nb≤H.length)(eS:tb≤T.length)(L:List Dc)(b2 b4 b5 b6 td:Nat)(E:List En)(F:List Ef)(J:List aA)(U:ar)
  (hB:DI H T b2 b4 b5 b6 td N M J U (L.map (·.id)) E F) (hR:qw L E F) (hs:L.Pairwise fun x y=>x.id<y.id) (ZI:E.length≤1099511627776) (hM:M≤1099511627776) (iE:H.length≤b2) (CH:H.length≤b4) :
  AW ⟨Tryz.prog,192,152,nb,tb,[100104,100147,100166]⟩ (du [1,1,1,1,1,1,1,1,1] (Tryz.f13.body.getD .skip)) (nN Tryz.prog Tryz.f13.results.toList (BQ H T (.df [ec ⟨L.map (·.id),cQ L,dG L⟩,.int .i64 0]))) ⟨[(2,.ptr b2 0),(4,.ptr b4 0),(5,.aO b5),(6,.aO b6)],J,U⟩:=by
 conv=>arg 2;whnf
 have hBe:=hB.hE;have ZK:=hB.ndE;have S3:=hB.hF;have aaS:=hB.ndF;have aaT:=hB.ftF;have Zl:=hB.pU;have lTU:=Zl.le;have Ri:=hB.hU.lt (i:=td) (b:=((L.map (·.id)).length,1)) (by simp);have Pq:=Kn hR hs ZK;have hce:=N7 hR (fun e he=>(S3 e he).p);refine af fun K1 aQ=>?_;refine Dl H T nb tb N M fO eS b2 b4 b5 b6 td (L.map (·.id)) E F J U hB ZI CH _ fun e J1 rows tv TB t1 t2 t3 t4 t5 t6=>?_;have lH1:=t4.le;have l21:=t3.lt (i:=b2) (b:=.cells [.sl 0 [] .full,.sl 0 [] .full,.sl 0 [] .full]) (by simp);have l41:=t3.lt (i:=b4) (b:=.cells [.sl (L.map (·.id)).length (ints (L.map (·.id))) (.own td),tv,.sl 0 [] .full]) (by simp);have l51:=t3.lt (i:=b5) (b:=.map (cj E)) (by simp);have Y9:=t3.lt (i:=b6) (b:=.map (bL F)) (by simp);have e4:=aV (t3.get (i:=b4) (b:=.cells [.sl (L.map (·.id)).length (ints (L.map (·.id))) (.own td),tv,.sl 0 [] .full]) (by simp));refine aQ _ (aH ⟨[(2,.ptr b2 0),(4,.ptr b4 0),(5,.aO b5),(6,.aO b6)],J1,U⟩ (ag [] [] (by simp) (by simp) (by show nb≤J1.length;omega) (by show tb≤U.length;omega) t5 t6) ?_);clear aQ;have hsr:=Ds ZK t1;generalize jM:L.map (·.id)=ids at *;have fin:∀(e:Env) (J2:List aA) (it n cap:Nat) (rest:List AV) (R2:List (Nat×aA)),Has J2 ((b4,.cells [.sl ids.length (ints ids) (.own td),tv,.sl 0 [] .full])::(b6,.map (bL F))::(gR F++((b2,.cells [.sl 0 [] .full,.sl 0 [] .full,.sl 0 [] .full])::(R2++dD E))))→
   ((E=[]∧tv=.sl 0 [] .full)∨(tv=.bJ it (fT E).length cap∧(it,.cells (dQ ((fT E).map eW)++rest))∈R2∧H.length≤it))→eT H J2→bC J2 U→J1.length≤J2.length→bt J2.length U.length e [(2,.ptr b2 0),(4,.ptr b4 0),(6,.aO b6)]→
   AW ⟨Tryz.prog,192,152,nb,tb,[100104,100147,100166]⟩ (du [1,1] (du [1,1,1,1,1,1,1,1,1] (Tryz.f13.body.getD .skip))) (nN Tryz.prog Tryz.f13.results.toList (BQ H T (.df [ec ⟨ids,cQ L,dG L⟩,.int .i64 0]))) ⟨e,J2,U⟩:=by
  intro e J2 it n cap rest R2 gL IV oJ Cs iD he
  conv=>arg 2;whnf
  have Iv:=oJ.le;have Zb:=gL.lt (i:=b2) (b:=.cells [.sl 0 [] .full,.sl 0 [] .full,.sl 0 [] .full]) (by simp);have Rg:=gL.lt (i:=b4) (b:=.cells [.sl ids.length (ints ids) (.own td),tv,.sl 0 [] .full]) (by simp);have l62:=gL.lt (i:=b6) (b:=.map (bL F)) (by simp);have yj:Below J2.length U.length tv:=by
   rcases IV with⟨_,h⟩|⟨h,hm,_⟩
   ·rw[h];simp
   ·rw[h];exact .bJ _ _ _ (gL.lt (i:=it) (b:=.cells (dQ ((fT E).map eW)++rest)) (by simp[hm]))
  refine af fun K2 aW=>?_;refine aH ⟨[(2,.ptr b2 0),(4,.ptr b4 0),(6,.aO b6)],J2,U⟩ (ag [] [] (by simp) (by simp) (by show nb≤J2.length;omega) (by show tb≤U.length;omega) Cs he) ?_;refine Ie (N:=M) H T nb tb fO eS b2 b4 b6 _ tv F J2 U ((b2,.cells [.sl 0 [] .full,.sl 0 [] .full,.sl 0 [] .full])::(R2++dD E)) gL S3 hM aaS aaT oJ Zl Cs CH Zb yj (by simp;omega) _ fun e J3 U3 cv c1 c2 c3 c4 c5 c6 c7=>?_;have FE:=c3.le;have FD:=c4.le;have l23:b2<J3.length:=by omega
  have WS:b4<J3.length:=by omega
  have e4:=aV (c2.get (i:=b4) (b:=.cells [.sl ids.length (ints ids) (.own td),tv,cv]) (by simp));refine aW _ (aH ⟨[(2,.ptr b2 0),(4,.ptr b4 0)],J3,U3⟩ (ag [] [] (by simp) (by simp) (by show nb≤J3.length;omega) (by show tb≤U3.length;omega) c5 (by simp at c7;simp[c7])) ?_);clear aW;have fK:∀X,Has (J3.set b2 X) ((b4,.cells [.sl ids.length (ints ids) (.own td),tv,cv])::(b6,.map (bL F))::(gR (eL 8 F)++((b2,X)::(R2++dD E)))):=fun X=>by
   have:=Has.set (A:=(b4,.cells [.sl ids.length (ints ids) (.own td),tv,cv])::(b6,.map (bL F))::gR (eL 8 F)) (B:=R2++dD E) (b:=.cells [.sl 0 [] .full,.sl 0 [] .full,.sl 0 [] .full]) (by simpa using c2) X;simpa using this
  have fz:∀X (Xm wC I2:AV),(Xm=.sl ids.length (ints ids) (.own td)∨Xm=.sl ids.length (ints ids) .none)→(wC=tv∨wC=cY tv)→(I2=cv∨I2=cY cv)→
    BQ H T (.df [ec ⟨ids,cQ L,dG L⟩,.int .i64 0]) (.df [.agg [Xm,wC,I2],.int .i64 0]) (J3.set b2 X) U3:=by
   intro X Xm wC I2 hd ht hc;refine⟨c3.set iE _,c4,gk.pair (.agg rfl fun j hj=>?_) (.keep (.inl rfl) (.int _ _))⟩
   match j,hj with
   |0,_=>
    rcases hd with rfl|rfl
    ·exact .keep (.inr rfl) (by simp)
    ·exact .keep (.inl rfl) (by simp)
   |1,_=>
    show gk _ _ _ wC (.sl (cQ L).length (bO (cQ L)) .none);rcases IV with⟨h0,rfl⟩|⟨rfl,hm,hi⟩
    ·have:cQ L=[]:=by rw[←Pq,h0];simp[fT]
     rw[this];rcases ht with rfl|rfl
     ·exact .keep (.inr rfl) (by simp[qV])
     ·exact .keep (.inl rfl) (by simp[qV])
    ·have qj:∀e∈fT E,H.length≤e.i∧(J3.set b2 X)[e.i]?=some e.nf:=fun e yi=>by
      have IY:=(gP E).mem_iff.1 yi;exact⟨(hBe e IY).i,(fK X).get (i:=e.i) (b:=e.nf) (by
       have:(e.i,e.nf)∈dD E:=List.mem_map.2 ⟨e,IY,rfl⟩;simp[this])⟩
     have FK:gk H.length T.length (J3.set b2 X) (.bV it 0 (fT E).length) (.sl (cQ L).length (bO (cQ L)) .none):=by
      have hn:(cQ L).length=(fT E).length:=by rw[←Pq];simp
      rw[hn,←Pq];exact HT (rest:=rest) hi ((fK X).get (by simp[hm])) qj
     rcases ht with rfl|rfl
     ·have hn:(cQ L).length=(fT E).length:=by rw[←Pq];simp
      rw[hn,←Pq];exact DY (rest:=rest) hi ((fK X).get (by simp[hm])) qj
     ·exact FK
   |2,_=>
    show gk _ _ _ I2 (.sl (dG L).length (cR (dG L)) .none);have hn:(dG L).length=(ie F 3).length:=by rw[←hce];simp
    have Xa:∀tg,gk H.length T.length (J3.set b2 X) (.sl (ie F 3).length (tC (ie F 3)) tg) (.sl (dG L).length (cR (dG L)) .none):=fun tg=>by
     rw[hn,←hce];refine Li fun e yi=>?_;obtain⟨e0,h1,rfl,h2,h3⟩:=ve yi;have iR:(e0.i,Ef.nf (qn e0))∈gR (eL 8 F):=by
      refine List.mem_map.2 ⟨qn e0,List.mem_map.2 ⟨e0,h1,?_⟩,rfl⟩;rw[if_pos (by omega)]
     exact⟨(S3 e0 h1).i,(fK X).get (i:=e0.i) (b:=Ef.nf (qn e0)) (by simp[iR])⟩
    rcases c1 with⟨h0,rfl⟩|⟨tc,rfl,_,_⟩
    ·have h1:=Xa .full;rw[h0] at h1;rcases hc with rfl|rfl
     ·exact h1
     ·have h2:=Xa .none;rw[h0] at h2;exact h2
    ·rcases hc with rfl|rfl
     ·exact Xa _
     ·exact Xa .none
  have e2:=aV (c2.get (i:=b2) (b:=.cells [.sl 0 [] .full,.sl 0 [] .full,.sl 0 [] .full]) (by simp));refine ae fun K hK=>?_;simp(disch:=omega)[e4,e2];apply hK;clear hK K;apply az;simp(disch:=omega) ;exact fz _ _ _ _ (.inl rfl) (.inl rfl) (.inl rfl)
 rcases t2.h with⟨Es,rfl,rfl⟩|⟨it,cap,rest,rfl,rfl,g1,g2,g3,g4⟩
 ·have cs:=fun H T tg=>Dr H T tg;have hE0:E=[]:=by
   have:=t1.length_eq;rw[Es] at this;simp at this;exact List.length_eq_zero_iff.1 this.symm
  refine ae fun K hK=>?_;simp(disch:=omega)[e4];refine ak (cs _ _ _) ?_;simp(disch:=omega) ;apply hK;clear hK K;refine fin _ J1 0 0 0 [] [] ?_ (.inl ⟨hE0,rfl⟩) t4 t5 (Nat.le_refl _) (by simp;omega);have h1:Has J1 ((b4,.cells [.sl ids.length (ints ids) (.own td),.sl 0 [] .full,.sl 0 [] .full])::(b2,.cells [.sl 0 [] .full,.sl 0 [] .full,.sl 0 [] .full])::(b6,.map (bL F))::(gR F++dD E)):=t3.sub (.cons_cons _ (.cons_cons _ (.cons_cons _ (List.sublist_cons_self _ _))));refine h1.perm (List.Perm.cons _ ?_);exact(List.Perm.cons _ perm_middle).trans (List.Perm.swap _ _ _)
 ·have gi:=t3.get (i:=it) (b:=.cells (dQ rows++rest)) (by simp);have lit:=(List.getElem?_eq_some_iff.1 gi).1;have aah:rows≠[]:=fun h=>by rw[h] at g4;simp at g4
  have hrn:rows.length=(fT E).length:=by
   have:=t1.length_eq;rw[List.length_map] at this;rw[this];exact(gP E).length_eq.symm
  have Zi:rows.Pairwise fun x y=>x.1≠y.1:=by
   have h1:((E.map eW).map (·.1)).Nodup:=by
    have:(E.map eW).map (·.1)=E.map (·.k):=by simp[eW,Function.comp_def]
    rw[this];exact ZK
   have h2:=(t1.map (·.1)).nodup_iff.2 h1;rw[List.Nodup,pairwise_map] at h2;exact h2
  have Cp:rows.length≤1099511627776:=by
   rw[hrn,(gP E).length_eq];exact ZI
  have cs:=fun U=>GN rows aah Zi rest it cap Cp J1 U gi;rw[hsr] at cs;have gL:=Has.set (A:=[(b4,.cells [.sl ids.length (ints ids) (.own td),.bJ it rows.length cap,.sl 0 [] .full])]) (B:=(b2,.cells [.sl 0 [] .full,.sl 0 [] .full,.sl 0 [] .full])::(b6,.map (bL F))::(b5,.map (cj E))::(gR F++dD E)) (b:=.cells (dQ rows++rest)) (by simpa using t3) (.cells (dQ ((fT E).map eW)++rest));have oJ:=t4.set g3 (.cells (dQ ((fT E).map eW)++rest));have iD:(J1.set it (.cells (dQ ((fT E).map eW)++rest))).length=J1.length:=by simp
  refine ae fun K hK=>?_;simp(disch:=omega)[e4];refine ak (cs _) ?_;simp(disch:=omega) ;apply hK;clear hK K;refine cZ fun dy=>?_;simp only at dy;refine fin _ _ it 0 cap rest [(it,.cells (dQ ((fT E).map eW)++rest))] ?_ (.inr ⟨by rw[hrn],by simp,g3⟩) oJ dy (by omega) (by simp;omega);have h1:Has (J1.set it (.cells (dQ ((fT E).map eW)++rest))) ((b4,.cells [.sl ids.length (ints ids) (.own td),.bJ it rows.length cap,.sl 0 [] .full])::(it,.cells (dQ ((fT E).map eW)++rest))::(b2,.cells [.sl 0 [] .full,.sl 0 [] .full,.sl 0 [] .full])::(b6,.map (bL F))::(gR F++dD E)):=gL.sub (.cons_cons _ (.cons_cons _ (.cons_cons _ (.cons_cons _ (List.sublist_cons_self _ _)))));refine h1.perm (List.Perm.cons _ ?_);refine(List.Perm.cons _ (List.perm_middle.trans (List.Perm.cons _ perm_middle))).trans ?_;exact(List.Perm.swap _ _ _).trans ((List.Perm.cons _ (List.Perm.swap _ _ _)).trans (List.Perm.swap _ _ _))
theorem fY {n0 t0:Nat}{H:List aA}(x:Int):gk n0 t0 H (.df [.agg [.sl 0 [] .full,.sl 0 [] .full,.sl 0 [] .full],.int .i64 x]) (.df [ec fl,.int .i64 x]):=by
 refine gk.pair (.agg rfl fun j hj=>?_) (.keep (.inl rfl) (.int _ _))
 match j,hj with
 |0,_=>exact .keep (.inr rfl) (by simp[fl])
 |1,_=>exact .keep (.inr rfl) (by simp[fl,qV])
 |2,_=>exact .keep (.inr rfl) (by simp[fl,Bn])
theorem qM {α:Type}[DecidableEq α]:∀{l m:List α},l.Nodup→(∀x∈l,x∈m)→l.length≤m.length
 |[],_,_,_=>Nat.zero_le _
 |a::l,m,hn,h=>by
  have ⟨h1,h2⟩:=List.nodup_cons.1 hn;have ha:=h a (by simp);have:=qM (m:=m.erase a) h2 fun x hx=>by
   have dA:x≠a:=fun e=>h1 (e▸hx);exact(List.mem_erase_of_ne dA).2 (h x (by simp[hx]))
  rw[List.length_erase_of_mem ha] at this;have:=List.length_pos_of_mem ha;simp;omega
theorem KH {L:List Dc}{E:List En}{F:List Ef}(h:qw L E F):E.length≤jG L:=by
 have one:∀{id:Int} {E E':List En} {l:List (Ky×Int)},mr id E l E'→(E.map (·.k)).Nodup→E'.length≤E.length+l.length:=by
  intro id E E' l h hn
  induction h with
  |nil=>simp
  |@snoc E1 E2 l k p h h2 ih=>
   have zp:=h.nd hn;have h3:E2.length≤E1.length+1:=by
    have:=qM h2.nd (m:=k::E1.map (·.k)) fun x hx=>by
     rcases (h2.ks x).1 hx with rfl|hx
     ·simp
     ·simp[hx]
    simpa using this
   simp;omega
 have nd:∀{L:List Dc} {E:List En} {F:List Ef},qw L E F→(E.map (·.k)).Nodup:=by
  intro L E F h
  induction h with
  |nil=>simp
  |snoc _ h1 _ ih=>exact h1.nd ih
 induction h with
 |nil=>simp
 |@snoc l d E E' F F' h h1 h2 ih=>
  have:=one h1 (nd h);rw[Aj];have e:jG [d]=(et d.zs).length:=by simp[jG]
  omega
theorem o7 (l : List Dc) (hl : l.length ≤ 40) (hs : ∀ d ∈ l, wa d) (hn : ∀ d ∈ l, d.ns.length ≤ 1000000) (H : List aA) (T : ar) (tg : Tag) :
    aq Tryz.prog 13 [.sl l.length (aM l) tg] H T (Is (.df [ec (bY l).1, .int .i64 (bY l).2]) H T) := by
  refine aq.cD ?_;refine aq.nF ?_;show aq Tryz.prog _ _ H T (BQ H T _);have cl := fun h H T => Ih l h (by omega) H T .none;have cl0 := fun H T => D8 H T .none;have b0 : decide ((2000 : Int) < l.length) = false := decide_eq_false (by omega);have n0 : ¬ (2000 : Int) < l.length := by omega
  have FM : ¬ 2000 < l.length := by omega
  refine aj 152 [100104,100147,100166] Tryz.ntmps13 Tryz.func13 rfl (fun _ _ => Tryz.call13 _ _) (by simp) (fun HO => ?_);have eX : bC (H ++ [.cells [.sl 0 [] .full, .sl 0 [] .full, .sl 0 [] .full]]) T := HO.snoc (by simp);refine ae fun K hK => ?_; simp (disch := omega) [-getD_eq_getElem?_getD]; refine hK _ ?_; clear hK K;refine af fun K1 aQ => ?_;refine ae fun K hK => ?_; simp (disch := omega) [-getD_eq_getElem?_getD, b0, n0]; refine hK _ ?_; clear hK K;apply aD rfl;apply ai; simp (disch := omega) [-getD_eq_getElem?_getD];refine aQ _ ?_; clear aQ;have mid : ∀ (e : Env) (L : List Dc), qH l L → bt (H.length + 1) T.length e [(0, .sl L.length (aM L) .none), (2, .ptr H.length 0)] →
      AW ⟨Tryz.prog, 192, 152, H.length, T.length, [100104, 100147, 100166]⟩ (du [1, 1, 1, 1] (Tryz.f13.body.getD .skip)) (nN Tryz.prog Tryz.f13.results.toList (BQ H T (.df [ec (bY l).1, .int .i64 (bY l).2]))) ⟨e, H ++ [.cells [.sl 0 [] .full, .sl 0 [] .full, .sl 0 [] .full]], T⟩ := by
    intro e L hL he
    conv => arg 2; whnf
    have hLl := hL.len;have Ss : ∀ d ∈ L, wa d := fun d hd => hs d (hL.perm.mem_iff.1 hd);have aaO : L.any (fun d => !aX d) = l.any (fun d => !aX d) := by
      rw [Bool.eq_iff_iff, List.any_eq_true, List.any_eq_true];exact ⟨fun ⟨d, h1, h2⟩ => ⟨d, hL.perm.mem_iff.1 h1, h2⟩, fun ⟨d, h1, h2⟩ => ⟨d, hL.perm.mem_iff.2 h1, h2⟩⟩
    have cc := fun H T => zj L (by have : (40 : Nat) ≤ maxLen := by decide
                                   omega) Ss H T .none
    rw [aaO] at cc;refine aH ⟨[(0, .sl L.length (aM L) .none), (2, .ptr H.length 0)], H ++ [.cells [.sl 0 [] .full, .sl 0 [] .full, .sl 0 [] .full]], T⟩ (ag [] [] (by simp) (by simp) (by simp) (by simp) eX (by simpa using he)) ?_;refine af fun K2 aW => ?_
    cases ye : l.any (fun d => !aX d) with
    | true =>
      rw [ye] at cc
      have hF : bY l = (fl, 1) := by unfold bY; rw [if_neg FM, if_pos ye]
      refine ae fun K hK => ?_; simp (disch := omega) [-getD_eq_getElem?_getD]
      refine ak (cc _ _) ?_; simp (disch := omega) [-getD_eq_getElem?_getD]
      refine hK _ ?_; clear hK K
      apply aF rfl
      refine ae fun K hK => ?_; simp (disch := omega) [-getD_eq_getElem?_getD]; refine hK _ ?_; clear hK K
      apply az; simp (disch := omega) [-getD_eq_getElem?_getD]
      rw [hF]
      exact ⟨⟨_, rfl⟩, ⟨[], by simp⟩, fY 1⟩
    | false =>
      rw [ye] at cc
      have jh : ∀ d ∈ l, aX d = true := fun d hd => by
        have := List.any_eq_false.1 ye d hd;simpa using this
      have Jv : ∀ d ∈ L, aX d = true := fun d hd => jh d (hL.perm.mem_iff.1 hd)
      refine ae fun K hK => ?_; simp (disch := omega) [-getD_eq_getElem?_getD]
      refine ak (cc _ _) ?_; simp (disch := omega) [-getD_eq_getElem?_getD]
      refine hK _ ?_; clear hK K
      apply aD rfl
      apply ai; simp (disch := omega) [-getD_eq_getElem?_getD]
      refine aW _ ?_; clear aW
      refine ae fun K hK => ?_; simp (disch := omega) [-getD_eq_getElem?_getD]; refine hK _ ?_; clear hK K
      refine iu 1 0 (H ++ [.cells [.sl 0 [] .full, .sl 0 [] .full, .sl 0 [] .full]]) [.sl 0 [] .full, .sl 0 [] .full, .sl 0 [] .full] 0 [] (by omega) rfl (by simp) ?_
      refine ae fun K hK => ?_; simp (disch := omega) [-getD_eq_getElem?_getD]; refine hK _ ?_; clear hK K
      refine ae fun K hK => ?_; simp (disch := omega) [-getD_eq_getElem?_getD]; refine hK _ ?_; clear hK K
      refine cZ fun wL => ?_
      simp only at wL
      have hDI : DI H T H.length (H.length + 1) (H.length + 2) (H.length + 3) T.length 0 0 (H ++ [.cells [.sl 0 [] .full, .sl 0 [] .full, .sl 0 [] .full], .cells [.sl 0 [] (.own T.length), .sl 0 [] .full, .sl 0 [] .full], .map [], .map []]) (T ++ [(0, 1)]) [] [] [] := by
        refine ⟨⟨by simp [gR, dD], fun p hp => ?_⟩, ⟨by simp [jj], fun p hp => ?_⟩, fun e he => by simp at he, by simp, rfl, fun e he => by simp at he, by simp, rfl, ⟨_, rfl⟩, ⟨_, rfl⟩, by simpa using wL⟩
        · simp [gR, dD, bL, cj] at hp;rcases hp with rfl | rfl | rfl | rfl <;> simp
        · simp [jj] at hp;subst hp; simp
      refine aH ⟨[(0, .sl L.length (aM L) .none), (2, .ptr H.length 0), (4, .ptr (H.length + 1) 0), (5, .aO (H.length + 2)), (6, .aO (H.length + 3))], H ++ [.cells [.sl 0 [] .full, .sl 0 [] .full, .sl 0 [] .full], .cells [.sl 0 [] (.own T.length), .sl 0 [] .full, .sl 0 [] .full], .map [], .map []], T ++ [(0, 1)]⟩ (ag [] [] (by simp) (by simp) (by simp) (by simp) hDI.ok (by simp)) ?_
      have hW := vm L Jv
      have hM := vv L fun d hd => hn d (hL.perm.mem_iff.1 hd)
      refine af fun K2 aW => ?_
      refine H6 H T H.length T.length (Nat.le_refl _) (Nat.le_refl _) L H.length (H.length + 1) (H.length + 2) (H.length + 3) T.length _ _ hDI (by omega) (by omega) (by omega) (fun d hd => by have := qS (cM (Jv d hd)).2.1; omega) (fun d hd => Dg (Jv d hd) (Ss d hd)) (Nat.le_refl _) (by omega) (by omega) (by omega) (Nat.le_refl _) _ (fun i h1 h2 h3 e J' U' q1 q2 q3 q4 q5 => ?_) fun dA e J' U' E F r1 r2 r3 => ?_
      · have hF : bY l = (fl, 10) := by
          unfold bY;rw [if_neg FM, if_neg (by rw [ye]; simp), if_pos];exact fun hh => Fw h1 h2 h3 ((hL.perm.map _).nodup_iff.2 hh)
        have l2 := (List.getElem?_eq_some_iff.1 q3).1;have e2 := aV q3;show nN _ _ _ .ret _;simp [-getD_eq_getElem?_getD, q1, q2, e2, l2];rw [hF];exact ⟨q4, q5, fY 10⟩
      · have wg := x8 hL.ord dA
        have lr := ra wg;have tz : (l.map (·.id)).Nodup := (hL.perm.map _).nodup_iff.1 lr;have hLs : L = dU l := zd hL (gj l) tz;have hF : bY l = (⟨L.map (·.id), cQ L, dG L⟩, 0) := by
          unfold bY;rw [if_neg FM, if_neg (by rw [ye]; simp), if_neg (fun hh => hh tz), ← hLs]
        have yi := KH r2;have lH := r1.pJ.le;have lT := r1.pU.le;refine aW _ (aH ⟨[(2, .ptr H.length 0), (4, .ptr (H.length + 1) 0), (5, .aO (H.length + 2)), (6, .aO (H.length + 3))], J', U'⟩ (ag [] [] (by simp) (by simp) (by simpa using lH) (by simpa using lT) r1.ok (by simp at r3; simp [r3])) ?_);rw [hF];exact Ij H T H.length T.length _ _ (Nat.le_refl _) (Nat.le_refl _) L _ _ _ _ _ E F J' U' r1 r2 wg (by omega) (by omega) (Nat.le_refl _) (by omega)
  rcases Classical.em (l = []) with rfl | dA
  · have cs := fun H T => BL 57 H T .none;refine ae fun K hK => ?_; simp (disch := omega) [-getD_eq_getElem?_getD, kC];refine ak (cl0 _ _) ?_; simp (disch := omega) [-getD_eq_getElem?_getD];refine hK _ ?_; clear hK K;refine ae fun K hK => ?_; simp (disch := omega) [-getD_eq_getElem?_getD];refine ak (cs _ _) ?_; simp (disch := omega) [-getD_eq_getElem?_getD];refine hK _ ?_; clear hK K;refine mid _ [] .nil ?_;simp [kC]
  · refine ae fun K hK => ?_; simp (disch := omega) [-getD_eq_getElem?_getD];refine ⟨_, cl dA _ _, ?_⟩;rintro r H' T' ⟨rfl, k, rfl, rfl⟩;simp (disch := omega) [-getD_eq_getElem?_getD];refine hK _ ?_; clear hK K;have eM := Dp Oc l (List.replicate k .top) (H.length + 1) hl (H ++ [.cells [.sl 0 [] .full, .sl 0 [] .full, .sl 0 [] .full], .cells (aM l ++ List.replicate k .top)]) T' (by simp) (by simp);refine ae fun K hK => ?_; simp (disch := omega) [-getD_eq_getElem?_getD];refine ⟨_, eM, ?_⟩;rintro r H2 T2 ⟨rfl, rfl, L, rfl, hL⟩;simp (disch := omega) [-getD_eq_getElem?_getD];refine hK _ ?_; clear hK K;rw [show H ++ [aA.cells [.sl 0 [] .full, .sl 0 [] .full, .sl 0 [] .full], .cells (aM L ++ List.replicate k .top)] = (H ++ [.cells [.sl 0 [] .full, .sl 0 [] .full, .sl 0 [] .full]]) ++ [.cells (aM L ++ List.replicate k .top)] by simp];have hlL := hL.len;rw [← append_nil T2];refine Kf (H := H ++ [.cells [.sl 0 [] .full, .sl 0 [] .full, .sl 0 [] .full]]) (T := T2) (e' := [(0, .sl L.length (aM L) .none), (2, .ptr H.length 0)]) ?_ ?_ eX ?_ ?_
    · simp
    · simp
    · rw [hlL];exact ⟨gk.PZ (rest := List.replicate k .top) (by simp) (by simp) (by simp), gk.same (by simp), trivial⟩
    · rw [append_nil];exact mid [(0, .sl L.length (aM L) .none), (2, .ptr H.length 0)] L hL (by simp)
end Go.Proofs.YtneohapkboaplaaGreat
