/- segment.Build (layer 39): what comes out of the maps, as a plain function of the documents. segment.Build (layer 39): the whole. segment.Build (layer 39): the contract.
  Conditions: lengths below 400 or 1000, as each theorem says. -/
import Derived.Test.YtneohapkboaplaaGreatGBB
set_option linter.all false
set_option maxRecDepth 100000
set_option maxHeartbeats 16000000
open List (getD_eq_getElem?_getD flatMap_map getElem?_eq_getElem pairwise_map length_append flatMap_cons perm_middle foldl_cons append_nil getElem_inj mem_cons length_cons)
namespace eB
open gH
def vG (k:Ky):List Ky→List Ky
 |[]=>[k]
 |x::r=>if bU x k=true then x::vG k r else if bU k x=true then k::x::r else x::r
def sT (k:Nm):List Nm→List Nm
 |[]=>[k]
 |x::r=>if dJ x k=true then x::sT k r else k::x::r
def vH (d:Dc):List Dc→List Dc
 |[]=>[d]
 |x::r=>if x.id≤d.id then x::vH d r else d::x::r
def mF (l:List Dc):List Dc:=l.foldl (fun a d=>vH d a) []
def jj (l:List Nm):List Nm:=l.foldl (fun a d=>sT d a) []
def kK (L:List Dc):List Ky:=(L.flatMap fun d=>(ez d.zs).map (·.1)).foldl (fun a k=>vG k a) []
def kC (d:Dc)(k:Ky):List Int:=((ez d.zs).filter fun w=>w.1==k).map (·.2)
def vq (d:Dc)(k:Ky):List Ps:=if kC d k=[] then [] else [(d.id,kC d k)]
def fT (L:List Dc)(k:Ky):List Ps:=L.flatMap fun d=>vq d k
def dK (L:List Dc):List Tm:=(kK L).map fun k=>⟨k.1,k.2,fT L k⟩
def kX (L:List Dc)(f:Int):List Nm:=L.flatMap fun d=>(d.ns.filter fun x=>x.1==f).map fun x=>(x.2,d.id)
def rk (L:List Dc)(f:Int):List Cl:=if kX L f=[] then [] else [⟨f,jj (kX L f)⟩]
def eC (L:List Dc):List Cl:=rk L 5++rk L 6++rk L 7
def gD (l:List Dc):Sg×Int:=
 if 2000<l.length then (gh,3) else if l.any (fun d=>!bG d)=true then (gh,1)
 else if ¬(l.map (·.id)).Nodup then (gh,10) else (⟨(mF l).map (·.id),dK (mF l),eC (mF l)⟩,0)
theorem wS (d:Dc)(l:List Dc):(vH d l).Perm (d::l):=by
 induction l with
 |nil=>exact .refl _
 |cons x r ih=>
  unfold vH
  split
  ·exact(ih.cons x).trans (.swap _ _ _)
  ·exact .refl _
theorem Kn (d:Dc){l:List Dc}(h:l.Pairwise fun x y=>x.id≤y.id):(vH d l).Pairwise fun x y=>x.id≤y.id:=by
 induction l with
 |nil=>simp[vH]
 |cons x r ih=>
  have ⟨h1,h2⟩:=List.pairwise_cons.1 h;unfold vH
  split
  ·rename_i hx;refine List.pairwise_cons.2 ⟨fun y hy=>?_,ih h2⟩;rcases List.mem_cons.1 ((wS d r).mem_iff.1 hy) with rfl|hy
   ·exact hx
   ·exact h1 y hy
  ·rename_i hx;refine List.pairwise_cons.2 ⟨fun y hy=>?_,h⟩;rcases List.mem_cons.1 hy with rfl|hy
   ·omega
   ·have:=h1 y hy;omega
theorem iY (l:List Dc):qd l (mF l):=by
 have key:∀(l a:List Dc),(a.Pairwise fun x y=>x.id≤y.id)→(l.foldl (fun a d=>vH d a) a).Perm (l++a)∧(l.foldl (fun a d=>vH d a) a).Pairwise fun x y=>x.id≤y.id:=by
  intro l
  induction l with
  |nil=>intro a h;exact⟨.refl _,h⟩
  |cons d r ih=>
   intro a h;obtain⟨h1,h2⟩:=ih (vH d a) (Kn d h);refine⟨h1.trans ?_,h2⟩;exact((wS d a).append_left r).trans perm_middle
 obtain⟨h1,h2⟩:=key l [] .nil;rw[append_nil] at h1;exact⟨h1,h2⟩
theorem yl {l a b:List Dc}(ha:qd l a)(hb:qd l b)(hn:(l.map (·.id)).Nodup):a=b:=by
 refine List.Perm.eq_of_pairwise (le:=fun x y=>x.id≤y.id) ?_ ha.ord hb.ord (ha.perm.trans hb.perm.symm);intro x y hx hy h1 h2;have EX:=ha.perm.mem_iff.1 hx;have yq:=hb.perm.mem_iff.1 hy;have e:x.id=y.id:=by omega
 obtain⟨i,hi,e1⟩:=List.mem_iff_getElem.1 EX;obtain⟨j,hj,e2⟩:=List.mem_iff_getElem.1 yq;have lY:i=j:=(getElem_inj (xs:=l.map (·.id)) (h₀:=by simpa using hi) (h₁:=by simpa using hj) hn).1 (by simp[e1,e2,e]);subst lY;rw[←e1,←e2]
theorem HA {L:List Dc}(h:L.Pairwise fun x y=>x.id≤y.id)(ha:∀i,0<i→i<L.length→(L.getD (i-1) d0).id≠(L.getD i d0).id):L.Pairwise fun x y=>x.id<y.id:=by
 rw[List.pairwise_iff_getElem] at h ⊢;intro i j hi hj lY;have h1:=ha (i+1) (by omega) (by omega);rw[show i+1-1=i by omega,getD_eq_getElem?_getD,getD_eq_getElem?_getD,getElem?_eq_getElem hi,getElem?_eq_getElem (by omega:i+1<L.length)] at h1;simp only[Option.getD_some] at h1;have h2:=h i (i+1) hi (by omega) (by omega);rcases Nat.eq_or_lt_of_le (Nat.succ_le_of_lt lY) with e|e
 ·have e':j=i+1:=by omega
  subst e';omega
 ·have:=h (i+1) j (by omega) hj e;omega
theorem uQ {L:List Dc}(h:L.Pairwise fun x y=>x.id<y.id):(L.map (·.id)).Nodup:=by
 rw[List.Nodup,pairwise_map];exact h.imp fun jA=>by omega
theorem NG {L:List Dc}{i:Nat}(h0:0<i)(hi:i<L.length)(h:(L.getD (i-1) d0).id=(L.getD i d0).id):¬(L.map (·.id)).Nodup:=by
 intro hn;have h1:i-1<L.length:=by omega
 rw[getD_eq_getElem?_getD,getD_eq_getElem?_getD,getElem?_eq_getElem hi,getElem?_eq_getElem h1] at h;have:=(getElem_inj (xs:=L.map (·.id)) (h₀:=by simpa using h1) (h₁:=by simpa using hi) hn).1 (by simpa using h);omega
theorem z8 (k:Ky)(l:List Ky)(x:Ky):x∈vG k l↔x=k∨x∈l:=by
 induction l with
 |nil=>simp[vG]
 |cons y r ih=>
  unfold vG
  split
  ·rw[mem_cons,ih,mem_cons]
   constructor
   ·rintro (h|h|h)<;>simp[h]
   ·rintro (h|h|h)<;>simp[h]
  ·rename_i h1
   split
   ·simp
   ·rename_i h2;have:y=k:=ki (by simpa using h1) (by simpa using h2);subst this;simp
theorem Km (k:Ky){l:List Ky}(h:l.Pairwise fun x y=>bU x y=true):(vG k l).Pairwise fun x y=>bU x y=true:=by
 induction l with
 |nil=>simp[vG]
 |cons y r ih=>
  have ⟨h1,h2⟩:=List.pairwise_cons.1 h;unfold vG
  split
  ·rename_i hy;refine List.pairwise_cons.2 ⟨fun z hz=>?_,ih h2⟩;rcases (z8 k r z).1 hz with rfl|hz
   ·exact hy
   ·exact h1 z hz
  ·split
   ·rename_i hy;refine List.pairwise_cons.2 ⟨fun z hz=>?_,h⟩;rcases List.mem_cons.1 hz with rfl|hz
    ·exact hy
    ·exact fJ hy (h1 z hz)
   ·exact h
theorem OG {l:List Ky}:∀{a:List Ky},(a.Pairwise fun x y=>bU x y=true)→((l.foldl (fun a k=>vG k a) a).Pairwise fun x y=>bU x y=true)∧∀x,x∈l.foldl (fun a k=>vG k a) a↔x∈l∨x∈a:=by
 induction l with
 |nil=>intro a h;exact⟨h,by simp⟩
 |cons k r ih=>
  intro a h;obtain⟨h1,h2⟩:=ih (Km k h);refine⟨h1,fun x=>?_⟩;rw[foldl_cons,h2,z8,mem_cons]
  constructor
  ·rintro (h|h|h)<;>simp[h]
  ·rintro ((h|h)|h)<;>simp[h]
theorem rQ (L:List Dc):(kK L).Pairwise fun x y=>bU x y=true:=(OG .nil).1
theorem rR (L:List Dc)(k:Ky):k∈kK L↔∃d∈L,∃p,(k,p)∈ez d.zs:=by
 unfold kK;rw[(OG .nil).2];simp
theorem De {a b:List Ky}(ha:a.Pairwise fun x y=>bU x y=true)(hb:b.Pairwise fun x y=>bU x y=true)(h:∀x,x∈a↔x∈b):a=b:=by
 have nd:∀{l:List Ky},(l.Pairwise fun x y=>bU x y=true)→l.Nodup:=fun h=>h.imp fun {x y} NM=>by
  rintro rfl;rw[gM] at NM;cases NM
 refine List.Perm.eq_of_pairwise (le:=fun x y=>bU x y=true) ?_ ha hb ((List.perm_ext_iff_of_nodup (nd ha) (nd hb)).2 h);intro x y _ _ h1 h2;have:=fJ h1 h2;rw[gM] at this;cases this
theorem wR (k:Nm)(l:List Nm):(sT k l).Perm (k::l):=by
 induction l with
 |nil=>exact .refl _
 |cons x r ih=>
  unfold sT
  split
  ·exact(ih.cons x).trans (.swap _ _ _)
  ·exact .refl _
theorem pD {a b:Nm}(h:dJ a b=true):dJ b a=false:=by
 cases h2:dJ b a with
 |false=>rfl
 |true=>have:=pB h h2;rw[sA] at this;cases this
theorem z7 (k:Nm){l:List Nm}(h:l.Pairwise fun x y=>dJ y x=false):(sT k l).Pairwise fun x y=>dJ y x=false:=by
 induction l with
 |nil=>simp[sT]
 |cons x r ih=>
  have ⟨h1,h2⟩:=List.pairwise_cons.1 h;unfold sT
  split
  ·rename_i hx;refine List.pairwise_cons.2 ⟨fun y hy=>?_,ih h2⟩;rcases List.mem_cons.1 ((wR k r).mem_iff.1 hy) with rfl|hy
   ·exact pD hx
   ·exact h1 y hy
  ·rename_i hx;refine List.pairwise_cons.2 ⟨fun y hy=>?_,h⟩;rcases List.mem_cons.1 hy with rfl|hy
   ·simpa using hx
   ·exact nV (h1 y hy) (by simpa using hx)
theorem wP (l:List Nm):jj l=nz l:=by
 have key:∀(l a:List Nm),(a.Pairwise fun x y=>dJ y x=false)→(l.foldl (fun a d=>sT d a) a).Perm (l++a)∧(l.foldl (fun a d=>sT d a) a).Pairwise fun x y=>dJ y x=false:=by
  intro l
  induction l with
  |nil=>intro a h;exact⟨.refl _,h⟩
  |cons d r ih=>
   intro a h;obtain⟨h1,h2⟩:=ih (sT d a) (z7 d h);exact⟨h1.trans (((wR d a).append_left r).trans perm_middle),h2⟩
 obtain⟨h1,h2⟩:=key l [] .nil;have h3:(nz l).Pairwise fun x y=>dJ y x=false:=by
  have:=List.pairwise_mergeSort (le:=fun x y=>!(dJ y x)) (fun a b c h1 h2=>by
   rw[Bool.not_eq_true'] at h1 h2 ⊢;exact nV h2 h1) (fun a b=>by
   cases h:dJ b a with
   |false=>rfl
   |true=>rw[pD h];rfl) l
  exact this.imp fun h=>by simpa using h
 refine List.Perm.eq_of_pairwise (le:=fun x y=>dJ y x=false) (fun x y _ _ h1 h2=>pC h2 h1) h2 h3 ?_;have:(l.foldl (fun a d=>sT d a) []).Perm l:=by simpa using h1
 exact this.trans (List.mergeSort_perm _ _).symm
end eB
namespace Go.Proofs.YtneohapkboaplaaGreat
open Go Go.Am gH eB
theorem MV {id:Int}{E E':List En}{l:List (Ky×Int)}(h:mh id E l E')(k:Ky):Lj E' k=l.foldl (fun a w=>if w.1=k then uh a id w.2 else a) (Lj E k):=by
 induction h with
 |nil=>rfl
 |@snoc E1 E2 l k' p h h2 ih=>
  rw[List.foldl_append,←ih,h2.lk k];simp only[foldl_cons,List.foldl_nil]
  by_cases hk:k=k'
  ·subst hk;simp
  ·rw[if_neg hk,if_neg (Ne.symm hk)]
theorem MW {id:Int}{E E':List En}{l:List (Ky×Int)}(h:mh id E l E')(k:Ky):k∈E'.map (·.k)↔k∈E.map (·.k)∨∃p,(k,p)∈l:=by
 induction h with
 |nil=>simp
 |@snoc E1 E2 l k' p h h2 ih=>
  rw[h2.ks,ih]
  constructor
  ·rintro (rfl|h|⟨q,h⟩)
   ·exact .inr ⟨p,by simp⟩
   ·exact .inl h
   ·exact .inr ⟨q,by simp[h]⟩
  ·rintro (h|⟨q,h⟩)
   ·exact .inr (.inl h)
   ·rcases List.mem_append.1 h with h|h
    ·exact .inr (.inr ⟨q,h⟩)
    ·simp at h;exact .inl h.1
theorem MU {F F':List Ef}{l:List (Int×Nm)}(h:pX F l F')(f:Int):LJ F' f=LJ F f++(l.filter fun x=>x.1==f).map (·.2):=by
 induction h with
 |nil=>simp
 |@snoc E1 E2 l k' p h h2 ih=>
  rw[h2.lk f,List.filter_append,List.map_append,←List.append_assoc,←ih]
  by_cases hk:f=k'
  ·subst hk;simp
  ·rw[if_neg hk,List.filter_cons_of_neg (by simpa using Ne.symm hk)];simp
theorem Kw (id:Int)(k:Ky):∀(l:List (Ky×Int)) (a:List Ps),(∀q∈a,q.1≠id)→l.foldl (fun a w=>if w.1=k then uh a id w.2 else a) a=a++(if (l.filter fun w=>w.1==k)=[] then [] else [(id,(l.filter fun w=>w.1==k).map (·.2))]):=by
 have two:∀(l:List (Ky×Int)) (a:List Ps) (at_:List Int),l.foldl (fun a w=>if w.1=k then uh a id w.2 else a) (a++[(id,at_)])=a++[(id,at_++(l.filter fun w=>w.1==k).map (·.2))]:=by
  intro l
  induction l with
  |nil=>intro a at_;simp
  |cons w r ih=>
   intro a at_;rw[foldl_cons]
   by_cases hw:w.1=k
   ·rw[if_pos hw,oJ,if_pos rfl,ih,List.filter_cons_of_pos (by simpa using hw)];simp
   ·rw[if_neg hw,ih,List.filter_cons_of_neg (by simpa using hw)]
 intro l
 induction l with
 |nil=>intro a _;simp
 |cons w r ih=>
  intro a ha;rw[foldl_cons]
  by_cases hw:w.1=k
  ·have h1:uh a id w.2=a++[(id,[w.2])]:=by
    rcases List.eq_nil_or_concat a with rfl|⟨b,q,rfl⟩
    ·rfl
    ·obtain⟨q1,q2⟩:=q;rw[List.concat_eq_append,oJ,if_neg (ha (q1,q2) (by simp))]
   rw[if_pos hw,h1,two,List.filter_cons_of_pos (by simpa using hw)];simp
  ·rw[if_neg hw,ih a ha,List.filter_cons_of_neg (by simpa using hw)]
theorem MR {L:List Dc}{E:List En}{F:List Ef}(h:pW L E F)(hs:L.Pairwise fun x y=>x.id<y.id)(k:Ky):Lj E k=fT L k:=by
 induction h with
 |nil=>rfl
 |@snoc l d E E' F F' h h1 h2 ih=>
  rw[List.pairwise_append] at hs;have hi:=ih hs.1;rw[MV h1 k,hi,Kw d.id k _ _ (fun q hq=>?_)]
  ·have Tf:kC d k=[]↔((ez d.zs).filter fun w=>w.1==k)=[]:=by simp only[kC,List.map_eq_nil_iff]
   have hp:fT (l++[d]) k=fT l k++vq d k:=by simp[fT]
   rw[hp,vq]
   by_cases hh:((ez d.zs).filter fun w=>w.1==k)=[]
   ·rw[if_pos hh,if_pos (Tf.2 hh)]
   ·rw[if_neg hh,if_neg (fun x=>hh (Tf.1 x))];rfl
  ·obtain⟨x,hx,hq⟩:=List.mem_flatMap.1 hq;have:=hs.2.2 x hx d (by simp);unfold vq at hq
   split at hq
   ·simp at hq
   ·simp at hq;rw[hq];simp only;omega
theorem MT {L:List Dc}{E:List En}{F:List Ef}(h:pW L E F)(k:Ky):k∈E.map (·.k)↔∃d∈L,∃p,(k,p)∈ez d.zs:=by
 induction h with
 |nil=>simp
 |@snoc l d E E' F F' h h1 h2 ih=>
  rw[MW h1,ih];simp only[List.mem_append,List.mem_singleton]
  constructor
  ·rintro (⟨x,hx,hp⟩|hp)
   ·exact⟨x,.inl hx,hp⟩
   ·exact⟨d,.inr rfl,hp⟩
  ·rintro⟨x,hx|rfl,hp⟩
   ·exact .inl ⟨x,hx,hp⟩
   ·exact .inr hp
theorem MS {L:List Dc}{E:List En}{F:List Ef}(h:pW L E F)(f:Int):LJ F f=kX L f:=by
 induction h with
 |nil=>rfl
 |@snoc l d E E' F F' h h1 h2 ih=>
  rw[MU h2,ih];simp[kX,yQ,List.filter_map,Function.comp_def]
theorem Kg {E:List En}(hn:(E.map (·.k)).Nodup){e:En}(he:e∈E):Lj E e.k=e.pl:=by
 obtain⟨E1,E2,rfl⟩:=List.append_of_mem he;unfold Lj;rw[nO hn,if_pos rfl]
def fF (E:List En):List En:=E.mergeSort fun x y=>!(bU y.k x.k)
theorem gE (E:List En):(fF E).Perm E:=List.mergeSort_perm _ _
theorem rO (a b c:Ky)(h1:(!(bU b a))=true)(h2:(!(bU c b))=true):(!(bU c a))=true:=by
 rw[Bool.not_eq_true'] at h1 h2 ⊢;exact sC h2 h1
theorem rP (a b:Ky):((!(bU b a))||(!(bU a b)))=true:=by
 cases h:bU b a with
 |false=>rfl
 |true=>rw[Df h];rfl
theorem Gc {E:List En}(hn:(E.map (·.k)).Nodup):((fF E).map (·.k)).Pairwise fun x y=>bU x y=true:=by
 have h1:=List.pairwise_mergeSort (le:=fun x y:En=>!(bU y.k x.k)) (fun a b c=>rO _ _ _) (fun a b=>rP _ _) E;have h2:((fF E).map (·.k)).Nodup:=((gE E).map _).nodup_iff.2 hn;rw[pairwise_map];rw[List.Nodup,pairwise_map] at h2;refine(List.Pairwise.and h1 h2).imp fun {a b} jA=>?_;obtain⟨g1,g2⟩:=jA
 cases h3:bU a.k b.k with
 |true=>rfl
 |false=>exact absurd (ki h3 (by simpa using g1)) g2
theorem CR {E:List En}(hn:(E.map (·.k)).Nodup){rows:List (Ky×AV)}(hp:rows.Perm (E.map eZ)):DT rows=(fF E).map eZ:=by
 have hk:∀{l:List (Ky×AV)},l.Perm (E.map eZ)→(l.map (·.1)).Nodup:=fun h=>(h.map _).nodup_iff.2 (by
  have:(E.map eZ).map (·.1)=E.map (·.k):=by simp[eZ,Function.comp_def]
  rw[this];exact hn)
 have p1:(DT rows).Perm (E.map eZ):=(List.mergeSort_perm _ _).trans hp;have p2:((fF E).map eZ).Perm (E.map eZ):=(gE E).map _;have o1:(DT rows).Pairwise fun x y=>(!(bU y.1 x.1))=true:=List.pairwise_mergeSort (le:=fun x y:Ky×AV=>!(bU y.1 x.1)) (fun a b c=>rO _ _ _) (fun a b=>rP _ _) rows;have o2:((fF E).map eZ).Pairwise fun x y=>(!(bU y.1 x.1))=true:=by
  rw[pairwise_map];exact List.pairwise_mergeSort (le:=fun x y:En=>!(bU y.k x.k)) (fun a b c=>rO _ _ _) (fun a b=>rP _ _) E
 refine List.Perm.eq_of_pairwise (le:=fun x y=>(!(bU y.1 x.1))=true) ?_ o1 o2 (p1.trans p2.symm);intro x y hx hy h1 h2;have e:x.1=y.1:=ki (by simpa using h2) (by simpa using h1);have EX:=p1.mem_iff.1 hx;have yq:=p2.mem_iff.1 hy;obtain⟨i,hi,e1⟩:=List.mem_iff_getElem.1 EX;obtain⟨j,hj,e2⟩:=List.mem_iff_getElem.1 yq;have lY:i=j:=(getElem_inj (xs:=(E.map eZ).map (·.1)) (h₀:=by simpa using hi) (h₁:=by simpa using hj) (hk (.refl _))).1 (by
  simp only[List.getElem_map] at e1 e2 ⊢;rw[e1,e2,e])
 subst lY;rw[←e1,←e2]
theorem Jp {L:List Dc}{E:List En}{F:List Ef}(h:pW L E F)(hs:L.Pairwise fun x y=>x.id<y.id)(hn:(E.map (·.k)).Nodup):(fF E).map (fun e=>(⟨e.k.1,e.k.2,e.pl⟩:Tm))=dK L:=by
 have hk:(fF E).map (·.k)=kK L:=De (Gc hn) (rQ L) fun x=>by
  rw[rR,←MT h];exact((gE E).map _).mem_iff
 unfold dK;rw[←hk,List.map_map];refine List.map_congr_left fun e he=>?_;have:=Kg hn ((gE E).mem_iff.1 he);rw[MR h hs] at this;simp[this]
theorem Nt {L:List Dc}{E:List En}{F:List Ef}(h:pW L E F)(hp:∀e∈F,0<e.x.length):(gV F 3).map (fun e=>(⟨e.f,e.x⟩:Cl))=eC L:=by
 have one:∀g:Nat,(match F.find? (fun e=>e.f==(5+g:Int)) with|some e=>[(⟨(pP e).f,(pP e).x⟩:Cl)]|none=>[])=rk L (5+g):=by
  intro g;have hlf:=MS h (5+g);unfold LJ at hlf;unfold rk;rw[←hlf]
  cases hf:F.find? (fun e=>e.f==(5+g:Int)) with
  |none=>simp
  |some e=>
   have h1:=List.find?_some hf;have h2:=hp e (List.mem_of_find?_eq_some hf);have h3:e.f=5+g:=by simpa using h1
   simp only;rw[if_neg (by intro hh;rw[hh] at h2;simp at h2),wP];simp[pP,h3]
 have o0:=one 0;have o1:=one 1;have o2:=one 2;unfold eC;rw[show (5:Int)=5+((0:Nat):Int) by rfl,show (6:Int)=5+((1:Nat):Int) by rfl,show (7:Int)=5+((2:Nat):Int) by rfl,←o0,←o1,←o2];simp only[gV]
 cases F.find? (fun e=>e.f==(5+((0:Nat):Int)))<;>cases F.find? (fun e=>e.f==(5+((1:Nat):Int)))<;>cases F.find? (fun e=>e.f==(5+((2:Nat):Int)))<;>simp
end Go.Proofs.YtneohapkboaplaaGreat
namespace eB
open gH
theorem dj {d:Dc}(h:bG d=true):(1≤d.id∧d.id≤1000000000)∧(∀i,i<d.zs.length→nq d.zs i=true)∧∀i,i<d.ns.length→sP d.ns i=true:=by
 unfold bG at h;simp only[Bool.and_eq_true,decide_eq_true_eq] at h;exact⟨h.1,fun i hi=>lj h.2.1 hi,fun i hi=>lj h.2.2 hi⟩
theorem fc {zs:List Zn}{i:Nat}(h:nq zs i=true):lz zs i<(zs.getD i z0).f∧(zs.getD i z0).f≤4∧(zs.getD i z0).ws.length≠0∧∀k,k<(zs.getD i z0).ws.length→tU (zs.getD i z0).ws k=true:=by
 unfold nq at h;simp only[Bool.and_eq_true,decide_eq_true_eq] at h;exact⟨h.1.1,h.1.2,h.2.1,fun k hk=>lj h.2.2 hk⟩
theorem kh {ws:List Wd}{k:Nat}(h:tU ws k=true):okW (ws.getD k w0).1=true∧nC ws k<(ws.getD k w0).2∧(ws.getD k w0).2≤1000000:=by
 unfold tU at h;simp only[Bool.and_eq_true,decide_eq_true_eq] at h;exact⟨h.1,h.2.1,h.2.2⟩
theorem rB {ws:List Wd}(h:∀k,k<ws.length→tU ws k=true):∀k,k<ws.length→(k:Int)≤(ws.getD k w0).2
 |0,hk=>by have:=(kh (h 0 hk)).2.1;unfold nC at this;rw[if_pos rfl] at this;omega
 |k+1,hk=>by
  have h1:=rB h k (by omega);have h2:=(kh (h (k+1) hk)).2.1;unfold nC at h2;rw[if_neg (by omega),Nat.add_sub_cancel] at h2;omega
theorem Jl {ws:List Wd}(h:∀k,k<ws.length→tU ws k=true):ws.length≤1000001:=by
 rcases Nat.eq_zero_or_pos ws.length with h0|h0
 ·omega
 ·have h1:=rB h (ws.length-1) (by omega);have h2:=(kh (h (ws.length-1) (by omega))).2.2;omega
theorem iX {zs:List Zn}(h:∀k,k<zs.length→nq zs k=true):∀k,k<zs.length→(k:Int)+1≤(zs.getD k z0).f
 |0,hk=>by have:=(fc (h 0 hk)).1;unfold lz at this;rw[if_pos rfl] at this;omega
 |k+1,hk=>by
  have h1:=iX h k (by omega);have h2:=(fc (h (k+1) hk)).1;unfold lz at h2;rw[if_neg (by omega),Nat.add_sub_cancel] at h2;omega
theorem zn {zs:List Zn}(h:∀k,k<zs.length→nq zs k=true):zs.length≤4:=by
 rcases Nat.eq_zero_or_pos zs.length with h0|h0
 ·omega
 ·have h1:=iX h (zs.length-1) (by omega);have h2:=(fc (h (zs.length-1) (by omega))).2.1;omega
theorem CG {d:Dc}(h:bG d=true):(ez d.zs).length≤4000004:=by
 obtain⟨_,h2,_⟩:=dj h;have h4:=zn h2;have:∀zs:List Zn,(∀z∈zs,z.ws.length≤1000001)→(ez zs).length≤zs.length*1000001:=by
  intro zs
  induction zs with
  |nil=>intro _;simp[ez]
  |cons z r ih=>
   intro hz;have h1:=ih fun y hy=>hz y (by simp[hy]);have h2:=hz z (by simp);have e:ez (z::r)=nm z.f z.ws++ez r:=by simp[ez]
   rw[e,length_append,length_cons];have:(nm z.f z.ws).length=z.ws.length:=by simp[nm]
   omega
 have h5:=this d.zs fun z hz=>by
  obtain⟨i,hi,e⟩:=Go.Am.bP z0 hz;have:=Jl (fc (h2 i hi)).2.2.2;rw[e] at this;exact this
 omega
end eB
namespace Go.Proofs.YtneohapkboaplaaGreat
open Go Go.Am gH eB
theorem CF {d:Dc}(h:bG d=true)(hs:Oe d):IY d:=by
 obtain⟨_,h2,h3⟩:=dj h;refine⟨fun z hz=>⟨?_,(hs.w z hz).2⟩,fun x hx=>?_⟩
 ·obtain⟨i,hi,e⟩:=bP z0 hz;have h4:=iX h2 i hi;have h5:=(fc (h2 i hi)).2.1;rw[e] at h4 h5;omega
 ·obtain⟨i,hi,e⟩:=bP n0 hx;have:=h3 i hi;unfold sP xw at this;simp only[Bool.and_eq_true,decide_eq_true_eq] at this;rw[e] at this;omega
theorem uZ:∀l:List Dc,(∀d∈l,bG d=true)→jB l≤l.length*4000004
 |[],_=>by simp[jB]
 |d::r,h=>by
  have h1:=uZ r fun x hx=>h x (by simp[hx]);have h2:=CG (h d (by simp));have:jB (d::r)=(ez d.zs).length+jB r:=by simp[jB]
  rw[this,length_cons];omega
theorem va:∀l:List Dc,(∀d∈l,d.ns.length≤1000000)→kU l≤l.length*1000000
 |[],_=>by simp[kU]
 |d::r,h=>by
  have h1:=va r fun x hx=>h x (by simp[hx]);have h2:=h d (by simp);have:kU (d::r)=d.ns.length+kU r:=by simp[kU]
  rw[this,length_cons];omega
theorem lG {α:Type}{fa fb:α→List AV}{k n0 t0:Nat}{H:List aG}(ha:fI fa k)(hb:fI fb k):∀(l:List α) (h:∀x∈l,∀j,j<k→gn n0 t0 H ((fa x).getD j .top) ((fb x).getD j .top)) (rest:List AV) (j:Nat) (hj:j<(l.flatMap fb).length),gn n0 t0 H ((l.flatMap fa++rest).getD j .top) ((l.flatMap fb)[j]'hj)
 |[],_,_,j,hj=>by simp at hj
 |x::r,h,rest,j,hj=>by
  have hx:=h x (by simp)
  by_cases Lq:j<k
  ·have e1:((x::r).flatMap fa++rest).getD j .top=(fa x).getD j .top:=by
    rw[flatMap_cons,List.append_assoc,getD_eq_getElem?_getD,getD_eq_getElem?_getD,List.getElem?_append_left (by rw[ha];exact Lq)]
   have e2:((x::r).flatMap fb)[j]'hj=(fb x).getD j .top:=by
    have:j<(fb x).length:=by rw[hb];exact Lq
    simp only[flatMap_cons];rw[List.getElem_append_left this,getD_eq_getElem?_getD,getElem?_eq_getElem this];rfl
   rw[e1,e2];exact hx j Lq
  ·have hl:((x::r).flatMap fb).length=k+(r.flatMap fb).length:=by rw[flatMap_cons,length_append,hb]
   have ih:=lG ha hb r (fun y hy=>h y (by simp[hy])) rest (j-k) (by omega);have e1:((x::r).flatMap fa++rest).getD j .top=(r.flatMap fa++rest).getD (j-k) .top:=by
    rw[flatMap_cons,List.append_assoc,getD_eq_getElem?_getD,getD_eq_getElem?_getD,List.getElem?_append_right (by rw[ha];omega),ha]
   have e2:((x::r).flatMap fb)[j]'hj=(r.flatMap fb)[j-k]'(by omega):=by
    simp only[flatMap_cons];rw[List.getElem_append_right (by rw[hb];omega)];simp only[hb x]
   rw[e1,e2];exact ih
theorem Ae {n0 t0:Nat}{H:List aG}{e:En}(hi:n0≤e.i)(hH:H[e.i]?=some e.mO):gn n0 t0 H (.cO e.i 0 e.n) (.sl e.pl.length (bp e.pl) .none):=by
 have hn:e.n=e.pl.length:=by simp[En.n,En.pl]
 have qN:bp e.pl=(e.dQ++[((e.d,e.at_),Tag.own e.tk)]).flatMap fun x=>RG x.1:=by simp[En.pl,bp,flatMap_map]
 have NQ:e.mO=.cells ((e.dQ++[((e.d,e.at_),Tag.own e.tk)]).flatMap WM++e.rest):=by
  unfold En.mO fE jS iu;simp
 rw[NQ] at hH;rw[hn,qN];refine .cO hi hH ?_ fun j hj=>?_
 ·rw[length_append,dm (f:=fun x:Ps×Tag=>RG x.1) (k:=2) (fun _=>rfl),dm xV];omega
 ·rw[Nat.zero_add];refine lG (fa:=WM) (fb:=fun x=>RG x.1) xV (fun _=>rfl) _ (fun x _ j hj=>?_) e.rest j hj
  match j,hj with
  |0,_=>exact .keep (.inl rfl) (.int _ _)
  |1,_=>exact .keep (.inr rfl) (by simp)
theorem G4 {n0 t0:Nat}{H:List aG}{l:List En}{it n:Nat}{rest:List AV}(Lr:n0≤it)(hH:H[it]?=some (.cells (dV (l.map eZ)++rest)))(he:∀e∈l,n0≤e.i∧H[e.i]?=some e.mO):gn n0 t0 H (.cO it 0 n) (.sl n (bX (l.map fun e=>(⟨e.k.1,e.k.2,e.pl⟩:Tm))) .none):=by
 have h1:dV (l.map eZ)=l.flatMap fun e=>Lf (eZ e):=by simp[dV,flatMap_map]
 have h2:bX (l.map fun e=>(⟨e.k.1,e.k.2,e.pl⟩:Tm))=l.flatMap fun e=>jb ⟨e.k.1,e.k.2,e.pl⟩:=by simp[bX,flatMap_map]
 rw[h1] at hH;rw[h2];refine .cO Lr hH ?_ fun j hj=>?_
 ·rw[length_append,dm (f:=fun e:En=>jb ⟨e.k.1,e.k.2,e.pl⟩) (k:=3) (fun _=>rfl),dm (f:=fun e:En=>Lf (eZ e)) (k:=3) (fun _=>rfl)];omega
 ·rw[Nat.zero_add];refine lG (fa:=fun e=>Lf (eZ e)) (fb:=fun e=>jb ⟨e.k.1,e.k.2,e.pl⟩) (k:=3) (fun _=>rfl) (fun _=>rfl) l (fun e mZ j hj=>?_) rest j hj
  match j,hj with
  |0,_=>exact .keep (.inl rfl) (.int _ _)
  |1,_=>exact .keep (.inl rfl) (.str _)
  |2,_=>exact Ae (he e mZ).1 (he e mZ).2
theorem Di {n0 t0:Nat}{H:List aG}{l:List En}{it n cap:Nat}{rest:List AV}(Lr:n0≤it)(hH:H[it]?=some (.cells (dV (l.map eZ)++rest)))(he:∀e∈l,n0≤e.i∧H[e.i]?=some e.mO):gn n0 t0 H (.dP it n cap) (.sl n (bX (l.map fun e=>(⟨e.k.1,e.k.2,e.pl⟩:Tm))) .none):=by
 have h1:dV (l.map eZ)=l.flatMap fun e=>Lf (eZ e):=by simp[dV,flatMap_map]
 have h2:bX (l.map fun e=>(⟨e.k.1,e.k.2,e.pl⟩:Tm))=l.flatMap fun e=>jb ⟨e.k.1,e.k.2,e.pl⟩:=by simp[bX,flatMap_map]
 rw[h1] at hH;rw[h2];refine .dP Lr hH ?_ fun j hj=>?_
 ·rw[length_append,dm (f:=fun e:En=>jb ⟨e.k.1,e.k.2,e.pl⟩) (k:=3) (fun _=>rfl),dm (f:=fun e:En=>Lf (eZ e)) (k:=3) (fun _=>rfl)];omega
 ·refine lG (fa:=fun e=>Lf (eZ e)) (fb:=fun e=>jb ⟨e.k.1,e.k.2,e.pl⟩) (k:=3) (fun _=>rfl) (fun _=>rfl) l (fun e mZ j hj=>?_) rest j hj
  match j,hj with
  |0,_=>exact .keep (.inl rfl) (.int _ _)
  |1,_=>exact .keep (.inl rfl) (.str _)
  |2,_=>exact Ae (he e mZ).1 (he e mZ).2
theorem Ku {n0 t0:Nat}{H:List aG}{l:List Ef}{n:Nat}{tg:Tag}(he:∀e∈l,n0≤e.i∧H[e.i]?=some (Ef.mO e)):gn n0 t0 H (.sl n (sY l) tg) (.sl n (eA (l.map fun e=>(⟨e.f,e.x⟩:Cl))) .none):=by
 have h1:sY l=l.flatMap ccC++[]:=by simp[sY]
 have h2:eA (l.map fun e=>(⟨e.f,e.x⟩:Cl))=l.flatMap fun e=>e7 ⟨e.f,e.x⟩:=by simp[eA,flatMap_map]
 rw[h2];refine .sl ?_ fun j hj=>?_
 ·rw[AE,dm (f:=fun e:Ef=>e7 ⟨e.f,e.x⟩) (k:=2) (fun _=>rfl)]
 ·rw[h1];refine lG (fa:=ccC) (fb:=fun e=>e7 ⟨e.f,e.x⟩) EJ (fun _=>rfl) l (fun e mZ j hj=>?_) [] j hj
  match j,hj with
  |0,_=>exact .keep (.inl rfl) (.int _ _)
  |1,_=>exact .S5 (he e mZ).1 (he e mZ).2 (by simp)
def BQ (H:List aG)(T:ay)(r0:AV):AV→List aG→ay→Prop:=fun r H' T'=>(∃G,H'=H++G)∧(∃rT,T'=T++rT)∧gn H.length T.length H' r r0
theorem uW {F:List Ef}:∀{g:Nat} {e:Ef},e∈gV F g→∃e0∈F,e=pP e0∧5≤e0.f∧e0.f<5+g
 |0,e,h=>by simp[gV] at h
 |g+1,e,h=>by
  unfold gV at h
  split at h
  ·rename_i e0 hf;rcases List.mem_append.1 h with h|h
   ·obtain⟨x,h1,h2,h3,h4⟩:=uW h;exact⟨x,h1,h2,h3,by omega⟩
   ·simp at h;have h1:=List.find?_some hf;have h2:e0.f=5+g:=by simpa using h1
    exact⟨e0,List.mem_of_find?_eq_some hf,h,by omega,by omega⟩
  ·obtain⟨x,h1,h2,h3,h4⟩:=uW h;exact⟨x,h1,h2,h3,by omega⟩
attribute [-simp] getD_eq_getElem?_getD in
theorem Hq (H:List aG)(T:ay)(nb tb N M:Nat)(iD:nb≤H.length)(iq:tb≤T.length)(L:List Dc)(b2 b4 b5 b6 td:Nat)(E:List En)(F:List Ef)(J:List aG)(U:ay)
  (hB:DI H T b2 b4 b5 b6 td N M J U (L.map (·.id)) E F) (hR:pW L E F) (hs:L.Pairwise fun x y=>x.id<y.id) (hEl:E.length≤1099511627776) (hM:M≤1099511627776) (fW:H.length≤b2) (BY:H.length≤b4) :
  AW ⟨Tryz.prog,192,152,nb,tb,[100104,100147,100166]⟩ (iN [1,1,1,1,1,1,1,1,1] (Tryz.f13.body.getD .skip)) (rn Tryz.prog Tryz.f13.results.toList (BQ H T (.cJ [il ⟨L.map (·.id),dK L,eC L⟩,.int .i64 0]))) ⟨[(2,.ptr b2 0),(4,.ptr b4 0),(5,.aV b5),(6,.aV b6)],J,U⟩:=by
 conv=>arg 2;whnf
 have hBe:=hB.hE;have hBn:=hB.ndE;have SK:=hB.hF;have aaW:=hB.ndF;have aaX:=hB.ftF;have hpU:=hB.pU;have lTU:=hpU.le;have Q0:=hB.hU.lt (i:=td) (b:=((L.map (·.id)).length,1)) (by simp);have qX:=Jp hR hs hBn;have vT:=Nt hR (fun e he=>(SK e he).p);refine af fun K1 aO=>?_;refine CJ H T nb tb N M iD iq b2 b4 b5 b6 td (L.map (·.id)) E F J U hB hEl BY _ fun e J1 rows tv TB t1 t2 t3 t4 t5 t6=>?_;have lH1:=t4.le;have l21:=t3.lt (i:=b2) (b:=.cells [.sl 0 [] .full,.sl 0 [] .full,.sl 0 [] .full]) (by simp);have l41:=t3.lt (i:=b4) (b:=.cells [.sl (L.map (·.id)).length (ints (L.map (·.id))) (.own td),tv,.sl 0 [] .full]) (by simp);have l51:=t3.lt (i:=b5) (b:=.map (bR E)) (by simp);have l61:=t3.lt (i:=b6) (b:=.map (bE F)) (by simp);have e4:=bT (t3.get (i:=b4) (b:=.cells [.sl (L.map (·.id)).length (ints (L.map (·.id))) (.own td),tv,.sl 0 [] .full]) (by simp));refine aO _ (aQ ⟨[(2,.ptr b2 0),(4,.ptr b4 0),(5,.aV b5),(6,.aV b6)],J1,U⟩ (ag [] [] (by simp) (by simp) (by show nb≤J1.length;omega) (by show tb≤U.length;omega) t5 t6) ?_);clear aO;have hsr:=CR hBn t1;generalize Im:L.map (·.id)=ids at *;have fin:∀(e:Env) (J2:List aG) (it n cap:Nat) (rest:List AV) (R2:List (Nat×aG)),Has J2 ((b4,.cells [.sl ids.length (ints ids) (.own td),tv,.sl 0 [] .full])::(b6,.map (bE F))::(gG F++((b2,.cells [.sl 0 [] .full,.sl 0 [] .full,.sl 0 [] .full])::(R2++dH E))))→
   ((E=[]∧tv=.sl 0 [] .full)∨(tv=.dP it (fF E).length cap∧(it,.cells (dV ((fF E).map eZ)++rest))∈R2∧H.length≤it))→gP H J2→bM J2 U→J1.length≤J2.length→b9 J2.length U.length e [(2,.ptr b2 0),(4,.ptr b4 0),(6,.aV b6)]→
   AW ⟨Tryz.prog,192,152,nb,tb,[100104,100147,100166]⟩ (iN [1,1] (iN [1,1,1,1,1,1,1,1,1] (Tryz.f13.body.getD .skip))) (rn Tryz.prog Tryz.f13.results.toList (BQ H T (.cJ [il ⟨ids,dK L,eC L⟩,.int .i64 0]))) ⟨e,J2,U⟩:=by
  intro e J2 it n cap rest R2 kT WY oT BM jQ he
  conv=>arg 2;whnf
  have WS:=oT.le;have l22:=kT.lt (i:=b2) (b:=.cells [.sl 0 [] .full,.sl 0 [] .full,.sl 0 [] .full]) (by simp);have QZ:=kT.lt (i:=b4) (b:=.cells [.sl ids.length (ints ids) (.own td),tv,.sl 0 [] .full]) (by simp);have l62:=kT.lt (i:=b6) (b:=.map (bE F)) (by simp);have Sj:Below J2.length U.length tv:=by
   rcases WY with⟨_,h⟩|⟨h,hm,_⟩
   ·rw[h];simp
   ·rw[h];exact .dP _ _ _ (kT.lt (i:=it) (b:=.cells (dV ((fF E).map eZ)++rest)) (by simp[hm]))
  refine af fun K2 aY=>?_;refine aQ ⟨[(2,.ptr b2 0),(4,.ptr b4 0),(6,.aV b6)],J2,U⟩ (ag [] [] (by simp) (by simp) (by show nb≤J2.length;omega) (by show tb≤U.length;omega) BM he) ?_;refine Hm (N:=M) H T nb tb iD iq b2 b4 b6 _ tv F J2 U ((b2,.cells [.sl 0 [] .full,.sl 0 [] .full,.sl 0 [] .full])::(R2++dH E)) kT SK hM aaW aaX oT hpU BM BY l22 Sj (by simp;omega) _ fun e J3 U3 cv c1 c2 c3 c4 c5 c6 c7=>?_;have WR:=c3.le;have WQ:=c4.le;have l23:b2<J3.length:=by omega
  have WT:b4<J3.length:=by omega
  have e4:=bT (c2.get (i:=b4) (b:=.cells [.sl ids.length (ints ids) (.own td),tv,cv]) (by simp));refine aY _ (aQ ⟨[(2,.ptr b2 0),(4,.ptr b4 0)],J3,U3⟩ (ag [] [] (by simp) (by simp) (by show nb≤J3.length;omega) (by show tb≤U3.length;omega) c5 (by simp at c7;simp[c7])) ?_);clear aY;have fS:∀X,Has (J3.set b2 X) ((b4,.cells [.sl ids.length (ints ids) (.own td),tv,cv])::(b6,.map (bE F))::(gG (eH 8 F)++((b2,X)::(R2++dH E)))):=fun X=>by
   have:=Has.set (A:=(b4,.cells [.sl ids.length (ints ids) (.own td),tv,cv])::(b6,.map (bE F))::gG (eH 8 F)) (B:=R2++dH E) (b:=.cells [.sl 0 [] .full,.sl 0 [] .full,.sl 0 [] .full]) (by simpa using c2) X;simpa using this
  have fz:∀X (Xp HN H6:AV),(Xp=.sl ids.length (ints ids) (.own td)∨Xp=.sl ids.length (ints ids) .none)→(HN=tv∨HN=cC tv)→(H6=cv∨H6=cC cv)→
    BQ H T (.cJ [il ⟨ids,dK L,eC L⟩,.int .i64 0]) (.cJ [.agg [Xp,HN,H6],.int .i64 0]) (J3.set b2 X) U3:=by
   intro X Xp HN H6 hd ht hc;refine⟨c3.set fW _,c4,gn.pair (.agg rfl fun j hj=>?_) (.keep (.inl rfl) (.int _ _))⟩
   match j,hj with
   |0,_=>
    rcases hd with rfl|rfl
    ·exact .keep (.inr rfl) (by simp)
    ·exact .keep (.inl rfl) (by simp)
   |1,_=>
    show gn _ _ _ HN (.sl (dK L).length (bX (dK L)) .none);rcases WY with⟨h0,rfl⟩|⟨rfl,hm,hi⟩
    ·have:dK L=[]:=by rw[←qX,h0];simp[fF]
     rw[this];rcases ht with rfl|rfl
     ·exact .keep (.inr rfl) (by simp[uH])
     ·exact .keep (.inl rfl) (by simp[uH])
    ·have pL:∀e∈fF E,H.length≤e.i∧(J3.set b2 X)[e.i]?=some e.mO:=fun e mZ=>by
      have HY:=(gE E).mem_iff.1 mZ;exact⟨(hBe e HY).i,(fS X).get (i:=e.i) (b:=e.mO) (by
       have:(e.i,e.mO)∈dH E:=List.mem_map.2 ⟨e,HY,rfl⟩;simp[this])⟩
     have E7:gn H.length T.length (J3.set b2 X) (.cO it 0 (fF E).length) (.sl (dK L).length (bX (dK L)) .none):=by
      have hn:(dK L).length=(fF E).length:=by rw[←qX];simp
      rw[hn,←qX];exact G4 (rest:=rest) hi ((fS X).get (by simp[hm])) pL
     rcases ht with rfl|rfl
     ·have hn:(dK L).length=(fF E).length:=by rw[←qX];simp
      rw[hn,←qX];exact Di (rest:=rest) hi ((fS X).get (by simp[hm])) pL
     ·exact E7
   |2,_=>
    show gn _ _ _ H6 (.sl (eC L).length (eA (eC L)) .none);have hn:(eC L).length=(gV F 3).length:=by rw[←vT];simp
    have Xa:∀tg,gn H.length T.length (J3.set b2 X) (.sl (gV F 3).length (sY (gV F 3)) tg) (.sl (eC L).length (eA (eC L)) .none):=fun tg=>by
     rw[hn,←vT];refine Ku fun e mZ=>?_;obtain⟨e0,h1,rfl,h2,h3⟩:=uW mZ;have lv:(e0.i,Ef.mO (pP e0))∈gG (eH 8 F):=by
      refine List.mem_map.2 ⟨pP e0,List.mem_map.2 ⟨e0,h1,?_⟩,rfl⟩;rw[if_pos (by omega)]
     exact⟨(SK e0 h1).i,(fS X).get (i:=e0.i) (b:=Ef.mO (pP e0)) (by simp[lv])⟩
    rcases c1 with⟨h0,rfl⟩|⟨tc,rfl,_,_⟩
    ·have h1:=Xa .full;rw[h0] at h1;rcases hc with rfl|rfl
     ·exact h1
     ·have h2:=Xa .none;rw[h0] at h2;exact h2
    ·rcases hc with rfl|rfl
     ·exact Xa _
     ·exact Xa .none
  have e2:=bT (c2.get (i:=b2) (b:=.cells [.sl 0 [] .full,.sl 0 [] .full,.sl 0 [] .full]) (by simp));refine ae fun K hK=>?_;simp(disch:=omega)[e4,e2];apply hK;clear hK K;apply an;simp(disch:=omega) ;exact fz _ _ _ _ (.inl rfl) (.inl rfl) (.inl rfl)
 rcases t2.h with⟨DH,rfl,rfl⟩|⟨it,cap,rest,rfl,rfl,g1,g2,g3,g4⟩
 ·have cs:=fun H T tg=>CQ H T tg;have hE0:E=[]:=by
   have:=t1.length_eq;rw[DH] at this;simp at this;exact List.length_eq_zero_iff.1 this.symm
  refine ae fun K hK=>?_;simp(disch:=omega)[e4];refine ah (cs _ _ _) ?_;simp(disch:=omega) ;apply hK;clear hK K;refine fin _ J1 0 0 0 [] [] ?_ (.inl ⟨hE0,rfl⟩) t4 t5 (Nat.le_refl _) (by simp;omega);have h1:Has J1 ((b4,.cells [.sl ids.length (ints ids) (.own td),.sl 0 [] .full,.sl 0 [] .full])::(b2,.cells [.sl 0 [] .full,.sl 0 [] .full,.sl 0 [] .full])::(b6,.map (bE F))::(gG F++dH E)):=t3.sub (.cons_cons _ (.cons_cons _ (.cons_cons _ (List.sublist_cons_self _ _))));refine h1.perm (List.Perm.cons _ ?_);exact(List.Perm.cons _ perm_middle).trans (List.Perm.swap _ _ _)
 ·have gi:=t3.get (i:=it) (b:=.cells (dV rows++rest)) (by simp);have lit:=(List.getElem?_eq_some_iff.1 gi).1;have aau:rows≠[]:=fun h=>by rw[h] at g4;simp at g4
  have hrn:rows.length=(fF E).length:=by
   have:=t1.length_eq;rw[List.length_map] at this;rw[this];exact(gE E).length_eq.symm
  have RX:rows.Pairwise fun x y=>x.1≠y.1:=by
   have h1:((E.map eZ).map (·.1)).Nodup:=by
    have:(E.map eZ).map (·.1)=E.map (·.k):=by simp[eZ,Function.comp_def]
    rw[this];exact hBn
   have h2:=(t1.map (·.1)).nodup_iff.2 h1;rw[List.Nodup,pairwise_map] at h2;exact h2
  have hrl:rows.length≤1099511627776:=by
   rw[hrn,(gE E).length_eq];exact hEl
  have cs:=fun U=>F8 rows aau RX rest it cap hrl J1 U gi;rw[hsr] at cs;have kT:=Has.set (A:=[(b4,.cells [.sl ids.length (ints ids) (.own td),.dP it rows.length cap,.sl 0 [] .full])]) (B:=(b2,.cells [.sl 0 [] .full,.sl 0 [] .full,.sl 0 [] .full])::(b6,.map (bE F))::(b5,.map (bR E))::(gG F++dH E)) (b:=.cells (dV rows++rest)) (by simpa using t3) (.cells (dV ((fF E).map eZ)++rest));have oT:=t4.set g3 (.cells (dV ((fF E).map eZ)++rest));have jQ:(J1.set it (.cells (dV ((fF E).map eZ)++rest))).length=J1.length:=by simp
  refine ae fun K hK=>?_;simp(disch:=omega)[e4];refine ah (cs _) ?_;simp(disch:=omega) ;apply hK;clear hK K;refine lg fun fD=>?_;simp only at fD;refine fin _ _ it 0 cap rest [(it,.cells (dV ((fF E).map eZ)++rest))] ?_ (.inr ⟨by rw[hrn],by simp,g3⟩) oT fD (by omega) (by simp;omega);have h1:Has (J1.set it (.cells (dV ((fF E).map eZ)++rest))) ((b4,.cells [.sl ids.length (ints ids) (.own td),.dP it rows.length cap,.sl 0 [] .full])::(it,.cells (dV ((fF E).map eZ)++rest))::(b2,.cells [.sl 0 [] .full,.sl 0 [] .full,.sl 0 [] .full])::(b6,.map (bE F))::(gG F++dH E)):=kT.sub (.cons_cons _ (.cons_cons _ (.cons_cons _ (.cons_cons _ (List.sublist_cons_self _ _)))));refine h1.perm (List.Perm.cons _ ?_);refine(List.Perm.cons _ (List.perm_middle.trans (List.Perm.cons _ perm_middle))).trans ?_;exact(List.Perm.swap _ _ _).trans ((List.Perm.cons _ (List.Perm.swap _ _ _)).trans (List.Perm.swap _ _ _))
theorem ka {n0 t0:Nat}{H:List aG}(x:Int):gn n0 t0 H (.cJ [.agg [.sl 0 [] .full,.sl 0 [] .full,.sl 0 [] .full],.int .i64 x]) (.cJ [il gh,.int .i64 x]):=by
 refine gn.pair (.agg rfl fun j hj=>?_) (.keep (.inl rfl) (.int _ _))
 match j,hj with
 |0,_=>exact .keep (.inr rfl) (by simp[gh])
 |1,_=>exact .keep (.inr rfl) (by simp[gh,uH])
 |2,_=>exact .keep (.inr rfl) (by simp[gh,KX])
theorem Er {α:Type}[DecidableEq α]:∀{l m:List α},l.Nodup→(∀x∈l,x∈m)→l.length≤m.length
 |[],_,_,_=>Nat.zero_le _
 |a::l,m,hn,h=>by
  have ⟨h1,h2⟩:=List.nodup_cons.1 hn;have ha:=h a (by simp);have:=Er (m:=m.erase a) h2 fun x hx=>by
   have dW:x≠a:=fun e=>h1 (e▸hx);exact(List.mem_erase_of_ne dW).2 (h x (by simp[hx]))
  rw[List.length_erase_of_mem ha] at this;have:=List.length_pos_of_mem ha;simp;omega
theorem JJ {L:List Dc}{E:List En}{F:List Ef}(h:pW L E F):E.length≤jB L:=by
 have one:∀{id:Int} {E E':List En} {l:List (Ky×Int)},mh id E l E'→(E.map (·.k)).Nodup→E'.length≤E.length+l.length:=by
  intro id E E' l h hn
  induction h with
  |nil=>simp
  |@snoc E1 E2 l k p h h2 ih=>
   have O8:=h.nd hn;have h3:E2.length≤E1.length+1:=by
    have:=Er h2.nd (m:=k::E1.map (·.k)) fun x hx=>by
     rcases (h2.ks x).1 hx with rfl|hx
     ·simp
     ·simp[hx]
    simpa using this
   simp;omega
 have nd:∀{L:List Dc} {E:List En} {F:List Ef},pW L E F→(E.map (·.k)).Nodup:=by
  intro L E F h
  induction h with
  |nil=>simp
  |snoc _ h1 _ ih=>exact h1.nd ih
 induction h with
 |nil=>simp
 |@snoc l d E E' F F' h h1 h2 ih=>
  have:=one h1 (nd h);rw[zh];have e:jB [d]=(ez d.zs).length:=by simp[jB]
  omega
theorem Hr (l : List Dc) (hl : l.length ≤ 40) (hs : ∀ d ∈ l, Oe d) (hn : ∀ d ∈ l, d.ns.length ≤ 1000000) (H : List aG) (T : ay) (tg : Tag) :
    al Tryz.prog 13 [.sl l.length (bC l) tg] H T (Is (.cJ [il (gD l).1, .int .i64 (gD l).2]) H T) := by
  refine al.cg ?_;refine al.r9 ?_;show al Tryz.prog _ _ H T (BQ H T _);have cl := fun h H T => Hp l h (by omega) H T .none;have cl0 := fun H T => Dt H T .none;have b0 : decide ((2000 : Int) < l.length) = false := decide_eq_false (by omega);have n0 : ¬ (2000 : Int) < l.length := by omega
  have Rh : ¬ 2000 < l.length := by omega
  refine aj 152 [100104,100147,100166] Tryz.ntmps13 Tryz.func13 rfl (fun _ _ => Tryz.call13 _ _) (by simp) (fun HO => ?_);have kx : bM (H ++ [.cells [.sl 0 [] .full, .sl 0 [] .full, .sl 0 [] .full]]) T := HO.snoc (by simp);refine ae fun K hK => ?_; simp (disch := omega) [-getD_eq_getElem?_getD]; refine hK _ ?_; clear hK K;refine af fun K1 aO => ?_;refine ae fun K hK => ?_; simp (disch := omega) [-getD_eq_getElem?_getD, b0, n0]; refine hK _ ?_; clear hK K;apply aC rfl;apply ak; simp (disch := omega) [-getD_eq_getElem?_getD];refine aO _ ?_; clear aO;have mid : ∀ (e : Env) (L : List Dc), qd l L → b9 (H.length + 1) T.length e [(0, .sl L.length (bC L) .none), (2, .ptr H.length 0)] →
      AW ⟨Tryz.prog, 192, 152, H.length, T.length, [100104, 100147, 100166]⟩ (iN [1, 1, 1, 1] (Tryz.f13.body.getD .skip)) (rn Tryz.prog Tryz.f13.results.toList (BQ H T (.cJ [il (gD l).1, .int .i64 (gD l).2]))) ⟨e, H ++ [.cells [.sl 0 [] .full, .sl 0 [] .full, .sl 0 [] .full]], T⟩ := by
    intro e L hL he
    conv => arg 2; whnf
    have hLl := hL.len;have hsL : ∀ d ∈ L, Oe d := fun d hd => hs d (hL.perm.mem_iff.1 hd);have aaU : L.any (fun d => !bG d) = l.any (fun d => !bG d) := by
      rw [Bool.eq_iff_iff, List.any_eq_true, List.any_eq_true];exact ⟨fun ⟨d, h1, h2⟩ => ⟨d, hL.perm.mem_iff.1 h1, h2⟩, fun ⟨d, h1, h2⟩ => ⟨d, hL.perm.mem_iff.2 h1, h2⟩⟩
    have cc := fun H T => yn L (by have : (40 : Nat) ≤ maxLen := by decide
                                   omega) hsL H T .none
    rw [aaU] at cc;refine aQ ⟨[(0, .sl L.length (bC L) .none), (2, .ptr H.length 0)], H ++ [.cells [.sl 0 [] .full, .sl 0 [] .full, .sl 0 [] .full]], T⟩ (ag [] [] (by simp) (by simp) (by simp) (by simp) kx (by simpa using he)) ?_;refine af fun K2 aY => ?_
    cases BC : l.any (fun d => !bG d) with
    | true =>
      rw [BC] at cc
      have hF : gD l = (gh, 1) := by unfold gD; rw [if_neg Rh, if_pos BC]
      refine ae fun K hK => ?_; simp (disch := omega) [-getD_eq_getElem?_getD]
      refine ah (cc _ _) ?_; simp (disch := omega) [-getD_eq_getElem?_getD]
      refine hK _ ?_; clear hK K
      apply aH rfl
      refine ae fun K hK => ?_; simp (disch := omega) [-getD_eq_getElem?_getD]; refine hK _ ?_; clear hK K
      apply an; simp (disch := omega) [-getD_eq_getElem?_getD]
      rw [hF]
      exact ⟨⟨_, rfl⟩, ⟨[], by simp⟩, ka 1⟩
    | false =>
      rw [BC] at cc
      have kY : ∀ d ∈ l, bG d = true := fun d hd => by
        have := List.any_eq_false.1 BC d hd;simpa using this
      have IC : ∀ d ∈ L, bG d = true := fun d hd => kY d (hL.perm.mem_iff.1 hd)
      refine ae fun K hK => ?_; simp (disch := omega) [-getD_eq_getElem?_getD]
      refine ah (cc _ _) ?_; simp (disch := omega) [-getD_eq_getElem?_getD]
      refine hK _ ?_; clear hK K
      apply aC rfl
      apply ak; simp (disch := omega) [-getD_eq_getElem?_getD]
      refine aY _ ?_; clear aY
      refine ae fun K hK => ?_; simp (disch := omega) [-getD_eq_getElem?_getD]; refine hK _ ?_; clear hK K
      refine fP 1 0 (H ++ [.cells [.sl 0 [] .full, .sl 0 [] .full, .sl 0 [] .full]]) [.sl 0 [] .full, .sl 0 [] .full, .sl 0 [] .full] 0 [] (by omega) rfl (by simp) ?_
      refine ae fun K hK => ?_; simp (disch := omega) [-getD_eq_getElem?_getD]; refine hK _ ?_; clear hK K
      refine ae fun K hK => ?_; simp (disch := omega) [-getD_eq_getElem?_getD]; refine hK _ ?_; clear hK K
      refine lg fun SX => ?_
      simp only at SX
      have hDI : DI H T H.length (H.length + 1) (H.length + 2) (H.length + 3) T.length 0 0 (H ++ [.cells [.sl 0 [] .full, .sl 0 [] .full, .sl 0 [] .full], .cells [.sl 0 [] (.own T.length), .sl 0 [] .full, .sl 0 [] .full], .map [], .map []]) (T ++ [(0, 1)]) [] [] [] := by
        refine ⟨⟨by simp [gG, dH], fun p hp => ?_⟩, ⟨by simp [iO], fun p hp => ?_⟩, fun e he => by simp at he, by simp, rfl, fun e he => by simp at he, by simp, rfl, ⟨_, rfl⟩, ⟨_, rfl⟩, by simpa using SX⟩
        · simp [gG, dH, bE, bR] at hp;rcases hp with rfl | rfl | rfl | rfl <;> simp
        · simp [iO] at hp;subst hp; simp
      refine aQ ⟨[(0, .sl L.length (bC L) .none), (2, .ptr H.length 0), (4, .ptr (H.length + 1) 0), (5, .aV (H.length + 2)), (6, .aV (H.length + 3))], H ++ [.cells [.sl 0 [] .full, .sl 0 [] .full, .sl 0 [] .full], .cells [.sl 0 [] (.own T.length), .sl 0 [] .full, .sl 0 [] .full], .map [], .map []], T ++ [(0, 1)]⟩ (ag [] [] (by simp) (by simp) (by simp) (by simp) hDI.ok (by simp)) ?_
      have hW := uZ L IC
      have hM := va L fun d hd => hn d (hL.perm.mem_iff.1 hd)
      refine af fun K2 aY => ?_
      refine He H T H.length T.length (Nat.le_refl _) (Nat.le_refl _) L H.length (H.length + 1) (H.length + 2) (H.length + 3) T.length _ _ hDI (by omega) (by omega) (by omega) (fun d hd => by have := zn (dj (IC d hd)).2.1; omega) (fun d hd => CF (IC d hd) (hsL d hd)) (Nat.le_refl _) (by omega) (by omega) (by omega) (Nat.le_refl _) _ (fun i h1 h2 h3 e J' U' q1 q2 q3 q4 q5 => ?_) fun dW e J' U' E F r1 r2 r3 => ?_
      · have hF : gD l = (gh, 10) := by
          unfold gD;rw [if_neg Rh, if_neg (by rw [BC]; simp), if_pos];exact fun hh => NG h1 h2 h3 ((hL.perm.map _).nodup_iff.2 hh)
        have l2 := (List.getElem?_eq_some_iff.1 q3).1;have e2 := bT q3;show rn _ _ _ .ret _;simp [-getD_eq_getElem?_getD, q1, q2, e2, l2];rw [hF];exact ⟨q4, q5, ka 10⟩
      · have yM := HA hL.ord dW
        have BK := uQ yM;have Tc : (l.map (·.id)).Nodup := (hL.perm.map _).nodup_iff.1 BK;have hLs : L = mF l := yl hL (iY l) Tc;have hF : gD l = (⟨L.map (·.id), dK L, eC L⟩, 0) := by
          unfold gD;rw [if_neg Rh, if_neg (by rw [BC]; simp), if_neg (fun hh => hh Tc), ← hLs]
        have mZ := JJ r2;have lH := r1.pJ.le;have lT := r1.pU.le;refine aY _ (aQ ⟨[(2, .ptr H.length 0), (4, .ptr (H.length + 1) 0), (5, .aV (H.length + 2)), (6, .aV (H.length + 3))], J', U'⟩ (ag [] [] (by simp) (by simp) (by simpa using lH) (by simpa using lT) r1.ok (by simp at r3; simp [r3])) ?_);rw [hF];exact Hq H T H.length T.length _ _ (Nat.le_refl _) (Nat.le_refl _) L _ _ _ _ _ E F J' U' r1 r2 yM (by omega) (by omega) (Nat.le_refl _) (by omega)
  rcases Classical.em (l = []) with rfl | dW
  · have cs := fun H T => A0 57 H T .none;refine ae fun K hK => ?_; simp (disch := omega) [-getD_eq_getElem?_getD, Av];refine ah (cl0 _ _) ?_; simp (disch := omega) [-getD_eq_getElem?_getD];refine hK _ ?_; clear hK K;refine ae fun K hK => ?_; simp (disch := omega) [-getD_eq_getElem?_getD];refine ah (cs _ _) ?_; simp (disch := omega) [-getD_eq_getElem?_getD];refine hK _ ?_; clear hK K;refine mid _ [] .nil ?_;simp [Av]
  · refine ae fun K hK => ?_; simp (disch := omega) [-getD_eq_getElem?_getD];refine ⟨_, cl dW _ _, ?_⟩;rintro r H' T' ⟨rfl, k, rfl, rfl⟩;simp (disch := omega) [-getD_eq_getElem?_getD];refine hK _ ?_; clear hK K;have dA := CN Nz l (List.replicate k .top) (H.length + 1) hl (H ++ [.cells [.sl 0 [] .full, .sl 0 [] .full, .sl 0 [] .full], .cells (bC l ++ List.replicate k .top)]) T' (by simp) (by simp);refine ae fun K hK => ?_; simp (disch := omega) [-getD_eq_getElem?_getD];refine ⟨_, dA, ?_⟩;rintro r H2 T2 ⟨rfl, rfl, L, rfl, hL⟩;simp (disch := omega) [-getD_eq_getElem?_getD];refine hK _ ?_; clear hK K;rw [show H ++ [aG.cells [.sl 0 [] .full, .sl 0 [] .full, .sl 0 [] .full], .cells (bC L ++ List.replicate k .top)] = (H ++ [.cells [.sl 0 [] .full, .sl 0 [] .full, .sl 0 [] .full]]) ++ [.cells (bC L ++ List.replicate k .top)] by simp];have hlL := hL.len;rw [← append_nil T2];refine Cz (H := H ++ [.cells [.sl 0 [] .full, .sl 0 [] .full, .sl 0 [] .full]]) (T := T2) (e' := [(0, .sl L.length (bC L) .none), (2, .ptr H.length 0)]) ?_ ?_ kx ?_ ?_
    · simp
    · simp
    · rw [hlL];exact ⟨gn.S5 (rest := List.replicate k .top) (by simp) (by simp) (by simp), gn.same (by simp), trivial⟩
    · rw [append_nil];exact mid [(0, .sl L.length (bC L) .none), (2, .ptr H.length 0)] L hL (by simp)
end Go.Proofs.YtneohapkboaplaaGreat
