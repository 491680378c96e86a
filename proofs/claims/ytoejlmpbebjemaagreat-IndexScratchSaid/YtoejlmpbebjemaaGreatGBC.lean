/- segment.Build (layer 39): what comes out of the maps, as a plain function of the documents. segment.Build (layer 39): the whole. segment.Build (layer 39): the contract.
  Conditions: lengths below 400 or 1000, as each theorem says. -/
import Derived.Test.YtoejlmpbebjemaaGreatGBB
set_option linter.all false
set_option maxRecDepth 100000
set_option maxHeartbeats 16000000
open List (getD_eq_getElem?_getD getElem_inj)
namespace eN
open ie
def lM (k:Ky):List Ky->List Ky
 |[]=>[k]
 |x::r=>if bS x k=true then x::lM k r else if bS k x=true then k::x::r else x::r
def nW (k:Nm):List Nm->List Nm
 |[]=>[k]
 |x::r=>if di x k=true then x::nW k r else k::x::r
def pz (d:Dc):List Dc->List Dc
 |[]=>[d]
 |x::r=>if x.id<=d.id then x::pz d r else d::x::r
def dQ (l:List Dc):List Dc:=l.foldl (λa d=>pz d a) []
def dD (l:List Nm):List Nm:=l.foldl (λa d=>nW d a) []
def dR (L:List Dc):List Ky:=(L.flatMap λd=>(eW d.zs).map (·.1)).foldl (λa k=>lM k a) []
def ji (d:Dc)(k:Ky):List Int:=((eW d.zs).filter λw=>w.1==k).map (·.2)
def C2 (d:Dc)(k:Ky):List Ps:=if ji d k=[] then [] else [(d.id,ji d k)]
def dq (L:List Dc)(k:Ky):List Ps:=L.flatMap λd=>C2 d k
def cP (L:List Dc):List Tm:=(dR L).map λk=>⟨k.1,k.2,dq L k⟩
def fL (L:List Dc)(f:Int):List Nm:=L.flatMap λd=>(d.ns.filter λx=>x.1==f).map λx=>(x.2,d.id)
def nY (L:List Dc)(f:Int):List Cl:=if fL L f=[] then [] else [⟨f,dD (fL L f)⟩]
def dS (L:List Dc):List Cl:=nY L 5++nY L 6++nY L 7
def dH (l:List Dc):Sg×Int:=
 if 2000<l.length then (bY,3) else if l.any (λd=>!aU d)=true then (bY,1)
 else if ¬(l.map (·.id)).Nodup then (bY,10) else (⟨(dQ l).map (·.id),cP (dQ l),dS (dQ l)⟩,0)
theorem A1 (d:Dc)(l:List Dc):(pz d l).Perm (d::l):=by
 induction l with
 |nil=>exact .refl _
 |cons x r ih=>
  unfold pz
  split
  ·exact(ih.cons x).trans (.swap _ _ _)
  ·exact .refl _
theorem Qe (d:Dc){l:List Dc}(h:l.Pairwise λx y=>x.id<=y.id):(pz d l).Pairwise λx y=>x.id<=y.id:=by
 induction l with
 |nil=>simp[pz]
 |cons x r ih=>
  have ⟨h1,h2⟩:=ait.1 h;unfold pz
  split
  ·rename_i hx;refine ait.2 ⟨λy hy=>?_,ih h2⟩;rcases ah4.1 ((A1 d r).mem_iff.1 hy) with rfl|hy
   ·exact hx
   ·exact h1 y hy
  ·rename_i hx;refine ait.2 ⟨λy hy=>?_,h⟩;rcases ah4.1 hy with rfl|hy
   ·omega
   ·have:=h1 y hy;omega
theorem eR (l:List Dc):rP l (dQ l):=by
 have key:∀(l a:List Dc),(a.Pairwise λx y=>x.id<=y.id)->(l.foldl (λa d=>pz d a) a).Perm (l++a)/\(l.foldl (λa d=>pz d a) a).Pairwise λx y=>x.id<=y.id:=by
  intro l
  induction l with
  |nil=>intro a h;exact⟨.refl _,h⟩
  |cons d r ih=>
   intro a h;obtain⟨h1,h2⟩:=ih (pz d a) (Qe d h);refine⟨h1.trans ?_,h2⟩;exact((A1 d a).append_left r).trans ajO
 obtain⟨h1,h2⟩:=key l [] .nil;rw[ahS] at h1;exact⟨h1,h2⟩
def CG {l a b:List Dc}(ha:rP l a)(hb:rP l b)(hn:(l.map (·.id)).Nodup):a=b:=by
 refine List.Perm.eq_of_pairwise (le:=λx y=>x.id<=y.id) ?_ ha.ord hb.ord (ha.perm.trans hb.perm.symm);intro x y hx hy h1 h2;have Nu:=ha.perm.mem_iff.1 hx;have JV:=hb.perm.mem_iff.1 hy;have e:x.id=y.id:=zO;obtain⟨i,hi,e1⟩:=ahN.1 Nu;obtain⟨j,hj,e2⟩:=ahN.1 JV;have jV:i=j:=(getElem_inj (xs:=l.map (·.id)) (h₀:=by simpa using hi) (h₁:=by simpa using hj) hn).1 (by simp[e1,e2,e]);subst jV;rw[<-e1,<-e2]
def Bi {L:List Dc}(h:L.Pairwise λx y=>x.id<=y.id)(ha:∀i,0<i->i<L.length->(L.getD (i-1) d0).id≠(L.getD i d0).id):L.Pairwise λx y=>x.id<y.id:=by
 rw[ah6] at h ⊢;intro i j hi hj jV;have h1:=ha (i+1) zO zO;rw[show i+1-1=i by omega,ahs,ahs,ahu hi,ahu (by omega:i+1<L.length)] at h1;simp only[ai5] at h1;have h2:=h i (i+1) hi zO zO;rcases Nat.eq_or_lt_of_le (Nat.succ_le_of_lt jV) with e|e
 ·have e':j=i+1:=zO;subst e';omega
 ·have:=h (i+1) j zO hj e;omega
def mJ {L:List Dc}(h:L.Pairwise λx y=>x.id<y.id):(L.map (·.id)).Nodup:=by
 rw[List.Nodup,aie];exact h.imp λj9=>by omega
def JM {L:List Dc}{i:Nat}(h0:0<i)(hi:i<L.length)(h:(L.getD (i-1) d0).id=(L.getD i d0).id):¬(L.map (·.id)).Nodup:=by
 intro hn;have h1:i-1<L.length:=zO;rw[ahs,ahs,ahu hi,ahu h1] at h;have:=(getElem_inj (xs:=L.map (·.id)) (h₀:=by simpa using h1) (h₁:=by simpa using hi) hn).1 (zU h);omega
theorem EM (k:Ky)(l:List Ky)(x:Ky):x∈lM k l↔x=k\/x∈l:=by
 induction l with
 |nil=>simp[lM]
 |cons y r ih=>
  unfold lM
  split
  ·rw[ah4,ih,ah4]
   constructor
   ·rintro (h|h|h)<;>simp[h]
   ·rintro (h|h|h)<;>simp[h]
  ·rename_i h1
   split
   ·simp
   ·rename_i h2;have:y=k:=mQ (zU h1) (zU h2);subst this;simp
theorem Qd (k:Ky){l:List Ky}(h:l.Pairwise λx y=>bS x y=true):(lM k l).Pairwise λx y=>bS x y=true:=by
 induction l with
 |nil=>simp[lM]
 |cons y r ih=>
  have ⟨h1,h2⟩:=ait.1 h;unfold lM
  split
  ·rename_i hy;refine ait.2 ⟨λz hz=>?_,ih h2⟩;rcases (EM k r z).1 hz with rfl|hz
   ·exact hy
   ·exact h1 z hz
  ·split
   ·rename_i hy;refine ait.2 ⟨λz hz=>?_,h⟩;rcases ah4.1 hz with rfl|hz
    ·exact hy
    ·exact iy hy (h1 z hz)
   ·exact h
theorem Va {l:List Ky}:∀{a:List Ky},(a.Pairwise λx y=>bS x y=true)->((l.foldl (λa k=>lM k a) a).Pairwise λx y=>bS x y=true)/\∀x,x∈l.foldl (λa k=>lM k a) a↔x∈l\/x∈a:=by
 induction l with
 |nil=>intro a h;exact⟨h,zS⟩
 |cons k r ih=>
  intro a h;obtain⟨h1,h2⟩:=ih (Qd k h);refine⟨h1,λx=>?_⟩;rw[ajb,h2,EM,ah4]
  constructor
  ·rintro (h|h|h)<;>simp[h]
  ·rintro ((h|h)|h)<;>simp[h]
def qW (L:List Dc):(dR L).Pairwise λx y=>bS x y=true:=(Va .nil).1
def ow (L:List Dc)(k:Ky):k∈dR L↔∃d∈L,∃p,(k,p)∈eW d.zs:=by
 unfold dR;rw[(Va .nil).2];simp
def H5 {a b:List Ky}(ha:a.Pairwise λx y=>bS x y=true)(hb:b.Pairwise λx y=>bS x y=true)(h:∀x,x∈a↔x∈b):a=b:=by
 have nd:∀{l:List Ky},(l.Pairwise λx y=>bS x y=true)->l.Nodup:=λh=>h.imp λ{x y} Gs=>by
  rintro rfl;rw[jB] at Gs;cases Gs
 refine List.Perm.eq_of_pairwise (le:=λx y=>bS x y=true) ?_ ha hb ((List.perm_ext_iff_of_nodup (nd ha) (nd hb)).2 h);intro x y _ _ h1 h2;have:=iy h1 h2;rw[jB] at this;cases this
theorem A0 (k:Nm)(l:List Nm):(nW k l).Perm (k::l):=by
 induction l with
 |nil=>exact .refl _
 |cons x r ih=>
  unfold nW
  split
  ·exact(ih.cons x).trans (.swap _ _ _)
  ·exact .refl _
theorem sE {a b:Nm}(h:di a b=true):di b a=false:=by
 cases h2:di b a with
 |false=>rfl
 |true=>have:=sC h h2;rw[vL] at this;cases this
theorem EL (k:Nm){l:List Nm}(h:l.Pairwise λx y=>di y x=false):(nW k l).Pairwise λx y=>di y x=false:=by
 induction l with
 |nil=>simp[nW]
 |cons x r ih=>
  have ⟨h1,h2⟩:=ait.1 h;unfold nW
  split
  ·rename_i hx;refine ait.2 ⟨λy hy=>?_,ih h2⟩;rcases ah4.1 ((A0 k r).mem_iff.1 hy) with rfl|hy
   ·exact sE hx
   ·exact h1 y hy
  ·rename_i hx;refine ait.2 ⟨λy hy=>?_,h⟩;rcases ah4.1 hy with rfl|hy
   ·simpa using hx
   ·exact qw (h1 y hy) (zU hx)
theorem AZ (l:List Nm):dD l=pT l:=by
 have key:∀(l a:List Nm),(a.Pairwise λx y=>di y x=false)->(l.foldl (λa d=>nW d a) a).Perm (l++a)/\(l.foldl (λa d=>nW d a) a).Pairwise λx y=>di y x=false:=by
  intro l
  induction l with
  |nil=>intro a h;exact⟨.refl _,h⟩
  |cons d r ih=>
   intro a h;obtain⟨h1,h2⟩:=ih (nW d a) (EL d h);exact⟨h1.trans (((A0 d a).append_left r).trans ajO),h2⟩
 obtain⟨h1,h2⟩:=key l [] .nil;have h3:(pT l).Pairwise λx y=>di y x=false:=by
  have:=ajp (le:=λx y=>!(di y x)) (λa b c h1 h2=>by
   rw[ajZ] at h1 h2 ⊢;exact qw h2 h1) (λa b=>by
   cases h:di b a with
   |false=>rfl
   |true=>rw[sE h];rfl) l
  exact this.imp λh=>by simpa using h
 refine List.Perm.eq_of_pairwise (le:=λx y=>di y x=false) (λx y _ _ h1 h2=>sD h2 h1) h2 h3 ?_;have:(l.foldl (λa d=>nW d a) []).Perm l:=by simpa using h1
 exact this.trans (ajz _ _).symm
end eN
namespace Go.Proofs.YtoejlmpbebjemaaGreat
open Go Go.Am ie eN
theorem Tc {id:Int}{E E':List En}{l:List (Ky×Int)}(h:oL id E l E')(k:Ky):Q3 E' k=l.foldl (λa w=>if w.1=k then xj a id w.2 else a) (Q3 E k):=by
 induction h with
 |nil=>rfl
 |@snoc E1 E2 l k' p h h2 ih=>
  rw[ai8,<-ih,h2.lk k];simp only[ajb,List.foldl_nil]
  by_cases hk:k=k'
  ·subst hk;simp
  ·rw[ahC hk,ahC (Ne.symm hk)]
theorem Td {id:Int}{E E':List En}{l:List (Ky×Int)}(h:oL id E l E')(k:Ky):k∈E'.map (·.k)↔k∈E.map (·.k)\/∃p,(k,p)∈l:=by
 induction h with
 |nil=>simp
 |@snoc E1 E2 l k' p h h2 ih=>
  rw[h2.ks,ih]
  constructor
  ·rintro (rfl|h|⟨q,h⟩)
   ·exact .inr ⟨p,zS⟩
   ·exact .inl h
   ·exact .inr ⟨q,by simp[h]⟩
  ·rintro (h|⟨q,h⟩)
   ·exact .inr (.inl h)
   ·rcases ahI.1 h with h|h
    ·exact .inr (.inr ⟨q,h⟩)
    ·simp at h;exact .inl h.1
theorem S9 {F F':List Ef}{l:List (Int×Nm)}(h:sY F l F')(f:Int):RD F' f=RD F f++(l.filter λx=>x.1==f).map (·.2):=by
 induction h with
 |nil=>simp
 |@snoc E1 E2 l k' p h h2 ih=>
  rw[h2.lk f,aij,ahJ,<-List.append_assoc,<-ih]
  by_cases hk:f=k'
  ·subst hk;simp
  ·rw[ahC hk,aiE (zU (Ne.symm hk))];simp
theorem Ql (id:Int)(k:Ky):∀(l:List (Ky×Int)) (a:List Ps),(∀q∈a,q.1≠id)->l.foldl (λa w=>if w.1=k then xj a id w.2 else a) a=a++(if (l.filter λw=>w.1==k)=[] then [] else [(id,(l.filter λw=>w.1==k).map (·.2))]):=by
 have two:∀(l:List (Ky×Int)) (a:List Ps) (at_:List Int),l.foldl (λa w=>if w.1=k then xj a id w.2 else a) (a++[(id,at_)])=a++[(id,at_++(l.filter λw=>w.1==k).map (·.2))]:=by
  intro l
  induction l with
  |nil=>intro a at_;simp
  |cons w r ih=>
   intro a at_;rw[ajb]
   by_cases hw:w.1=k
   ·rw[ahF hw,rp,ahF rfl,ih,aiI (zU hw)];simp
   ·rw[ahC hw,ih,aiE (zU hw)]
 intro l
 induction l with
 |nil=>intro a _;simp
 |cons w r ih=>
  intro a ha;rw[ajb]
  by_cases hw:w.1=k
  ·have h1:xj a id w.2=a++[(id,[w.2])]:=by
    rcases List.eq_nil_or_concat a with rfl|⟨b,q,rfl⟩
    ·rfl
    ·obtain⟨q1,q2⟩:=q;rw[List.concat_eq_append,rp,ahC (ha (q1,q2) zS)]
   rw[ahF hw,h1,two,aiI (zU hw)];simp
  ·rw[ahC hw,ih a ha,aiE (zU hw)]
theorem S6 {L:List Dc}{E:List En}{F:List Ef}(h:sX L E F)(hs:L.Pairwise λx y=>x.id<y.id)(k:Ky):Q3 E k=dq L k:=by
 induction h with
 |nil=>rfl
 |@snoc l d E E' F F' h h1 h2 ih=>
  rw[ajg] at hs;have hi:=ih hs.1;rw[Tc h1 k,hi,Ql d.id k _ _ (λq hq=>?_)]
  ·have Zv:ji d k=[]↔((eW d.zs).filter λw=>w.1==k)=[]:=by simp only[ji,List.map_eq_nil_iff]
   have hp:dq (l++[d]) k=dq l k++C2 d k:=by simp[dq]
   rw[hp,C2]
   by_cases hh:((eW d.zs).filter λw=>w.1==k)=[]
   ·rw[ahF hh,ahF (Zv.2 hh)]
   ·rw[ahC hh,ahC (λx=>hh (Zv.1 x))];rfl
  ·obtain⟨x,hx,hq⟩:=ah7.1 hq;have:=hs.2.2 x hx d zS;unfold C2 at hq
   split at hq
   ·simp at hq
   ·simp at hq;rw[hq];simp only;omega
theorem S8 {L:List Dc}{E:List En}{F:List Ef}(h:sX L E F)(k:Ky):k∈E.map (·.k)↔∃d∈L,∃p,(k,p)∈eW d.zs:=by
 induction h with
 |nil=>simp
 |@snoc l d E E' F F' h h1 h2 ih=>
  rw[Td h1,ih];simp only[ahI,aic]
  constructor
  ·rintro (⟨x,hx,hp⟩|hp)
   ·exact⟨x,.inl hx,hp⟩
   ·exact⟨d,.inr rfl,hp⟩
  ·rintro⟨x,hx|rfl,hp⟩
   ·exact .inl ⟨x,hx,hp⟩
   ·exact .inr hp
theorem S7 {L:List Dc}{E:List En}{F:List Ef}(h:sX L E F)(f:Int):RD F f=fL L f:=by
 induction h with
 |nil=>rfl
 |@snoc l d E E' F F' h h1 h2 ih=>
  rw[S9 h2,ih];simp[fL,Dq,List.filter_map,Function.comp_def]
def P9 {E:List En}(hn:(E.map (·.k)).Nodup){e:En}(he:e∈E):Q3 E e.k=e.pl:=by
 obtain⟨E1,E2,rfl⟩:=ajS he;unfold Q3;rw[qj hn,ahF rfl]
def ik (E:List En):List En:=E.mergeSort λx y=>!(bS y.k x.k)
def jo (E:List En):(ik E).Perm E:=ajz _ _
def uU (a b c:Ky)(h1:(!(bS b a))=true)(h2:(!(bS c b))=true):(!(bS c a))=true:=by
 rw[ajZ] at h1 h2 ⊢;exact vN h2 h1
theorem uV (a b:Ky):((!(bS b a))||(!(bS a b)))=true:=by
 cases h:bS b a with
 |false=>rfl
 |true=>rw[H6 h];rfl
theorem Lp {E:List En}(hn:(E.map (·.k)).Nodup):((ik E).map (·.k)).Pairwise λx y=>bS x y=true:=by
 have h1:=ajp (le:=λx y:En=>!(bS y.k x.k)) (λa b c=>uU _ _ _) (λa b=>uV _ _) E;have h2:((ik E).map (·.k)).Nodup:=((jo E).map _).nodup_iff.2 hn;rw[aie];rw[List.Nodup,aie] at h2;refine(List.Pairwise.and h1 h2).imp λ{a b} j9=>?_;obtain⟨g1,g2⟩:=j9
 cases h3:bS a.k b.k with
 |true=>rfl
 |false=>exact absurd (mQ h3 (zU g1)) g2
def HC {E:List En}(hn:(E.map (·.k)).Nodup){rows:List (Ky×AV)}(hp:rows.Perm (E.map gh)):IM rows=(ik E).map gh:=by
 have hk:∀{l:List (Ky×AV)},l.Perm (E.map gh)->(l.map (·.1)).Nodup:=λh=>(h.map _).nodup_iff.2 (by
  have:(E.map gh).map (·.1)=E.map (·.k):=by simp[gh,Function.comp_def]
  rw[this];exact hn)
 have p1:(IM rows).Perm (E.map gh):=(ajz _ _).trans hp;have p2:((ik E).map gh).Perm (E.map gh):=(jo E).map _;have o1:(IM rows).Pairwise λx y=>(!(bS y.1 x.1))=true:=ajp (le:=λx y:Ky×AV=>!(bS y.1 x.1)) (λa b c=>uU _ _ _) (λa b=>uV _ _) rows;have o2:((ik E).map gh).Pairwise λx y=>(!(bS y.1 x.1))=true:=by
  rw[aie];exact ajp (le:=λx y:En=>!(bS y.k x.k)) (λa b c=>uU _ _ _) (λa b=>uV _ _) E
 refine List.Perm.eq_of_pairwise (le:=λx y=>(!(bS y.1 x.1))=true) ?_ o1 o2 (p1.trans p2.symm);intro x y hx hy h1 h2;have e:x.1=y.1:=mQ (zU h2) (zU h1);have Nu:=p1.mem_iff.1 hx;have JV:=p2.mem_iff.1 hy;obtain⟨i,hi,e1⟩:=ahN.1 Nu;obtain⟨j,hj,e2⟩:=ahN.1 JV;have jV:i=j:=(getElem_inj (xs:=(E.map gh).map (·.1)) (h₀:=by simpa using hi) (h₁:=by simpa using hj) (hk (.refl _))).1 (by
  simp only[aip] at e1 e2 ⊢;rw[e1,e2,e])
 subst jV;rw[<-e1,<-e2]
def Pb {L:List Dc}{E:List En}{F:List Ef}(h:sX L E F)(hs:L.Pairwise λx y=>x.id<y.id)(hn:(E.map (·.k)).Nodup):(ik E).map (λe=>(⟨e.k.1,e.k.2,e.pl⟩:Tm))=cP L:=by
 have hk:(ik E).map (·.k)=dR L:=H5 (Lp hn) (qW L) λx=>by
  rw[ow,<-S8 h];exact((jo E).map _).mem_iff
 unfold cP;rw[<-hk,aiA];refine aib λe he=>?_;have:=P9 hn ((jo E).mem_iff.1 he);rw[S6 h hs] at this;simp[this]
theorem T6 {L:List Dc}{E:List En}{F:List Ef}(h:sX L E F)(hp:∀e∈F,0<e.x.length):(jK F 3).map (λe=>(⟨e.f,e.x⟩:Cl))=dS L:=by
 have one:∀g:Nat,(match F.find? (λe=>e.f==(5+g:Int)) with|some e=>[(⟨(sO e).f,(sO e).x⟩:Cl)]|none=>[])=nY L (5+g):=by
  intro g;have hlf:=S7 h (5+g);unfold RD at hlf;unfold nY;rw[<-hlf]
  cases hf:F.find? (λe=>e.f==(5+g:Int)) with
  |none=>simp
  |some e=>
   have h1:=ajL hf;have h2:=hp e (aiG hf);have h3:e.f=5+g:=by simpa using h1
   simp only;rw[ahC (by intro hh;rw[hh] at h2;simp at h2),AZ];simp[sO,h3]
 have o0:=one 0;have o1:=one 1;have o2:=one 2;unfold dS;rw[show (5:Int)=5+((0:Nat):Int) by rfl,show (6:Int)=5+((1:Nat):Int) by rfl,show (7:Int)=5+((2:Nat):Int) by rfl,<-o0,<-o1,<-o2];simp only[jK]
 cases F.find? (λe=>e.f==(5+((0:Nat):Int)))<;>cases F.find? (λe=>e.f==(5+((1:Nat):Int)))<;>cases F.find? (λe=>e.f==(5+((2:Nat):Int)))<;>simp
end Go.Proofs.YtoejlmpbebjemaaGreat
namespace eN
open ie
def cG {d:Dc}(h:aU d=true):(1<=d.id/\d.id<=1000000000)/\(∀i,i<d.zs.length->nm d.zs i=true)/\∀i,i<d.ns.length->rA d.ns i=true:=by
 unfold aU at h;simp only[ahG,ahH] at h;exact⟨h.1,λi hi=>qc h.2.1 hi,λi hi=>qc h.2.2 hi⟩
def fP {zs:List Zn}{i:Nat}(h:nm zs i=true):iO zs i<(zs.getD i z0).f/\(zs.getD i z0).f<=4/\(zs.getD i z0).ws.length≠0/\∀k,k<(zs.getD i z0).ws.length->px (zs.getD i z0).ws k=true:=by
 unfold nm at h;simp only[ahG,ahH] at h;exact⟨h.1.1,h.1.2,h.2.1,λk hk=>qc h.2.2 hk⟩
def mP {ws:List Wd}{k:Nat}(h:px ws k=true):okW (ws.getD k w0).1=true/\iW ws k<(ws.getD k w0).2/\(ws.getD k w0).2<=1000000:=by
 unfold px at h;simp only[ahG,ahH] at h;exact⟨h.1,h.2.1,h.2.2⟩
theorem uH {ws:List Wd}(h:∀k,k<ws.length->px ws k=true):∀k,k<ws.length->(k:Int)<=(ws.getD k w0).2
 |0,hk=>by have:=(mP (h 0 hk)).2.1;unfold iW at this;rw[ahF rfl] at this;omega
 |k+1,hk=>by
  have h1:=uH h k zO;have h2:=(mP (h (k+1) hk)).2.1;unfold iW at h2;rw[ahC zO,ai1] at h2;omega
def D0 {ws:List Wd}(h:∀k,k<ws.length->px ws k=true):ws.length<=1000001:=by
 rcases ah0 ws.length with h0|h0
 ·omega
 ·have h1:=uH h (ws.length-1) zO;have h2:=(mP (h (ws.length-1) zO)).2.2;omega
theorem kT {zs:List Zn}(h:∀k,k<zs.length->nm zs k=true):∀k,k<zs.length->(k:Int)+1<=(zs.getD k z0).f
 |0,hk=>by have:=(fP (h 0 hk)).1;unfold iO at this;rw[ahF rfl] at this;omega
 |k+1,hk=>by
  have h1:=kT h k zO;have h2:=(fP (h (k+1) hk)).1;unfold iO at h2;rw[ahC zO,ai1] at h2;omega
def tF {zs:List Zn}(h:∀k,k<zs.length->nm zs k=true):zs.length<=4:=by
 rcases ah0 zs.length with h0|h0
 ·omega
 ·have h1:=kT h (zs.length-1) zO;have h2:=(fP (h (zs.length-1) zO)).2.1;omega
theorem Ht {d:Dc}(h:aU d=true):(eW d.zs).length<=4000004:=by
 obtain⟨_,h2,_⟩:=cG h;have h4:=tF h2;have:∀zs:List Zn,(∀z∈zs,z.ws.length<=1000001)->(eW zs).length<=zs.length*1000001:=by
  intro zs
  induction zs with
  |nil=>intro _;simp[eW]
  |cons z r ih=>
   intro hz;have h1:=ih λy hy=>hz y (by simp[hy]);have h2:=hz z zS;have e:eW (z::r)=pw z.f z.ws++eW r:=by simp[eW]
   rw[e,ahw,ahY];have:(pw z.f z.ws).length=z.ws.length:=by simp[pw]
   omega
 have h5:=this d.zs λz hz=>by
  obtain⟨i,hi,e⟩:=Go.Am.bP z0 hz;have:=D0 (fP (h2 i hi)).2.2.2;rw[e] at this;exact this
 omega
end eN
namespace Go.Proofs.YtoejlmpbebjemaaGreat
open Go.Proofs.Tryz(prog)
open Go Go.Am ie eN
def Hs {d:Dc}(h:aU d=true)(hs:pt d):Ox d:=by
 obtain⟨_,h2,h3⟩:=cG h;refine⟨λz hz=>⟨?_,(hs.w z hz).2⟩,λx hx=>?_⟩
 ·obtain⟨i,hi,e⟩:=bP z0 hz;have h4:=kT h2 i hi;have h5:=(fP (h2 i hi)).2.1;rw[e] at h4 h5;omega
 ·obtain⟨i,hi,e⟩:=bP n0 hx;have:=h3 i hi;unfold rA v7 at this;simp only[ahG,ahH] at this;rw[e] at this;omega
theorem yp:∀l:List Dc,(∀d∈l,aU d=true)->lG l<=l.length*4000004
 |[],_=>by simp[lG]
 |d::r,h=>by
  have h1:=yp r λx hx=>h x (by simp[hx]);have h2:=Ht (h d zS);have:lG (d::r)=(eW d.zs).length+lG r:=by simp[lG]
  rw[this,ahY];omega
theorem yB:∀l:List Dc,(∀d∈l,d.ns.length<=1000000)->nF l<=l.length*1000000
 |[],_=>by simp[nF]
 |d::r,h=>by
  have h1:=yB r λx hx=>h x (by simp[hx]);have h2:=h d zS;have:nF (d::r)=d.ns.length+nF r:=by simp[nF]
  rw[this,ahY];omega
theorem kR {α:Type}{fa fb:α->List AV}{k n0 t0:Nat}{H:List aA}(ha:eE fa k)(hb:eE fb k):∀(l:List α) (h:∀x∈l,∀j,j<k->gp n0 t0 H ((fa x).getD j .top) ((fb x).getD j .top)) (rest:List AV) (j:Nat) (hj:j<(l.flatMap fb).length),gp n0 t0 H ((l.flatMap fa++rest).getD j .top) ((l.flatMap fb)[j]'hj)
 |[],_,_,j,hj=>by simp at hj
 |x::r,h,rest,j,hj=>by
  have hx:=h x zS
  by_cases JY:j<k
  ·have e1:((x::r).flatMap fa++rest).getD j .top=(fa x).getD j .top:=by
    rw[ahK,ahM,ahs,ahs,ahB (by rw[ha];exact JY)]
   have e2:((x::r).flatMap fb)[j]'hj=(fb x).getD j .top:=by
    have:j<(fb x).length:=by rw[hb];exact JY
    simp only[ahK];rw[aiL this,ahs,ahu this];rfl
   rw[e1,e2];exact hx j JY
  ·have hl:((x::r).flatMap fb).length=k+(r.flatMap fb).length:=by rw[ahK,ahw,hb]
   have ih:=kR ha hb r (λy hy=>h y (by simp[hy])) rest (j-k) zO;have e1:((x::r).flatMap fa++rest).getD j .top=(r.flatMap fa++rest).getD (j-k) .top:=by
    rw[ahK,ahM,ahs,ahs,ahP (by rw[ha];omega),ha]
   have e2:((x::r).flatMap fb)[j]'hj=(r.flatMap fb)[j-k]' zO:=by
    simp only[ahK];rw[ajB (by rw[hb];omega)];simp only[hb x]
   rw[e1,e2];exact ih
theorem EU {n0 t0:Nat}{H:List aA}{e:En}(hi:n0<=e.i)(hH:H[e.i]?=some e.pq):gp n0 t0 H (.cV e.i 0 e.n) (.sl e.pl.length (bD e.pl) .none):=by
 have hn:e.n=e.pl.length:=by simp[En.n,En.pl]
 have ue:bD e.pl=(e.ew++[((e.d,e.at_),Tag.own e.tk)]).flatMap λx=>psC x.1:=by simp[En.pl,bD,aiK]
 have Nd:e.pq=.cells ((e.ew++[((e.d,e.at_),Tag.own e.tk)]).flatMap pwC++e.rest):=by
  unfold En.pq ij mi j5;simp
 rw[Nd] at hH;rw[hn,ue];refine .cV hi hH ?_ λj hj=>?_
 ·rw[ahw,cj (f:=λx:Ps×Tag=>psC x.1) (k:=2) (λ_=>rfl),cj B5];omega
 ·rw[aiH];refine kR (fa:=pwC) (fb:=λx=>psC x.1) B5 (λ_=>rfl) _ (λx _ j hj=>?_) e.rest j hj
  match j,hj with
  |0,_=>exact .keep (.inl rfl) (.int _ _)
  |1,_=>exact .keep (.inr rfl) zS
theorem Ms {n0 t0:Nat}{H:List aA}{l:List En}{it n:Nat}{rest:List AV}(zP:n0<=it)(hH:H[it]?=some (.cells (eK (l.map gh)++rest)))(he:∀e∈l,n0<=e.i/\H[e.i]?=some e.pq):gp n0 t0 H (.cV it 0 n) (.sl n (dB (l.map λe=>(⟨e.k.1,e.k.2,e.pl⟩:Tm))) .none):=by
 have h1:eK (l.map gh)=l.flatMap λe=>QX (gh e):=by simp[eK,aiK]
 have h2:dB (l.map λe=>(⟨e.k.1,e.k.2,e.pl⟩:Tm))=l.flatMap λe=>mg ⟨e.k.1,e.k.2,e.pl⟩:=by simp[dB,aiK]
 rw[h1] at hH;rw[h2];refine .cV zP hH ?_ λj hj=>?_
 ·rw[ahw,cj (f:=λe:En=>mg ⟨e.k.1,e.k.2,e.pl⟩) (k:=3) (λ_=>rfl),cj (f:=λe:En=>QX (gh e)) (k:=3) (λ_=>rfl)];omega
 ·rw[aiH];refine kR (fa:=λe=>QX (gh e)) (fb:=λe=>mg ⟨e.k.1,e.k.2,e.pl⟩) (k:=3) (λ_=>rfl) (λ_=>rfl) l (λe CU j hj=>?_) rest j hj
  match j,hj with
  |0,_=>exact .keep (.inl rfl) (.int _ _)
  |1,_=>exact .keep (.inl rfl) (.str _)
  |2,_=>exact EU (he e CU).1 (he e CU).2
theorem Ib {n0 t0:Nat}{H:List aA}{l:List En}{it n cap:Nat}{rest:List AV}(zP:n0<=it)(hH:H[it]?=some (.cells (eK (l.map gh)++rest)))(he:∀e∈l,n0<=e.i/\H[e.i]?=some e.pq):gp n0 t0 H (.bQ it n cap) (.sl n (dB (l.map λe=>(⟨e.k.1,e.k.2,e.pl⟩:Tm))) .none):=by
 have h1:eK (l.map gh)=l.flatMap λe=>QX (gh e):=by simp[eK,aiK]
 have h2:dB (l.map λe=>(⟨e.k.1,e.k.2,e.pl⟩:Tm))=l.flatMap λe=>mg ⟨e.k.1,e.k.2,e.pl⟩:=by simp[dB,aiK]
 rw[h1] at hH;rw[h2];refine .bQ zP hH ?_ λj hj=>?_
 ·rw[ahw,cj (f:=λe:En=>mg ⟨e.k.1,e.k.2,e.pl⟩) (k:=3) (λ_=>rfl),cj (f:=λe:En=>QX (gh e)) (k:=3) (λ_=>rfl)];omega
 ·refine kR (fa:=λe=>QX (gh e)) (fb:=λe=>mg ⟨e.k.1,e.k.2,e.pl⟩) (k:=3) (λ_=>rfl) (λ_=>rfl) l (λe CU j hj=>?_) rest j hj
  match j,hj with
  |0,_=>exact .keep (.inl rfl) (.int _ _)
  |1,_=>exact .keep (.inl rfl) (.str _)
  |2,_=>exact EU (he e CU).1 (he e CU).2
theorem Qj {n0 t0:Nat}{H:List aA}{l:List Ef}{n:Nat}{tg:Tag}(he:∀e∈l,n0<=e.i/\H[e.i]?=some (Ef.pq e)):gp n0 t0 H (.sl n (wo l) tg) (.sl n (dP (l.map λe=>(⟨e.f,e.x⟩:Cl))) .none):=by
 have h1:wo l=l.flatMap ccC++[]:=by simp[wo]
 have h2:dP (l.map λe=>(⟨e.f,e.x⟩:Cl))=l.flatMap λe=>mW ⟨e.f,e.x⟩:=by simp[dP,aiK]
 rw[h2];refine .sl ?_ λj hj=>?_
 ·rw[Fj,cj (f:=λe:Ef=>mW ⟨e.f,e.x⟩) (k:=2) (λ_=>rfl)]
 ·rw[h1];refine kR (fa:=ccC) (fb:=λe=>mW ⟨e.f,e.x⟩) JG (λ_=>rfl) l (λe CU j hj=>?_) [] j hj
  match j,hj with
  |0,_=>exact .keep (.inl rfl) (.int _ _)
  |1,_=>exact .NO (he e CU).1 (he e CU).2 zS
def BQ (H:List aA)(T:au)(r0:AV):AV->List aA->au->Prop:=λr H' T'=>(∃G,H'=H++G)/\(∃rT,T'=T++rT)/\gp H.length T.length H' r r0
theorem yg {F:List Ef}:∀{g:Nat} {e:Ef},e∈jK F g->∃e0∈F,e=sO e0/\5<=e0.f/\e0.f<5+g
 |0,e,h=>by simp[jK] at h
 |g+1,e,h=>by
  unfold jK at h
  split at h
  ·rename_i e0 hf;rcases ahI.1 h with h|h
   ·obtain⟨x,h1,h2,h3,h4⟩:=yg h;exact⟨x,h1,h2,h3,zO⟩
   ·simp at h;have h1:=ajL hf;have h2:e0.f=5+g:=by simpa using h1
    exact⟨e0,aiG hf,h,zO,zO⟩
  ·obtain⟨x,h1,h2,h3,h4⟩:=yg h;exact⟨x,h1,h2,h3,zO⟩
attribute [-simp] getD_eq_getElem?_getD in
theorem MT (H:List aA)(T:au)(nb tb N M:Nat)(gL:nb<=H.length)(fZ:tb<=T.length)(L:List Dc)(b2 b4 b5 b6 td:Nat)(E:List En)(F:List Ef)(J:List aA)(U:au)
  (hB:DI H T b2 b4 b5 b6 td N M J U (L.map (·.id)) E F) (hR:sX L E F) (hs:L.Pairwise λx y=>x.id<y.id) (YS:E.length<=1099511627776) (hM:M<=1099511627776) (j8:H.length<=b2) (GB:H.length<=b4) :
  AW ⟨prog,192,152,nb,tb,[100104,100147,100166]⟩ (dZ [1,1,1,1,1,1,1,1,1] (Tryz.f68.body.getD .skip)) (pR prog Tryz.f68.results.toList (BQ H T (.dn [jh ⟨L.map (·.id),cP L,dS L⟩,.int .i64 0]))) ⟨[(2,.ptr b2 0),(4,.ptr b4 0),(5,.aP b5),(6,.aP b6)],J,U⟩:=by
 conv=>arg 2;whnf
 have hBe:=hB.hE;have hBn:=hB.ndE;have YW:=hB.hF;have afB:=hB.ndF;have afC:=hB.ftF;have hpU:=hB.pU;have lTU:=hpU.le;have Nw:=hB.hU.lt (i:=td) (b:=((L.map (·.id)).length,1)) zS;have VA:=Pb hR hs hBn;have hce:=T6 hR (λe he=>(YW e he).p);refine ae λK1 aN=>?_;refine Hw H T nb tb N M gL fZ b2 b4 b5 b6 td (L.map (·.id)) E F J U hB YS GB _ λe J1 rows tv TB t1 t2 t3 t4 t5 t6=>?_;have lH1:=t4.le;have l21:=t3.lt (i:=b2) (b:=.cells [.sl 0 [] .full,.sl 0 [] .full,.sl 0 [] .full]) zS;have l41:=t3.lt (i:=b4) (b:=.cells [.sl (L.map (·.id)).length (ints (L.map (·.id))) (.own td),tv,.sl 0 [] .full]) zS;have l51:=t3.lt (i:=b5) (b:=.map (cO E)) zS;have l61:=t3.lt (i:=b6) (b:=.map (bT F)) zS;have e4:=aZ (t3.get (i:=b4) (b:=.cells [.sl (L.map (·.id)).length (ints (L.map (·.id))) (.own td),tv,.sl 0 [] .full]) zS);refine aN _ (aF ⟨[(2,.ptr b2 0),(4,.ptr b4 0),(5,.aP b5),(6,.aP b6)],J1,U⟩ (ak [] [] zS zS (by show nb<=J1.length;omega) (by show tb<=U.length;omega) t5 t6) ?_);clear aN;have hsr:=HC hBn t1;generalize lP:L.map (·.id)=ids at *;have fin:∀(e:Env) (J2:List aA) (it n cap:Nat) (rest:List AV) (R2:List (Nat×aA)),Has J2 ((b4,.cells [.sl ids.length (ints ids) (.own td),tv,.sl 0 [] .full])::(b6,.map (bT F))::(jt F++((b2,.cells [.sl 0 [] .full,.sl 0 [] .full,.sl 0 [] .full])::(R2++ep E))))->
   ((E=[]/\tv=.sl 0 [] .full)\/(tv=.bQ it (ik E).length cap/\(it,.cells (eK ((ik E).map gh)++rest))∈R2/\H.length<=it))->gW H J2->bM J2 U->J1.length<=J2.length->bA J2.length U.length e [(2,.ptr b2 0),(4,.ptr b4 0),(6,.aP b6)]->
   AW ⟨prog,192,152,nb,tb,[100104,100147,100166]⟩ (dZ [1,1] (dZ [1,1,1,1,1,1,1,1,1] (Tryz.f68.body.getD .skip))) (pR prog Tryz.f68.results.toList (BQ H T (.dn [jh ⟨ids,cP L,dS L⟩,.int .i64 0]))) ⟨e,J2,U⟩:=by
  intro e J2 it n cap rest R2 jg Nv sL Nj jT he
  conv=>arg 2;whnf
  have M9:=sL.le;have l22:=jg.lt (i:=b2) (b:=.cells [.sl 0 [] .full,.sl 0 [] .full,.sl 0 [] .full]) zS;have XB:=jg.lt (i:=b4) (b:=.cells [.sl ids.length (ints ids) (.own td),tv,.sl 0 [] .full]) zS;have l62:=jg.lt (i:=b6) (b:=.map (bT F)) zS;have GA:Below J2.length U.length tv:=by
   rcases Nv with⟨_,h⟩|⟨h,hm,_⟩
   ·rw[h];simp
   ·rw[h];exact .bQ _ _ _ (jg.lt (i:=it) (b:=.cells (eK ((ik E).map gh)++rest)) (by simp[hm]))
  refine ae λK2 ba=>?_;refine aF ⟨[(2,.ptr b2 0),(4,.ptr b4 0),(6,.aP b6)],J2,U⟩ (ak [] [] zS zS (by show nb<=J2.length;omega) (by show tb<=U.length;omega) Nj he) ?_;refine MN (N:=M) H T nb tb gL fZ b2 b4 b6 _ tv F J2 U ((b2,.cells [.sl 0 [] .full,.sl 0 [] .full,.sl 0 [] .full])::(R2++ep E)) jg YW hM afB afC sL hpU Nj GB l22 GA (by simp;omega) _ λe J3 U3 cv c1 c2 c3 c4 c5 c6 c7=>?_;have JT:=c3.le;have JS:=c4.le;have l23:b2<J3.length:=zO;have l43:b4<J3.length:=zO;have e4:=aZ (c2.get (i:=b4) (b:=.cells [.sl ids.length (ints ids) (.own td),tv,cv]) zS);refine ba _ (aF ⟨[(2,.ptr b2 0),(4,.ptr b4 0)],J3,U3⟩ (ak [] [] zS zS (by show nb<=J3.length;omega) (by show tb<=U3.length;omega) c5 (by simp at c7;simp[c7])) ?_);clear ba;have gg:∀X,Has (J3.set b2 X) ((b4,.cells [.sl ids.length (ints ids) (.own td),tv,cv])::(b6,.map (bT F))::(jt (fR 8 F)++((b2,X)::(R2++ep E)))):=λX=>by
   have:=Has.set (A:=(b4,.cells [.sl ids.length (ints ids) (.own td),tv,cv])::(b6,.map (bT F))::jt (fR 8 F)) (B:=R2++ep E) (b:=.cells [.sl 0 [] .full,.sl 0 [] .full,.sl 0 [] .full]) (zU c2) X;simpa using this
  have fz:∀X (dv' zB NI:AV),(dv'=.sl ids.length (ints ids) (.own td)\/dv'=.sl ids.length (ints ids) .none)->(zB=tv\/zB=cL tv)->(NI=cv\/NI=cL cv)->
    BQ H T (.dn [jh ⟨ids,cP L,dS L⟩,.int .i64 0]) (.dn [.agg [dv',zB,NI],.int .i64 0]) (J3.set b2 X) U3:=by
   intro X dv' zB NI hd ht hc;refine⟨c3.set j8 _,c4,gp.pair (.agg rfl λj hj=>?_) (.keep (.inl rfl) (.int _ _))⟩
   match j,hj with
   |0,_=>
    rcases hd with rfl|rfl
    ·exact .keep (.inr rfl) zS
    ·exact .keep (.inl rfl) zS
   |1,_=>
    show gp _ _ _ zB (.sl (cP L).length (dB (cP L)) .none);rcases Nv with⟨h0,rfl⟩|⟨rfl,hm,hi⟩
    ·have:cP L=[]:=by rw[<-VA,h0];simp[ik]
     rw[this];rcases ht with rfl|rfl
     ·exact .keep (.inr rfl) (by simp[tH])
     ·exact .keep (.inl rfl) (by simp[tH])
    ·have rI:∀e∈ik E,H.length<=e.i/\(J3.set b2 X)[e.i]?=some e.pq:=λe CU=>by
      have NB:=(jo E).mem_iff.1 CU;exact⟨(hBe e NB).i,(gg X).get (i:=e.i) (b:=e.pq) (by
       have:(e.i,e.pq)∈ep E:=ahz.2 ⟨e,NB,rfl⟩;simp[this])⟩
     have Rj:gp H.length T.length (J3.set b2 X) (.cV it 0 (ik E).length) (.sl (cP L).length (dB (cP L)) .none):=by
      have hn:(cP L).length=(ik E).length:=by rw[<-VA];simp
      rw[hn,<-VA];exact Ms (rest:=rest) hi ((gg X).get (by simp[hm])) rI
     rcases ht with rfl|rfl
     ·have hn:(cP L).length=(ik E).length:=by rw[<-VA];simp
      rw[hn,<-VA];exact Ib (rest:=rest) hi ((gg X).get (by simp[hm])) rI
     ·exact Rj
   |2,_=>
    show gp _ _ _ NI (.sl (dS L).length (dP (dS L)) .none);have hn:(dS L).length=(jK F 3).length:=by rw[<-hce];simp
    have hfc:∀tg,gp H.length T.length (J3.set b2 X) (.sl (jK F 3).length (wo (jK F 3)) tg) (.sl (dS L).length (dP (dS L)) .none):=λtg=>by
     rw[hn,<-hce];refine Qj λe CU=>?_;obtain⟨e0,h1,rfl,h2,h3⟩:=yg CU;have gO:(e0.i,Ef.pq (sO e0))∈jt (fR 8 F):=by
      refine ahz.2 ⟨sO e0,ahz.2 ⟨e0,h1,?_⟩,rfl⟩;rw[ahF zO]
     exact⟨(YW e0 h1).i,(gg X).get (i:=e0.i) (b:=Ef.pq (sO e0)) (by simp[gO])⟩
    rcases c1 with⟨h0,rfl⟩|⟨tc,rfl,_,_⟩
    ·have h1:=hfc .full;rw[h0] at h1;rcases hc with rfl|rfl
     ·exact h1
     ·have h2:=hfc .none;rw[h0] at h2;exact h2
    ·rcases hc with rfl|rfl
     ·exact hfc _
     ·exact hfc .none
  have e2:=aZ (c2.get (i:=b2) (b:=.cells [.sl 0 [] .full,.sl 0 [] .full,.sl 0 [] .full]) zS);apply ar;simp(disch:=omega)[e4,e2];refine aI ?_;exact fz _ _ _ _ (.inl rfl) (.inl rfl) (.inl rfl)
 rcases t2.h with⟨zL,rfl,rfl⟩|⟨it,cap,rest,rfl,rfl,g1,g2,g3,g4⟩
 ·have cs:=λH T tg=>HB H T tg;have hE0:E=[]:=by
   have:=t1.length_eq;rw[zL] at this;simp at this;exact ah9.1 this.symm
  apply ar;simp(disch:=omega)[e4];refine ai (cs _ _ _) ?_;refine zQ ?_;refine fin _ J1 0 0 0 [] [] ?_ (.inl ⟨hE0,rfl⟩) t4 t5 (ahv _) (by simp;omega);have h1:Has J1 ((b4,.cells [.sl ids.length (ints ids) (.own td),.sl 0 [] .full,.sl 0 [] .full])::(b2,.cells [.sl 0 [] .full,.sl 0 [] .full,.sl 0 [] .full])::(b6,.map (bT F))::(jt F++ep E)):=t3.sub (.cons_cons _ (.cons_cons _ (.cons_cons _ (aiw _ _))));refine h1.perm (List.Perm.cons _ ?_);exact(List.Perm.cons _ ajO).trans (List.Perm.swap _ _ _)
 ·have gi:=t3.get (i:=it) (b:=.cells (eK rows++rest)) zS;have lit:=(aht.1 gi).1;have aeV:rows≠[]:=λh=>by rw[h] at g4;simp at g4
  have hrn:rows.length=(ik E).length:=by
   have:=t1.length_eq;rw[ahL] at this;rw[this];exact(jo E).length_eq.symm
  have hrd:rows.Pairwise λx y=>x.1≠y.1:=by
   have h1:((E.map gh).map (·.1)).Nodup:=by
    have:(E.map gh).map (·.1)=E.map (·.k):=by simp[gh,Function.comp_def]
    rw[this];exact hBn
   have h2:=(t1.map (·.1)).nodup_iff.2 h1;rw[List.Nodup,aie] at h2;exact h2
  have zJ:rows.length<=1099511627776:=by
   rw[hrn,(jo E).length_eq];exact YS
  have cs:=λU=>Lk rows aeV hrd rest it cap zJ J1 U gi;rw[hsr] at cs;have jg:=Has.set (A:=[(b4,.cells [.sl ids.length (ints ids) (.own td),.bQ it rows.length cap,.sl 0 [] .full])]) (B:=(b2,.cells [.sl 0 [] .full,.sl 0 [] .full,.sl 0 [] .full])::(b6,.map (bT F))::(b5,.map (cO E))::(jt F++ep E)) (b:=.cells (eK rows++rest)) (zU t3) (.cells (eK ((ik E).map gh)++rest));have sL:=t4.set g3 (.cells (eK ((ik E).map gh)++rest));have jT:(J1.set it (.cells (eK ((ik E).map gh)++rest))).length=J1.length:=zS;apply ar;simp(disch:=omega)[e4];refine ai (cs _) ?_;refine zQ ?_;refine dE λeG=>?_;simp only at eG;refine fin _ _ it 0 cap rest [(it,.cells (eK ((ik E).map gh)++rest))] ?_ (.inr ⟨by rw[hrn],zS,g3⟩) sL eG zO (by simp;omega);have h1:Has (J1.set it (.cells (eK ((ik E).map gh)++rest))) ((b4,.cells [.sl ids.length (ints ids) (.own td),.bQ it rows.length cap,.sl 0 [] .full])::(it,.cells (eK ((ik E).map gh)++rest))::(b2,.cells [.sl 0 [] .full,.sl 0 [] .full,.sl 0 [] .full])::(b6,.map (bT F))::(jt F++ep E)):=jg.sub (.cons_cons _ (.cons_cons _ (.cons_cons _ (.cons_cons _ (aiw _ _)))));refine h1.perm (List.Perm.cons _ ?_);refine(List.Perm.cons _ (ajO.trans (List.Perm.cons _ ajO))).trans ?_;exact(List.Perm.swap _ _ _).trans ((List.Perm.cons _ (List.Perm.swap _ _ _)).trans (List.Perm.swap _ _ _))
theorem kS {n0 t0:Nat}{H:List aA}(x:Int):gp n0 t0 H (.dn [.agg [.sl 0 [] .full,.sl 0 [] .full,.sl 0 [] .full],.int .i64 x]) (.dn [jh bY,.int .i64 x]):=by
 refine gp.pair (.agg rfl λj hj=>?_) (.keep (.inl rfl) (.int _ _))
 match j,hj with
 |0,_=>exact .keep (.inr rfl) (by simp[bY])
 |1,_=>exact .keep (.inr rfl) (by simp[bY,tH])
 |2,_=>exact .keep (.inr rfl) (by simp[bY,Fg])
theorem qI {α:Type}[DecidableEq α]:∀{l m:List α},l.Nodup->(∀x∈l,x∈m)->l.length<=m.length
 |[],_,_,_=>ahE _
 |a::l,m,hn,h=>by
  have ⟨h1,h2⟩:=ajM.1 hn;have ha:=h a zS;have:=qI (m:=m.erase a) h2 λx hx=>by
   have dM:x≠a:=λe=>h1 (e▸hx);exact(List.mem_erase_of_ne dM).2 (h x (by simp[hx]))
  rw[List.length_erase_of_mem ha] at this;have:=List.length_pos_of_mem ha;simp;omega
theorem PH {L:List Dc}{E:List En}{F:List Ef}(h:sX L E F):E.length<=lG L:=by
 have one:∀{id:Int} {E E':List En} {l:List (Ky×Int)},oL id E l E'->(E.map (·.k)).Nodup->E'.length<=E.length+l.length:=by
  intro id E E' l h hn
  induction h with
  |nil=>simp
  |@snoc E1 E2 l k p h h2 ih=>
   have Bq:=h.nd hn;have h3:E2.length<=E1.length+1:=by
    have:=qI h2.nd (m:=k::E1.map (·.k)) λx hx=>by
     rcases (h2.ks x).1 hx with rfl|hx
     ·simp
     ·simp[hx]
    simpa using this
   simp;omega
 have nd:∀{L:List Dc} {E:List En} {F:List Ef},sX L E F->(E.map (·.k)).Nodup:=by
  intro L E F h
  induction h with
  |nil=>simp
  |snoc _ h1 _ ih=>exact h1.nd ih
 induction h with
 |nil=>simp
 |@snoc l d E E' F F' h h1 h2 ih=>
  have:=one h1 (nd h);rw[DV];have e:lG [d]=(eW d.zs).length:=by simp[lG]
  omega
theorem rj (l : List Dc) (hl : l.length <= 19) (hs : ∀ d ∈ l, pt d) (hn : ∀ d ∈ l, d.ns.length <= 1000000) (H : List aA) (T : au) (tg : Tag) :
    aq prog 68 [.sl l.length (aM l) tg] H T (Is (.dn [jh (dH l).1, .int .i64 (dH l).2]) H T) := by
  refine aq.bR ?_;refine aq.pF ?_;show aq prog _ _ H T (BQ H T _);have cl := λh H T => MQ l h (by omega) H T .none;have cl0 := λH T => Iu H T .none;have b0 : decide ((2000 : Int) < l.length) = false := ahy (by omega);have n0 : ¬ (2000 : Int) < l.length := by omega
  have GC : ¬ 2000 < l.length := by omega
  refine ah 152 [100104,100147,100166] Tryz.ntmps68 Tryz.func68 rfl (λ_ _ => Tryz.call68 _ _) (by simp) (λHO => ?_);have eu : bM (H ++ [.cells [.sl 0 [] .full, .sl 0 [] .full, .sl 0 [] .full]]) T := HO.snoc (by simp);refine aK λK hK => ?_; simp (disch := omega) [-getD_eq_getElem?_getD]; refine hK _ ?_; clear hK K;refine ae λK1 aN => ?_;refine aK λK hK => ?_; simp (disch := omega) [-getD_eq_getElem?_getD, b0, n0]; refine hK _ ?_; clear hK K;apply aB rfl;apply aj; simp (disch := omega) [-getD_eq_getElem?_getD];refine aN _ ?_; clear aN;have mid : ∀ (e : Env) (L : List Dc), rP l L -> bA (H.length + 1) T.length e [(0, .sl L.length (aM L) .none), (2, .ptr H.length 0)] ->
      AW ⟨prog, 192, 152, H.length, T.length, [100104, 100147, 100166]⟩ (dZ [1, 1, 1, 1] (Tryz.f68.body.getD .skip)) (pR prog Tryz.f68.results.toList (BQ H T (.dn [jh (dH l).1, .int .i64 (dH l).2]))) ⟨e, H ++ [.cells [.sl 0 [] .full, .sl 0 [] .full, .sl 0 [] .full]], T⟩ := by
    intro e L hL he
    conv => arg 2; whnf
    have hLl := hL.len;have Yv : ∀ d ∈ L, pt d := λd hd => hs d (hL.perm.mem_iff.1 hd);have afw : L.any (λd => !aU d) = l.any (λd => !aU d) := by
      rw [aj2, ai6, ai6];exact ⟨λ⟨d, h1, h2⟩ => ⟨d, hL.perm.mem_iff.1 h1, h2⟩, λ⟨d, h1, h2⟩ => ⟨d, hL.perm.mem_iff.2 h1, h2⟩⟩
    have cc := λH T => CI L (by have : (40 : Nat) <= maxLen := by decide
                                omega) Yv H T .none
    rw [afw] at cc;refine aF ⟨[(0, .sl L.length (aM L) .none), (2, .ptr H.length 0)], H ++ [.cells [.sl 0 [] .full, .sl 0 [] .full, .sl 0 [] .full]], T⟩ (ak [] [] (by simp) (by simp) (by simp) (by simp) eu (by simpa using he)) ?_;refine ae λK2 ba => ?_
    cases Bo : l.any (λd => !aU d) with
    | true =>
      rw [Bo] at cc
      have hF : dH l = (bY, 1) := by unfold dH; rw [ahC GC, ahF Bo]
      refine aK λK hK => ?_; simp (disch := omega) [-getD_eq_getElem?_getD]
      refine ai (cc _ _) ?_; simp (disch := omega) [-getD_eq_getElem?_getD]
      refine hK _ ?_; clear hK K
      apply aC rfl
      refine aK λK hK => ?_; simp (disch := omega) [-getD_eq_getElem?_getD]; refine hK _ ?_; clear hK K
      apply bu; simp (disch := omega) [-getD_eq_getElem?_getD]
      rw [hF]
      exact ⟨⟨_, rfl⟩, ⟨[], by simp⟩, kS 1⟩
    | false =>
      rw [Bo] at cc
      have lN : ∀ d ∈ l, aU d = true := λd hd => by
        have := ajm.1 Bo d hd;simpa using this
      have Ob : ∀ d ∈ L, aU d = true := λd hd => lN d (hL.perm.mem_iff.1 hd)
      refine aK λK hK => ?_; simp (disch := omega) [-getD_eq_getElem?_getD]
      refine ai (cc _ _) ?_; simp (disch := omega) [-getD_eq_getElem?_getD]
      refine hK _ ?_; clear hK K
      apply aB rfl
      apply aj; simp (disch := omega) [-getD_eq_getElem?_getD]
      refine ba _ ?_; clear ba
      refine aK λK hK => ?_; simp (disch := omega) [-getD_eq_getElem?_getD]; refine hK _ ?_; clear hK K
      refine Cs 1 0 (H ++ [.cells [.sl 0 [] .full, .sl 0 [] .full, .sl 0 [] .full]]) [.sl 0 [] .full, .sl 0 [] .full, .sl 0 [] .full] 0 [] (by omega) rfl (by simp) ?_
      refine aK λK hK => ?_; simp (disch := omega) [-getD_eq_getElem?_getD]; refine hK _ ?_; clear hK K
      refine aK λK hK => ?_; simp (disch := omega) [-getD_eq_getElem?_getD]; refine hK _ ?_; clear hK K
      refine dE λNo => ?_
      simp only at No
      have hDI : DI H T H.length (H.length + 1) (H.length + 2) (H.length + 3) T.length 0 0 (H ++ [.cells [.sl 0 [] .full, .sl 0 [] .full, .sl 0 [] .full], .cells [.sl 0 [] (.own T.length), .sl 0 [] .full, .sl 0 [] .full], .map [], .map []]) (T ++ [(0, 1)]) [] [] [] := by
        refine ⟨⟨by simp [jt, ep], λp hp => ?_⟩, ⟨by simp [kK], λp hp => ?_⟩, λe he => by simp at he, by simp, rfl, λe he => by simp at he, by simp, rfl, ⟨_, rfl⟩, ⟨_, rfl⟩, by simpa using No⟩
        · simp [jt, ep, bT, cO] at hp;rcases hp with rfl | rfl | rfl | rfl <;> simp
        · simp [kK] at hp;subst hp; simp
      refine aF ⟨[(0, .sl L.length (aM L) .none), (2, .ptr H.length 0), (4, .ptr (H.length + 1) 0), (5, .aP (H.length + 2)), (6, .aP (H.length + 3))], H ++ [.cells [.sl 0 [] .full, .sl 0 [] .full, .sl 0 [] .full], .cells [.sl 0 [] (.own T.length), .sl 0 [] .full, .sl 0 [] .full], .map [], .map []], T ++ [(0, 1)]⟩ (ak [] [] (by simp) (by simp) (by simp) (by simp) hDI.ok (by simp)) ?_
      have hW := yp L Ob
      have hM := yB L λd hd => hn d (hL.perm.mem_iff.1 hd)
      refine ae λK2 ba => ?_
      refine MB H T H.length T.length (ahv _) (ahv _) L H.length (H.length + 1) (H.length + 2) (H.length + 3) T.length _ _ hDI (by omega) (by omega) (by omega) (λd hd => by have := tF (cG (Ob d hd)).2.1; omega) (λd hd => Hs (Ob d hd) (Yv d hd)) (ahv _) (by omega) (by omega) (by omega) (ahv _) _ (λi h1 h2 h3 e J' U' q1 q2 q3 q4 q5 => ?_) λdM e J' U' E F r1 r2 r3 => ?_
      · have hF : dH l = (bY, 10) := by
          unfold dH;rw [ahC GC, ahC (by rw [Bo]; simp), ahF];exact λhh => JM h1 h2 h3 ((hL.perm.map _).nodup_iff.2 hh)
        have l2 := (aht.1 q3).1;have e2 := aZ q3;show pR _ _ _ .ret _;simp [-getD_eq_getElem?_getD, q1, q2, e2, l2];rw [hF];exact ⟨q4, q5, kS 10⟩
      · have zd := Bi hL.ord dM
        have nU := mJ zd;have we : (l.map (·.id)).Nodup := (hL.perm.map _).nodup_iff.1 nU;have hLs : L = dQ l := CG hL (eR l) we;have hF : dH l = (⟨L.map (·.id), cP L, dS L⟩, 0) := by
          unfold dH;rw [ahC GC, ahC (by rw [Bo]; simp), ahC (λhh => hh we), <- hLs]
        have CU := PH r2;have lH := r1.pJ.le;have lT := r1.pU.le;refine ba _ (aF ⟨[(2, .ptr H.length 0), (4, .ptr (H.length + 1) 0), (5, .aP (H.length + 2)), (6, .aP (H.length + 3))], J', U'⟩ (ak [] [] (by simp) (by simp) (by simpa using lH) (by simpa using lT) r1.ok (by simp at r3; simp [r3])) ?_);rw [hF];exact MT H T H.length T.length _ _ (ahv _) (ahv _) L _ _ _ _ _ E F J' U' r1 r2 zd (by omega) (by omega) (ahv _) (by omega)
  rcases Classical.em (l = []) with rfl | dM
  · have cs := λH T => FE 123 H T .none;refine aK λK hK => ?_; simp (disch := omega) [-getD_eq_getElem?_getD, oc];refine ai (cl0 _ _) ?_; simp (disch := omega) [-getD_eq_getElem?_getD];refine hK _ ?_; clear hK K;refine aK λK hK => ?_; simp (disch := omega) [-getD_eq_getElem?_getD];refine ai (cs _ _) ?_; simp (disch := omega) [-getD_eq_getElem?_getD];refine hK _ ?_; clear hK K;refine mid _ [] .nil ?_;simp [oc]
  · refine aK λK hK => ?_; simp (disch := omega) [-getD_eq_getElem?_getD];refine ⟨_, cl dM _ _, ?_⟩;rintro r H' T' ⟨rfl, k, rfl, rfl⟩;simp (disch := omega) [-getD_eq_getElem?_getD];refine hK _ ?_; clear hK K;have fe := yu Ub l (λ_ _ => trivial) (List.replicate k .top) (H.length + 1) hl (H ++ [.cells [.sl 0 [] .full, .sl 0 [] .full, .sl 0 [] .full], .cells (aM l ++ List.replicate k .top)]) T' (by simp) (by simp);refine aK λK hK => ?_; simp (disch := omega) [-getD_eq_getElem?_getD];refine ⟨_, fe, ?_⟩;rintro r H2 T2 ⟨rfl, rfl, L, rfl, hL⟩;simp (disch := omega) [-getD_eq_getElem?_getD];refine hK _ ?_; clear hK K;rw [show H ++ [aA.cells [.sl 0 [] .full, .sl 0 [] .full, .sl 0 [] .full], .cells (aM L ++ List.replicate k .top)] = (H ++ [.cells [.sl 0 [] .full, .sl 0 [] .full, .sl 0 [] .full]]) ++ [.cells (aM L ++ List.replicate k .top)] by simp];have hlL := hL.len;rw [<- ahS T2];refine O0 (H := H ++ [.cells [.sl 0 [] .full, .sl 0 [] .full, .sl 0 [] .full]]) (T := T2) (e' := [(0, .sl L.length (aM L) .none), (2, .ptr H.length 0)]) ?_ ?_ eu ?_ ?_
    · simp
    · simp
    · rw [hlL];exact ⟨gp.NO (rest := List.replicate k .top) (by simp) (by simp) (by simp), gp.same (by simp), trivial⟩
    · rw [ahS];exact mid [(0, .sl L.length (aM L) .none), (2, .ptr H.length 0)] L hL (by simp)
end Go.Proofs.YtoejlmpbebjemaaGreat
