/- segment.Build (layer 39): what comes out of the maps, as a plain function of the documents. segment.Build (layer 39): the whole. segment.Build (layer 39): the contract.
  Conditions: lengths below 400 or 1000, as each theorem says. -/
import Derived.Test.YtoejlmpbebjemaaGreatGBB
set_option linter.all false
set_option maxRecDepth 100000
set_option maxHeartbeats 16000000
open List (getD_eq_getElem?_getD getElem_inj)
namespace eT
open im
def kW (k:Ky):List Ky->List Ky
 |[]=>[k]
 |x::r=>if bP x k=true then x::kW k r else if bP k x=true then k::x::r else x::r
def nD (k:Nm):List Nm->List Nm
 |[]=>[k]
 |x::r=>if dh x k=true then x::nD k r else k::x::r
def o8 (d:Dc):List Dc->List Dc
 |[]=>[d]
 |x::r=>if x.id<=d.id then x::o8 d r else d::x::r
def ep (l:List Dc):List Dc:=l.foldl (λa d=>o8 d a) []
def dz (l:List Nm):List Nm:=l.foldl (λa d=>nD d a) []
def dL (L:List Dc):List Ky:=(L.flatMap λd=>(eW d.zs).map (·.1)).foldl (λa k=>kW k a) []
def iX (d:Dc)(k:Ky):List Int:=((eW d.zs).filter λw=>w.1==k).map (·.2)
def CM (d:Dc)(k:Ky):List Ps:=if iX d k=[] then [] else [(d.id,iX d k)]
def dg (L:List Dc)(k:Ky):List Ps:=L.flatMap λd=>CM d k
def cC (L:List Dc):List Tm:=(dL L).map λk=>⟨k.1,k.2,dg L k⟩
def fL (L:List Dc)(f:Int):List Nm:=L.flatMap λd=>(d.ns.filter λx=>x.1==f).map λx=>(x.2,d.id)
def nF (L:List Dc)(f:Int):List Cl:=if fL L f=[] then [] else [⟨f,dz (fL L f)⟩]
def dM (L:List Dc):List Cl:=nF L 5++nF L 6++nF L 7
def cZ (l:List Dc):Sg×Int:=
 if 2000<l.length then (bR,3) else if l.any (λd=>!aR d)=true then (bR,1)
 else if ¬(l.map (·.id)).Nodup then (bR,10) else (⟨(ep l).map (·.id),cC (ep l),dM (ep l)⟩,0)
theorem AA (d:Dc)(l:List Dc):(o8 d l).Perm (d::l):=by
 induction l with
 |nil=>exact .refl _
 |cons x r ih=>
  unfold o8
  split
  ·exact(ih.cons x).trans (.swap _ _ _)
  ·exact .refl _
theorem Qs (d:Dc){l:List Dc}(h:l.Pairwise λx y=>x.id<=y.id):(o8 d l).Pairwise λx y=>x.id<=y.id:=by
 induction l with
 |nil=>simp[o8]
 |cons x r ih=>
  have ⟨h1,h2⟩:=aie.1 h;unfold o8
  split
  ·rename_i hx;refine aie.2 ⟨λy hy=>?_,ih h2⟩;rcases ahL.1 ((AA d r).mem_iff.1 hy) with rfl|hy
   ·exact hx
   ·exact h1 y hy
  ·rename_i hx;refine aie.2 ⟨λy hy=>?_,h⟩;rcases ahL.1 hy with rfl|hy
   ·omega
   ·have:=h1 y hy;omega
theorem gh (l:List Dc):rk l (ep l):=by
 have key:∀(l a:List Dc),(a.Pairwise λx y=>x.id<=y.id)->(l.foldl (λa d=>o8 d a) a).Perm (l++a)/\(l.foldl (λa d=>o8 d a) a).Pairwise λx y=>x.id<=y.id:=by
  intro l
  induction l with
  |nil=>intro a h;exact⟨.refl _,h⟩
  |cons d r ih=>
   intro a h;obtain⟨h1,h2⟩:=ih (o8 d a) (Qs d h);refine⟨h1.trans ?_,h2⟩;exact((AA d a).append_left r).trans ajC
 obtain⟨h1,h2⟩:=key l [] .nil;rw[ahH] at h1;exact⟨h1,h2⟩
def Cr {l a b:List Dc}(ha:rk l a)(hb:rk l b)(hn:(l.map (·.id)).Nodup):a=b:=by
 refine List.Perm.eq_of_pairwise (le:=λx y=>x.id<=y.id) ?_ ha.ord hb.ord (ha.perm.trans hb.perm.symm);intro x y hx hy h1 h2;have NC:=ha.perm.mem_iff.1 hx;have hy':=hb.perm.mem_iff.1 hy;have e:x.id=y.id:=by omega
 obtain⟨i,hi,e1⟩:=ahB.1 NC;obtain⟨j,hj,e2⟩:=ahB.1 hy';have hij:i=j:=(getElem_inj (xs:=l.map (·.id)) (h₀:=by simpa using hi) (h₁:=by simpa using hj) hn).1 (by simp[e1,e2,e]);subst hij;rw[<-e1,<-e2]
def A5 {L:List Dc}(h:L.Pairwise λx y=>x.id<=y.id)(ha:∀i,0<i->i<L.length->(L.getD (i-1) d0).id≠(L.getD i d0).id):L.Pairwise λx y=>x.id<y.id:=by
 rw[ahN] at h ⊢;intro i j hi hj hij;have h1:=ha (i+1) (by omega) (by omega);rw[show i+1-1=i by omega,ahg,ahg,ahi hi,ahi (by omega:i+1<L.length)] at h1;simp only[aiU] at h1;have h2:=h i (i+1) hi (by omega) (by omega);rcases Nat.eq_or_lt_of_le (Nat.succ_le_of_lt hij) with e|e
 ·have e':j=i+1:=by omega
  subst e';omega
 ·have:=h (i+1) j (by omega) hj e;omega
def mn {L:List Dc}(h:L.Pairwise λx y=>x.id<y.id):(L.map (·.id)).Nodup:=by
 rw[List.Nodup,ahY];exact h.imp λhab=>by omega
def J9 {L:List Dc}{i:Nat}(h0:0<i)(hi:i<L.length)(h:(L.getD (i-1) d0).id=(L.getD i d0).id):¬(L.map (·.id)).Nodup:=by
 intro hn;have h1:i-1<L.length:=by omega
 rw[ahg,ahg,ahi hi,ahi h1] at h;have:=(getElem_inj (xs:=L.map (·.id)) (h₀:=by simpa using h1) (h₁:=by simpa using hi) hn).1 (by simpa using h);omega
theorem Ez (k:Ky)(l:List Ky)(x:Ky):x∈kW k l↔x=k\/x∈l:=by
 induction l with
 |nil=>simp[kW]
 |cons y r ih=>
  unfold kW
  split
  ·rw[ahL,ih,ahL]
   constructor
   ·rintro (h|h|h)<;>simp[h]
   ·rintro (h|h|h)<;>simp[h]
  ·rename_i h1
   split
   ·simp
   ·rename_i h2;have:y=k:=mw (by simpa using h1) (by simpa using h2);subst this;simp
theorem Qr (k:Ky){l:List Ky}(h:l.Pairwise λx y=>bP x y=true):(kW k l).Pairwise λx y=>bP x y=true:=by
 induction l with
 |nil=>simp[kW]
 |cons y r ih=>
  have ⟨h1,h2⟩:=aie.1 h;unfold kW
  split
  ·rename_i hy;refine aie.2 ⟨λz hz=>?_,ih h2⟩;rcases (Ez k r z).1 hz with rfl|hz
   ·exact hy
   ·exact h1 z hz
  ·split
   ·rename_i hy;refine aie.2 ⟨λz hz=>?_,h⟩;rcases ahL.1 hz with rfl|hz
    ·exact hy
    ·exact ic hy (h1 z hz)
   ·exact h
theorem Vo {l:List Ky}:∀{a:List Ky},(a.Pairwise λx y=>bP x y=true)->((l.foldl (λa k=>kW k a) a).Pairwise λx y=>bP x y=true)/\∀x,x∈l.foldl (λa k=>kW k a) a↔x∈l\/x∈a:=by
 induction l with
 |nil=>intro a h;exact⟨h,by simp⟩
 |cons k r ih=>
  intro a h;obtain⟨h1,h2⟩:=ih (Qr k h);refine⟨h1,λx=>?_⟩;rw[aiR,h2,Ez,ahL]
  constructor
  ·rintro (h|h|h)<;>simp[h]
  ·rintro ((h|h)|h)<;>simp[h]
def qy (L:List Dc):(dL L).Pairwise λx y=>bP x y=true:=(Vo .nil).1
def nX (L:List Dc)(k:Ky):k∈dL L↔∃d∈L,∃p,(k,p)∈eW d.zs:=by
 unfold dL;rw[(Vo .nil).2];simp
def Ie {a b:List Ky}(ha:a.Pairwise λx y=>bP x y=true)(hb:b.Pairwise λx y=>bP x y=true)(h:∀x,x∈a↔x∈b):a=b:=by
 have nd:∀{l:List Ky},(l.Pairwise λx y=>bP x y=true)->l.Nodup:=λh=>h.imp λ{x y} Gl=>by
  rintro rfl;rw[jo] at Gl;cases Gl
 refine List.Perm.eq_of_pairwise (le:=λx y=>bP x y=true) ?_ ha hb ((List.perm_ext_iff_of_nodup (nd ha) (nd hb)).2 h);intro x y _ _ h1 h2;have:=ic h1 h2;rw[jo] at this;cases this
theorem Az (k:Nm)(l:List Nm):(nD k l).Perm (k::l):=by
 induction l with
 |nil=>exact .refl _
 |cons x r ih=>
  unfold nD
  split
  ·exact(ih.cons x).trans (.swap _ _ _)
  ·exact .refl _
theorem r9 {a b:Nm}(h:dh a b=true):dh b a=false:=by
 cases h2:dh b a with
 |false=>rfl
 |true=>have:=rZ h h2;rw[vz] at this;cases this
theorem Ey (k:Nm){l:List Nm}(h:l.Pairwise λx y=>dh y x=false):(nD k l).Pairwise λx y=>dh y x=false:=by
 induction l with
 |nil=>simp[nD]
 |cons x r ih=>
  have ⟨h1,h2⟩:=aie.1 h;unfold nD
  split
  ·rename_i hx;refine aie.2 ⟨λy hy=>?_,ih h2⟩;rcases ahL.1 ((Az k r).mem_iff.1 hy) with rfl|hy
   ·exact r9 hx
   ·exact h1 y hy
  ·rename_i hx;refine aie.2 ⟨λy hy=>?_,h⟩;rcases ahL.1 hy with rfl|hy
   ·simpa using hx
   ·exact qb (h1 y hy) (by simpa using hx)
theorem Ay (l:List Nm):dz l=pB l:=by
 have key:∀(l a:List Nm),(a.Pairwise λx y=>dh y x=false)->(l.foldl (λa d=>nD d a) a).Perm (l++a)/\(l.foldl (λa d=>nD d a) a).Pairwise λx y=>dh y x=false:=by
  intro l
  induction l with
  |nil=>intro a h;exact⟨.refl _,h⟩
  |cons d r ih=>
   intro a h;obtain⟨h1,h2⟩:=ih (nD d a) (Ey d h);exact⟨h1.trans (((Az d a).append_left r).trans ajC),h2⟩
 obtain⟨h1,h2⟩:=key l [] .nil;have h3:(pB l).Pairwise λx y=>dh y x=false:=by
  have:=ajc (le:=λx y=>!(dh y x)) (λa b c h1 h2=>by
   rw[ajM] at h1 h2 ⊢;exact qb h2 h1) (λa b=>by
   cases h:dh b a with
   |false=>rfl
   |true=>rw[r9 h];rfl) l
  exact this.imp λh=>by simpa using h
 refine List.Perm.eq_of_pairwise (le:=λx y=>dh y x=false) (λx y _ _ h1 h2=>r8 h2 h1) h2 h3 ?_;have:(l.foldl (λa d=>nD d a) []).Perm l:=by simpa using h1
 exact this.trans (ajl _ _).symm
end eT
namespace Go.Proofs.YtoejlmpbebjemaaGreat
open Go Go.Am im eT
theorem Ts {id:Int}{E E':List En}{l:List (Ky×Int)}(h:ou id E l E')(k:Ky):Re E' k=l.foldl (λa w=>if w.1=k then wY a id w.2 else a) (Re E k):=by
 induction h with
 |nil=>rfl
 |@snoc E1 E2 l k' p h h2 ih=>
  rw[ai0,<-ih,h2.lk k];simp only[aiR,List.foldl_nil]
  by_cases hk:k=k'
  ·subst hk;simp
  ·rw[ahq hk,ahq (Ne.symm hk)]
theorem Tt {id:Int}{E E':List En}{l:List (Ky×Int)}(h:ou id E l E')(k:Ky):k∈E'.map (·.k)↔k∈E.map (·.k)\/∃p,(k,p)∈l:=by
 induction h with
 |nil=>simp
 |@snoc E1 E2 l k' p h h2 ih=>
  rw[h2.ks,ih]
  constructor
  ·rintro (rfl|h|⟨q,h⟩)
   ·exact .inr ⟨p,by simp⟩
   ·exact .inl h
   ·exact .inr ⟨q,by simp[h]⟩
  ·rintro (h|⟨q,h⟩)
   ·exact .inr (.inl h)
   ·rcases ahw.1 h with h|h
    ·exact .inr (.inr ⟨q,h⟩)
    ·simp at h;exact .inl h.1
theorem Tr {F F':List Ef}{l:List (Int×Nm)}(h:sI F l F')(f:Int):RL F' f=RL F f++(l.filter λx=>x.1==f).map (·.2):=by
 induction h with
 |nil=>simp
 |@snoc E1 E2 l k' p h h2 ih=>
  rw[h2.lk f,ah8,ahx,<-List.append_assoc,<-ih]
  by_cases hk:f=k'
  ·subst hk;simp
  ·rw[ahq hk,aiq (by simpa using Ne.symm hk)];simp
theorem Qz (id:Int)(k:Ky):∀(l:List (Ky×Int)) (a:List Ps),(∀q∈a,q.1≠id)->l.foldl (λa w=>if w.1=k then wY a id w.2 else a) a=a++(if (l.filter λw=>w.1==k)=[] then [] else [(id,(l.filter λw=>w.1==k).map (·.2))]):=by
 have two:∀(l:List (Ky×Int)) (a:List Ps) (at_:List Int),l.foldl (λa w=>if w.1=k then wY a id w.2 else a) (a++[(id,at_)])=a++[(id,at_++(l.filter λw=>w.1==k).map (·.2))]:=by
  intro l
  induction l with
  |nil=>intro a at_;simp
  |cons w r ih=>
   intro a at_;rw[aiR]
   by_cases hw:w.1=k
   ·rw[ahs hw,qK,ahs rfl,ih,aiw (by simpa using hw)];simp
   ·rw[ahq hw,ih,aiq (by simpa using hw)]
 intro l
 induction l with
 |nil=>intro a _;simp
 |cons w r ih=>
  intro a ha;rw[aiR]
  by_cases hw:w.1=k
  ·have h1:wY a id w.2=a++[(id,[w.2])]:=by
    rcases List.eq_nil_or_concat a with rfl|⟨b,q,rfl⟩
    ·rfl
    ·obtain⟨q1,q2⟩:=q;rw[List.concat_eq_append,qK,ahq (ha (q1,q2) (by simp))]
   rw[ahs hw,h1,two,aiw (by simpa using hw)];simp
  ·rw[ahq hw,ih a ha,aiq (by simpa using hw)]
theorem To {L:List Dc}{E:List En}{F:List Ef}(h:sH L E F)(hs:L.Pairwise λx y=>x.id<y.id)(k:Ky):Re E k=dg L k:=by
 induction h with
 |nil=>rfl
 |@snoc l d E E' F F' h h1 h2 ih=>
  rw[ai3] at hs;have hi:=ih hs.1;rw[Ts h1 k,hi,Qz d.id k _ _ (λq hq=>?_)]
  ·have Zq:iX d k=[]↔((eW d.zs).filter λw=>w.1==k)=[]:=by simp only[iX,List.map_eq_nil_iff]
   have hp:dg (l++[d]) k=dg l k++CM d k:=by simp[dg]
   rw[hp,CM]
   by_cases hh:((eW d.zs).filter λw=>w.1==k)=[]
   ·rw[ahs hh,ahs (Zq.2 hh)]
   ·rw[ahq hh,ahq (λx=>hh (Zq.1 x))];rfl
  ·obtain⟨x,hx,hq⟩:=ah1.1 hq;have:=hs.2.2 x hx d (by simp);unfold CM at hq
   split at hq
   ·simp at hq
   ·simp at hq;rw[hq];simp only;omega
theorem Tq {L:List Dc}{E:List En}{F:List Ef}(h:sH L E F)(k:Ky):k∈E.map (·.k)↔∃d∈L,∃p,(k,p)∈eW d.zs:=by
 induction h with
 |nil=>simp
 |@snoc l d E E' F F' h h1 h2 ih=>
  rw[Tt h1,ih];simp only[ahw,ah0]
  constructor
  ·rintro (⟨x,hx,hp⟩|hp)
   ·exact⟨x,.inl hx,hp⟩
   ·exact⟨d,.inr rfl,hp⟩
  ·rintro⟨x,hx|rfl,hp⟩
   ·exact .inl ⟨x,hx,hp⟩
   ·exact .inr hp
theorem Tp {L:List Dc}{E:List En}{F:List Ef}(h:sH L E F)(f:Int):RL F f=fL L f:=by
 induction h with
 |nil=>rfl
 |@snoc l d E E' F F' h h1 h2 ih=>
  rw[Tr h2,ih];simp[fL,Dg,List.filter_map,Function.comp_def]
def Qn {E:List En}(hn:(E.map (·.k)).Nodup){e:En}(he:e∈E):Re E e.k=e.pl:=by
 obtain⟨E1,E2,rfl⟩:=ajF he;unfold Re;rw[pT hn,ahs rfl]
def gY (E:List En):List En:=E.mergeSort λx y=>!(bP y.k x.k)
def jc (E:List En):(gY E).Perm E:=ajl _ _
def uL (a b c:Ky)(h1:(!(bP b a))=true)(h2:(!(bP c b))=true):(!(bP c a))=true:=by
 rw[ajM] at h1 h2 ⊢;exact vB h2 h1
theorem uM (a b:Ky):((!(bP b a))||(!(bP a b)))=true:=by
 cases h:bP b a with
 |false=>rfl
 |true=>rw[Ig h];rfl
theorem Lz {E:List En}(hn:(E.map (·.k)).Nodup):((gY E).map (·.k)).Pairwise λx y=>bP x y=true:=by
 have h1:=ajc (le:=λx y:En=>!(bP y.k x.k)) (λa b c=>uL _ _ _) (λa b=>uM _ _) E;have h2:((gY E).map (·.k)).Nodup:=((jc E).map _).nodup_iff.2 hn;rw[ahY];rw[List.Nodup,ahY] at h2;refine(List.Pairwise.and h1 h2).imp λ{a b} hab=>?_;obtain⟨g1,g2⟩:=hab
 cases h3:bP a.k b.k with
 |true=>rfl
 |false=>exact absurd (mw h3 (by simpa using g1)) g2
def Hu {E:List En}(hn:(E.map (·.k)).Nodup){rows:List (Ky×AV)}(hp:rows.Perm (E.map fZ)):I5 rows=(gY E).map fZ:=by
 have hk:∀{l:List (Ky×AV)},l.Perm (E.map fZ)->(l.map (·.1)).Nodup:=λh=>(h.map _).nodup_iff.2 (by
  have:(E.map fZ).map (·.1)=E.map (·.k):=by simp[fZ,Function.comp_def]
  rw[this];exact hn)
 have p1:(I5 rows).Perm (E.map fZ):=(ajl _ _).trans hp;have p2:((gY E).map fZ).Perm (E.map fZ):=(jc E).map _;have o1:(I5 rows).Pairwise λx y=>(!(bP y.1 x.1))=true:=ajc (le:=λx y:Ky×AV=>!(bP y.1 x.1)) (λa b c=>uL _ _ _) (λa b=>uM _ _) rows;have o2:((gY E).map fZ).Pairwise λx y=>(!(bP y.1 x.1))=true:=by
  rw[ahY];exact ajc (le:=λx y:En=>!(bP y.k x.k)) (λa b c=>uL _ _ _) (λa b=>uM _ _) E
 refine List.Perm.eq_of_pairwise (le:=λx y=>(!(bP y.1 x.1))=true) ?_ o1 o2 (p1.trans p2.symm);intro x y hx hy h1 h2;have e:x.1=y.1:=mw (by simpa using h2) (by simpa using h1);have NC:=p1.mem_iff.1 hx;have hy':=p2.mem_iff.1 hy;obtain⟨i,hi,e1⟩:=ahB.1 NC;obtain⟨j,hj,e2⟩:=ahB.1 hy';have hij:i=j:=(getElem_inj (xs:=(E.map fZ).map (·.1)) (h₀:=by simpa using hi) (h₁:=by simpa using hj) (hk (.refl _))).1 (by
  simp only[aia] at e1 e2 ⊢;rw[e1,e2,e])
 subst hij;rw[<-e1,<-e2]
def Pq {L:List Dc}{E:List En}{F:List Ef}(h:sH L E F)(hs:L.Pairwise λx y=>x.id<y.id)(hn:(E.map (·.k)).Nodup):(gY E).map (λe=>(⟨e.k.1,e.k.2,e.pl⟩:Tm))=cC L:=by
 have hk:(gY E).map (·.k)=dL L:=Ie (Lz hn) (qy L) λx=>by
  rw[nX,<-Tq h];exact((jc E).map _).mem_iff
 unfold cC;rw[<-hk,ain];refine ahW λe he=>?_;have:=Qn hn ((jc E).mem_iff.1 he);rw[To h hs] at this;simp[this]
theorem Ui {L:List Dc}{E:List En}{F:List Ef}(h:sH L E F)(hp:∀e∈F,0<e.x.length):(jy F 3).map (λe=>(⟨e.f,e.x⟩:Cl))=dM L:=by
 have one:∀g:Nat,(match F.find? (λe=>e.f==(5+g:Int)) with|some e=>[(⟨(sA e).f,(sA e).x⟩:Cl)]|none=>[])=nF L (5+g):=by
  intro g;have hlf:=Tp h (5+g);unfold RL at hlf;unfold nF;rw[<-hlf]
  cases hf:F.find? (λe=>e.f==(5+g:Int)) with
  |none=>simp
  |some e=>
   have h1:=ajA hf;have h2:=hp e (aiu hf);have h3:e.f=5+g:=by simpa using h1
   simp only;rw[ahq (by intro hh;rw[hh] at h2;simp at h2),Ay];simp[sA,h3]
 have o0:=one 0;have o1:=one 1;have o2:=one 2;unfold dM;rw[show (5:Int)=5+((0:Nat):Int) by rfl,show (6:Int)=5+((1:Nat):Int) by rfl,show (7:Int)=5+((2:Nat):Int) by rfl,<-o0,<-o1,<-o2];simp only[jy]
 cases F.find? (λe=>e.f==(5+((0:Nat):Int)))<;>cases F.find? (λe=>e.f==(5+((1:Nat):Int)))<;>cases F.find? (λe=>e.f==(5+((2:Nat):Int)))<;>simp
end Go.Proofs.YtoejlmpbebjemaaGreat
namespace eT
open im
def bZ {d:Dc}(h:aR d=true):(1<=d.id/\d.id<=1000000000)/\(∀i,i<d.zs.length->mJ d.zs i=true)/\∀i,i<d.ns.length->qR d.ns i=true:=by
 unfold aR at h;simp only[aht,ahv] at h;exact⟨h.1,λi hi=>oC h.2.1 hi,λi hi=>oC h.2.2 hi⟩
def fO {zs:List Zn}{i:Nat}(h:mJ zs i=true):iF zs i<(zs.getD i z0).f/\(zs.getD i z0).f<=4/\(zs.getD i z0).ws.length≠0/\∀k,k<(zs.getD i z0).ws.length->o7 (zs.getD i z0).ws k=true:=by
 unfold mJ at h;simp only[aht,ahv] at h;exact⟨h.1.1,h.1.2,h.2.1,λk hk=>oC h.2.2 hk⟩
def mv {ws:List Wd}{k:Nat}(h:o7 ws k=true):okW (ws.getD k w0).1=true/\iN ws k<(ws.getD k w0).2/\(ws.getD k w0).2<=1000000:=by
 unfold o7 at h;simp only[aht,ahv] at h;exact⟨h.1,h.2.1,h.2.2⟩
theorem uw {ws:List Wd}(h:∀k,k<ws.length->o7 ws k=true):∀k,k<ws.length->(k:Int)<=(ws.getD k w0).2
 |0,hk=>by have:=(mv (h 0 hk)).2.1;unfold iN at this;rw[ahs rfl] at this;omega
 |k+1,hk=>by
  have h1:=uw h k (by omega);have h2:=(mv (h (k+1) hk)).2.1;unfold iN at h2;rw[ahq (by omega),aiP] at h2;omega
def DK {ws:List Wd}(h:∀k,k<ws.length->o7 ws k=true):ws.length<=1000001:=by
 rcases ahR ws.length with h0|h0
 ·omega
 ·have h1:=uw h (ws.length-1) (by omega);have h2:=(mv (h (ws.length-1) (by omega))).2.2;omega
theorem kq {zs:List Zn}(h:∀k,k<zs.length->mJ zs k=true):∀k,k<zs.length->(k:Int)+1<=(zs.getD k z0).f
 |0,hk=>by have:=(fO (h 0 hk)).1;unfold iF at this;rw[ahs rfl] at this;omega
 |k+1,hk=>by
  have h1:=kq h k (by omega);have h2:=(fO (h (k+1) hk)).1;unfold iF at h2;rw[ahq (by omega),aiP] at h2;omega
def tn {zs:List Zn}(h:∀k,k<zs.length->mJ zs k=true):zs.length<=4:=by
 rcases ahR zs.length with h0|h0
 ·omega
 ·have h1:=kq h (zs.length-1) (by omega);have h2:=(fO (h (zs.length-1) (by omega))).2.1;omega
theorem Hm {d:Dc}(h:aR d=true):(eW d.zs).length<=4000004:=by
 obtain⟨_,h2,_⟩:=bZ h;have h4:=tn h2;have:∀zs:List Zn,(∀z∈zs,z.ws.length<=1000001)->(eW zs).length<=zs.length*1000001:=by
  intro zs
  induction zs with
  |nil=>intro _;simp[eW]
  |cons z r ih=>
   intro hz;have h1:=ih λy hy=>hz y (by simp[hy]);have h2:=hz z (by simp);have e:eW (z::r)=o6 z.f z.ws++eW r:=by simp[eW]
   rw[e,ahk,ahS];have:(o6 z.f z.ws).length=z.ws.length:=by simp[o6]
   omega
 have h5:=this d.zs λz hz=>by
  obtain⟨i,hi,e⟩:=Go.Am.bH z0 hz;have:=DK (fO (h2 i hi)).2.2.2;rw[e] at this;exact this
 omega
end eT
namespace Go.Proofs.YtoejlmpbebjemaaGreat
open Go.Proofs.Tryz(prog)
open Go Go.Am im eT
def Hl {d:Dc}(h:aR d=true)(hs:o5 d):OG d:=by
 obtain⟨_,h2,h3⟩:=bZ h;refine⟨λz hz=>⟨?_,(hs.w z hz).2⟩,λx hx=>?_⟩
 ·obtain⟨i,hi,e⟩:=bH z0 hz;have h4:=kq h2 i hi;have h5:=(fO (h2 i hi)).2.1;rw[e] at h4 h5;omega
 ·obtain⟨i,hi,e⟩:=bH n0 hx;have:=h3 i hi;unfold qR vQ at this;simp only[aht,ahv] at this;rw[e] at this;omega
theorem yb:∀l:List Dc,(∀d∈l,aR d=true)->kR l<=l.length*4000004
 |[],_=>by simp[kR]
 |d::r,h=>by
  have h1:=yb r λx hx=>h x (by simp[hx]);have h2:=Hm (h d (by simp));have:kR (d::r)=(eW d.zs).length+kR r:=by simp[kR]
  rw[this,ahS];omega
theorem yl:∀l:List Dc,(∀d∈l,d.ns.length<=1000000)->mX l<=l.length*1000000
 |[],_=>by simp[mX]
 |d::r,h=>by
  have h1:=yl r λx hx=>h x (by simp[hx]);have h2:=h d (by simp);have:mX (d::r)=d.ns.length+mX r:=by simp[mX]
  rw[this,ahS];omega
theorem kj {α:Type}{fa fb:α->List AV}{k n0 t0:Nat}{H:List az}(ha:eu fa k)(hb:eu fb k):∀(l:List α) (h:∀x∈l,∀j,j<k->gj n0 t0 H ((fa x).getD j .top) ((fb x).getD j .top)) (rest:List AV) (j:Nat) (hj:j<(l.flatMap fb).length),gj n0 t0 H ((l.flatMap fa++rest).getD j .top) ((l.flatMap fb)[j]'hj)
 |[],_,_,j,hj=>by simp at hj
 |x::r,h,rest,j,hj=>by
  have hx:=h x (by simp)
  by_cases hjk:j<k
  ·have e1:((x::r).flatMap fa++rest).getD j .top=(fa x).getD j .top:=by
    rw[ahy,ahA,ahg,ahg,ahp (by rw[ha];exact hjk)]
   have e2:((x::r).flatMap fb)[j]'hj=(fb x).getD j .top:=by
    have:j<(fb x).length:=by rw[hb];exact hjk
    simp only[ahy];rw[aiz this,ahg,ahi this];rfl
   rw[e1,e2];exact hx j hjk
  ·have hl:((x::r).flatMap fb).length=k+(r.flatMap fb).length:=by rw[ahy,ahk,hb]
   have ih:=kj ha hb r (λy hy=>h y (by simp[hy])) rest (j-k) (by omega);have e1:((x::r).flatMap fa++rest).getD j .top=(r.flatMap fa++rest).getD (j-k) .top:=by
    rw[ahy,ahA,ahg,ahg,ahC (by rw[ha];omega),ha]
   have e2:((x::r).flatMap fb)[j]'hj=(r.flatMap fb)[j-k]'(by omega):=by
    simp only[ahy];rw[ajn (by rw[hb];omega)];simp only[hb x]
   rw[e1,e2];exact ih
theorem EG {n0 t0:Nat}{H:List az}{e:En}(hi:n0<=e.i)(hH:H[e.i]?=some e.blk):gj n0 t0 H (.cK e.i 0 e.n) (.sl e.pl.length (bA e.pl) .none):=by
 have hn:e.n=e.pl.length:=by simp[En.n,En.pl]
 have tV:bA e.pl=(e.dZ++[((e.d,e.at_),Tag.own e.tk)]).flatMap λx=>psC x.1:=by simp[En.pl,bA,aix]
 have Nl:e.blk=.cells ((e.dZ++[((e.d,e.at_),Tag.own e.tk)]).flatMap pwC++e.rest):=by
  unfold En.blk gX lP jN;simp
 rw[Nl] at hH;rw[hn,tV];refine .cK hi hH ?_ λj hj=>?_
 ·rw[ahk,bU (f:=λx:Ps×Tag=>psC x.1) (k:=2) (λ_=>rfl),bU BM];omega
 ·rw[aiv];refine kj (fa:=pwC) (fb:=λx=>psC x.1) BM (λ_=>rfl) _ (λx _ j hj=>?_) e.rest j hj
  match j,hj with
  |0,_=>exact .keep (.inl rfl) (.int _ _)
  |1,_=>exact .keep (.inr rfl) (by simp)
theorem My {n0 t0:Nat}{H:List az}{l:List En}{it n:Nat}{rest:List AV}(hit:n0<=it)(hH:H[it]?=some (.cells (eM (l.map fZ)++rest)))(he:∀e∈l,n0<=e.i/\H[e.i]?=some e.blk):gj n0 t0 H (.cK it 0 n) (.sl n (dx (l.map λe=>(⟨e.k.1,e.k.2,e.pl⟩:Tm))) .none):=by
 have h1:eM (l.map fZ)=l.flatMap λe=>Q9 (fZ e):=by simp[eM,aix]
 have h2:dx (l.map λe=>(⟨e.k.1,e.k.2,e.pl⟩:Tm))=l.flatMap λe=>ph ⟨e.k.1,e.k.2,e.pl⟩:=by simp[dx,aix]
 rw[h1] at hH;rw[h2];refine .cK hit hH ?_ λj hj=>?_
 ·rw[ahk,bU (f:=λe:En=>ph ⟨e.k.1,e.k.2,e.pl⟩) (k:=3) (λ_=>rfl),bU (f:=λe:En=>Q9 (fZ e)) (k:=3) (λ_=>rfl)];omega
 ·rw[aiv];refine kj (fa:=λe=>Q9 (fZ e)) (fb:=λe=>ph ⟨e.k.1,e.k.2,e.pl⟩) (k:=3) (λ_=>rfl) (λ_=>rfl) l (λe CF j hj=>?_) rest j hj
  match j,hj with
  |0,_=>exact .keep (.inl rfl) (.int _ _)
  |1,_=>exact .keep (.inl rfl) (.str _)
  |2,_=>exact EG (he e CF).1 (he e CF).2
theorem Il {n0 t0:Nat}{H:List az}{l:List En}{it n cap:Nat}{rest:List AV}(hit:n0<=it)(hH:H[it]?=some (.cells (eM (l.map fZ)++rest)))(he:∀e∈l,n0<=e.i/\H[e.i]?=some e.blk):gj n0 t0 H (.bG it n cap) (.sl n (dx (l.map λe=>(⟨e.k.1,e.k.2,e.pl⟩:Tm))) .none):=by
 have h1:eM (l.map fZ)=l.flatMap λe=>Q9 (fZ e):=by simp[eM,aix]
 have h2:dx (l.map λe=>(⟨e.k.1,e.k.2,e.pl⟩:Tm))=l.flatMap λe=>ph ⟨e.k.1,e.k.2,e.pl⟩:=by simp[dx,aix]
 rw[h1] at hH;rw[h2];refine .bG hit hH ?_ λj hj=>?_
 ·rw[ahk,bU (f:=λe:En=>ph ⟨e.k.1,e.k.2,e.pl⟩) (k:=3) (λ_=>rfl),bU (f:=λe:En=>Q9 (fZ e)) (k:=3) (λ_=>rfl)];omega
 ·refine kj (fa:=λe=>Q9 (fZ e)) (fb:=λe=>ph ⟨e.k.1,e.k.2,e.pl⟩) (k:=3) (λ_=>rfl) (λ_=>rfl) l (λe CF j hj=>?_) rest j hj
  match j,hj with
  |0,_=>exact .keep (.inl rfl) (.int _ _)
  |1,_=>exact .keep (.inl rfl) (.str _)
  |2,_=>exact EG (he e CF).1 (he e CF).2
theorem Qx {n0 t0:Nat}{H:List az}{l:List Ef}{n:Nat}{tg:Tag}(he:∀e∈l,n0<=e.i/\H[e.i]?=some (Ef.blk e)):gj n0 t0 H (.sl n (v7 l) tg) (.sl n (dJ (l.map λe=>(⟨e.f,e.x⟩:Cl))) .none):=by
 have h1:v7 l=l.flatMap ccC++[]:=by simp[v7]
 have h2:dJ (l.map λe=>(⟨e.f,e.x⟩:Cl))=l.flatMap λe=>ry ⟨e.f,e.x⟩:=by simp[dJ,aix]
 rw[h2];refine .sl ?_ λj hj=>?_
 ·rw[E4,bU (f:=λe:Ef=>ry ⟨e.f,e.x⟩) (k:=2) (λ_=>rfl)]
 ·rw[h1];refine kj (fa:=ccC) (fb:=λe=>ry ⟨e.f,e.x⟩) JV (λ_=>rfl) l (λe CF j hj=>?_) [] j hj
  match j,hj with
  |0,_=>exact .keep (.inl rfl) (.int _ _)
  |1,_=>exact .NT (he e CF).1 (he e CF).2 (by simp)
def BQ (H:List az)(T:au)(r0:AV):AV->List az->au->Prop:=λr H' T'=>(∃G,H'=H++G)/\(∃rT,T'=T++rT)/\gj H.length T.length H' r r0
theorem xX {F:List Ef}:∀{g:Nat} {e:Ef},e∈jy F g->∃e0∈F,e=sA e0/\5<=e0.f/\e0.f<5+g
 |0,e,h=>by simp[jy] at h
 |g+1,e,h=>by
  unfold jy at h
  split at h
  ·rename_i e0 hf;rcases ahw.1 h with h|h
   ·obtain⟨x,h1,h2,h3,h4⟩:=xX h;exact⟨x,h1,h2,h3,by omega⟩
   ·simp at h;have h1:=ajA hf;have h2:e0.f=5+g:=by simpa using h1
    exact⟨e0,aiu hf,h,by omega,by omega⟩
  ·obtain⟨x,h1,h2,h3,h4⟩:=xX h;exact⟨x,h1,h2,h3,by omega⟩
attribute [-simp] getD_eq_getElem?_getD in
theorem MZ (H:List az)(T:au)(nb tb N M:Nat)(gG:nb<=H.length)(fY:tb<=T.length)(L:List Dc)(b2 b4 b5 b6 td:Nat)(E:List En)(F:List Ef)(J:List az)(U:au)
  (hB:DI H T b2 b4 b5 b6 td N M J U (L.map (·.id)) E F) (hR:sH L E F) (hs:L.Pairwise λx y=>x.id<y.id) (YM:E.length<=1099511627776) (hM:M<=1099511627776) (kP:H.length<=b2) (Gs:H.length<=b4) :
  AW ⟨prog,192,152,nb,tb,[100104,100147,100166]⟩ (dY [1,1,1,1,1,1,1,1,1] (Tryz.f68.body.getD .skip)) (sJ prog Tryz.f68.results.toList (BQ H T (.df [jS ⟨L.map (·.id),cC L,dM L⟩,.int .i64 0]))) ⟨[(2,.ptr b2 0),(4,.ptr b4 0),(5,.aP b5),(6,.aP b6)],J,U⟩:=by
 conv=>arg 2;whnf
 have hBe:=hB.hE;have hBn:=hB.ndE;have YQ:=hB.hF;have afv:=hB.ndF;have afw:=hB.ftF;have hpU:=hB.pU;have lTU:=hpU.le;have NF:=hB.hU.lt (i:=td) (b:=((L.map (·.id)).length,1)) (by simp);have VK:=Pq hR hs hBn;have hce:=Ui hR (λe he=>(YQ e he).p);refine af λK1 aO=>?_;refine Hp H T nb tb N M gG fY b2 b4 b5 b6 td (L.map (·.id)) E F J U hB YM Gs _ λe J1 rows tv TB t1 t2 t3 t4 t5 t6=>?_;have lH1:=t4.le;have l21:=t3.lt (i:=b2) (b:=.cells [.sl 0 [] .full,.sl 0 [] .full,.sl 0 [] .full]) (by simp);have l41:=t3.lt (i:=b4) (b:=.cells [.sl (L.map (·.id)).length (ints (L.map (·.id))) (.own td),tv,.sl 0 [] .full]) (by simp);have l51:=t3.lt (i:=b5) (b:=.map (cz E)) (by simp);have l61:=t3.lt (i:=b6) (b:=.map (bM F)) (by simp);have e4:=aW (t3.get (i:=b4) (b:=.cells [.sl (L.map (·.id)).length (ints (L.map (·.id))) (.own td),tv,.sl 0 [] .full]) (by simp));refine aO _ (aH ⟨[(2,.ptr b2 0),(4,.ptr b4 0),(5,.aP b5),(6,.aP b6)],J1,U⟩ (ag [] [] (by simp) (by simp) (by show nb<=J1.length;omega) (by show tb<=U.length;omega) t5 t6) ?_);clear aO;have hsr:=Hu hBn t1;generalize kZ:L.map (·.id)=ids at *;have fin:∀(e:Env) (J2:List az) (it n cap:Nat) (rest:List AV) (R2:List (Nat×az)),Has J2 ((b4,.cells [.sl ids.length (ints ids) (.own td),tv,.sl 0 [] .full])::(b6,.map (bM F))::(jf F++((b2,.cells [.sl 0 [] .full,.sl 0 [] .full,.sl 0 [] .full])::(R2++dV E))))->
   ((E=[]/\tv=.sl 0 [] .full)\/(tv=.bG it (gY E).length cap/\(it,.cells (eM ((gY E).map fZ)++rest))∈R2/\H.length<=it))->gM H J2->bJ J2 U->J1.length<=J2.length->bu J2.length U.length e [(2,.ptr b2 0),(4,.ptr b4 0),(6,.aP b6)]->
   AW ⟨prog,192,152,nb,tb,[100104,100147,100166]⟩ (dY [1,1] (dY [1,1,1,1,1,1,1,1,1] (Tryz.f68.body.getD .skip))) (sJ prog Tryz.f68.results.toList (BQ H T (.df [jS ⟨ids,cC L,dM L⟩,.int .i64 0]))) ⟨e,J2,U⟩:=by
  intro e J2 it n cap rest R2 iW ND sv Nt jH he
  conv=>arg 2;whnf
  have Ni:=sv.le;have l22:=iW.lt (i:=b2) (b:=.cells [.sl 0 [] .full,.sl 0 [] .full,.sl 0 [] .full]) (by simp);have XB:=iW.lt (i:=b4) (b:=.cells [.sl ids.length (ints ids) (.own td),tv,.sl 0 [] .full]) (by simp);have l62:=iW.lt (i:=b6) (b:=.map (bM F)) (by simp);have Gr:Below J2.length U.length tv:=by
   rcases ND with⟨_,h⟩|⟨h,hm,_⟩
   ·rw[h];simp
   ·rw[h];exact .bG _ _ _ (iW.lt (i:=it) (b:=.cells (eM ((gY E).map fZ)++rest)) (by simp[hm]))
  refine af λK2 bc=>?_;refine aH ⟨[(2,.ptr b2 0),(4,.ptr b4 0),(6,.aP b6)],J2,U⟩ (ag [] [] (by simp) (by simp) (by show nb<=J2.length;omega) (by show tb<=U.length;omega) Nt he) ?_;refine MU (N:=M) H T nb tb gG fY b2 b4 b6 _ tv F J2 U ((b2,.cells [.sl 0 [] .full,.sl 0 [] .full,.sl 0 [] .full])::(R2++dV E)) iW YQ hM afv afw sv hpU Nt Gs l22 Gr (by simp;omega) _ λe J3 U3 cv c1 c2 c3 c4 c5 c6 c7=>?_;have Kf:=c3.le;have Ke:=c4.le;have l23:b2<J3.length:=by omega
  have l43:b4<J3.length:=by omega
  have e4:=aW (c2.get (i:=b4) (b:=.cells [.sl ids.length (ints ids) (.own td),tv,cv]) (by simp));refine bc _ (aH ⟨[(2,.ptr b2 0),(4,.ptr b4 0)],J3,U3⟩ (ag [] [] (by simp) (by simp) (by show nb<=J3.length;omega) (by show tb<=U3.length;omega) c5 (by simp at c7;simp[c7])) ?_);clear bc;have hcl:∀X,Has (J3.set b2 X) ((b4,.cells [.sl ids.length (ints ids) (.own td),tv,cv])::(b6,.map (bM F))::(jf (fQ 8 F)++((b2,X)::(R2++dV E)))):=λX=>by
   have:=Has.set (A:=(b4,.cells [.sl ids.length (ints ids) (.own td),tv,cv])::(b6,.map (bM F))::jf (fQ 8 F)) (B:=R2++dV E) (b:=.cells [.sl 0 [] .full,.sl 0 [] .full,.sl 0 [] .full]) (by simpa using c2) X;simpa using this
  have fz:∀X (dv' zh NN:AV),(dv'=.sl ids.length (ints ids) (.own td)\/dv'=.sl ids.length (ints ids) .none)->(zh=tv\/zh=cG tv)->(NN=cv\/NN=cG cv)->
    BQ H T (.df [jS ⟨ids,cC L,dM L⟩,.int .i64 0]) (.df [.agg [dv',zh,NN],.int .i64 0]) (J3.set b2 X) U3:=by
   intro X dv' zh NN hd ht hc;refine⟨c3.set kP _,c4,gj.pair (.agg rfl λj hj=>?_) (.keep (.inl rfl) (.int _ _))⟩
   match j,hj with
   |0,_=>
    rcases hd with rfl|rfl
    ·exact .keep (.inr rfl) (by simp)
    ·exact .keep (.inl rfl) (by simp)
   |1,_=>
    show gj _ _ _ zh (.sl (cC L).length (dx (cC L)) .none);rcases ND with⟨h0,rfl⟩|⟨rfl,hm,hi⟩
    ·have:cC L=[]:=by rw[<-VK,h0];simp[gY]
     rw[this];rcases ht with rfl|rfl
     ·exact .keep (.inr rfl) (by simp[tr])
     ·exact .keep (.inl rfl) (by simp[tr])
    ·have qX:∀e∈gY E,H.length<=e.i/\(J3.set b2 X)[e.i]?=some e.blk:=λe CF=>by
      have NJ:=(jc E).mem_iff.1 CF;exact⟨(hBe e NJ).i,(hcl X).get (i:=e.i) (b:=e.blk) (by
       have:(e.i,e.blk)∈dV E:=ahl.2 ⟨e,NJ,rfl⟩;simp[this])⟩
     have Rs:gj H.length T.length (J3.set b2 X) (.cK it 0 (gY E).length) (.sl (cC L).length (dx (cC L)) .none):=by
      have hn:(cC L).length=(gY E).length:=by rw[<-VK];simp
      rw[hn,<-VK];exact My (rest:=rest) hi ((hcl X).get (by simp[hm])) qX
     rcases ht with rfl|rfl
     ·have hn:(cC L).length=(gY E).length:=by rw[<-VK];simp
      rw[hn,<-VK];exact Il (rest:=rest) hi ((hcl X).get (by simp[hm])) qX
     ·exact Rs
   |2,_=>
    show gj _ _ _ NN (.sl (dM L).length (dJ (dM L)) .none);have hn:(dM L).length=(jy F 3).length:=by rw[<-hce];simp
    have hfc:∀tg,gj H.length T.length (J3.set b2 X) (.sl (jy F 3).length (v7 (jy F 3)) tg) (.sl (dM L).length (dJ (dM L)) .none):=λtg=>by
     rw[hn,<-hce];refine Qx λe CF=>?_;obtain⟨e0,h1,rfl,h2,h3⟩:=xX CF;have fS:(e0.i,Ef.blk (sA e0))∈jf (fQ 8 F):=by
      refine ahl.2 ⟨sA e0,ahl.2 ⟨e0,h1,?_⟩,rfl⟩;rw[ahs (by omega)]
     exact⟨(YQ e0 h1).i,(hcl X).get (i:=e0.i) (b:=Ef.blk (sA e0)) (by simp[fS])⟩
    rcases c1 with⟨h0,rfl⟩|⟨tc,rfl,_,_⟩
    ·have h1:=hfc .full;rw[h0] at h1;rcases hc with rfl|rfl
     ·exact h1
     ·have h2:=hfc .none;rw[h0] at h2;exact h2
    ·rcases hc with rfl|rfl
     ·exact hfc _
     ·exact hfc .none
  have e2:=aW (c2.get (i:=b2) (b:=.cells [.sl 0 [] .full,.sl 0 [] .full,.sl 0 [] .full]) (by simp));refine ae λK hK=>?_;simp(disch:=omega)[e4,e2];apply hK;apply ay;simp(disch:=omega) ;exact fz _ _ _ _ (.inl rfl) (.inl rfl) (.inl rfl)
 rcases t2.h with⟨zq,rfl,rfl⟩|⟨it,cap,rest,rfl,rfl,g1,g2,g3,g4⟩
 ·have cs:=λH T tg=>Ht H T tg;have hE0:E=[]:=by
   have:=t1.length_eq;rw[zq] at this;simp at this;exact ah3.1 this.symm
  refine ae λK hK=>?_;simp(disch:=omega)[e4];refine ak (cs _ _ _) ?_;simp(disch:=omega) ;apply hK;refine fin _ J1 0 0 0 [] [] ?_ (.inl ⟨hE0,rfl⟩) t4 t5 (ahj _) (by simp;omega);have h1:Has J1 ((b4,.cells [.sl ids.length (ints ids) (.own td),.sl 0 [] .full,.sl 0 [] .full])::(b2,.cells [.sl 0 [] .full,.sl 0 [] .full,.sl 0 [] .full])::(b6,.map (bM F))::(jf F++dV E)):=t3.sub (.cons_cons _ (.cons_cons _ (.cons_cons _ (aih _ _))));refine h1.perm (List.Perm.cons _ ?_);exact(List.Perm.cons _ ajC).trans (List.Perm.swap _ _ _)
 ·have gi:=t3.get (i:=it) (b:=.cells (eM rows++rest)) (by simp);have lit:=(ahh.1 gi).1;have aeQ:rows≠[]:=λh=>by rw[h] at g4;simp at g4
  have hrn:rows.length=(gY E).length:=by
   have:=t1.length_eq;rw[ahz] at this;rw[this];exact(jc E).length_eq.symm
  have hrd:rows.Pairwise λx y=>x.1≠y.1:=by
   have h1:((E.map fZ).map (·.1)).Nodup:=by
    have:(E.map fZ).map (·.1)=E.map (·.k):=by simp[fZ,Function.comp_def]
    rw[this];exact hBn
   have h2:=(t1.map (·.1)).nodup_iff.2 h1;rw[List.Nodup,ahY] at h2;exact h2
  have zp:rows.length<=1099511627776:=by
   rw[hrn,(jc E).length_eq];exact YM
  have cs:=λU=>Lt rows aeQ hrd rest it cap zp J1 U gi;rw[hsr] at cs;have iW:=Has.set (A:=[(b4,.cells [.sl ids.length (ints ids) (.own td),.bG it rows.length cap,.sl 0 [] .full])]) (B:=(b2,.cells [.sl 0 [] .full,.sl 0 [] .full,.sl 0 [] .full])::(b6,.map (bM F))::(b5,.map (cz E))::(jf F++dV E)) (b:=.cells (eM rows++rest)) (by simpa using t3) (.cells (eM ((gY E).map fZ)++rest));have sv:=t4.set g3 (.cells (eM ((gY E).map fZ)++rest));have jH:(J1.set it (.cells (eM ((gY E).map fZ)++rest))).length=J1.length:=by simp
  refine ae λK hK=>?_;simp(disch:=omega)[e4];refine ak (cs _) ?_;simp(disch:=omega) ;apply hK;refine dA λfx=>?_;simp only at fx;refine fin _ _ it 0 cap rest [(it,.cells (eM ((gY E).map fZ)++rest))] ?_ (.inr ⟨by rw[hrn],by simp,g3⟩) sv fx (by omega) (by simp;omega);have h1:Has (J1.set it (.cells (eM ((gY E).map fZ)++rest))) ((b4,.cells [.sl ids.length (ints ids) (.own td),.bG it rows.length cap,.sl 0 [] .full])::(it,.cells (eM ((gY E).map fZ)++rest))::(b2,.cells [.sl 0 [] .full,.sl 0 [] .full,.sl 0 [] .full])::(b6,.map (bM F))::(jf F++dV E)):=iW.sub (.cons_cons _ (.cons_cons _ (.cons_cons _ (.cons_cons _ (aih _ _)))));refine h1.perm (List.Perm.cons _ ?_);refine(List.Perm.cons _ (ajC.trans (List.Perm.cons _ ajC))).trans ?_;exact(List.Perm.swap _ _ _).trans ((List.Perm.cons _ (List.Perm.swap _ _ _)).trans (List.Perm.swap _ _ _))
theorem kn {n0 t0:Nat}{H:List az}(x:Int):gj n0 t0 H (.df [.agg [.sl 0 [] .full,.sl 0 [] .full,.sl 0 [] .full],.int .i64 x]) (.df [jS bR,.int .i64 x]):=by
 refine gj.pair (.agg rfl λj hj=>?_) (.keep (.inl rfl) (.int _ _))
 match j,hj with
 |0,_=>exact .keep (.inr rfl) (by simp[bR])
 |1,_=>exact .keep (.inr rfl) (by simp[bR,tr])
 |2,_=>exact .keep (.inr rfl) (by simp[bR,EY])
theorem qk {α:Type}[DecidableEq α]:∀{l m:List α},l.Nodup->(∀x∈l,x∈m)->l.length<=m.length
 |[],_,_,_=>ahu _
 |a::l,m,hn,h=>by
  have ⟨h1,h2⟩:=ajz.1 hn;have ha:=h a (by simp);have:=qk (m:=m.erase a) h2 λx hx=>by
   have hne:x≠a:=λe=>h1 (e▸hx);exact(List.mem_erase_of_ne hne).2 (h x (by simp[hx]))
  rw[List.length_erase_of_mem ha] at this;have:=List.length_pos_of_mem ha;simp;omega
theorem PV {L:List Dc}{E:List En}{F:List Ef}(h:sH L E F):E.length<=kR L:=by
 have one:∀{id:Int} {E E':List En} {l:List (Ky×Int)},ou id E l E'->(E.map (·.k)).Nodup->E'.length<=E.length+l.length:=by
  intro id E E' l h hn
  induction h with
  |nil=>simp
  |@snoc E1 E2 l k p h h2 ih=>
   have Ba:=h.nd hn;have h3:E2.length<=E1.length+1:=by
    have:=qk h2.nd (m:=k::E1.map (·.k)) λx hx=>by
     rcases (h2.ks x).1 hx with rfl|hx
     ·simp
     ·simp[hx]
    simpa using this
   simp;omega
 have nd:∀{L:List Dc} {E:List En} {F:List Ef},sH L E F->(E.map (·.k)).Nodup:=by
  intro L E F h
  induction h with
  |nil=>simp
  |snoc _ h1 _ ih=>exact h1.nd ih
 induction h with
 |nil=>simp
 |@snoc l d E E' F F' h h1 h2 ih=>
  have:=one h1 (nd h);rw[DF];have e:kR [d]=(eW d.zs).length:=by simp[kR]
  omega
theorem qG (l : List Dc) (hl : l.length <= 19) (hs : ∀ d ∈ l, o5 d) (hn : ∀ d ∈ l, d.ns.length <= 1000000) (H : List az) (T : au) (tg : Tag) :
    ar prog 68 [.sl l.length (aM l) tg] H T (Is (.df [jS (cZ l).1, .int .i64 (cZ l).2]) H T) := by
  refine ar.cg ?_;refine ar.pn ?_;show ar prog _ _ H T (BQ H T _);have cl := λh H T => MW l h (by omega) H T .none;have cl0 := λH T => IC H T .none;have b0 : decide ((2000 : Int) < l.length) = false := ahn (by omega);have n0 : ¬ (2000 : Int) < l.length := by omega
  have Gt : ¬ 2000 < l.length := by omega
  refine ah 152 [100104,100147,100166] Tryz.ntmps68 Tryz.func68 rfl (λ_ _ => Tryz.call68 _ _) (by simp) (λHO => ?_);have ff : bJ (H ++ [.cells [.sl 0 [] .full, .sl 0 [] .full, .sl 0 [] .full]]) T := HO.snoc (by simp);refine ae λK hK => ?_; simp (disch := omega) [-getD_eq_getElem?_getD]; refine hK _ ?_; clear hK K;refine af λK1 aO => ?_;refine ae λK hK => ?_; simp (disch := omega) [-getD_eq_getElem?_getD, b0, n0]; refine hK _ ?_; clear hK K;apply aD rfl;apply aq; simp (disch := omega) [-getD_eq_getElem?_getD];refine aO _ ?_; clear aO;have mid : ∀ (e : Env) (L : List Dc), rk l L -> bu (H.length + 1) T.length e [(0, .sl L.length (aM L) .none), (2, .ptr H.length 0)] ->
      AW ⟨prog, 192, 152, H.length, T.length, [100104, 100147, 100166]⟩ (dY [1, 1, 1, 1] (Tryz.f68.body.getD .skip)) (sJ prog Tryz.f68.results.toList (BQ H T (.df [jS (cZ l).1, .int .i64 (cZ l).2]))) ⟨e, H ++ [.cells [.sl 0 [] .full, .sl 0 [] .full, .sl 0 [] .full]], T⟩ := by
    intro e L hL he
    conv => arg 2; whnf
    have XQ := hL.len;have Yt : ∀ d ∈ L, o5 d := λd hd => hs d (hL.perm.mem_iff.1 hd);have Wy : L.any (λd => !aR d) = l.any (λd => !aR d) := by
      rw [ajT, aiY, aiY];exact ⟨λ⟨d, h1, h2⟩ => ⟨d, hL.perm.mem_iff.1 h1, h2⟩, λ⟨d, h1, h2⟩ => ⟨d, hL.perm.mem_iff.2 h1, h2⟩⟩
    have cc := λH T => Ct L (by have : (40 : Nat) <= maxLen := by decide
                                omega) Yt H T .none
    rw [Wy] at cc;refine aH ⟨[(0, .sl L.length (aM L) .none), (2, .ptr H.length 0)], H ++ [.cells [.sl 0 [] .full, .sl 0 [] .full, .sl 0 [] .full]], T⟩ (ag [] [] (by simp) (by simp) (by simp) (by simp) ff (by simpa using he)) ?_;refine af λK2 bc => ?_
    cases CQ : l.any (λd => !aR d) with
    | true =>
      rw [CQ] at cc
      have hF : cZ l = (bR, 1) := by unfold cZ; rw [ahq Gt, ahs CQ]
      refine ae λK hK => ?_; simp (disch := omega) [-getD_eq_getElem?_getD]
      refine ak (cc _ _) ?_; simp (disch := omega) [-getD_eq_getElem?_getD]
      refine hK _ ?_; clear hK K
      apply aG rfl
      refine ae λK hK => ?_; simp (disch := omega) [-getD_eq_getElem?_getD]; refine hK _ ?_; clear hK K
      apply ay; simp (disch := omega) [-getD_eq_getElem?_getD]
      rw [hF]
      exact ⟨⟨_, rfl⟩, ⟨[], by simp⟩, kn 1⟩
    | false =>
      rw [CQ] at cc
      have kX : ∀ d ∈ l, aR d = true := λd hd => by
        have := ai9.1 CQ d hd;simpa using this
      have Ol : ∀ d ∈ L, aR d = true := λd hd => kX d (hL.perm.mem_iff.1 hd)
      refine ae λK hK => ?_; simp (disch := omega) [-getD_eq_getElem?_getD]
      refine ak (cc _ _) ?_; simp (disch := omega) [-getD_eq_getElem?_getD]
      refine hK _ ?_; clear hK K
      apply aD rfl
      apply aq; simp (disch := omega) [-getD_eq_getElem?_getD]
      refine bc _ ?_; clear bc
      refine ae λK hK => ?_; simp (disch := omega) [-getD_eq_getElem?_getD]; refine hK _ ?_; clear hK K
      refine Ce 1 0 (H ++ [.cells [.sl 0 [] .full, .sl 0 [] .full, .sl 0 [] .full]]) [.sl 0 [] .full, .sl 0 [] .full, .sl 0 [] .full] 0 [] (by omega) rfl (by simp) ?_
      refine ae λK hK => ?_; simp (disch := omega) [-getD_eq_getElem?_getD]; refine hK _ ?_; clear hK K
      refine ae λK hK => ?_; simp (disch := omega) [-getD_eq_getElem?_getD]; refine hK _ ?_; clear hK K
      refine dA λNx => ?_
      simp only at Nx
      have hDI : DI H T H.length (H.length + 1) (H.length + 2) (H.length + 3) T.length 0 0 (H ++ [.cells [.sl 0 [] .full, .sl 0 [] .full, .sl 0 [] .full], .cells [.sl 0 [] (.own T.length), .sl 0 [] .full, .sl 0 [] .full], .map [], .map []]) (T ++ [(0, 1)]) [] [] [] := by
        refine ⟨⟨by simp [jf, dV], λp hp => ?_⟩, ⟨by simp [ka], λp hp => ?_⟩, λe he => by simp at he, by simp, rfl, λe he => by simp at he, by simp, rfl, ⟨_, rfl⟩, ⟨_, rfl⟩, by simpa using Nx⟩
        · simp [jf, dV, bM, cz] at hp;rcases hp with rfl | rfl | rfl | rfl <;> simp
        · simp [ka] at hp;subst hp; simp
      refine aH ⟨[(0, .sl L.length (aM L) .none), (2, .ptr H.length 0), (4, .ptr (H.length + 1) 0), (5, .aP (H.length + 2)), (6, .aP (H.length + 3))], H ++ [.cells [.sl 0 [] .full, .sl 0 [] .full, .sl 0 [] .full], .cells [.sl 0 [] (.own T.length), .sl 0 [] .full, .sl 0 [] .full], .map [], .map []], T ++ [(0, 1)]⟩ (ag [] [] (by simp) (by simp) (by simp) (by simp) hDI.ok (by simp)) ?_
      have hW := yb L Ol
      have hM := yl L λd hd => hn d (hL.perm.mem_iff.1 hd)
      refine af λK2 bc => ?_
      refine ML H T H.length T.length (ahj _) (ahj _) L H.length (H.length + 1) (H.length + 2) (H.length + 3) T.length _ _ hDI (by omega) (by omega) (by omega) (λd hd => by have := tn (bZ (Ol d hd)).2.1; omega) (λd hd => Hl (Ol d hd) (Yt d hd)) (ahj _) (by omega) (by omega) (by omega) (ahj _) _ (λi h1 h2 h3 e J' U' q1 q2 q3 q4 q5 => ?_) λhne e J' U' E F r1 r2 r3 => ?_
      · have hF : cZ l = (bR, 10) := by
          unfold cZ;rw [ahq Gt, ahq (by rw [CQ]; simp), ahs];exact λhh => J9 h1 h2 h3 ((hL.perm.map _).nodup_iff.2 hh)
        have l2 := (ahh.1 q3).1;have e2 := aW q3;show sJ _ _ _ .ret _;simp [-getD_eq_getElem?_getD, q1, q2, e2, l2];rw [hF];exact ⟨q4, q5, kn 10⟩
      · have yU := A5 hL.ord hne
        have mU := mn yU;have vW : (l.map (·.id)).Nodup := (hL.perm.map _).nodup_iff.1 mU;have hLs : L = ep l := Cr hL (gh l) vW;have hF : cZ l = (⟨L.map (·.id), cC L, dM L⟩, 0) := by
          unfold cZ;rw [ahq Gt, ahq (by rw [CQ]; simp), ahq (λhh => hh vW), <- hLs]
        have CF := PV r2;have lH := r1.pJ.le;have lT := r1.pU.le;refine bc _ (aH ⟨[(2, .ptr H.length 0), (4, .ptr (H.length + 1) 0), (5, .aP (H.length + 2)), (6, .aP (H.length + 3))], J', U'⟩ (ag [] [] (by simp) (by simp) (by simpa using lH) (by simpa using lT) r1.ok (by simp at r3; simp [r3])) ?_);rw [hF];exact MZ H T H.length T.length _ _ (ahj _) (ahj _) L _ _ _ _ _ E F J' U' r1 r2 yU (by omega) (by omega) (ahj _) (by omega)
  rcases Classical.em (l = []) with rfl | hne
  · have cs := λH T => Ft 123 H T .none;refine ae λK hK => ?_; simp (disch := omega) [-getD_eq_getElem?_getD, tH];refine ak (cl0 _ _) ?_; simp (disch := omega) [-getD_eq_getElem?_getD];refine hK _ ?_; clear hK K;refine ae λK hK => ?_; simp (disch := omega) [-getD_eq_getElem?_getD];refine ak (cs _ _) ?_; simp (disch := omega) [-getD_eq_getElem?_getD];refine hK _ ?_; clear hK K;refine mid _ [] .nil ?_;simp [tH]
  · refine ae λK hK => ?_; simp (disch := omega) [-getD_eq_getElem?_getD];refine ⟨_, cl hne _ _, ?_⟩;rintro r H' T' ⟨rfl, k, rfl, rfl⟩;simp (disch := omega) [-getD_eq_getElem?_getD];refine hK _ ?_; clear hK K;have hst := yg Uo l (λ_ _ => trivial) (List.replicate k .top) (H.length + 1) hl (H ++ [.cells [.sl 0 [] .full, .sl 0 [] .full, .sl 0 [] .full], .cells (aM l ++ List.replicate k .top)]) T' (by simp) (by simp);refine ae λK hK => ?_; simp (disch := omega) [-getD_eq_getElem?_getD];refine ⟨_, hst, ?_⟩;rintro r H2 T2 ⟨rfl, rfl, L, rfl, hL⟩;simp (disch := omega) [-getD_eq_getElem?_getD];refine hK _ ?_; clear hK K;rw [show H ++ [az.cells [.sl 0 [] .full, .sl 0 [] .full, .sl 0 [] .full], .cells (aM L ++ List.replicate k .top)] = (H ++ [.cells [.sl 0 [] .full, .sl 0 [] .full, .sl 0 [] .full]]) ++ [.cells (aM L ++ List.replicate k .top)] by simp];have hlL := hL.len;rw [<- ahH T2];refine Pb (H := H ++ [.cells [.sl 0 [] .full, .sl 0 [] .full, .sl 0 [] .full]]) (T := T2) (e' := [(0, .sl L.length (aM L) .none), (2, .ptr H.length 0)]) ?_ ?_ ff ?_ ?_
    · simp
    · simp
    · rw [hlL];exact ⟨gj.NT (rest := List.replicate k .top) (by simp) (by simp) (by simp), gj.same (by simp), trivial⟩
    · rw [ahH];exact mid [(0, .sl L.length (aM L) .none), (2, .ptr H.length 0)] L hL (by simp)
end Go.Proofs.YtoejlmpbebjemaaGreat
