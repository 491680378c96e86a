/- segment.Build (layer 39): what comes out of the maps, as a plain function of the documents. segment.Build (layer 39): the whole. segment.Build (layer 39): the contract.
  Conditions: lengths below 400 or 1000, as each theorem says. -/
import Derived.Test.YtoejlmpbebjemaaGreatGBB
set_option linter.all false
set_option maxRecDepth 100000
set_option maxHeartbeats 16000000
open List (getD_eq_getElem?_getD getElem_inj)
namespace eN
open ia
def kR (k:Ky):List Ky->List Ky
 |[]=>[k]
 |x::r=>if bT x k=true then x::kR k r else if bT k x=true then k::x::r else x::r
def nA (k:Nm):List Nm->List Nm
 |[]=>[k]
 |x::r=>if dh x k=true then x::nA k r else k::x::r
def o4 (d:Dc):List Dc->List Dc
 |[]=>[d]
 |x::r=>if x.id<=d.id then x::o4 d r else d::x::r
def eg (l:List Dc):List Dc:=l.foldl (λa d=>o4 d a) []
def dx (l:List Nm):List Nm:=l.foldl (λa d=>nA d a) []
def dJ (L:List Dc):List Ky:=(L.flatMap λd=>(eP d.zs).map (·.1)).foldl (λa k=>kR k a) []
def iR (d:Dc)(k:Ky):List Int:=((eP d.zs).filter λw=>w.1==k).map (·.2)
def Co (d:Dc)(k:Ky):List Ps:=if iR d k=[] then [] else [(d.id,iR d k)]
def dg (L:List Dc)(k:Ky):List Ps:=L.flatMap λd=>Co d k
def cH (L:List Dc):List Tm:=(dJ L).map λk=>⟨k.1,k.2,dg L k⟩
def fE (L:List Dc)(f:Int):List Nm:=L.flatMap λd=>(d.ns.filter λx=>x.1==f).map λx=>(x.2,d.id)
def nC (L:List Dc)(f:Int):List Cl:=if fE L f=[] then [] else [⟨f,dx (fE L f)⟩]
def dK (L:List Dc):List Cl:=nC L 5++nC L 6++nC L 7
def cZ (l:List Dc):Sg×Int:=
 if 2000<l.length then (bV,3) else if l.any (λd=>!aS d)=true then (bV,1)
 else if ¬(l.map (·.id)).Nodup then (bV,10) else (⟨(eg l).map (·.id),cH (eg l),dK (eg l)⟩,0)
theorem Ap (d:Dc)(l:List Dc):(o4 d l).Perm (d::l):=by
 induction l with
 |nil=>exact .refl _
 |cons x r ih=>
  unfold o4
  split
  ·exact(ih.cons x).trans (.swap _ _ _)
  ·exact .refl _
theorem Pz (d:Dc){l:List Dc}(h:l.Pairwise λx y=>x.id<=y.id):(o4 d l).Pairwise λx y=>x.id<=y.id:=by
 induction l with
 |nil=>simp[o4]
 |cons x r ih=>
  have ⟨h1,h2⟩:=ahz.1 h;unfold o4
  split
  ·rename_i hx;refine ahz.2 ⟨λy hy=>?_,ih h2⟩;rcases ag6.1 ((Ap d r).mem_iff.1 hy) with rfl|hy
   ·exact hx
   ·exact h1 y hy
  ·rename_i hx;refine ahz.2 ⟨λy hy=>?_,h⟩;rcases ag6.1 hy with rfl|hy
   ·omega
   ·have:=h1 y hy;omega
theorem fT (l:List Dc):re l (eg l):=by
 have key:∀(l a:List Dc),(a.Pairwise λx y=>x.id<=y.id)->(l.foldl (λa d=>o4 d a) a).Perm (l++a)/\(l.foldl (λa d=>o4 d a) a).Pairwise λx y=>x.id<=y.id:=by
  intro l
  induction l with
  |nil=>intro a h;exact⟨.refl _,h⟩
  |cons d r ih=>
   intro a h;obtain⟨h1,h2⟩:=ih (o4 d a) (Pz d h);refine⟨h1.trans ?_,h2⟩;exact((Ap d a).append_left r).trans aiX
 obtain⟨h1,h2⟩:=key l [] .nil;rw[ag2] at h1;exact⟨h1,h2⟩
def B2 {l a b:List Dc}(ha:re l a)(hb:re l b)(hn:(l.map (·.id)).Nodup):a=b:=by
 refine List.Perm.eq_of_pairwise (le:=λx y=>x.id<=y.id) ?_ ha.ord hb.ord (ha.perm.trans hb.perm.symm);intro x y hx hy h1 h2;have MM:=ha.perm.mem_iff.1 hx;have Jo:=hb.perm.mem_iff.1 hy;have e:x.id=y.id:=by omega
 obtain⟨i,hi,e1⟩:=agW.1 MM;obtain⟨j,hj,e2⟩:=agW.1 Jo;have jz:i=j:=(getElem_inj (xs:=l.map (·.id)) (h₀:=by simpa using hi) (h₁:=by simpa using hj) hn).1 (by simp[e1,e2,e]);subst jz;rw[<-e1,<-e2]
def AJ {L:List Dc}(h:L.Pairwise λx y=>x.id<=y.id)(ha:∀i,0<i->i<L.length->(L.getD (i-1) d0).id≠(L.getD i d0).id):L.Pairwise λx y=>x.id<y.id:=by
 rw[ag8] at h ⊢;intro i j hi hj jz;have h1:=ha (i+1) (by omega) (by omega);rw[show i+1-1=i by omega,agB,agB,agD hi,agD (by omega:i+1<L.length)] at h1;simp only[aie] at h1;have h2:=h i (i+1) hi (by omega) (by omega);rcases Nat.eq_or_lt_of_le (Nat.succ_le_of_lt jz) with e|e
 ·have e':j=i+1:=by omega
  subst e';omega
 ·have:=h (i+1) j (by omega) hj e;omega
def me {L:List Dc}(h:L.Pairwise λx y=>x.id<y.id):(L.map (·.id)).Nodup:=by
 rw[List.Nodup,ahj];exact h.imp λjK=>by omega
def Jf {L:List Dc}{i:Nat}(h0:0<i)(hi:i<L.length)(h:(L.getD (i-1) d0).id=(L.getD i d0).id):¬(L.map (·.id)).Nodup:=by
 intro hn;have h1:i-1<L.length:=by omega
 rw[agB,agB,agD hi,agD h1] at h;have:=(getElem_inj (xs:=L.map (·.id)) (h₀:=by simpa using h1) (h₁:=by simpa using hi) hn).1 (by simpa using h);omega
theorem D4 (k:Ky)(l:List Ky)(x:Ky):x∈kR k l↔x=k\/x∈l:=by
 induction l with
 |nil=>simp[kR]
 |cons y r ih=>
  unfold kR
  split
  ·rw[ag6,ih,ag6]
   constructor
   ·rintro (h|h|h)<;>simp[h]
   ·rintro (h|h|h)<;>simp[h]
  ·rename_i h1
   split
   ·simp
   ·rename_i h2;have:y=k:=ml (by simpa using h1) (by simpa using h2);subst this;simp
theorem Py (k:Ky){l:List Ky}(h:l.Pairwise λx y=>bT x y=true):(kR k l).Pairwise λx y=>bT x y=true:=by
 induction l with
 |nil=>simp[kR]
 |cons y r ih=>
  have ⟨h1,h2⟩:=ahz.1 h;unfold kR
  split
  ·rename_i hy;refine ahz.2 ⟨λz hz=>?_,ih h2⟩;rcases (D4 k r z).1 hz with rfl|hz
   ·exact hy
   ·exact h1 z hz
  ·split
   ·rename_i hy;refine ahz.2 ⟨λz hz=>?_,h⟩;rcases ag6.1 hz with rfl|hz
    ·exact hy
    ·exact gW hy (h1 z hz)
   ·exact h
theorem Uq {l:List Ky}:∀{a:List Ky},(a.Pairwise λx y=>bT x y=true)->((l.foldl (λa k=>kR k a) a).Pairwise λx y=>bT x y=true)/\∀x,x∈l.foldl (λa k=>kR k a) a↔x∈l\/x∈a:=by
 induction l with
 |nil=>intro a h;exact⟨h,by simp⟩
 |cons k r ih=>
  intro a h;obtain⟨h1,h2⟩:=ih (Py k h);refine⟨h1,λx=>?_⟩;rw[aia,h2,D4,ag6]
  constructor
  ·rintro (h|h|h)<;>simp[h]
  ·rintro ((h|h)|h)<;>simp[h]
def qu (L:List Dc):(dJ L).Pairwise λx y=>bT x y=true:=(Uq .nil).1
def nU (L:List Dc)(k:Ky):k∈dJ L↔∃d∈L,∃p,(k,p)∈eP d.zs:=by
 unfold dJ;rw[(Uq .nil).2];simp
def Hq {a b:List Ky}(ha:a.Pairwise λx y=>bT x y=true)(hb:b.Pairwise λx y=>bT x y=true)(h:∀x,x∈a↔x∈b):a=b:=by
 have nd:∀{l:List Ky},(l.Pairwise λx y=>bT x y=true)->l.Nodup:=λh=>h.imp λ{x y} FP=>by
  rintro rfl;rw[jg] at FP;cases FP
 refine List.Perm.eq_of_pairwise (le:=λx y=>bT x y=true) ?_ ha hb ((List.perm_ext_iff_of_nodup (nd ha) (nd hb)).2 h);intro x y _ _ h1 h2;have:=gW h1 h2;rw[jg] at this;cases this
theorem Ao (k:Nm)(l:List Nm):(nA k l).Perm (k::l):=by
 induction l with
 |nil=>exact .refl _
 |cons x r ih=>
  unfold nA
  split
  ·exact(ih.cons x).trans (.swap _ _ _)
  ·exact .refl _
theorem rZ {a b:Nm}(h:dh a b=true):dh b a=false:=by
 cases h2:dh b a with
 |false=>rfl
 |true=>have:=rX h h2;rw[vl] at this;cases this
theorem D3 (k:Nm){l:List Nm}(h:l.Pairwise λx y=>dh y x=false):(nA k l).Pairwise λx y=>dh y x=false:=by
 induction l with
 |nil=>simp[nA]
 |cons x r ih=>
  have ⟨h1,h2⟩:=ahz.1 h;unfold nA
  split
  ·rename_i hx;refine ahz.2 ⟨λy hy=>?_,ih h2⟩;rcases ag6.1 ((Ao k r).mem_iff.1 hy) with rfl|hy
   ·exact rZ hx
   ·exact h1 y hy
  ·rename_i hx;refine ahz.2 ⟨λy hy=>?_,h⟩;rcases ag6.1 hy with rfl|hy
   ·simpa using hx
   ·exact pX (h1 y hy) (by simpa using hx)
theorem Al (l:List Nm):dx l=pt l:=by
 have key:∀(l a:List Nm),(a.Pairwise λx y=>dh y x=false)->(l.foldl (λa d=>nA d a) a).Perm (l++a)/\(l.foldl (λa d=>nA d a) a).Pairwise λx y=>dh y x=false:=by
  intro l
  induction l with
  |nil=>intro a h;exact⟨.refl _,h⟩
  |cons d r ih=>
   intro a h;obtain⟨h1,h2⟩:=ih (nA d a) (D3 d h);exact⟨h1.trans (((Ao d a).append_left r).trans aiX),h2⟩
 obtain⟨h1,h2⟩:=key l [] .nil;have h3:(pt l).Pairwise λx y=>dh y x=false:=by
  have:=aix (le:=λx y=>!(dh y x)) (λa b c h1 h2=>by
   rw[ai7] at h1 h2 ⊢;exact pX h2 h1) (λa b=>by
   cases h:dh b a with
   |false=>rfl
   |true=>rw[rZ h];rfl) l
  exact this.imp λh=>by simpa using h
 refine List.Perm.eq_of_pairwise (le:=λx y=>dh y x=false) (λx y _ _ h1 h2=>rY h2 h1) h2 h3 ?_;have:(l.foldl (λa d=>nA d a) []).Perm l:=by simpa using h1
 exact this.trans (aiG _ _).symm
end eN
namespace Go.Proofs.YtoejlmpbebjemaaGreat
open Go Go.Am ia eN
theorem Sk {id:Int}{E E':List En}{l:List (Ky×Int)}(h:om id E l E')(k:Ky):Ql E' k=l.foldl (λa w=>if w.1=k then wN a id w.2 else a) (Ql E k):=by
 induction h with
 |nil=>rfl
 |@snoc E1 E2 l k' p h h2 ih=>
  rw[ail,<-ih,h2.lk k];simp only[aia,List.foldl_nil]
  by_cases hk:k=k'
  ·subst hk;simp
  ·rw[agL hk,agL (Ne.symm hk)]
theorem Sl {id:Int}{E E':List En}{l:List (Ky×Int)}(h:om id E l E')(k:Ky):k∈E'.map (·.k)↔k∈E.map (·.k)\/∃p,(k,p)∈l:=by
 induction h with
 |nil=>simp
 |@snoc E1 E2 l k' p h h2 ih=>
  rw[h2.ks,ih]
  constructor
  ·rintro (rfl|h|⟨q,h⟩)
   ·exact .inr ⟨p,by simp⟩
   ·exact .inl h
   ·exact .inr ⟨q,by simp[h]⟩
  ·rintro (h|⟨q,h⟩)
   ·exact .inr (.inl h)
   ·rcases agR.1 h with h|h
    ·exact .inr (.inr ⟨q,h⟩)
    ·simp at h;exact .inl h.1
theorem Sj {F F':List Ef}{l:List (Int×Nm)}(h:sv F l F')(f:Int):QQ F' f=QQ F f++(l.filter λx=>x.1==f).map (·.2):=by
 induction h with
 |nil=>simp
 |@snoc E1 E2 l k' p h h2 ih=>
  rw[h2.lk f,aht,agS,<-List.append_assoc,<-ih]
  by_cases hk:f=k'
  ·subst hk;simp
  ·rw[agL hk,ahK (by simpa using Ne.symm hk)];simp
theorem PG (id:Int)(k:Ky):∀(l:List (Ky×Int)) (a:List Ps),(∀q∈a,q.1≠id)->l.foldl (λa w=>if w.1=k then wN a id w.2 else a) a=a++(if (l.filter λw=>w.1==k)=[] then [] else [(id,(l.filter λw=>w.1==k).map (·.2))]):=by
 have two:∀(l:List (Ky×Int)) (a:List Ps) (at_:List Int),l.foldl (λa w=>if w.1=k then wN a id w.2 else a) (a++[(id,at_)])=a++[(id,at_++(l.filter λw=>w.1==k).map (·.2))]:=by
  intro l
  induction l with
  |nil=>intro a at_;simp
  |cons w r ih=>
   intro a at_;rw[aia]
   by_cases hw:w.1=k
   ·rw[agN hw,qG,agN rfl,ih,ahQ (by simpa using hw)];simp
   ·rw[agL hw,ih,ahK (by simpa using hw)]
 intro l
 induction l with
 |nil=>intro a _;simp
 |cons w r ih=>
  intro a ha;rw[aia]
  by_cases hw:w.1=k
  ·have h1:wN a id w.2=a++[(id,[w.2])]:=by
    rcases List.eq_nil_or_concat a with rfl|⟨b,q,rfl⟩
    ·rfl
    ·obtain⟨q1,q2⟩:=q;rw[List.concat_eq_append,qG,agL (ha (q1,q2) (by simp))]
   rw[agN hw,h1,two,ahQ (by simpa using hw)];simp
  ·rw[agL hw,ih a ha,ahK (by simpa using hw)]
theorem Sf {L:List Dc}{E:List En}{F:List Ef}(h:su L E F)(hs:L.Pairwise λx y=>x.id<y.id)(k:Ky):Ql E k=dg L k:=by
 induction h with
 |nil=>rfl
 |@snoc l d E E' F F' h h1 h2 ih=>
  rw[aio] at hs;have hi:=ih hs.1;rw[Sk h1 k,hi,PG d.id k _ _ (λq hq=>?_)]
  ·have YG:iR d k=[]↔((eP d.zs).filter λw=>w.1==k)=[]:=by simp only[iR,List.map_eq_nil_iff]
   have hp:dg (l++[d]) k=dg l k++Co d k:=by simp[dg]
   rw[hp,Co]
   by_cases hh:((eP d.zs).filter λw=>w.1==k)=[]
   ·rw[agN hh,agN (YG.2 hh)]
   ·rw[agL hh,agL (λx=>hh (YG.1 x))];rfl
  ·obtain⟨x,hx,hq⟩:=ahm.1 hq;have:=hs.2.2 x hx d (by simp);unfold Co at hq
   split at hq
   ·simp at hq
   ·simp at hq;rw[hq];simp only;omega
theorem Si {L:List Dc}{E:List En}{F:List Ef}(h:su L E F)(k:Ky):k∈E.map (·.k)↔∃d∈L,∃p,(k,p)∈eP d.zs:=by
 induction h with
 |nil=>simp
 |@snoc l d E E' F F' h h1 h2 ih=>
  rw[Sl h1,ih];simp only[agR,ahl]
  constructor
  ·rintro (⟨x,hx,hp⟩|hp)
   ·exact⟨x,.inl hx,hp⟩
   ·exact⟨d,.inr rfl,hp⟩
  ·rintro⟨x,hx|rfl,hp⟩
   ·exact .inl ⟨x,hx,hp⟩
   ·exact .inr hp
theorem Sh {L:List Dc}{E:List En}{F:List Ef}(h:su L E F)(f:Int):QQ F f=fE L f:=by
 induction h with
 |nil=>rfl
 |@snoc l d E E' F F' h h1 h2 ih=>
  rw[Sj h2,ih];simp[fE,CN,List.filter_map,Function.comp_def]
def Pu {E:List En}(hn:(E.map (·.k)).Nodup){e:En}(he:e∈E):Ql E e.k=e.pl:=by
 obtain⟨E1,E2,rfl⟩:=aiZ he;unfold Ql;rw[pN hn,agN rfl]
def gR (E:List En):List En:=E.mergeSort λx y=>!(bT y.k x.k)
def iW (E:List En):(gR E).Perm E:=aiG _ _
def uA (a b c:Ky)(h1:(!(bT b a))=true)(h2:(!(bT c b))=true):(!(bT c a))=true:=by
 rw[ai7] at h1 h2 ⊢;exact vo h2 h1
theorem uB (a b:Ky):((!(bT b a))||(!(bT a b)))=true:=by
 cases h:bT b a with
 |false=>rfl
 |true=>rw[Hr h];rfl
theorem KG {E:List En}(hn:(E.map (·.k)).Nodup):((gR E).map (·.k)).Pairwise λx y=>bT x y=true:=by
 have h1:=aix (le:=λx y:En=>!(bT y.k x.k)) (λa b c=>uA _ _ _) (λa b=>uB _ _) E;have h2:((gR E).map (·.k)).Nodup:=((iW E).map _).nodup_iff.2 hn;rw[ahj];rw[List.Nodup,ahj] at h2;refine(List.Pairwise.and h1 h2).imp λ{a b} jK=>?_;obtain⟨g1,g2⟩:=jK
 cases h3:bT a.k b.k with
 |true=>rfl
 |false=>exact absurd (ml h3 (by simpa using g1)) g2
def GU {E:List En}(hn:(E.map (·.k)).Nodup){rows:List (Ky×AV)}(hp:rows.Perm (E.map fR)):Ic rows=(gR E).map fR:=by
 have hk:∀{l:List (Ky×AV)},l.Perm (E.map fR)->(l.map (·.1)).Nodup:=λh=>(h.map _).nodup_iff.2 (by
  have:(E.map fR).map (·.1)=E.map (·.k):=by simp[fR,Function.comp_def]
  rw[this];exact hn)
 have p1:(Ic rows).Perm (E.map fR):=(aiG _ _).trans hp;have p2:((gR E).map fR).Perm (E.map fR):=(iW E).map _;have o1:(Ic rows).Pairwise λx y=>(!(bT y.1 x.1))=true:=aix (le:=λx y:Ky×AV=>!(bT y.1 x.1)) (λa b c=>uA _ _ _) (λa b=>uB _ _) rows;have o2:((gR E).map fR).Pairwise λx y=>(!(bT y.1 x.1))=true:=by
  rw[ahj];exact aix (le:=λx y:En=>!(bT y.k x.k)) (λa b c=>uA _ _ _) (λa b=>uB _ _) E
 refine List.Perm.eq_of_pairwise (le:=λx y=>(!(bT y.1 x.1))=true) ?_ o1 o2 (p1.trans p2.symm);intro x y hx hy h1 h2;have e:x.1=y.1:=ml (by simpa using h2) (by simpa using h1);have MM:=p1.mem_iff.1 hx;have Jo:=p2.mem_iff.1 hy;obtain⟨i,hi,e1⟩:=agW.1 MM;obtain⟨j,hj,e2⟩:=agW.1 Jo;have jz:i=j:=(getElem_inj (xs:=(E.map fR).map (·.1)) (h₀:=by simpa using hi) (h₁:=by simpa using hj) (hk (.refl _))).1 (by
  simp only[ahv] at e1 e2 ⊢;rw[e1,e2,e])
 subst jz;rw[<-e1,<-e2]
def Oz {L:List Dc}{E:List En}{F:List Ef}(h:su L E F)(hs:L.Pairwise λx y=>x.id<y.id)(hn:(E.map (·.k)).Nodup):(gR E).map (λe=>(⟨e.k.1,e.k.2,e.pl⟩:Tm))=cH L:=by
 have hk:(gR E).map (·.k)=dJ L:=Hq (KG hn) (qu L) λx=>by
  rw[nU,<-Si h];exact((iW E).map _).mem_iff
 unfold cH;rw[<-hk,ahG];refine ahh λe he=>?_;have:=Pu hn ((iW E).mem_iff.1 he);rw[Sf h hs] at this;simp[this]
theorem Td {L:List Dc}{E:List En}{F:List Ef}(h:su L E F)(hp:∀e∈F,0<e.x.length):(jo F 3).map (λe=>(⟨e.f,e.x⟩:Cl))=dK L:=by
 have one:∀g:Nat,(match F.find? (λe=>e.f==(5+g:Int)) with|some e=>[(⟨(sg e).f,(sg e).x⟩:Cl)]|none=>[])=nC L (5+g):=by
  intro g;have hlf:=Sh h (5+g);unfold QQ at hlf;unfold nC;rw[<-hlf]
  cases hf:F.find? (λe=>e.f==(5+g:Int)) with
  |none=>simp
  |some e=>
   have h1:=aiV hf;have h2:=hp e (ahP hf);have h3:e.f=5+g:=by simpa using h1
   simp only;rw[agL (by intro hh;rw[hh] at h2;simp at h2),Al];simp[sg,h3]
 have o0:=one 0;have o1:=one 1;have o2:=one 2;unfold dK;rw[show (5:Int)=5+((0:Nat):Int) by rfl,show (6:Int)=5+((1:Nat):Int) by rfl,show (7:Int)=5+((2:Nat):Int) by rfl,<-o0,<-o1,<-o2];simp only[jo]
 cases F.find? (λe=>e.f==(5+((0:Nat):Int)))<;>cases F.find? (λe=>e.f==(5+((1:Nat):Int)))<;>cases F.find? (λe=>e.f==(5+((2:Nat):Int)))<;>simp
end Go.Proofs.YtoejlmpbebjemaaGreat
namespace eN
open ia
def cC {d:Dc}(h:aS d=true):(1<=d.id/\d.id<=1000000000)/\(∀i,i<d.zs.length->mB d.zs i=true)/\∀i,i<d.ns.length->qN d.ns i=true:=by
 unfold aS at h;simp only[agO,agQ] at h;exact⟨h.1,λi hi=>ow h.2.1 hi,λi hi=>ow h.2.2 hi⟩
def fH {zs:List Zn}{i:Nat}(h:mB zs i=true):iw zs i<(zs.getD i z0).f/\(zs.getD i z0).f<=4/\(zs.getD i z0).ws.length≠0/\∀k,k<(zs.getD i z0).ws.length->o3 (zs.getD i z0).ws k=true:=by
 unfold mB at h;simp only[agO,agQ] at h;exact⟨h.1.1,h.1.2,h.2.1,λk hk=>ow h.2.2 hk⟩
def mj {ws:List Wd}{k:Nat}(h:o3 ws k=true):okW (ws.getD k w0).1=true/\iG ws k<(ws.getD k w0).2/\(ws.getD k w0).2<=1000000:=by
 unfold o3 at h;simp only[agO,agQ] at h;exact⟨h.1,h.2.1,h.2.2⟩
theorem ug {ws:List Wd}(h:∀k,k<ws.length->o3 ws k=true):∀k,k<ws.length->(k:Int)<=(ws.getD k w0).2
 |0,hk=>by have:=(mj (h 0 hk)).2.1;unfold iG at this;rw[agN rfl] at this;omega
 |k+1,hk=>by
  have h1:=ug h k (by omega);have h2:=(mj (h (k+1) hk)).2.1;unfold iG at h2;rw[agL (by omega),ah9] at h2;omega
def Dh {ws:List Wd}(h:∀k,k<ws.length->o3 ws k=true):ws.length<=1000001:=by
 rcases ahc ws.length with h0|h0
 ·omega
 ·have h1:=ug h (ws.length-1) (by omega);have h2:=(mj (h (ws.length-1) (by omega))).2.2;omega
theorem kh {zs:List Zn}(h:∀k,k<zs.length->mB zs k=true):∀k,k<zs.length->(k:Int)+1<=(zs.getD k z0).f
 |0,hk=>by have:=(fH (h 0 hk)).1;unfold iw at this;rw[agN rfl] at this;omega
 |k+1,hk=>by
  have h1:=kh h k (by omega);have h2:=(fH (h (k+1) hk)).1;unfold iw at h2;rw[agL (by omega),ah9] at h2;omega
def sT {zs:List Zn}(h:∀k,k<zs.length->mB zs k=true):zs.length<=4:=by
 rcases ahc zs.length with h0|h0
 ·omega
 ·have h1:=kh h (zs.length-1) (by omega);have h2:=(fH (h (zs.length-1) (by omega))).2.1;omega
theorem GL {d:Dc}(h:aS d=true):(eP d.zs).length<=4000004:=by
 obtain⟨_,h2,_⟩:=cC h;have h4:=sT h2;have:∀zs:List Zn,(∀z∈zs,z.ws.length<=1000001)->(eP zs).length<=zs.length*1000001:=by
  intro zs
  induction zs with
  |nil=>intro _;simp[eP]
  |cons z r ih=>
   intro hz;have h1:=ih λy hy=>hz y (by simp[hy]);have h2:=hz z (by simp);have e:eP (z::r)=oZ z.f z.ws++eP r:=by simp[eP]
   rw[e,agF,ahd];have:(oZ z.f z.ws).length=z.ws.length:=by simp[oZ]
   omega
 have h5:=this d.zs λz hz=>by
  obtain⟨i,hi,e⟩:=Go.Am.bK z0 hz;have:=Dh (fH (h2 i hi)).2.2.2;rw[e] at this;exact this
 omega
end eN
namespace Go.Proofs.YtoejlmpbebjemaaGreat
open Go.Proofs.Tryz(prog)
open Go Go.Am ia eN
def GK {d:Dc}(h:aS d=true)(hs:oY d):NM d:=by
 obtain⟨_,h2,h3⟩:=cC h;refine⟨λz hz=>⟨?_,(hs.w z hz).2⟩,λx hx=>?_⟩
 ·obtain⟨i,hi,e⟩:=bK z0 hz;have h4:=kh h2 i hi;have h5:=(fH (h2 i hi)).2.1;rw[e] at h4 h5;omega
 ·obtain⟨i,hi,e⟩:=bK n0 hx;have:=h3 i hi;unfold qN vH at this;simp only[agO,agQ] at this;rw[e] at this;omega
theorem xR:∀l:List Dc,(∀d∈l,aS d=true)->kM l<=l.length*4000004
 |[],_=>by simp[kM]
 |d::r,h=>by
  have h1:=xR r λx hx=>h x (by simp[hx]);have h2:=GL (h d (by simp));have:kM (d::r)=(eP d.zs).length+kM r:=by simp[kM]
  rw[this,ahd];omega
theorem xZ:∀l:List Dc,(∀d∈l,d.ns.length<=1000000)->mQ l<=l.length*1000000
 |[],_=>by simp[mQ]
 |d::r,h=>by
  have h1:=xZ r λx hx=>h x (by simp[hx]);have h2:=h d (by simp);have:mQ (d::r)=d.ns.length+mQ r:=by simp[mQ]
  rw[this,ahd];omega
theorem kb {α:Type}{fa fb:α->List AV}{k n0 t0:Nat}{H:List aA}(ha:ep fa k)(hb:ep fb k):∀(l:List α) (h:∀x∈l,∀j,j<k->fU n0 t0 H ((fa x).getD j .top) ((fb x).getD j .top)) (rest:List AV) (j:Nat) (hj:j<(l.flatMap fb).length),fU n0 t0 H ((l.flatMap fa++rest).getD j .top) ((l.flatMap fb)[j]'hj)
 |[],_,_,j,hj=>by simp at hj
 |x::r,h,rest,j,hj=>by
  have hx:=h x (by simp)
  by_cases Jq:j<k
  ·have e1:((x::r).flatMap fa++rest).getD j .top=(fa x).getD j .top:=by
    rw[agT,agV,agB,agB,agK (by rw[ha];exact Jq)]
   have e2:((x::r).flatMap fb)[j]'hj=(fb x).getD j .top:=by
    have:j<(fb x).length:=by rw[hb];exact Jq
    simp only[agT];rw[ahS this,agB,agD this];rfl
   rw[e1,e2];exact hx j Jq
  ·have hl:((x::r).flatMap fb).length=k+(r.flatMap fb).length:=by rw[agT,agF,hb]
   have ih:=kb ha hb r (λy hy=>h y (by simp[hy])) rest (j-k) (by omega);have e1:((x::r).flatMap fa++rest).getD j .top=(r.flatMap fa++rest).getD (j-k) .top:=by
    rw[agT,agV,agB,agB,agX (by rw[ha];omega),ha]
   have e2:((x::r).flatMap fb)[j]'hj=(r.flatMap fb)[j-k]'(by omega):=by
    simp only[agT];rw[aiI (by rw[hb];omega)];simp only[hb x]
   rw[e1,e2];exact ih
theorem Eb {n0 t0:Nat}{H:List aA}{e:En}(hi:n0<=e.i)(hH:H[e.i]?=some e.oW):fU n0 t0 H (.cN e.i 0 e.n) (.sl e.pl.length (bD e.pl) .none):=by
 have hn:e.n=e.pl.length:=by simp[En.n,En.pl]
 have tI:bD e.pl=(e.dY++[((e.d,e.at_),Tag.own e.tk)]).flatMap λx=>psC x.1:=by simp[En.pl,bD,ahR]
 have Mv:e.oW=.cells ((e.dY++[((e.d,e.at_),Tag.own e.tk)]).flatMap pwC++e.rest):=by
  unfold En.oW gQ lI jE;simp
 rw[Mv] at hH;rw[hn,tI];refine .cN hi hH ?_ λj hj=>?_
 ·rw[agF,bY (f:=λx:Ps×Tag=>psC x.1) (k:=2) (λ_=>rfl),bY Br];omega
 ·rw[ahO];refine kb (fa:=pwC) (fb:=λx=>psC x.1) Br (λ_=>rfl) _ (λx _ j hj=>?_) e.rest j hj
  match j,hj with
  |0,_=>exact .keep (.inl rfl) (.int _ _)
  |1,_=>exact .keep (.inr rfl) (by simp)
theorem LK {n0 t0:Nat}{H:List aA}{l:List En}{it n:Nat}{rest:List AV}(zg:n0<=it)(hH:H[it]?=some (.cells (eG (l.map fR)++rest)))(he:∀e∈l,n0<=e.i/\H[e.i]?=some e.oW):fU n0 t0 H (.cN it 0 n) (.sl n (du (l.map λe=>(⟨e.k.1,e.k.2,e.pl⟩:Tm))) .none):=by
 have h1:eG (l.map fR)=l.flatMap λe=>Qh (fR e):=by simp[eG,ahR]
 have h2:du (l.map λe=>(⟨e.k.1,e.k.2,e.pl⟩:Tm))=l.flatMap λe=>o8 ⟨e.k.1,e.k.2,e.pl⟩:=by simp[du,ahR]
 rw[h1] at hH;rw[h2];refine .cN zg hH ?_ λj hj=>?_
 ·rw[agF,bY (f:=λe:En=>o8 ⟨e.k.1,e.k.2,e.pl⟩) (k:=3) (λ_=>rfl),bY (f:=λe:En=>Qh (fR e)) (k:=3) (λ_=>rfl)];omega
 ·rw[ahO];refine kb (fa:=λe=>Qh (fR e)) (fb:=λe=>o8 ⟨e.k.1,e.k.2,e.pl⟩) (k:=3) (λ_=>rfl) (λ_=>rfl) l (λe Ch j hj=>?_) rest j hj
  match j,hj with
  |0,_=>exact .keep (.inl rfl) (.int _ _)
  |1,_=>exact .keep (.inl rfl) (.str _)
  |2,_=>exact Eb (he e Ch).1 (he e Ch).2
theorem Hw {n0 t0:Nat}{H:List aA}{l:List En}{it n cap:Nat}{rest:List AV}(zg:n0<=it)(hH:H[it]?=some (.cells (eG (l.map fR)++rest)))(he:∀e∈l,n0<=e.i/\H[e.i]?=some e.oW):fU n0 t0 H (.bJ it n cap) (.sl n (du (l.map λe=>(⟨e.k.1,e.k.2,e.pl⟩:Tm))) .none):=by
 have h1:eG (l.map fR)=l.flatMap λe=>Qh (fR e):=by simp[eG,ahR]
 have h2:du (l.map λe=>(⟨e.k.1,e.k.2,e.pl⟩:Tm))=l.flatMap λe=>o8 ⟨e.k.1,e.k.2,e.pl⟩:=by simp[du,ahR]
 rw[h1] at hH;rw[h2];refine .bJ zg hH ?_ λj hj=>?_
 ·rw[agF,bY (f:=λe:En=>o8 ⟨e.k.1,e.k.2,e.pl⟩) (k:=3) (λ_=>rfl),bY (f:=λe:En=>Qh (fR e)) (k:=3) (λ_=>rfl)];omega
 ·refine kb (fa:=λe=>Qh (fR e)) (fb:=λe=>o8 ⟨e.k.1,e.k.2,e.pl⟩) (k:=3) (λ_=>rfl) (λ_=>rfl) l (λe Ch j hj=>?_) rest j hj
  match j,hj with
  |0,_=>exact .keep (.inl rfl) (.int _ _)
  |1,_=>exact .keep (.inl rfl) (.str _)
  |2,_=>exact Eb (he e Ch).1 (he e Ch).2
theorem PE {n0 t0:Nat}{H:List aA}{l:List Ef}{n:Nat}{tg:Tag}(he:∀e∈l,n0<=e.i/\H[e.i]?=some (Ef.oW e)):fU n0 t0 H (.sl n (vR l) tg) (.sl n (dH (l.map λe=>(⟨e.f,e.x⟩:Cl))) .none):=by
 have h1:vR l=l.flatMap ccC++[]:=by simp[vR]
 have h2:dH (l.map λe=>(⟨e.f,e.x⟩:Cl))=l.flatMap λe=>ru ⟨e.f,e.x⟩:=by simp[dH,ahR]
 rw[h2];refine .sl ?_ λj hj=>?_
 ·rw[Ez,bY (f:=λe:Ef=>ru ⟨e.f,e.x⟩) (k:=2) (λ_=>rfl)]
 ·rw[h1];refine kb (fa:=ccC) (fb:=λe=>ru ⟨e.f,e.x⟩) I9 (λ_=>rfl) l (λe Ch j hj=>?_) [] j hj
  match j,hj with
  |0,_=>exact .keep (.inl rfl) (.int _ _)
  |1,_=>exact .M5 (he e Ch).1 (he e Ch).2 (by simp)
def BQ (H:List aA)(T:au)(r0:AV):AV->List aA->au->Prop:=λr H' T'=>(∃G,H'=H++G)/\(∃rT,T'=T++rT)/\fU H.length T.length H' r r0
theorem xJ {F:List Ef}:∀{g:Nat} {e:Ef},e∈jo F g->∃e0∈F,e=sg e0/\5<=e0.f/\e0.f<5+g
 |0,e,h=>by simp[jo] at h
 |g+1,e,h=>by
  unfold jo at h
  split at h
  ·rename_i e0 hf;rcases agR.1 h with h|h
   ·obtain⟨x,h1,h2,h3,h4⟩:=xJ h;exact⟨x,h1,h2,h3,by omega⟩
   ·simp at h;have h1:=aiV hf;have h2:e0.f=5+g:=by simpa using h1
    exact⟨e0,ahP hf,h,by omega,by omega⟩
  ·obtain⟨x,h1,h2,h3,h4⟩:=xJ h;exact⟨x,h1,h2,h3,by omega⟩
attribute [-simp] getD_eq_getElem?_getD in
theorem Ma (H:List aA)(T:au)(nb tb N M:Nat)(gw:nb<=H.length)(fQ:tb<=T.length)(L:List Dc)(b2 b4 b5 b6 td:Nat)(E:List En)(F:List Ef)(J:List aA)(U:au)
  (hB:DI H T b2 b4 b5 b6 td N M J U (L.map (·.id)) E F) (hR:su L E F) (hs:L.Pairwise λx y=>x.id<y.id) (X5:E.length<=1099511627776) (hM:M<=1099511627776) (kK:H.length<=b2) (FY:H.length<=b4) :
  AW ⟨prog,192,152,nb,tb,[100104,100147,100166]⟩ (dX [1,1,1,1,1,1,1,1,1] (Tryz.f68.body.getD .skip)) (sy prog Tryz.f68.results.toList (BQ H T (.df [jM ⟨L.map (·.id),cH L,dK L⟩,.int .i64 0]))) ⟨[(2,.ptr b2 0),(4,.ptr b4 0),(5,.aQ b5),(6,.aQ b6)],J,U⟩:=by
 conv=>arg 2;whnf
 have hBe:=hB.hE;have hBn:=hB.ndE;have X9:=hB.hF;have aeN:=hB.ndF;have aeO:=hB.ftF;have hpU:=hB.pU;have lTU:=hpU.le;have MO:=hB.hU.lt (i:=td) (b:=((L.map (·.id)).length,1)) (by simp);have UM:=Oz hR hs hBn;have hce:=Td hR (λe he=>(X9 e he).p);refine af λK1 aP=>?_;refine GN H T nb tb N M gw fQ b2 b4 b5 b6 td (L.map (·.id)) E F J U hB X5 FY _ λe J1 rows tv TB t1 t2 t3 t4 t5 t6=>?_;have lH1:=t4.le;have l21:=t3.lt (i:=b2) (b:=.cells [.sl 0 [] .full,.sl 0 [] .full,.sl 0 [] .full]) (by simp);have l41:=t3.lt (i:=b4) (b:=.cells [.sl (L.map (·.id)).length (ints (L.map (·.id))) (.own td),tv,.sl 0 [] .full]) (by simp);have l51:=t3.lt (i:=b5) (b:=.map (cG E)) (by simp);have l61:=t3.lt (i:=b6) (b:=.map (bP F)) (by simp);have e4:=aX (t3.get (i:=b4) (b:=.cells [.sl (L.map (·.id)).length (ints (L.map (·.id))) (.own td),tv,.sl 0 [] .full]) (by simp));refine aP _ (aI ⟨[(2,.ptr b2 0),(4,.ptr b4 0),(5,.aQ b5),(6,.aQ b6)],J1,U⟩ (ag [] [] (by simp) (by simp) (by show nb<=J1.length;omega) (by show tb<=U.length;omega) t5 t6) ?_);clear aP;have hsr:=GU hBn t1;generalize kU:L.map (·.id)=ids at *;have fin:∀(e:Env) (J2:List aA) (it n cap:Nat) (rest:List AV) (R2:List (Nat×aA)),Has J2 ((b4,.cells [.sl ids.length (ints ids) (.own td),tv,.sl 0 [] .full])::(b6,.map (bP F))::(iY F++((b2,.cells [.sl 0 [] .full,.sl 0 [] .full,.sl 0 [] .full])::(R2++dU E))))->
   ((E=[]/\tv=.sl 0 [] .full)\/(tv=.bJ it (gR E).length cap/\(it,.cells (eG ((gR E).map fR)++rest))∈R2/\H.length<=it))->gG H J2->bN J2 U->J1.length<=J2.length->bC J2.length U.length e [(2,.ptr b2 0),(4,.ptr b4 0),(6,.aQ b6)]->
   AW ⟨prog,192,152,nb,tb,[100104,100147,100166]⟩ (dX [1,1] (dX [1,1,1,1,1,1,1,1,1] (Tryz.f68.body.getD .skip))) (sy prog Tryz.f68.results.toList (BQ H T (.df [jM ⟨ids,cH L,dK L⟩,.int .i64 0]))) ⟨e,J2,U⟩:=by
  intro e J2 it n cap rest R2 iQ MN se MB jy he
  conv=>arg 2;whnf
  have Mr:=se.le;have l22:=iQ.lt (i:=b2) (b:=.cells [.sl 0 [] .full,.sl 0 [] .full,.sl 0 [] .full]) (by simp);have WL:=iQ.lt (i:=b4) (b:=.cells [.sl ids.length (ints ids) (.own td),tv,.sl 0 [] .full]) (by simp);have l62:=iQ.lt (i:=b6) (b:=.map (bP F)) (by simp);have FX:Below J2.length U.length tv:=by
   rcases MN with⟨_,h⟩|⟨h,hm,_⟩
   ·rw[h];simp
   ·rw[h];exact .bJ _ _ _ (iQ.lt (i:=it) (b:=.cells (eG ((gR E).map fR)++rest)) (by simp[hm]))
  refine af λK2 bp=>?_;refine aI ⟨[(2,.ptr b2 0),(4,.ptr b4 0),(6,.aQ b6)],J2,U⟩ (ag [] [] (by simp) (by simp) (by show nb<=J2.length;omega) (by show tb<=U.length;omega) MB he) ?_;refine L5 (N:=M) H T nb tb gw fQ b2 b4 b6 _ tv F J2 U ((b2,.cells [.sl 0 [] .full,.sl 0 [] .full,.sl 0 [] .full])::(R2++dU E)) iQ X9 hM aeN aeO se hpU MB FY l22 FX (by simp;omega) _ λe J3 U3 cv c1 c2 c3 c4 c5 c6 c7=>?_;have Jm:=c3.le;have Jl:=c4.le;have l23:b2<J3.length:=by omega
  have l43:b4<J3.length:=by omega
  have e4:=aX (c2.get (i:=b4) (b:=.cells [.sl ids.length (ints ids) (.own td),tv,cv]) (by simp));refine bp _ (aI ⟨[(2,.ptr b2 0),(4,.ptr b4 0)],J3,U3⟩ (ag [] [] (by simp) (by simp) (by show nb<=J3.length;omega) (by show tb<=U3.length;omega) c5 (by simp at c7;simp[c7])) ?_);clear bp;have gC:∀X,Has (J3.set b2 X) ((b4,.cells [.sl ids.length (ints ids) (.own td),tv,cv])::(b6,.map (bP F))::(iY (fJ 8 F)++((b2,X)::(R2++dU E)))):=λX=>by
   have:=Has.set (A:=(b4,.cells [.sl ids.length (ints ids) (.own td),tv,cv])::(b6,.map (bP F))::iY (fJ 8 F)) (B:=R2++dU E) (b:=.cells [.sl 0 [] .full,.sl 0 [] .full,.sl 0 [] .full]) (by simpa using c2) X;simpa using this
  have fz:∀X (dv' yY MY:AV),(dv'=.sl ids.length (ints ids) (.own td)\/dv'=.sl ids.length (ints ids) .none)->(yY=tv\/yY=cK tv)->(MY=cv\/MY=cK cv)->
    BQ H T (.df [jM ⟨ids,cH L,dK L⟩,.int .i64 0]) (.df [.agg [dv',yY,MY],.int .i64 0]) (J3.set b2 X) U3:=by
   intro X dv' yY MY hd ht hc;refine⟨c3.set kK _,c4,fU.pair (.agg rfl λj hj=>?_) (.keep (.inl rfl) (.int _ _))⟩
   match j,hj with
   |0,_=>
    rcases hd with rfl|rfl
    ·exact .keep (.inr rfl) (by simp)
    ·exact .keep (.inl rfl) (by simp)
   |1,_=>
    show fU _ _ _ yY (.sl (cH L).length (du (cH L)) .none);rcases MN with⟨h0,rfl⟩|⟨rfl,hm,hi⟩
    ·have:cH L=[]:=by rw[<-UM,h0];simp[gR]
     rw[this];rcases ht with rfl|rfl
     ·exact .keep (.inr rfl) (by simp[sV])
     ·exact .keep (.inl rfl) (by simp[sV])
    ·have qT:∀e∈gR E,H.length<=e.i/\(J3.set b2 X)[e.i]?=some e.oW:=λe Ch=>by
      have MU:=(iW E).mem_iff.1 Ch;exact⟨(hBe e MU).i,(gC X).get (i:=e.i) (b:=e.oW) (by
       have:(e.i,e.oW)∈dU E:=agG.2 ⟨e,MU,rfl⟩;simp[this])⟩
     have Qz:fU H.length T.length (J3.set b2 X) (.cN it 0 (gR E).length) (.sl (cH L).length (du (cH L)) .none):=by
      have hn:(cH L).length=(gR E).length:=by rw[<-UM];simp
      rw[hn,<-UM];exact LK (rest:=rest) hi ((gC X).get (by simp[hm])) qT
     rcases ht with rfl|rfl
     ·have hn:(cH L).length=(gR E).length:=by rw[<-UM];simp
      rw[hn,<-UM];exact Hw (rest:=rest) hi ((gC X).get (by simp[hm])) qT
     ·exact Qz
   |2,_=>
    show fU _ _ _ MY (.sl (dK L).length (dH (dK L)) .none);have hn:(dK L).length=(jo F 3).length:=by rw[<-hce];simp
    have hfc:∀tg,fU H.length T.length (J3.set b2 X) (.sl (jo F 3).length (vR (jo F 3)) tg) (.sl (dK L).length (dH (dK L)) .none):=λtg=>by
     rw[hn,<-hce];refine PE λe Ch=>?_;obtain⟨e0,h1,rfl,h2,h3⟩:=xJ Ch;have fK:(e0.i,Ef.oW (sg e0))∈iY (fJ 8 F):=by
      refine agG.2 ⟨sg e0,agG.2 ⟨e0,h1,?_⟩,rfl⟩;rw[agN (by omega)]
     exact⟨(X9 e0 h1).i,(gC X).get (i:=e0.i) (b:=Ef.oW (sg e0)) (by simp[fK])⟩
    rcases c1 with⟨h0,rfl⟩|⟨tc,rfl,_,_⟩
    ·have h1:=hfc .full;rw[h0] at h1;rcases hc with rfl|rfl
     ·exact h1
     ·have h2:=hfc .none;rw[h0] at h2;exact h2
    ·rcases hc with rfl|rfl
     ·exact hfc _
     ·exact hfc .none
  have e2:=aX (c2.get (i:=b2) (b:=.cells [.sl 0 [] .full,.sl 0 [] .full,.sl 0 [] .full]) (by simp));refine ae λK hK=>?_;simp(disch:=omega)[e4,e2];apply hK;apply az;simp(disch:=omega) ;exact fz _ _ _ _ (.inl rfl) (.inl rfl) (.inl rfl)
 rcases t2.h with⟨za,rfl,rfl⟩|⟨it,cap,rest,rfl,rfl,g1,g2,g3,g4⟩
 ·have cs:=λH T tg=>GS H T tg;have hE0:E=[]:=by
   have:=t1.length_eq;rw[za] at this;simp at this;exact aho.1 this.symm
  refine ae λK hK=>?_;simp(disch:=omega)[e4];refine ak (cs _ _ _) ?_;simp(disch:=omega) ;apply hK;refine fin _ J1 0 0 0 [] [] ?_ (.inl ⟨hE0,rfl⟩) t4 t5 (agE _) (by simp;omega);have h1:Has J1 ((b4,.cells [.sl ids.length (ints ids) (.own td),.sl 0 [] .full,.sl 0 [] .full])::(b2,.cells [.sl 0 [] .full,.sl 0 [] .full,.sl 0 [] .full])::(b6,.map (bP F))::(iY F++dU E)):=t3.sub (.cons_cons _ (.cons_cons _ (.cons_cons _ (ahB _ _))));refine h1.perm (List.Perm.cons _ ?_);exact(List.Perm.cons _ aiX).trans (List.Perm.swap _ _ _)
 ·have gi:=t3.get (i:=it) (b:=.cells (eG rows++rest)) (by simp);have lit:=(agC.1 gi).1;have ad6:rows≠[]:=λh=>by rw[h] at g4;simp at g4
  have hrn:rows.length=(gR E).length:=by
   have:=t1.length_eq;rw[agU] at this;rw[this];exact(iW E).length_eq.symm
  have hrd:rows.Pairwise λx y=>x.1≠y.1:=by
   have h1:((E.map fR).map (·.1)).Nodup:=by
    have:(E.map fR).map (·.1)=E.map (·.k):=by simp[fR,Function.comp_def]
    rw[this];exact hBn
   have h2:=(t1.map (·.1)).nodup_iff.2 h1;rw[List.Nodup,ahj] at h2;exact h2
  have y9:rows.length<=1099511627776:=by
   rw[hrn,(iW E).length_eq];exact X5
  have cs:=λU=>KA rows ad6 hrd rest it cap y9 J1 U gi;rw[hsr] at cs;have iQ:=Has.set (A:=[(b4,.cells [.sl ids.length (ints ids) (.own td),.bJ it rows.length cap,.sl 0 [] .full])]) (B:=(b2,.cells [.sl 0 [] .full,.sl 0 [] .full,.sl 0 [] .full])::(b6,.map (bP F))::(b5,.map (cG E))::(iY F++dU E)) (b:=.cells (eG rows++rest)) (by simpa using t3) (.cells (eG ((gR E).map fR)++rest));have se:=t4.set g3 (.cells (eG ((gR E).map fR)++rest));have jy:(J1.set it (.cells (eG ((gR E).map fR)++rest))).length=J1.length:=by simp
  refine ae λK hK=>?_;simp(disch:=omega)[e4];refine ak (cs _) ?_;simp(disch:=omega) ;apply hK;refine dy λfj=>?_;simp only at fj;refine fin _ _ it 0 cap rest [(it,.cells (eG ((gR E).map fR)++rest))] ?_ (.inr ⟨by rw[hrn],by simp,g3⟩) se fj (by omega) (by simp;omega);have h1:Has (J1.set it (.cells (eG ((gR E).map fR)++rest))) ((b4,.cells [.sl ids.length (ints ids) (.own td),.bJ it rows.length cap,.sl 0 [] .full])::(it,.cells (eG ((gR E).map fR)++rest))::(b2,.cells [.sl 0 [] .full,.sl 0 [] .full,.sl 0 [] .full])::(b6,.map (bP F))::(iY F++dU E)):=iQ.sub (.cons_cons _ (.cons_cons _ (.cons_cons _ (.cons_cons _ (ahB _ _)))));refine h1.perm (List.Perm.cons _ ?_);refine(List.Perm.cons _ (aiX.trans (List.Perm.cons _ aiX))).trans ?_;exact(List.Perm.swap _ _ _).trans ((List.Perm.cons _ (List.Perm.swap _ _ _)).trans (List.Perm.swap _ _ _))
theorem ke {n0 t0:Nat}{H:List aA}(x:Int):fU n0 t0 H (.df [.agg [.sl 0 [] .full,.sl 0 [] .full,.sl 0 [] .full],.int .i64 x]) (.df [jM bV,.int .i64 x]):=by
 refine fU.pair (.agg rfl λj hj=>?_) (.keep (.inl rfl) (.int _ _))
 match j,hj with
 |0,_=>exact .keep (.inr rfl) (by simp[bV])
 |1,_=>exact .keep (.inr rfl) (by simp[bV,sV])
 |2,_=>exact .keep (.inr rfl) (by simp[bV,Ew])
theorem qg {α:Type}[DecidableEq α]:∀{l m:List α},l.Nodup->(∀x∈l,x∈m)->l.length<=m.length
 |[],_,_,_=>agP _
 |a::l,m,hn,h=>by
  have ⟨h1,h2⟩:=aiU.1 hn;have ha:=h a (by simp);have:=qg (m:=m.erase a) h2 λx hx=>by
   have dN:x≠a:=λe=>h1 (e▸hx);exact(List.mem_erase_of_ne dN).2 (h x (by simp[hx]))
  rw[List.length_erase_of_mem ha] at this;have:=List.length_pos_of_mem ha;simp;omega
theorem O0 {L:List Dc}{E:List En}{F:List Ef}(h:su L E F):E.length<=kM L:=by
 have one:∀{id:Int} {E E':List En} {l:List (Ky×Int)},om id E l E'->(E.map (·.k)).Nodup->E'.length<=E.length+l.length:=by
  intro id E E' l h hn
  induction h with
  |nil=>simp
  |@snoc E1 E2 l k p h h2 ih=>
   have AP:=h.nd hn;have h3:E2.length<=E1.length+1:=by
    have:=qg h2.nd (m:=k::E1.map (·.k)) λx hx=>by
     rcases (h2.ks x).1 hx with rfl|hx
     ·simp
     ·simp[hx]
    simpa using this
   simp;omega
 have nd:∀{L:List Dc} {E:List En} {F:List Ef},su L E F->(E.map (·.k)).Nodup:=by
  intro L E F h
  induction h with
  |nil=>simp
  |snoc _ h1 _ ih=>exact h1.nd ih
 induction h with
 |nil=>simp
 |@snoc l d E E' F F' h h1 h2 ih=>
  have:=one h1 (nd h);rw[Dd];have e:kM [d]=(eP d.zs).length:=by simp[kM]
  omega
theorem qC (l : List Dc) (hl : l.length <= 19) (hs : ∀ d ∈ l, oY d) (hn : ∀ d ∈ l, d.ns.length <= 1000000) (H : List aA) (T : au) (tg : Tag) :
    ar prog 68 [.sl l.length (aN l) tg] H T (Is (.df [jM (cZ l).1, .int .i64 (cZ l).2]) H T) := by
  refine ar.cF ?_;refine ar.pf ?_;show ar prog _ _ H T (BQ H T _);have cl := λh H T => L7 l h (by omega) H T .none;have cl0 := λH T => HM H T .none;have b0 : decide ((2000 : Int) < l.length) = false := agI (by omega);have n0 : ¬ (2000 : Int) < l.length := by omega
  have FZ : ¬ 2000 < l.length := by omega
  refine ah 152 [100104,100147,100166] Tryz.ntmps68 Tryz.func68 rfl (λ_ _ => Tryz.call68 _ _) (by simp) (λHO => ?_);have eV : bN (H ++ [.cells [.sl 0 [] .full, .sl 0 [] .full, .sl 0 [] .full]]) T := HO.snoc (by simp);refine ae λK hK => ?_; simp (disch := omega) [-getD_eq_getElem?_getD]; refine hK _ ?_; clear hK K;refine af λK1 aP => ?_;refine ae λK hK => ?_; simp (disch := omega) [-getD_eq_getElem?_getD, b0, n0]; refine hK _ ?_; clear hK K;apply aF rfl;apply aq; simp (disch := omega) [-getD_eq_getElem?_getD];refine aP _ ?_; clear aP;have mid : ∀ (e : Env) (L : List Dc), re l L -> bC (H.length + 1) T.length e [(0, .sl L.length (aN L) .none), (2, .ptr H.length 0)] ->
      AW ⟨prog, 192, 152, H.length, T.length, [100104, 100147, 100166]⟩ (dX [1, 1, 1, 1] (Tryz.f68.body.getD .skip)) (sy prog Tryz.f68.results.toList (BQ H T (.df [jM (cZ l).1, .int .i64 (cZ l).2]))) ⟨e, H ++ [.cells [.sl 0 [] .full, .sl 0 [] .full, .sl 0 [] .full]], T⟩ := by
    intro e L hL he
    conv => arg 2; whnf
    have W4 := hL.len;have XI : ∀ d ∈ L, oY d := λd hd => hs d (hL.perm.mem_iff.1 hd);have VH : L.any (λd => !aS d) = l.any (λd => !aS d) := by
      rw [ajc, aij, aij];exact ⟨λ⟨d, h1, h2⟩ => ⟨d, hL.perm.mem_iff.1 h1, h2⟩, λ⟨d, h1, h2⟩ => ⟨d, hL.perm.mem_iff.2 h1, h2⟩⟩
    have cc := λH T => B4 L (by have : (40 : Nat) <= maxLen := by decide
                                omega) XI H T .none
    rw [VH] at cc;refine aI ⟨[(0, .sl L.length (aN L) .none), (2, .ptr H.length 0)], H ++ [.cells [.sl 0 [] .full, .sl 0 [] .full, .sl 0 [] .full]], T⟩ (ag [] [] (by simp) (by simp) (by simp) (by simp) eV (by simpa using he)) ?_;refine af λK2 bp => ?_
    cases Cs : l.any (λd => !aS d) with
    | true =>
      rw [Cs] at cc
      have hF : cZ l = (bV, 1) := by unfold cZ; rw [agL FZ, agN Cs]
      refine ae λK hK => ?_; simp (disch := omega) [-getD_eq_getElem?_getD]
      refine ak (cc _ _) ?_; simp (disch := omega) [-getD_eq_getElem?_getD]
      refine hK _ ?_; clear hK K
      apply aH rfl
      refine ae λK hK => ?_; simp (disch := omega) [-getD_eq_getElem?_getD]; refine hK _ ?_; clear hK K
      apply az; simp (disch := omega) [-getD_eq_getElem?_getD]
      rw [hF]
      exact ⟨⟨_, rfl⟩, ⟨[], by simp⟩, ke 1⟩
    | false =>
      rw [Cs] at cc
      have kS : ∀ d ∈ l, aS d = true := λd hd => by
        have := aiv.1 Cs d hd;simpa using this
      have Nu : ∀ d ∈ L, aS d = true := λd hd => kS d (hL.perm.mem_iff.1 hd)
      refine ae λK hK => ?_; simp (disch := omega) [-getD_eq_getElem?_getD]
      refine ak (cc _ _) ?_; simp (disch := omega) [-getD_eq_getElem?_getD]
      refine hK _ ?_; clear hK K
      apply aF rfl
      apply aq; simp (disch := omega) [-getD_eq_getElem?_getD]
      refine bp _ ?_; clear bp
      refine ae λK hK => ?_; simp (disch := omega) [-getD_eq_getElem?_getD]; refine hK _ ?_; clear hK K
      refine BN 1 0 (H ++ [.cells [.sl 0 [] .full, .sl 0 [] .full, .sl 0 [] .full]]) [.sl 0 [] .full, .sl 0 [] .full, .sl 0 [] .full] 0 [] (by omega) rfl (by simp) ?_
      refine ae λK hK => ?_; simp (disch := omega) [-getD_eq_getElem?_getD]; refine hK _ ?_; clear hK K
      refine ae λK hK => ?_; simp (disch := omega) [-getD_eq_getElem?_getD]; refine hK _ ?_; clear hK K
      refine dy λMF => ?_
      simp only at MF
      have hDI : DI H T H.length (H.length + 1) (H.length + 2) (H.length + 3) T.length 0 0 (H ++ [.cells [.sl 0 [] .full, .sl 0 [] .full, .sl 0 [] .full], .cells [.sl 0 [] (.own T.length), .sl 0 [] .full, .sl 0 [] .full], .map [], .map []]) (T ++ [(0, 1)]) [] [] [] := by
        refine ⟨⟨by simp [iY, dU], λp hp => ?_⟩, ⟨by simp [j5], λp hp => ?_⟩, λe he => by simp at he, by simp, rfl, λe he => by simp at he, by simp, rfl, ⟨_, rfl⟩, ⟨_, rfl⟩, by simpa using MF⟩
        · simp [iY, dU, bP, cG] at hp;rcases hp with rfl | rfl | rfl | rfl <;> simp
        · simp [j5] at hp;subst hp; simp
      refine aI ⟨[(0, .sl L.length (aN L) .none), (2, .ptr H.length 0), (4, .ptr (H.length + 1) 0), (5, .aQ (H.length + 2)), (6, .aQ (H.length + 3))], H ++ [.cells [.sl 0 [] .full, .sl 0 [] .full, .sl 0 [] .full], .cells [.sl 0 [] (.own T.length), .sl 0 [] .full, .sl 0 [] .full], .map [], .map []], T ++ [(0, 1)]⟩ (ag [] [] (by simp) (by simp) (by simp) (by simp) hDI.ok (by simp)) ?_
      have hW := xR L Nu
      have hM := xZ L λd hd => hn d (hL.perm.mem_iff.1 hd)
      refine af λK2 bp => ?_
      refine LU H T H.length T.length (agE _) (agE _) L H.length (H.length + 1) (H.length + 2) (H.length + 3) T.length _ _ hDI (by omega) (by omega) (by omega) (λd hd => by have := sT (cC (Nu d hd)).2.1; omega) (λd hd => GK (Nu d hd) (XI d hd)) (agE _) (by omega) (by omega) (by omega) (agE _) _ (λi h1 h2 h3 e J' U' q1 q2 q3 q4 q5 => ?_) λdN e J' U' E F r1 r2 r3 => ?_
      · have hF : cZ l = (bV, 10) := by
          unfold cZ;rw [agL FZ, agL (by rw [Cs]; simp), agN];exact λhh => Jf h1 h2 h3 ((hL.perm.map _).nodup_iff.2 hh)
        have l2 := (agC.1 q3).1;have e2 := aX q3;show sy _ _ _ .ret _;simp [-getD_eq_getElem?_getD, q1, q2, e2, l2];rw [hF];exact ⟨q4, q5, ke 10⟩
      · have yJ := AJ hL.ord dN
        have mM := me yJ;have vN : (l.map (·.id)).Nodup := (hL.perm.map _).nodup_iff.1 mM;have hLs : L = eg l := B2 hL (fT l) vN;have hF : cZ l = (⟨L.map (·.id), cH L, dK L⟩, 0) := by
          unfold cZ;rw [agL FZ, agL (by rw [Cs]; simp), agL (λhh => hh vN), <- hLs]
        have Ch := O0 r2;have lH := r1.pJ.le;have lT := r1.pU.le;refine bp _ (aI ⟨[(2, .ptr H.length 0), (4, .ptr (H.length + 1) 0), (5, .aQ (H.length + 2)), (6, .aQ (H.length + 3))], J', U'⟩ (ag [] [] (by simp) (by simp) (by simpa using lH) (by simpa using lT) r1.ok (by simp at r3; simp [r3])) ?_);rw [hF];exact Ma H T H.length T.length _ _ (agE _) (agE _) L _ _ _ _ _ E F J' U' r1 r2 yJ (by omega) (by omega) (agE _) (by omega)
  rcases Classical.em (l = []) with rfl | dN
  · have cs := λH T => EW 123 H T .none;refine ae λK hK => ?_; simp (disch := omega) [-getD_eq_getElem?_getD, tn];refine ak (cl0 _ _) ?_; simp (disch := omega) [-getD_eq_getElem?_getD];refine hK _ ?_; clear hK K;refine ae λK hK => ?_; simp (disch := omega) [-getD_eq_getElem?_getD];refine ak (cs _ _) ?_; simp (disch := omega) [-getD_eq_getElem?_getD];refine hK _ ?_; clear hK K;refine mid _ [] .nil ?_;simp [tn]
  · refine ae λK hK => ?_; simp (disch := omega) [-getD_eq_getElem?_getD];refine ⟨_, cl dN _ _, ?_⟩;rintro r H' T' ⟨rfl, k, rfl, rfl⟩;simp (disch := omega) [-getD_eq_getElem?_getD];refine hK _ ?_; clear hK K;have gA := xU Tj l (λ_ _ => trivial) (List.replicate k .top) (H.length + 1) hl (H ++ [.cells [.sl 0 [] .full, .sl 0 [] .full, .sl 0 [] .full], .cells (aN l ++ List.replicate k .top)]) T' (by simp) (by simp);refine ae λK hK => ?_; simp (disch := omega) [-getD_eq_getElem?_getD];refine ⟨_, gA, ?_⟩;rintro r H2 T2 ⟨rfl, rfl, L, rfl, hL⟩;simp (disch := omega) [-getD_eq_getElem?_getD];refine hK _ ?_; clear hK K;rw [show H ++ [aA.cells [.sl 0 [] .full, .sl 0 [] .full, .sl 0 [] .full], .cells (aN L ++ List.replicate k .top)] = (H ++ [.cells [.sl 0 [] .full, .sl 0 [] .full, .sl 0 [] .full]]) ++ [.cells (aN L ++ List.replicate k .top)] by simp];have hlL := hL.len;rw [<- ag2 T2];refine Oi (H := H ++ [.cells [.sl 0 [] .full, .sl 0 [] .full, .sl 0 [] .full]]) (T := T2) (e' := [(0, .sl L.length (aN L) .none), (2, .ptr H.length 0)]) ?_ ?_ eV ?_ ?_
    · simp
    · simp
    · rw [hlL];exact ⟨fU.M5 (rest := List.replicate k .top) (by simp) (by simp) (by simp), fU.same (by simp), trivial⟩
    · rw [ag2];exact mid [(0, .sl L.length (aN L) .none), (2, .ptr H.length 0)] L hL (by simp)
end Go.Proofs.YtoejlmpbebjemaaGreat
