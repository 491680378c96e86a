/- Indexes: segments with their dead documents (layer 40, plain). Putting and dropping in an index (layer 40, plain). What is found in an index is what is found in the segment of its live documents (layer 40, plain). Sizes of tidy indexes (layer 40, plain). When an index is valid (layer 40, plain). Puts and drops, one after the other, keep an index tidy (layer 40, plain). Indexes of documents with one word (layer 40, plain). Changes, one after the other (layer 40, plain). Sizes of the segments of an index (layer 40, plain). The example of the document, played (layer 40, plain). Indexes as cells (layer 40).
  Conditions: as the theorems say. -/
import Derived.Test.YtoejlmpbebjemaaGreatGZx
import Derived.Test.YtoejlmpbebjemaaGreatGZy
set_option linter.all false
set_option maxRecDepth 100000

open List (take_append_drop getD_eq_getElem?_getD take_take)
namespace Go.Proofs.YtoejlmpbebjemaaGreat
open Go Go.Am ie cN eN
abbrev Sd:=List Dc×List Int
def e0:Sd:=([],[])
def iP (p:Sd):List Dc:=p.1.filter λd=>!decide (d.id∈p.2)
def alive (x:List Sd):List Dc:=x.flatMap iP
structure GX (x:List Sd):Prop where
 vd:∀p∈x,VD p.1
 ne:∀p∈x,p.1≠[]
 da:∀p∈x,kI p.2
 dd:∀p∈x,∀i∈p.2,i∈p.1.map (·.id)
 nd:((alive x).map (·.id)).Nodup
 n:(alive x).length<=2000
def rY (L:List Dc):List Sd:=if L=[] then [] else [(L,[])]
def gY (x:List Sd)(i j:Nat)(L:List Dc):List Sd:=x.take i++rY L++x.drop j
def TC (L:List Dc):iP (L,[])=L:=by unfold iP;simp
def M4 (L:List Dc):alive (rY L)=L:=by
 unfold rY alive
 split
 ·rename_i h;rw[h];rfl
 ·simp[TC]
def dA (x y:List Sd):alive (x++y)=alive x++alive y:=by unfold alive;rw[aid]
def sJ {x:List Sd}{i j:Nat}{L:List Dc}(jV:i<=j)(hL:L.Perm (alive ((x.take j).drop i))):(alive (gY x i j L)).Perm (alive x):=by
 have e:x=x.take i++(x.take j).drop i++x.drop j:=by
  have h1:x.take i=(x.take j).take i:=by rw[take_take,aj5 jV]
  rw[h1,ah1,ah1]
 unfold gY;rw[dA,dA,M4]
 conv=>rhs;rw[e,dA,dA]
 exact(hL.append_left _).append_right _
def GX.NM {x:List Sd}(h:GX x){i j:Nat}{L:List Dc}(jV:i<=j)(hL:L.Perm (alive ((x.take j).drop i)))(hv:VD L):GX (gY x i j L):=by
 have hp:=sJ jV hL;have hm:∀p∈gY x i j L,p∈x\/(p=(L,[])/\L≠[]):=λp hp=>by
  unfold gY at hp;rcases ahI.1 hp with h1|h1
  ·rcases ahI.1 h1 with h2|h2
   ·exact .inl (ajt h2)
   ·unfold rY at h2
    split at h2
    ·simp at h2
    ·rename_i hn;simp only[aic] at h2;exact .inr ⟨h2,hn⟩
  ·exact .inl (List.mem_of_mem_drop h1)
 refine⟨λp hp=>?_,λp hp=>?_,λp hp=>?_,λp hp=>?_,(hp.map _).nodup_iff.2 h.nd,by rw[hp.length_eq];exact h.n⟩
 ·rcases hm p hp with h1|⟨rfl,_⟩
  ·exact h.vd p h1
  ·exact hv
 ·rcases hm p hp with h1|⟨rfl,h2⟩
  ·exact h.ne p h1
  ·exact h2
 ·rcases hm p hp with h1|⟨rfl,_⟩
  ·exact h.da p h1
  ·exact List.Pairwise.nil
 ·rcases hm p hp with h1|⟨rfl,_⟩
  ·exact h.dd p h1
  ·intro i hi;simp at hi
def et (x:List Sd):Nat:=(x.map λp=>p.1.length).sum+x.length
def qP (x y:List Sd):et (x++y)=et x+et y:=by unfold et;simp only[ahJ,List.sum_append,ahw];omega
def AB (L:List Dc):et (rY L)<=L.length+1/\(L=[]->et (rY L)=0):=by
 unfold rY et
 split
 ·rename_i h;simp[h]
 ·rename_i h;simp[h]
def yx {x:List Sd}{i j:Nat}{L:List Dc}(jV:i<=j)(hL:et (rY L)<et ((x.take j).drop i)):et (gY x i j L)<et x:=by
 have e:x=x.take i++(x.take j).drop i++x.drop j:=by
  have h1:x.take i=(x.take j).take i:=by rw[take_take,aj5 jV]
  rw[h1,ah1,ah1]
 unfold gY;rw[qP,qP]
 conv=>rhs;rw[e,qP,qP]
 omega
def sb (x:List Sd)(i:Nat):Bool:=decide ((x.getD i e0).1.length<2*(x.getD i e0).2.length)
def rL (x:List Sd)(i:Nat):Bool:=decide ((x.getD i e0).1.length<2*(x.getD (i+1) e0).1.length)
def both (x:List Sd)(i:Nat):List Dc:=dQ (iP (x.getD i e0)++iP (x.getD (i+1) e0))
def iV (x:List Sd):Option (List Sd):=
 match (List.range x.length).find? (sb x) with
 |some i=>some (gY x i (i+1) (iP (x.getD i e0)))
 |none=>((List.range (x.length-1)).reverse.find? (rL x)).map λi=>gY x i (i+2) (both x i)
def gE:Nat->List Sd->List Sd
 |0,x=>x
 |k+1,x=>match iV x with
  |none=>x
  |some y=>gE k y
def drop_one {x:List Sd}{i:Nat}(h:i<x.length):(x.take (i+1)).drop i=[x.getD i e0]:=by
 rw[aX x i e0 h,ajH (by rw[ahW];omega),List.drop_eq_nil_of_le (by rw[ahW];omega)];rfl
def ql {x:List Sd}{i:Nat}(h:i+1<x.length):(x.take (i+2)).drop i=[x.getD i e0,x.getD (i+1) e0]:=by
 rw[aX x (i+1) e0 h,ajH (by rw[ahW];omega),drop_one zO];rfl
def gC {x:List Sd}{i:Nat}(h:i<x.length):x.getD i e0∈x:=aQ x i e0 h
def tu (p:Sd):(iP p).length<=p.1.length:=ahX _ _
theorem kQ {p:Sd}(ha:kI p.2)(hd:∀i∈p.2,i∈p.1.map (·.id)):(iP p).length+p.2.length<=p.1.length:=by
 have h1:p.2.length<=(p.1.filter λd=>decide (d.id∈p.2)).length:=by
  have hn:p.2.Nodup:=ha.imp λh=>by omega
  have:=qI hn (m:=(p.1.filter λd=>decide (d.id∈p.2)).map (·.id)) λi hi=>by
   obtain⟨d,YG,rfl⟩:=ahz.1 (hd i hi);exact ahz.2 ⟨d,ahU.2 ⟨YG,by simpa using hi⟩,rfl⟩
  rwa [ahL] at this
 have h2:∀l:List Dc,(l.filter λd=>!decide (d.id∈p.2)).length+(l.filter λd=>decide (d.id∈p.2)).length=l.length:=by
  intro l
  induction l with
  |nil=>rfl
  |cons a l ih=>
   by_cases ha:a.id∈p.2<;>simp only[List.filter_cons,ha,decide_true,decide_false,Bool.not_true,ajU,ajc,aje,ahY,aiu]<;>omega
 have:=h2 p.1;unfold iP;omega
def yA {x:List Sd}(h:GX x){i:Nat}(hi:i+1<x.length):((iP (x.getD i e0)++iP (x.getD (i+1) e0)).map (·.id)).Nodup:=by
 have e:x=x.take i++(x.take (i+2)).drop i++x.drop (i+2):=by
  have h1:x.take i=(x.take (i+2)).take i:=by rw[take_take,aj5 zO]
  rw[h1,ah1,ah1]
 have hn:=h.nd;rw[e,dA,dA,ql hi,ahJ,ahJ] at hn;have:=(aif.1 (aif.1 hn).1).2.1;simpa[alive] using this
def wR {x:List Sd}(h:GX x){i:Nat}(hi:i+1<x.length):VD (both x i):=by
 refine⟨?_,qe (yA h hi),λd hd=>?_⟩
 ·unfold both;rw[dU];have e:x=x.take i++(x.take (i+2)).drop i++x.drop (i+2):=by
   have h1:x.take i=(x.take (i+2)).take i:=by rw[take_take,aj5 zO]
   rw[h1,ah1,ah1]
  have hn:=h.n;rw[e,dA,dA,ql hi,ahw,ahw] at hn;have e2:alive [x.getD i e0,x.getD (i+1) e0]=iP (x.getD i e0)++iP (x.getD (i+1) e0):=by simp[alive]
  rw[e2] at hn;omega
 ·rcases ahI.1 ((fw d).1 hd) with h1|h1
  ·exact(h.vd _ (gC zO)).v d (ahU.1 h1).1
  ·exact(h.vd _ (gC hi)).v d (ahU.1 h1).1
theorem ko {x y:List Sd}(h:GX x)(hs:iV x=some y):GX y/\(alive y).Perm (alive x)/\et y<et x:=by
 unfold iV at hs
 split at hs
 ·rename_i i hf;obtain rfl:=Option.some.inj hs;have hi:i<x.length:=ahV.1 (aiG hf);have hb:sb x i=true:=ajL hf;unfold sb at hb;simp only[ahH] at hb;have sN:(iP (x.getD i e0)).Perm (alive ((x.take (i+1)).drop i)):=by rw[drop_one hi];simp[alive]
  refine⟨h.NM zO sN ((h.vd _ (gC hi)).filter _),sJ zO sN,yx zO ?_⟩;rw[drop_one hi];have h1:=kQ (h.da _ (gC hi)) (h.dd _ (gC hi));have h2:=(AB (iP (x.getD i e0))).1;have h3:et [x.getD i e0]=(x.getD i e0).1.length+1:=by simp[et]
  omega
 ·cases hf:(List.range (x.length-1)).reverse.find? (rL x) with
  |none=>rw[hf] at hs;cases hs
  |some i=>
   rw[hf] at hs;obtain rfl:=Option.some.inj hs;have hi:i<x.length-1:=ahV.1 (List.mem_reverse.1 (aiG hf));have sN:(both x i).Perm (alive ((x.take (i+2)).drop i)):=by
    rw[ql zO];unfold both;simpa[alive] using(eR _).perm
   refine⟨h.NM zO sN (wR h zO),sJ zO sN,yx zO ?_⟩;rw[ql zO];have h2:=(AB (both x i)).1;have h3:et [x.getD i e0,x.getD (i+1) e0]=(x.getD i e0).1.length+(x.getD (i+1) e0).1.length+2:=by simp[et]
   have h4:(both x i).length=(iP (x.getD i e0)).length+(iP (x.getD (i+1) e0)).length:=by unfold both;rw[dU,ahw]
   have:=tu (x.getD i e0);have:=tu (x.getD (i+1) e0);omega
theorem uI:∀(k:Nat) {x:List Sd},GX x->et x<=k->GX (gE k x)/\(alive (gE k x)).Perm (alive x)/\iV (gE k x)=none
 |0,x,h,hk=>by
  have:x=[]:=ah5 (by unfold et at hk;omega);subst this;exact⟨h,List.Perm.refl _,rfl⟩
 |k+1,x,h,hk=>by
  unfold gE
  cases hs:iV x with
  |none=>exact⟨h,List.Perm.refl _,hs⟩
  |some y=>
   obtain⟨h1,h2,h3⟩:=ko h hs;obtain⟨g1,g2,g3⟩:=uI k h1 zO;exact⟨g1,g2.trans h2,g3⟩
def Ax {x:List Sd}(h:iV x=none):(∀i,i<x.length->2*(x.getD i e0).2.length<=(x.getD i e0).1.length)/\∀i,i+1<x.length->2*(x.getD (i+1) e0).1.length<=(x.getD i e0).1.length:=by
 unfold iV at h
 split at h
 ·cases h
 ·rename_i hf;have h1:∀i,i<x.length->sb x i=false:=λi hi=>by
   have:=aiJ.1 hf i (ahV.2 hi);simpa using this
  have h2:=aiJ.1 (Option.map_eq_none_iff.1 h);refine⟨λi hi=>?_,λi hi=>?_⟩
  ·have:=h1 i hi;unfold sb at this;simp only[aiP] at this;omega
  ·have:=h2 i (List.mem_reverse.2 (ahV.2 zO));unfold rL at this;simp only[ahH] at this;omega
def pP (p:Sd)(id:Int):Bool:=decide (id∈(iP p).map (·.id))
def Gq (d:List Int)(id:Int):List Int:=comb (λ_ _=>true) d [id]
def dg (x:List Sd)(id:Int):List Sd×Bool:=
 match (List.range x.length).find? λi=>pP (x.getD i e0) id with
 |some i=>(x.set i ((x.getD i e0).1,Gq (x.getD i e0).2 id),true)
 |none=>(x,false)
def so {x:List Sd}(h:GX x){p:Sd}(hp:p∈x):V p.2:=
 lj (h.da p hp) λq hq=>by
  obtain⟨d,hd,rfl⟩:=ahz.1 (h.dd p hp q hq);exact Aa (h.vd p hp) hd
def Z4 {id:Int}(h1:1<=id)(h2:id<=1000000000):V [id]:=lj (List.pairwise_singleton _ _) λq hq=>by simp at hq;omega
def xT {d:List Int}{id:Int}(hd:V d)(h1:1<=id)(h2:id<=1000000000):kI (Gq d id)/\∀z,z∈Gq d id↔z∈d\/z=id:=by
 obtain⟨a,b⟩:=iM (λ_ _=>true) hd (Z4 h1 h2);refine⟨a,λz=>?_⟩;unfold Gq;rw[b]
 by_cases hb:z=id
 ·subst hb;by_cases ha:z∈d<;>simp[ha]
 ·by_cases ha:z∈d<;>simp[ha,hb]
def ku {x:List Sd}{d:Dc}:d∈alive x↔∃p∈x,d∈iP p:=by unfold alive;exact ah7
def ZL {x:List Sd}{i:Nat}(h:i<x.length):x=x.take i++x.getD i e0::x.drop (i+1):=by
 conv=>lhs;rw[<-take_append_drop i x,aiW h]
 rw[ahs,ahu h];rfl
def aeK {x:List Sd}{i:Nat}(h:i<x.length)(p:Sd):x.set i p=x.take i++p::x.drop (i+1):=by
 rw[List.set_eq_take_append_cons_drop,ahF h]
def tR {l:List Dc}{id:Int}(h:id∉l.map (·.id)):l.filter (λd=>!decide (d.id=id))=l:=by
 rw[ai4];intro d hd;have:d.id≠id:=λe=>h (ahz.2 ⟨d,hd,e⟩);simp[this]
def mR {x:List Sd}(h:GX x)(id:Int):alive (dg x id).1=(alive x).filter λd=>!decide (d.id=id):=by
 unfold dg
 split
 ·rename_i i hf;have hi:i<x.length:=ahV.1 (aiG hf);have hh:pP (x.getD i e0) id=true:=by simpa using ajL hf
  unfold pP at hh;simp only[ahH] at hh;obtain⟨d0,hd0,e0'⟩:=ahz.1 hh;have hd1:=(ahU.1 hd0).1;have hb:=Aa (h.vd _ (gC hi)) hd1;rw[e0'] at hb;obtain⟨_,uj⟩:=xT (so h (gC hi)) hb.1 hb.2;have hn:=h.nd;rw[ZL hi,dA] at hn;have ec:alive (x.getD i e0::x.drop (i+1))=iP (x.getD i e0)++alive (x.drop (i+1)):=by simp[alive]
  rw[ec,ahJ,ahJ] at hn;obtain⟨n1,n2,n3⟩:=aif.1 hn;obtain⟨n4,n5,n6⟩:=aif.1 n2;have k1:id∉(alive (x.take i)).map (·.id):=λhm=>n3 id hm id (ahR _ hh) rfl;have k2:id∉(alive (x.drop (i+1))).map (·.id):=λhm=>n6 id hh id hm rfl;have e1:iP ((x.getD i e0).1,Gq (x.getD i e0).2 id)=(iP (x.getD i e0)).filter λd=>!decide (d.id=id):=by
   unfold iP;rw[List.filter_filter];refine aj7 λd hd=>?_;simp only[uj]
   by_cases ha:d.id∈(x.getD i e0).2<;>by_cases hb:d.id=id<;>simp[ha,hb]
  show alive (x.set i _)=_;rw[aeK hi,dA]
  conv=>rhs;rw[ZL hi,dA,ec,aij,aij,tR k1,tR k2]
  have ec2:alive (((x.getD i e0).1,Gq (x.getD i e0).2 id)::x.drop (i+1))=iP ((x.getD i e0).1,Gq (x.getD i e0).2 id)++alive (x.drop (i+1)):=by simp[alive]
  rw[ec2,e1]
 ·rename_i hf;rw[tR];intro hm;obtain⟨d,hd,e⟩:=ahz.1 hm;obtain⟨p,hp,ug⟩:=ku.1 hd;obtain⟨i,hi,rfl⟩:=bP e0 hp;have:=aiJ.1 hf i (ahV.2 hi);unfold pP at this;exact this (by simp only[ahH];exact ahz.2 ⟨d,ug,e⟩)
def EG {x:List Sd}(id:Int):(dg x id).2=decide (id∈(alive x).map (·.id)):=by
 unfold dg
 split
 ·rename_i i hf;have hi:i<x.length:=ahV.1 (aiG hf);have hh:pP (x.getD i e0) id=true:=by simpa using ajL hf
  unfold pP at hh;simp only[ahH] at hh;obtain⟨d,hd,e⟩:=ahz.1 hh;exact(ahx (ahz.2 ⟨d,ku.2 ⟨_,gC hi,hd⟩,e⟩)).symm
 ·rename_i hf;refine(ahy λhm=>?_).symm;obtain⟨d,hd,e⟩:=ahz.1 hm;obtain⟨p,hp,ug⟩:=ku.1 hd;obtain⟨i,hi,rfl⟩:=bP e0 hp;have:=aiJ.1 hf i (ahV.2 hi);unfold pP at this;exact this (by simp only[ahH];exact ahz.2 ⟨d,ug,e⟩)
def uW {x:List Sd}(h:GX x)(id:Int):GX (dg x id).1:=by
 have ha:=mR h id;have hs:(alive (dg x id).1).Sublist (alive x):=by rw[ha];exact ajk
 have hm:∀p∈(dg x id).1,p∈x\/∃q∈x,p=(q.1,Gq q.2 id)/\id∈q.1.map (·.id)/\1<=id/\id<=1000000000:=λp hp=>by
  unfold dg at hp
  split at hp
  ·rename_i i hf;have hi:i<x.length:=ahV.1 (aiG hf);have hh:pP (x.getD i e0) id=true:=by simpa using ajL hf
   unfold pP at hh;simp only[ahH] at hh;obtain⟨d,hd,e⟩:=ahz.1 hh;rcases List.mem_or_eq_of_mem_set hp with h1|h1
   ·exact .inl h1
   ·have hb:=Aa (h.vd _ (gC hi)) (ahU.1 hd).1;rw[e] at hb;exact .inr ⟨_,gC hi,h1,ahz.2 ⟨d,(ahU.1 hd).1,e⟩,hb.1,hb.2⟩
  ·exact .inl hp
 refine⟨λp hp=>?_,λp hp=>?_,λp hp=>?_,λp hp=>?_,(hs.map _).nodup h.nd,ahA hs.length_le h.n⟩
 ·rcases hm p hp with h1|⟨q,hq,rfl,_⟩
  ·exact h.vd p h1
  ·exact h.vd q hq
 ·rcases hm p hp with h1|⟨q,hq,rfl,_⟩
  ·exact h.ne p h1
  ·exact h.ne q hq
 ·rcases hm p hp with h1|⟨q,hq,rfl,_,h2,h3⟩
  ·exact h.da p h1
  ·exact(xT (so h hq) h2 h3).1
 ·rcases hm p hp with h1|⟨q,hq,rfl,h4,h2,h3⟩
  ·exact h.dd p h1
  ·intro i hi;rcases ((xT (so h hq) h2 h3).2 i).1 hi with h5|h5
   ·exact h.dd q hq i h5
   ·rw[h5];exact h4
def gk (x:List Sd)(d:Dc):List Sd:=(dg x d.id).1++[([d],[])]
def oZ {x:List Sd}(h:GX x)(d:Dc):alive (gk x d)=((alive x).filter λy=>!decide (y.id=d.id))++[d]:=by
 unfold gk;rw[dA,mR h]
 congr 1
def oo {x:List Sd}(h:GX x){d:Dc}(hv:aU d=true)(hn:(alive x).length<2000\/(dg x d.id).2=true):GX (gk x d):=by
 have hk:=uW h d.id;have ha:=oZ h d;have hm:∀p∈gk x d,p∈(dg x d.id).1\/p=([d],[]):=λp hp=>by
  unfold gk at hp;rcases ahI.1 hp with h1|h1
  ·exact .inl h1
  ·exact .inr (zU h1)
 refine⟨λp hp=>?_,λp hp=>?_,λp hp=>?_,λp hp=>?_,?_,?_⟩
 ·rcases hm p hp with h1|rfl
  ·exact hk.vd p h1
  ·exact⟨zS,List.pairwise_singleton _ _,λy hy=>by simp at hy;rw[hy];exact hv⟩
 ·rcases hm p hp with h1|rfl
  ·exact hk.ne p h1
  ·simp
 ·rcases hm p hp with h1|rfl
  ·exact hk.da p h1
  ·exact List.Pairwise.nil
 ·rcases hm p hp with h1|rfl
  ·exact hk.dd p h1
  ·intro i hi;simp at hi
 ·rw[ha,ahJ,aif];refine⟨(ajk.map _).nodup h.nd,zS,?_⟩;intro a h1 b h2 e;obtain⟨y,hy,e1⟩:=ahz.1 h1;have h3:=(ahU.1 hy).2;simp at h2;rw[<-e1,h2] at e;simp[e] at h3
 ·rw[ha,ahw];rcases hn with h1|h1
  ·have:=ahX (λy:Dc=>!decide (y.id=d.id)) (alive x);simp only[ain];omega
  ·rw[EG] at h1;simp only[ahH] at h1;obtain⟨y,hy,e⟩:=ahz.1 h1;have h2:((alive x).filter λy=>!decide (y.id=d.id)).length<(alive x).length:=by
    refine List.length_filter_lt_length_iff_exists.2 ⟨y,hy,?_⟩;simp[e]
   have:=h.n;simp only[ain];omega
theorem GX.sub {x y:List Sd}(h:GX x)(hs:y.Sublist x):GX y:=by
 have ha:(alive y).Sublist (alive x):=by
  unfold alive
  induction hs with
  |slnil=>exact List.Sublist.refl _
  |cons a hs ih=>
   rw[ahK];refine(ih ⟨λp hp=>h.vd p (aiO _ hp),λp hp=>h.ne p (aiO _ hp),λp hp=>h.da p (aiO _ hp),λp hp=>h.dd p (aiO _ hp),?_,?_⟩).trans (List.sublist_append_right _ _)
   ·have:=h.nd;have e:∀l:List Sd,alive (a::l)=iP a++alive l:=λl=>by simp[alive]
    rw[e,ahJ] at this;exact(aif.1 this).2.1
   ·have:=h.n;have e:∀l:List Sd,alive (a::l)=iP a++alive l:=λl=>by simp[alive]
    rw[e,ahw] at this;omega
  |cons_cons a hs ih=>
   rw[ahK,ahK];refine List.Sublist.append (List.Sublist.refl _) (ih ⟨λp hp=>h.vd p (aiO _ hp),λp hp=>h.ne p (aiO _ hp),λp hp=>h.da p (aiO _ hp),λp hp=>h.dd p (aiO _ hp),?_,?_⟩)
   ·have:=h.nd;have e:∀l:List Sd,alive (a::l)=iP a++alive l:=λl=>by simp[alive]
    rw[e,ahJ] at this;exact(aif.1 this).2.1
   ·have:=h.n;have e:∀l:List Sd,alive (a::l)=iP a++alive l:=λl=>by simp[alive]
    rw[e,ahw] at this;omega
 exact⟨λp hp=>h.vd p (hs.subset hp),λp hp=>h.ne p (hs.subset hp),λp hp=>h.da p (hs.subset hp),λp hp=>h.dd p (hs.subset hp),(ha.map _).nodup h.nd,ahA ha.length_le h.n⟩
def fM (x:List Sd):List Dc:=dQ (alive x)
def gT {x:List Sd}(h:GX x):VD (fM x):=by
 refine⟨by unfold fM;rw[dU];exact h.n,qe h.nd,λd hd=>?_⟩;obtain⟨p,hp,h2⟩:=ku.1 ((fw d).1 hd);exact(h.vd p hp).v d (ahU.1 h2).1
def qK {x:List Sd}{d:Dc}:d∈fM x↔∃p∈x,d∈iP p:=(fw d).trans ku
def kn {x:List Sd}{i:Nat}(hi:i<x.length)(d:Dc):d∈fM (x.take (i+1))↔d∈fM (x.take i)\/d∈iP (x.getD i e0):=by
 rw[qK,qK,aX x i e0 hi]
 constructor
 ·rintro⟨p,hp,h⟩;rcases ahI.1 hp with h1|h1
  ·exact .inl ⟨p,h1,h⟩
  ·simp only[aic] at h1;exact .inr (h1▸h)
 ·rintro (⟨p,hp,h⟩|h)
  ·exact⟨p,ahR _ hp,h⟩
  ·exact⟨_,ajo _ (aic.2 rfl),h⟩
def iG {x:List Sd}(h:GX x)(i:Nat):GX (x.take i):=h.sub (List.take_sublist _ _)
def j0 (p:Sd):List Int:=comb (λ_ q=>!q) (p.1.map (·.id)) p.2
def s9 {x:List Sd}(h:GX x){p:Sd}(hp:p∈x):VD (iP p):=(h.vd p hp).filter _
def oT {x:List Sd}(h:GX x){p:Sd}(hp:p∈x):j0 p=(iP p).map (·.id):=by
 obtain⟨a,b⟩:=iM (λ_ q=>!q) (nZ (h.vd p hp)) (so h hp);refine jc _ _ a (aie.2 (s9 h hp).lt) λz=>?_;rw[show z∈j0 p↔_ from b z];simp only[Bool.not_true,ajU,aiu,and_false,or_false,ake]
 constructor
 ·rintro⟨h1,h2⟩;obtain⟨d,hd,rfl⟩:=ahz.1 h1;exact ahz.2 ⟨d,ahU.2 ⟨hd,by simpa using h2⟩,rfl⟩
 ·intro h1;obtain⟨d,hd,rfl⟩:=ahz.1 h1;obtain⟨h2,h3⟩:=ahU.1 hd;exact⟨ahz.2 ⟨d,h2,rfl⟩,by simpa using h3⟩
def Gn (a b:List Int):List Int:=comb (λ_ _=>true) a b
def xS {a b:List Int}(ha:V a)(hb:V b):kI (Gn a b)/\∀z,z∈Gn a b↔z∈a\/z∈b:=by
 obtain⟨h1,h2⟩:=iM (λ_ _=>true) ha hb;refine⟨h1,λz=>?_⟩;rw[show z∈Gn a b↔_ from h2 z]
 by_cases h3:z∈a<;>by_cases h4:z∈b<;>simp[h3,h4]
def Vi {a:List Int}(h:V a):kI a:=iY h
def tr {a:List Int}(ha:V a):Gn [] a=a:=by
 obtain⟨h1,h2⟩:=xS (show V [] from rfl) ha;exact jc _ _ h1 (Vi ha) λz=>by rw[h2];simp
def j7 (x:List Sd):Nat->List Int
 |0=>[]
 |i+1=>Gn (Gn [] (j7 x i)) (j0 (x.getD i e0))
theorem qm {x:List Sd}(h:GX x):∀i,i<=x.length->j7 x i=(fM (x.take i)).map (·.id)
 |0,_=>rfl
 |i+1,hi=>by
  have hg:=gT (iG h i);have hg2:=gT (iG h (i+1));unfold j7;rw[qm h i zO,tr (nZ hg),oT h (gC hi)];obtain⟨h1,h2⟩:=xS (nZ hg) (nZ (s9 h (gC hi)));refine jc _ _ h1 (aie.2 hg2.lt) λz=>?_;rw[h2]
  constructor
  ·rintro (h3|h3)
   ·obtain⟨d,hd,rfl⟩:=ahz.1 h3;exact ahz.2 ⟨d,(kn hi d).2 (.inl hd),rfl⟩
   ·obtain⟨d,hd,rfl⟩:=ahz.1 h3;exact ahz.2 ⟨d,(kn hi d).2 (.inr hd),rfl⟩
  ·intro h3;obtain⟨d,hd,rfl⟩:=ahz.1 h3;rcases (kn hi d).1 hd with h4|h4
   ·exact .inl (ahz.2 ⟨d,h4,rfl⟩)
   ·exact .inr (ahz.2 ⟨d,h4,rfl⟩)
theorem AP {L:List Dc}(hL:VD L)(k:Ky){ds:List Int}(hd:V ds):my (dq L k) ds=dq (L.filter λd=>decide (d.id∈ds)) k:=by
 unfold my;rw[ahF ⟨iD hL.lt hL.v k,hd⟩,<-Z5 (de (iD hL.lt hL.v k)).1 (Vi hd)];clear hL;unfold Yg dq
 induction L with
 |nil=>rfl
 |cons a L ih=>
  rw[ahK,aij,ih]
  by_cases ha:a.id∈ds
  ·rw[aiI (zU ha),ahK]
   congr 1
   unfold C2
   split
   ·rfl
   ·simp[ha]
  ·rw[aiE (zU ha)];unfold C2
   split
   ·rfl
   ·simp[ha]
def AS {x:List Sd}(h:GX x){p:Sd}(hp:p∈x):(p.1.filter λd=>decide (d.id∈j0 p))=iP p:=by
 rw[oT h hp];unfold iP;refine aj7 λd hd=>?_
 by_cases hx:d.id∈p.2
 ·simp only[hx,decide_true,Bool.not_true,aiP];intro hm;obtain⟨y,hy,e⟩:=ahz.1 hm;have:=(ahU.1 hy).2;rw[e] at this;simp[hx] at this
 ·simp only[hx,decide_false,ajU,ahH];exact ahz.2 ⟨d,ahU.2 ⟨hd,by simp[hx]⟩,rfl⟩
def fj (x:List Sd)(k:Ky):Nat->List Ps
 |0=>[]
 |i+1=>jm (fj x k i) (my (fU (er (x.getD i e0).1) k) (j0 (x.getD i e0)))
theorem tQ {x:List Sd}(h:GX x)(k:Ky):∀i,i<=x.length->fj x k i=dq (fM (x.take i)) k
 |0,_=>rfl
 |i+1,hi=>by
  have hp:=gC (x:=x) hi;have hv:=h.vd _ hp;unfold fj;rw[tQ h k i zO,qy hv.n hv.lt hv.v,AP hv k (by rw[oT h hp];exact nZ (s9 h hp)),AS h hp];exact T4 (gT (iG h i)) (s9 h hp) (gT (iG h (i+1))) (kn hi) k
def u5 {x:List Sd}(h:GX x)(k:Ky):fj x k x.length=dq (fM x) k:=by rw[tQ h k _ (ahv _),ahO]
def nq (x:List Sd)(f lo hi:Int):Nat->List Int
 |0=>[]
 |i+1=>Gn (Gn [] (nq x f lo hi i)) (comb (λ_ q=>!q) (jG (er (x.getD i e0).1) f lo hi) (x.getD i e0).2)
theorem wT {x:List Sd}(h:GX x)(f lo hi:Int):∀i,i<=x.length->nq x f lo hi i=jG (er (fM (x.take i))) f lo hi
 |0,_=>by
  refine jc _ _ List.Pairwise.nil (wS _ _ _ _) λz=>?_;have hv:VD (fM (x.take 0)):=gT (iG h 0);rw[oV hv];simp[nq,fM,alive,dQ]
 |i+1,jf=>by
  have hp:=gC (x:=x) jf;have hv:=h.vd _ hp;have hg:=gT (iG h i);have hg2:=gT (iG h (i+1));unfold nq;rw[wT h f lo hi i zO,tr (IY hg f lo hi)];obtain⟨a,b⟩:=iM (λ_ q=>!q) (IY hv f lo hi) (so h hp);have hw:V (comb (λ_ q=>!q) (jG (er (x.getD i e0).1) f lo hi) (x.getD i e0).2):=lj a λq hq=>by
   have h3:=(b q).1 hq;simp only[Bool.not_true,ajU,aiu,and_false,or_false,ake] at h3;obtain⟨d,hd,rfl,_⟩:=(oV hv f lo hi q).1 h3.1;exact Aa hv hd
  obtain⟨h1,h2⟩:=xS (IY hg f lo hi) hw;refine jc _ _ h1 (wS _ _ _ _) λz=>?_;rw[h2,b,oV hg,oV hg2,oV hv];simp only[Bool.not_true,ajU,aiu,and_false,or_false,ake]
  constructor
  ·rintro (⟨d,hd,h3⟩|⟨⟨d,hd,h3,h4⟩,h5⟩)
   ·exact⟨d,(kn jf d).2 (.inl hd),h3⟩
   ·refine⟨d,(kn jf d).2 (.inr (ahU.2 ⟨hd,?_⟩)),h3,h4⟩;rw[h3,ahy h5];rfl
  ·rintro⟨d,hd,h3,h4⟩;rcases (kn jf d).1 hd with h5|h5
   ·exact .inl ⟨d,h5,h3,h4⟩
   ·obtain⟨h6,h7⟩:=ahU.1 h5;refine .inr ⟨⟨d,h6,h3,h4⟩,?_⟩;rw[<-h3];simpa[-getD_eq_getElem?_getD] using h7
def QP {x:List Sd}(h:GX x)(f lo hi:Int):nq x f lo hi x.length=jG (er (fM x)) f lo hi:=by rw[wT h f lo hi _ (ahv _),ahO]
structure PX (P:Dc->Prop)(B:Nat)(x:List Sd):Prop where
 p:∀p∈x,∀d∈p.1,P d
 b:∀p∈x,p.1.length<=B
def mE {p:Sd}{d:Dc}(h:d∈iP p):d∈p.1:=(ahU.1 h).1
def PX.each {P:Dc->Prop}{B:Nat}{x:List Sd}(h:PX P B x):∀d∈alive x,P d:=λd hd=>by
 obtain⟨p,hp,h2⟩:=ku.1 hd;exact h.p p hp d (mE h2)
def PX.NM {P:Dc->Prop}{B:Nat}{x:List Sd}(h:PX P B x){i j:Nat}{L:List Dc}(hL:∀d∈L,P d)(hb:L.length<=B):PX P B (gY x i j L):=by
 have hm:∀p∈gY x i j L,p∈x\/p=(L,[]):=λp hp=>by
  unfold gY at hp;rcases ahI.1 hp with h1|h1
  ·rcases ahI.1 h1 with h2|h2
   ·exact .inl (ajt h2)
   ·unfold rY at h2
    split at h2
    ·simp at h2
    ·exact .inr (zU h2)
  ·exact .inl (List.mem_of_mem_drop h1)
 refine⟨λp hp=>?_,λp hp=>?_⟩
 ·rcases hm p hp with h1|rfl
  ·exact h.p p h1
  ·exact hL
 ·rcases hm p hp with h1|rfl
  ·exact h.b p h1
  ·exact hb
def o4 {x:List Sd}{p:Sd}(hp:p∈x):(iP p).length<=(alive x).length:=by
 obtain⟨a,b,rfl⟩:=ajS hp;rw[dA,ahw];have:alive (p::b)=iP p++alive b:=by simp[alive]
 rw[this,ahw];omega
def yj {x:List Sd}{i:Nat}(hi:i+1<x.length):(both x i).length<=(alive x).length:=by
 have e:x=x.take i++(x.take (i+2)).drop i++x.drop (i+2):=by
  have h1:x.take i=(x.take (i+2)).take i:=by rw[take_take,aj5 zO]
  rw[h1,ah1,ah1]
 have h1:(alive x).length=(alive (x.take i++(x.take (i+2)).drop i++x.drop (i+2))).length:=by rw[<-e]
 rw[dA,dA,ql hi,ahw,ahw] at h1;have e2:alive [x.getD i e0,x.getD (i+1) e0]=iP (x.getD i e0)++iP (x.getD (i+1) e0):=by simp[alive]
 rw[e2] at h1;unfold both;rw[dU];omega
def Fk {x:List Sd}{i:Nat}{d:Dc}(hd:d∈both x i):d∈(x.getD i e0).1\/d∈(x.getD (i+1) e0).1:=
 (ahI.1 ((fw d).1 hd)).imp mE mE
theorem PX.step {P:Dc->Prop}{B:Nat}{x y:List Sd}(h:PX P B x)(hB:(alive x).length<=B)(hs:iV x=some y):PX P B y:=by
 unfold iV at hs
 split at hs
 ·rename_i i hf;obtain rfl:=Option.some.inj hs;have hi:i<x.length:=ahV.1 (aiG hf);exact h.NM (λd hd=>h.p _ (gC hi) d (mE hd)) (ahA (o4 (gC hi)) hB)
 ·cases hf:(List.range (x.length-1)).reverse.find? (rL x) with
  |none=>rw[hf] at hs;cases hs
  |some i=>
   rw[hf] at hs;obtain rfl:=Option.some.inj hs;have hi:i<x.length-1:=ahV.1 (List.mem_reverse.1 (aiG hf));exact h.NM (λd hd=>(Fk hd).elim (h.p _ (gC zO) d) (h.p _ (gC zO) d)) (ahA (yj zO) hB)
theorem PX.tidy {P:Dc->Prop}{B:Nat}:∀(k:Nat) {x:List Sd},GX x->PX P B x->(alive x).length<=B->PX P B (gE k x)
 |0,x,_,h,_=>h
 |k+1,x,hg,h,hB=>by
  unfold gE
  cases hs:iV x with
  |none=>exact h
  |some y=>
   obtain⟨h1,h2,_⟩:=ko hg hs;exact PX.tidy k h1 (h.step hB hs) (by rw[h2.length_eq];exact hB)
def PX.kill {P:Dc->Prop}{B:Nat}{x:List Sd}(h:PX P B x)(id:Int):PX P B (dg x id).1:=by
 have hm:∀p∈(dg x id).1,∃q∈x,p.1=q.1:=λp hp=>by
  unfold dg at hp
  split at hp
  ·rename_i i hf;have hi:i<x.length:=ahV.1 (aiG hf);rcases List.mem_or_eq_of_mem_set hp with h1|h1
   ·exact⟨p,h1,rfl⟩
   ·exact⟨_,gC hi,by rw[h1]⟩
  ·exact⟨p,hp,rfl⟩
 refine⟨λp hp=>?_,λp hp=>?_⟩
 ·obtain⟨q,hq,e⟩:=hm p hp;rw[e];exact h.p q hq
 ·obtain⟨q,hq,e⟩:=hm p hp;rw[e];exact h.b q hq
def PX.plus {P:Dc->Prop}{B:Nat}{x:List Sd}(h:PX P B x){d:Dc}(hd:P d)(hB:1<=B):PX P B (gk x d):=by
 have hk:=h.kill d.id;refine⟨λp hp=>?_,λp hp=>?_⟩
 ·rcases ahI.1 hp with h1|h1
  ·exact hk.p p h1
  ·have:p=([d],[]):=by simpa using h1
   subst this;intro y hy;have:y=d:=by simpa using hy
   rw[this];exact hd
 ·rcases ahI.1 hp with h1|h1
  ·exact hk.b p h1
  ·have:p=([d],[]):=by simpa using h1
   subst this;exact hB
def GV (x:List Sd):Prop:=(∀i,i<x.length->2*(x.getD i e0).2.length<=(x.getD i e0).1.length)/\∀i,i+1<x.length->2*(x.getD (i+1) e0).1.length<=(x.getD i e0).1.length
theorem P8 {x:List Sd}(h:GX x){p:Sd}(hp:p∈x):(iP p).length+p.2.length=p.1.length:=by
 have h1:=kQ (h.da p hp) (h.dd p hp);have h2:(p.1.filter λd=>decide (d.id∈p.2)).length<=p.2.length:=by
  have hn:((p.1.filter λd=>decide (d.id∈p.2)).map (·.id)).Nodup:=(ajk.map _).nodup (mJ (h.vd p hp).lt);have:=qI hn (m:=p.2) λi hi=>by
   obtain⟨d,hd,rfl⟩:=ahz.1 hi;exact ajy (ahU.1 hd).2
  rwa [ahL] at this
 have h3:∀l:List Dc,(l.filter λd=>!decide (d.id∈p.2)).length+(l.filter λd=>decide (d.id∈p.2)).length=l.length:=by
  intro l
  induction l with
  |nil=>rfl
  |cons a l ih=>
   by_cases ha:a.id∈p.2<;>simp only[List.filter_cons,ha,decide_true,decide_false,Bool.not_true,ajU,ajc,aje,ahY,aiu]<;>omega
 have:=h3 p.1;unfold iP at h1 ⊢;omega
theorem Ea {x:List Sd}(h:GX x)(ht:GV x):∀i,i<x.length->∀j,j<=i->2 ^ j<=(x.getD (i-j) e0).1.length
 |i,hi,0,_=>by
  have:=aiV.2 (h.ne _ (gC hi));simp only[Nat.sub_zero];omega
 |i,hi,j+1,hj=>by
  have h1:=Ea h ht i hi j zO;have h2:=ht.2 (i-(j+1)) zO;rw[show i-(j+1)+1=i-j by omega] at h2;rw[Nat.pow_succ];omega
def Pa {x:List Sd}(h:GX x)(ht:GV x){B:Nat}(hB:(alive x).length<=B):x≠[]->2 ^ (x.length-1)<=2*B:=λdM=>by
 have hl:=aiV.2 dM;have h1:=Ea h ht (x.length-1) zO (x.length-1) (ahv _);rw[aiT] at h1;have h2:=ht.1 0 hl;have h3:=P8 h (gC hl);have h4:=o4 (gC (x:=x) hl);omega
def M8 (s:Sg)(d:List Int):List Int:=comb (λ_ q=>!q) s.aw d
def oK (S:List Sg)(D:List (List Int)):Nat->List Int
 |0=>[]
 |i+1=>Gn (oK S D i) (M8 (S.getD i bY) (D.getD i []))
def Q0 (S:List Sg)(D:List (List Int))(i:Nat):Bool:=
 ((aT (S.getD i bY)&&decide ((S.getD i bY).aw≠[]))&&decide (i=0\/2*(S.getD i bY).aw.length<=(S.getD (i-1) bY).aw.length)) &&
 ((jI (D.getD i []) 1 1000000000&&decide (comb (λ_ q=>!q) (D.getD i []) (S.getD i bY).aw=[]))&&decide (2*(D.getD i []).length<=(S.getD i bY).aw.length)) &&
 decide (comb (λp q=>p&&q) (oK S D i) (M8 (S.getD i bY) (D.getD i []))=[])
def nK (S:List Sg)(D:List (List Int)):Bool:=decide (S.length=D.length)&&((List.range S.length).all (Q0 S D)&&decide ((oK S D S.length).length<=2000))
def bF (x:List Sd):List Sg:=x.map λp=>er p.1
def cI (x:List Sd):List (List Int):=x.map (·.2)
def fG {x:List Sd}{i:Nat}(h:i<x.length):(bF x).getD i bY=er (x.getD i e0).1:=by
 unfold bF;simp[ahs,aiD,ahu h]
def gH {x:List Sd}{i:Nat}(h:i<x.length):(cI x).getD i []=(x.getD i e0).2:=by
 unfold cI;simp[ahs,aiD,ahu h]
def fF (x:List Sd):(bF x).length=x.length:=by unfold bF;rw[ahL]
def mG (x:List Sd):(cI x).length=x.length:=by unfold cI;rw[ahL]
def xy (p:Sd):M8 (er p.1) p.2=j0 p:=rfl
theorem wU {x:List Sd}(h:GX x):∀i,i<=x.length->oK (bF x) (cI x) i=(fM (x.take i)).map (·.id)
 |0,_=>rfl
 |i+1,hi=>by
  rw[<-qm h (i+1) hi];unfold oK j7;rw[wU h i zO,fG hi,gH hi,qm h i zO,tr (nZ (gT (iG h i)))];rfl
def I8 {x:List Sd}(h:GX x)(ht:GV x):nK (bF x) (cI x)=true:=by
 unfold nK;rw[fF,mG,ahx rfl,aio,ahG];refine⟨ah3.2 λi hi=>?_,?_⟩
 ·have hi:=ahV.1 hi;have hp:=gC (x:=x) hi;have hv:=h.vd _ hp;have hd:(er (x.getD i e0).1).aw=(x.getD i e0).1.map (·.id):=rfl;unfold Q0;rw[fG hi,gH hi,wU h i zO,xy,oT h hp,hv.valid,so h hp];have h1:(er (x.getD i e0).1).aw≠[]:=by
   rw[hd];intro e;exact h.ne _ hp (List.map_eq_nil_iff.1 e)
  have h2:i=0\/2*(er (x.getD i e0).1).aw.length<=((bF x).getD (i-1) bY).aw.length:=by
   rcases ah0 i with h0|h0
   ·exact .inl h0
   ·refine .inr ?_;rw[fG zO];have:=ht.2 (i-1) zO;rw[show i-1+1=i by omega] at this;show 2*((x.getD i e0).1.map (·.id)).length<=((x.getD (i-1) e0).1.map (·.id)).length;rw[ahL,ahL];exact this
  have h3:comb (λ_ q=>!q) (x.getD i e0).2 (er (x.getD i e0).1).aw=[]:=by
   obtain⟨_,b⟩:=iM (λ_ q=>!q) (so h hp) (nZ hv);rw[aiQ];intro z hz;have:=(b z).1 hz;simp only[Bool.not_true,ajU,aiu,and_false,or_false,ake] at this;exact this.2 (h.dd _ hp z this.1)
  have h4:2*(x.getD i e0).2.length<=(er (x.getD i e0).1).aw.length:=by
   show _<=((x.getD i e0).1.map (·.id)).length;rw[ahL];exact ht.1 i hi
  have h5:comb (λp q=>p&&q) ((fM (x.take i)).map (·.id)) ((iP (x.getD i e0)).map (·.id))=[]:=by
   obtain⟨_,b⟩:=iM (λp q=>p&&q) (nZ (gT (iG h i))) (nZ (s9 h hp));rw[aiQ];intro z hz;have:=(b z).1 hz;simp only[Bool.and_false,ajQ,Bool.and_true,aiu,and_false,false_or,ake] at this;obtain⟨d,hd1,e1⟩:=ahz.1 this.1;obtain⟨d2,ug,e2⟩:=ahz.1 this.2;have hn:=(iG h (i+1)).nd;rw[aX x i e0 hi,dA,ahJ] at hn;have hm:z∈(alive (x.take i)).map (·.id):=ahz.2 ⟨d,(fw d).1 hd1,e1⟩;have Q9:z∈(alive [x.getD i e0]).map (·.id):=ahz.2 ⟨d2,by simpa[alive,-getD_eq_getElem?_getD] using ug,e2⟩;exact(aif.1 hn).2.2 z hm z Q9 rfl
  rw[ahx h1,ahx h2,ahx h3,ahx h4,ahx h5];rfl
 ·rw[wU h _ (ahv _),ahL,ahO];have:=(gT h).n;simpa using this
def Bz (x:List Sd)(d:Dc):List Sd:=gE (et (gk x d)) (gk x d)
def xu (x:List Sd)(id:Int):List Sd:=if (dg x id).2=true then gE (et (dg x id).1) (dg x id).1 else x
structure IX (P:Dc->Prop)(B:Nat)(x:List Sd):Prop where
 g:GX x
 t:GV x
 p:PX P B x
def IX.nil {P:Dc->Prop}{B:Nat}:IX P B []:=⟨⟨zS,zS,zS,zS,by simp[alive],by simp[alive]⟩,⟨zS,zS⟩,⟨zS,zS⟩⟩
def IX.valid {P:Dc->Prop}{B:Nat}{x:List Sd}(h:IX P B x):nK (bF x) (cI x)=true:=I8 h.g h.t
def IX.put {P:Dc->Prop}{B:Nat}{x:List Sd}(h:IX P B x){d:Dc}(hv:aU d=true)(hd:P d)(hB:1<=B)(hn:(alive x).length<2000)(hl:(alive (gk x d)).length<=B) :
  IX P B (Bz x d)/\(alive (Bz x d)).Perm (((alive x).filter λy=>!decide (y.id=d.id))++[d]):=by
 have hg:=oo h.g hv (.inl hn);obtain⟨h1,h2,h3⟩:=uI (et (gk x d)) hg (ahv _);exact⟨⟨h1,Ax h3,PX.tidy _ hg (h.p.plus hd hB) hl⟩,h2.trans (by rw[oZ h.g])⟩
def IX.drop {P:Dc->Prop}{B:Nat}{x:List Sd}(h:IX P B x)(id:Int)(hl:(alive x).length<=B) :
  IX P B (xu x id)/\(alive (xu x id)).Perm ((alive x).filter λy=>!decide (y.id=id)):=by
 unfold xu
 split
 ·have hg:=uW h.g id;have hle:(alive (dg x id).1).length<=B:=by
   rw[mR h.g];exact ahA (ahX _ _) hl
  obtain⟨h1,h2,h3⟩:=uI (et (dg x id).1) hg (ahv _);exact⟨⟨h1,Ax h3,PX.tidy _ hg (h.p.kill id) hle⟩,h2.trans (by rw[mR h.g])⟩
 ·rename_i hw;refine⟨h,?_⟩;rw[tR];intro hm;rw[EG] at hw;exact hw (ahx hm)
def nP (id:Int)(w:Bs):Dc:=⟨id,[⟨1,[(w,0)]⟩],[]⟩
abbrev oI:=Bool×Dc
def uz (x:List Sd)(o:oI):List Sd:=if o.1=true then xu x o.2.id else if aU o.2=true then Bz x o.2 else x
def fE (l:List oI):List Sd:=l.foldl uz []
def M6 (l:List oI)(d:Dc):Prop:=∃o∈l,o.2=d/\aU d=true
def qh {l:List oI}{L:List Dc}(hn:(L.map (·.id)).Nodup)(h:∀d∈L,M6 l d):L.length<=l.length:=by
 have:=qI hn (m:=l.map (·.2.id)) λi hi=>by
  obtain⟨d,hd,rfl⟩:=ahz.1 hi;obtain⟨o,ho,rfl,_⟩:=h d hd;exact ahz.2 ⟨o,ho,rfl⟩
 rwa [ahL,ahL] at this
def Xf {l:List oI}{B:Nat}(hl:l.length<=B)(hB:B<2000){x:List Sd}(h:IX (M6 l) B x){o:oI}(ho:o∈l):IX (M6 l) B (uz x o):=by
 have ha:∀{y:List Sd},GX y->PX (M6 l) B y->(alive y).length<=B:=λhg hp=>ahA (qh hg.nd hp.each) hl;have hx:=ha h.g h.p;unfold uz
 split
 ·exact(h.drop _ hx).1
 ·split
  ·rename_i hv;have hd:M6 l o.2:=⟨o,ho,rfl,hv⟩
   have gu:1<=B:=by have:=List.length_pos_of_mem ho;omega
   exact(h.put hv hd gu zO (ha (oo h.g hv (.inl zO)) (h.p.plus hd gu))).1
  ·exact h
theorem lW {l:List oI}{B:Nat}(hl:l.length<=B)(hB:B<2000):∀m,m<=l.length->IX (M6 l) B (fE (l.take m))
 |0,_=>IX.nil
 |m+1,hm=>by
  have bp:m<l.length:=hm;have e:fE (l.take (m+1))=uz (fE (l.take m)) l[m]:=by
   unfold fE;rw[aiS bp,ai8];rfl
  rw[e];exact Xf hl hB (lW hl hB m zO) (ah2 bp)
def MS {l:List oI}{B:Nat}(hl:l.length<=B)(hB:B<2000){x:List Sd}(h:IX (M6 l) B x){o:oI}(ho:o∈l) :
  (alive (uz x o)).Perm (if o.1=true then (alive x).filter (λy=>!decide (y.id=o.2.id)) else if aU o.2=true then (alive x).filter (λy=>!decide (y.id=o.2.id))++[o.2] else alive x):=by
 have ha:∀{y:List Sd},GX y->PX (M6 l) B y->(alive y).length<=B:=λhg hp=>ahA (qh hg.nd hp.each) hl;have hx:=ha h.g h.p;unfold uz
 split
 ·exact(h.drop _ hx).2
 ·split
  ·rename_i hv;have hd:M6 l o.2:=⟨o,ho,rfl,hv⟩
   have gu:1<=B:=by have:=List.length_pos_of_mem ho;omega
   exact(h.put hv hd gu zO (ha (oo h.g hv (.inl zO)) (h.p.plus hd gu))).2
  ·exact List.Perm.refl _
structure Db (m:Nat)(d:Dc):Prop where
 k:(dy d).length<=m
 w:∀z∈d.zs,z.ws.length<=1000
 n:d.ns.length<=20
def IK {L:List Dc}(hv:VD L){m:Nat}(h:∀d∈L,Db m d)(h40:L.length<=19)(hm:L.length*m<=1000):rz (er L):=
 QM (ahA h40 zD) (ahA (iX dy m L λd hd=>(h d hd).k) hm) hv.v (λd hd=>(h d hd).w) (λd hd=>(h d hd).n)
def I7 (id:Int)(w:Bs):Db 1 (nP id w):=⟨by simp[dy,fh,nP],λz hz=>by simp[nP] at hz;subst hz;simp,by simp[nP]⟩
structure BX (m:Nat)(x:List Sd):Prop where
 g:GX x
 a:(alive x).length<=19
 b:∀p∈x,p.1.length<=19/\p.1.length*m<=1000
 c:(alive x).length*m<=1000
 w:∀p∈x,∀d∈p.1,Db m d
def BX.sz {m:Nat}{x:List Sd}(h:BX m x){p:Sd}(hp:p∈x):rz (er p.1):=IK (h.g.vd p hp) (h.w p hp) (h.b p hp).1 (h.b p hp).2
def BX.lv {m:Nat}{x:List Sd}(h:BX m x){p:Sd}(hp:p∈x):rz (er (iP p)):=by
 refine IK (s9 h.g hp) (λd hd=>h.w p hp d (mE hd)) (ahA (tu p) (h.b p hp).1) (ahA (aiz _ (tu p)) (h.b p hp).2)
theorem BX.both {m:Nat}{x:List Sd}(h:BX m x){i:Nat}(hi:i+1<x.length):rz (er (both x i)):=by
 have hl:=yj hi;refine IK (wR h.g hi) (λd hd=>?_) (ahA hl h.a) (ahA (aiz _ hl) h.c);exact(Fk hd).elim (h.w _ (gC zO) d) (h.w _ (gC zO) d)
theorem BX.step {m:Nat}{x y:List Sd}(h:BX m x)(hs:iV x=some y):BX m y:=by
 obtain⟨h1,h2,_⟩:=ko h.g hs;have hp:PX (Db m) 19 y:=PX.step ⟨h.w,λp hp=>(h.b p hp).1⟩ h.a hs;refine⟨h1,by rw[h2.length_eq];exact h.a,λp RJ=>⟨hp.b p RJ,?_⟩,by rw[h2.length_eq];exact h.c,hp.p⟩;rcases ah0 m with h0|h0
 ·subst h0;omega
 ·have hq:PX (Db m) (1000 / m) y:=PX.step ⟨h.w,λp hp=>(aj6 h0).2 (h.b p hp).2⟩ ((aj6 h0).2 h.c) hs;exact(aj6 h0).1 (hq.b p RJ)
def IX.bx {P:Dc->Prop}{B m:Nat}{x:List Sd}(h:IX P B x)(hP:∀d,P d->Db m d)(ha:(alive x).length<=B)(hB:B<=19)(hm:B*m<=1000):BX m x:=
 ⟨h.g,zO,λp hp=>⟨ahA (h.p.b p hp) hB,ahA (aiz _ (h.p.b p hp)) hm⟩,ahA (aiz _ ha) hm,λp hp d hd=>hP d (h.p.p p hp d hd)⟩
theorem BX.kill {m:Nat}{x:List Sd}(h:BX m x)(id:Int):BX m (dg x id).1:=by
 have hp:PX (Db m) 19 (dg x id).1:=PX.kill ⟨h.w,λp hp=>(h.b p hp).1⟩ id;have hl:(alive (dg x id).1).length<=(alive x).length:=by rw[mR h.g];exact ahX _ _
 refine⟨uW h.g id,ahA hl h.a,λp RJ=>⟨hp.b p RJ,?_⟩,ahA (aiz _ hl) h.c,hp.p⟩;rcases ah0 m with h0|h0
 ·subst h0;omega
 ·have hq:PX (Db m) (1000 / m) (dg x id).1:=PX.kill ⟨h.w,λp hp=>(aj6 h0).2 (h.b p hp).2⟩ id;exact(aj6 h0).1 (hq.b p RJ)
def BX.plus {m:Nat}{x:List Sd}(h:BX m x){d:Dc}(hv:aU d=true)(hd:Db m d)(ha:(alive (gk x d)).length<=19)(hm:(alive (gk x d)).length*m<=1000):BX m (gk x d):=by
 have hk:=h.kill d.id;have gu:1<=(alive (gk x d)).length:=by rw[oZ h.g,ahw,ain];omega
 have Ra:1*m<=1000:=ahA (aiz _ gu) hm;have hc:∀p∈gk x d,p∈(dg x d.id).1\/p=([d],[]):=λp hp=>by
  unfold gk at hp;rcases ahI.1 hp with h1|h1
  ·exact .inl h1
  ·exact .inr (zU h1)
 refine⟨oo h.g hv (.inl (by have:=h.a;omega)),ha,λp hp=>?_,hm,λp hp=>?_⟩
 ·rcases hc p hp with h1|rfl
  ·exact hk.b p h1
  ·exact⟨zS,by simpa using Ra⟩
 ·rcases hc p hp with h1|rfl
  ·exact hk.w p h1
  ·intro y hy;have:y=d:=by simpa using hy
   rw[this];exact hd
def NH:List Sd:=fE [(false,nP 1 [97]),(false,nP 2 [97]),(false,nP 3 [98])]
def zZ:List Sd:=Bz NH (nP 1 [99])
def ZJ:NH=[([nP 1 [97],nP 2 [97]],[]),([nP 3 [98]],[])]:=by decide +kernel
def afF:zZ=[([nP 1 [99],nP 2 [97],nP 3 [98]],[])]:=by decide +kernel
def Qp:aw (dq (fM zZ) (1,[97]))=[2]:=by decide +kernel
def fK (l:List Sg):List AV:=l.flatMap cH
def oR:eE cH 3:=λ_=>rfl
def dL (l:List Sg):(fK l).length=l.length*3:=cj oR l
def B1 (l:List Sg)(i:Nat)(h:i<l.length):(fK l).getD (i*3) .top=.sl (l.getD i bY).aw.length (ints (l.getD i bY).aw) .none/\(fK l).getD (i*3+1) .top=.sl (l.getD i bY).aW.length (dB (l.getD i bY).aW) .none/\(fK l).getD (i*3+2) .top=.sl (l.getD i bY).aH.length (dP (l.getD i bY).aH) .none:=
 ⟨eP oR l i 0 bY h zO,eP oR l i 1 bY h zO,eP oR l i 2 bY h zO⟩
def kO (l:List Sg)(i:Nat)(h:i<l.length):((fK l).drop (i*3)).take 3=cH (l.getD i bY):=fX oR l i bY h
def Ld (l:List Sg)(x:Sg):fK l++cH x=fK (l++[x]):=og (f:=cH) l x
def Ph (a b:List Sg):fK a++fK b=fK (a++b):=by simp[fK]
def Le (l:List Sg)(i:Nat):(fK l).drop (i*3)=fK (l.drop i):=kq oR l i
def Jd (l:List Sg)(i:Nat):(fK l).take (i*3)=fK (l.take i):=oe oR l i
@[simp] theorem acM (n t:Nat) (l:List Sg):aL n t (fK l):=fO (f:=cH) (λx=>by simp) l
abbrev C0 (l:List Int):AV:=.sl l.length (ints l) .none
def fT (D:List (List Int)):List AV:=D.map C0
def bN (D:List (List Int)):(fT D).length=D.length:=by unfold fT;rw[ahL]
def oU (D:List (List Int))(i:Nat)(h:i<D.length):(fT D).getD i .top=C0 (D.getD i []):=by
 unfold fT;simp[ahs,aiD,ahu h]
def QB (a b:List (List Int)):fT a++fT b=fT (a++b):=by simp[fT]
def ME (a:List (List Int))(d:List Int):fT a++[C0 d]=fT (a++[d]):=by simp[fT]
def MF (D:List (List Int))(i:Nat):(fT D).drop i=fT (D.drop i):=by simp[fT]
def JD (D:List (List Int))(i:Nat):(fT D).take i=fT (D.take i):=by simp[fT]
def QA (D:List (List Int))(i:Nat)(d:List Int):(fT D).set i (C0 d)=fT (D.set i d):=by unfold fT;rw[List.map_set]
@[simp] theorem acQ (n t:Nat) (D:List (List Int)):aL n t (fT D):=by
 intro v hv;obtain⟨x,_,rfl⟩:=ahz.1 hv;simp
abbrev jr (S:List Sg)(D:List (List Int)):List AV:=[.sl S.length (fK S) .none,.sl D.length (fT D) .none]
abbrev BD (S:List Sg)(D:List (List Int)):AV:=.agg (jr S D)
abbrev yW (x:List Sd):AV:=BD (bF x) (cI x)
structure Y9 (S:List Sg)(D:List (List Int)):Prop where
 n:S.length<=400
 s:∀s∈S,rz s
 d:D.length<=400
 l:∀d∈D,d.length<=1000
end Go.Proofs.YtoejlmpbebjemaaGreat
