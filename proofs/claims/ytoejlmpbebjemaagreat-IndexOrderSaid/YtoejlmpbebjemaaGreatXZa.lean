/- Indexes: segments with their dead documents (layer 40, plain). Putting and dropping in an index (layer 40, plain). What is found in an index is what is found in the segment of its live documents (layer 40, plain). Sizes of tidy indexes (layer 40, plain). When an index is valid (layer 40, plain). Puts and drops, one after the other, keep an index tidy (layer 40, plain). Indexes of documents with one word (layer 40, plain). Changes, one after the other (layer 40, plain). Sizes of the segments of an index (layer 40, plain). The example of the document, played (layer 40, plain). Indexes as cells (layer 40).
  Conditions: as the theorems say. -/
import Derived.Test.YtoejlmpbebjemaaGreatGZx
import Derived.Test.YtoejlmpbebjemaaGreatGZy
set_option linter.all false
set_option maxRecDepth 100000

open List (take_append_drop getD_eq_getElem?_getD take_take)
namespace Go.Proofs.YtoejlmpbebjemaaGreat
open Go Go.Am ia cO eN
abbrev Sd:=List Dc×List Int
def e0:Sd:=([],[])
def iy (p:Sd):List Dc:=p.1.filter λd=>!decide (d.id∈p.2)
def alive (x:List Sd):List Dc:=x.flatMap iy
structure GX (x:List Sd):Prop where
 vd:∀p∈x,VD p.1
 ne:∀p∈x,p.1≠[]
 da:∀p∈x,kn p.2
 dd:∀p∈x,∀i∈p.2,i∈p.1.map (·.id)
 nd:((alive x).map (·.id)).Nodup
 n:(alive x).length<=2000
def rv (L:List Dc):List Sd:=if L=[] then [] else [(L,[])]
def gI (x:List Sd)(i j:Nat)(L:List Dc):List Sd:=x.take i++rv L++x.drop j
def SI (L:List Dc):iy (L,[])=L:=by unfold iy;simp
def Mm (L:List Dc):alive (rv L)=L:=by
 unfold rv alive
 split
 ·rename_i h;rw[h];rfl
 ·simp[SI]
def dq (x y:List Sd):alive (x++y)=alive x++alive y:=by unfold alive;rw[ahk]
def r9 {x:List Sd}{i j:Nat}{L:List Dc}(jz:i<=j)(hL:L.Perm (alive ((x.take j).drop i))):(alive (gI x i j L)).Perm (alive x):=by
 have e:x=x.take i++(x.take j).drop i++x.drop j:=by
  have h1:x.take i=(x.take j).take i:=by rw[take_take,aje jz]
  rw[h1,ag7,ag7]
 unfold gI;rw[dq,dq,Mm]
 conv=>rhs;rw[e,dq,dq]
 exact(hL.append_left _).append_right _
def GX.M3 {x:List Sd}(h:GX x){i j:Nat}{L:List Dc}(jz:i<=j)(hL:L.Perm (alive ((x.take j).drop i)))(hv:VD L):GX (gI x i j L):=by
 have hp:=r9 jz hL;have hm:∀p∈gI x i j L,p∈x\/(p=(L,[])/\L≠[]):=λp hp=>by
  unfold gI at hp;rcases agR.1 hp with h1|h1
  ·rcases agR.1 h1 with h2|h2
   ·exact .inl (aiR h2)
   ·unfold rv at h2
    split at h2
    ·simp at h2
    ·rename_i hn;simp only[ahl] at h2;exact .inr ⟨h2,hn⟩
  ·exact .inl (List.mem_of_mem_drop h1)
 refine⟨λp hp=>?_,λp hp=>?_,λp hp=>?_,λp hp=>?_,(hp.map _).nodup_iff.2 h.nd,by rw[hp.length_eq];exact h.n⟩
 ·rcases hm p hp with h1|⟨rfl,_⟩
  ·exact h.vd p h1
  ·exact hv
 ·rcases hm p hp with h1|⟨rfl,h2⟩
  ·exact h.ne p h1
  ·exact h2
 ·rcases hm p hp with h1|⟨rfl,_⟩
  ·exact h.da p h1
  ·exact List.Pairwise.nil
 ·rcases hm p hp with h1|⟨rfl,_⟩
  ·exact h.dd p h1
  ·intro i hi;simp at hi
def dW (x:List Sd):Nat:=(x.map λp=>p.1.length).sum+x.length
def qn (x y:List Sd):dW (x++y)=dW x+dW y:=by unfold dW;simp only[agS,List.sum_append,agF];omega
def zV (L:List Dc):dW (rv L)<=L.length+1/\(L=[]->dW (rv L)=0):=by
 unfold rv dW
 split
 ·rename_i h;simp[h]
 ·rename_i h;simp[h]
def xW {x:List Sd}{i j:Nat}{L:List Dc}(jz:i<=j)(hL:dW (rv L)<dW ((x.take j).drop i)):dW (gI x i j L)<dW x:=by
 have e:x=x.take i++(x.take j).drop i++x.drop j:=by
  have h1:x.take i=(x.take j).take i:=by rw[take_take,aje jz]
  rw[h1,ag7,ag7]
 unfold gI;rw[qn,qn]
 conv=>rhs;rw[e,qn,qn]
 omega
def rG (x:List Sd)(i:Nat):Bool:=decide ((x.getD i e0).1.length<2*(x.getD i e0).2.length)
def qW (x:List Sd)(i:Nat):Bool:=decide ((x.getD i e0).1.length<2*(x.getD (i+1) e0).1.length)
def both (x:List Sd)(i:Nat):List Dc:=eg (iy (x.getD i e0)++iy (x.getD (i+1) e0))
def iE (x:List Sd):Option (List Sd):=
 match (List.range x.length).find? (rG x) with
 |some i=>some (gI x i (i+1) (iy (x.getD i e0)))
 |none=>((List.range (x.length-1)).reverse.find? (qW x)).map λi=>gI x i (i+2) (both x i)
def gg:Nat->List Sd->List Sd
 |0,x=>x
 |k+1,x=>match iE x with
  |none=>x
  |some y=>gg k y
def drop_one {x:List Sd}{i:Nat}(h:i<x.length):(x.take (i+1)).drop i=[x.getD i e0]:=by
 rw[aV x i e0 h,aiP (by rw[ag5];omega),List.drop_eq_nil_of_le (by rw[ag5];omega)];rfl
def pP {x:List Sd}{i:Nat}(h:i+1<x.length):(x.take (i+2)).drop i=[x.getD i e0,x.getD (i+1) e0]:=by
 rw[aV x (i+1) e0 h,aiP (by rw[ag5];omega),drop_one (by omega)];rfl
def fY {x:List Sd}{i:Nat}(h:i<x.length):x.getD i e0∈x:=aT x i e0 h
def sM (p:Sd):(iy p).length<=p.1.length:=ahf _ _
theorem ka {p:Sd}(ha:kn p.2)(hd:∀i∈p.2,i∈p.1.map (·.id)):(iy p).length+p.2.length<=p.1.length:=by
 have h1:p.2.length<=(p.1.filter λd=>decide (d.id∈p.2)).length:=by
  have hn:p.2.Nodup:=ha.imp λh=>by omega
  have:=qg hn (m:=(p.1.filter λd=>decide (d.id∈p.2)).map (·.id)) λi hi=>by
   obtain⟨d,XT,rfl⟩:=agG.1 (hd i hi);exact agG.2 ⟨d,ag0.2 ⟨XT,by simpa using hi⟩,rfl⟩
  rwa [agU] at this
 have h2:∀l:List Dc,(l.filter λd=>!decide (d.id∈p.2)).length+(l.filter λd=>decide (d.id∈p.2)).length=l.length:=by
  intro l
  induction l with
  |nil=>rfl
  |cons a l ih=>
   by_cases ha:a.id∈p.2<;>simp only[List.filter_cons,ha,decide_true,decide_false,Bool.not_true,ai2,ain,aiq,ahd,ahE]<;>omega
 have:=h2 p.1;unfold iy;omega
def xY {x:List Sd}(h:GX x){i:Nat}(hi:i+1<x.length):((iy (x.getD i e0)++iy (x.getD (i+1) e0)).map (·.id)).Nodup:=by
 have e:x=x.take i++(x.take (i+2)).drop i++x.drop (i+2):=by
  have h1:x.take i=(x.take (i+2)).take i:=by rw[take_take,aje (by omega)]
  rw[h1,ag7,ag7]
 have hn:=h.nd;rw[e,dq,dq,pP hi,agS,agS] at hn;have:=(ahn.1 (ahn.1 hn).1).2.1;simpa[alive] using this
def wm {x:List Sd}(h:GX x){i:Nat}(hi:i+1<x.length):VD (both x i):=by
 refine⟨?_,pH (xY h hi),λd hd=>?_⟩
 ·unfold both;rw[dV];have e:x=x.take i++(x.take (i+2)).drop i++x.drop (i+2):=by
   have h1:x.take i=(x.take (i+2)).take i:=by rw[take_take,aje (by omega)]
   rw[h1,ag7,ag7]
  have hn:=h.n;rw[e,dq,dq,pP hi,agF,agF] at hn;have e2:alive [x.getD i e0,x.getD (i+1) e0]=iy (x.getD i e0)++iy (x.getD (i+1) e0):=by simp[alive]
  rw[e2] at hn;omega
 ·rcases agR.1 ((eQ d).1 hd) with h1|h1
  ·exact(h.vd _ (fY (by omega))).v d (ag0.1 h1).1
  ·exact(h.vd _ (fY hi)).v d (ag0.1 h1).1
theorem jS {x y:List Sd}(h:GX x)(hs:iE x=some y):GX y/\(alive y).Perm (alive x)/\dW y<dW x:=by
 unfold iE at hs
 split at hs
 ·rename_i i hf;obtain rfl:=Option.some.inj hs;have hi:i<x.length:=ag3.1 (ahP hf);have hb:rG x i=true:=aiV hf;unfold rG at hb;simp only[agQ] at hb;have sf:(iy (x.getD i e0)).Perm (alive ((x.take (i+1)).drop i)):=by rw[drop_one hi];simp[alive]
  refine⟨h.M3 (by omega) sf ((h.vd _ (fY hi)).filter _),r9 (by omega) sf,xW (by omega) ?_⟩;rw[drop_one hi];have h1:=ka (h.da _ (fY hi)) (h.dd _ (fY hi));have h2:=(zV (iy (x.getD i e0))).1;have h3:dW [x.getD i e0]=(x.getD i e0).1.length+1:=by simp[dW]
  omega
 ·cases hf:(List.range (x.length-1)).reverse.find? (qW x) with
  |none=>rw[hf] at hs;cases hs
  |some i=>
   rw[hf] at hs;obtain rfl:=Option.some.inj hs;have hi:i<x.length-1:=ag3.1 (ai8.1 (ahP hf));have sf:(both x i).Perm (alive ((x.take (i+2)).drop i)):=by
    rw[pP (by omega)];unfold both;simpa[alive] using(fT _).perm
   refine⟨h.M3 (by omega) sf (wm h (by omega)),r9 (by omega) sf,xW (by omega) ?_⟩;rw[pP (by omega)];have h2:=(zV (both x i)).1;have h3:dW [x.getD i e0,x.getD (i+1) e0]=(x.getD i e0).1.length+(x.getD (i+1) e0).1.length+2:=by simp[dW]
   have h4:(both x i).length=(iy (x.getD i e0)).length+(iy (x.getD (i+1) e0)).length:=by unfold both;rw[dV,agF]
   have:=sM (x.getD i e0);have:=sM (x.getD (i+1) e0);omega
theorem uh:∀(k:Nat) {x:List Sd},GX x->dW x<=k->GX (gg k x)/\(alive (gg k x)).Perm (alive x)/\iE (gg k x)=none
 |0,x,h,hk=>by
  have:x=[]:=ahe (by unfold dW at hk;omega);subst this;exact⟨h,List.Perm.refl _,rfl⟩
 |k+1,x,h,hk=>by
  unfold gg
  cases hs:iE x with
  |none=>exact⟨h,List.Perm.refl _,hs⟩
  |some y=>
   obtain⟨h1,h2,h3⟩:=jS h hs;obtain⟨g1,g2,g3⟩:=uh k h1 (by omega);exact⟨g1,g2.trans h2,g3⟩
def zQ {x:List Sd}(h:iE x=none):(∀i,i<x.length->2*(x.getD i e0).2.length<=(x.getD i e0).1.length)/\∀i,i+1<x.length->2*(x.getD (i+1) e0).1.length<=(x.getD i e0).1.length:=by
 unfold iE at h
 split at h
 ·cases h
 ·rename_i hf;have h1:∀i,i<x.length->rG x i=false:=λi hi=>by
   have:=ahT.1 hf i (ag3.2 hi);simpa using this
  have h2:=ahT.1 (Option.map_eq_none_iff.1 h);refine⟨λi hi=>?_,λi hi=>?_⟩
  ·have:=h1 i hi;unfold rG at this;simp only[ahX] at this;omega
  ·have:=h2 i (ai8.2 (ag3.2 (by omega)));unfold qW at this;simp only[agQ] at this;omega
def po (p:Sd)(id:Int):Bool:=decide (id∈(iy p).map (·.id))
def FN (d:List Int)(id:Int):List Int:=comb (λ_ _=>true) d [id]
def cW (x:List Sd)(id:Int):List Sd×Bool:=
 match (List.range x.length).find? λi=>po (x.getD i e0) id with
 |some i=>(x.set i ((x.getD i e0).1,FN (x.getD i e0).2 id),true)
 |none=>(x,false)
def rN {x:List Sd}(h:GX x){p:Sd}(hp:p∈x):V p.2:=
 mY (h.da p hp) λq hq=>by
  obtain⟨d,hd,rfl⟩:=agG.1 (h.dd p hp q hq);exact zq (h.vd p hp) hd
def Zd {id:Int}(h1:1<=id)(h2:id<=1000000000):V [id]:=mY (List.pairwise_singleton _ _) λq hq=>by simp at hq;omega
def xr {d:List Int}{id:Int}(hd:V d)(h1:1<=id)(h2:id<=1000000000):kn (FN d id)/\∀z,z∈FN d id↔z∈d\/z=id:=by
 obtain⟨a,b⟩:=jc (λ_ _=>true) hd (Zd h1 h2);refine⟨a,λz=>?_⟩;unfold FN;rw[b]
 by_cases hb:z=id
 ·subst hb;by_cases ha:z∈d<;>simp[ha]
 ·by_cases ha:z∈d<;>simp[ha,hb]
def jU {x:List Sd}{d:Dc}:d∈alive x↔∃p∈x,d∈iy p:=by unfold alive;exact ahm
def YX {x:List Sd}{i:Nat}(h:i<x.length):x=x.take i++x.getD i e0::x.drop (i+1):=by
 conv=>lhs;rw[<-take_append_drop i x,ah5 h]
 rw[agB,agD h];rfl
def adU {x:List Sd}{i:Nat}(h:i<x.length)(p:Sd):x.set i p=x.take i++p::x.drop (i+1):=by
 rw[List.set_eq_take_append_cons_drop,agN h]
def tm {l:List Dc}{id:Int}(h:id∉l.map (·.id)):l.filter (λd=>!decide (d.id=id))=l:=by
 rw[aid];intro d hd;have:d.id≠id:=λe=>h (agG.2 ⟨d,hd,e⟩);simp[this]
def mn {x:List Sd}(h:GX x)(id:Int):alive (cW x id).1=(alive x).filter λd=>!decide (d.id=id):=by
 unfold cW
 split
 ·rename_i i hf;have hi:i<x.length:=ag3.1 (ahP hf);have hh:po (x.getD i e0) id=true:=by simpa using aiV hf
  unfold po at hh;simp only[agQ] at hh;obtain⟨d0,hd0,e0'⟩:=agG.1 hh;have hd1:=(ag0.1 hd0).1;have hb:=zq (h.vd _ (fY hi)) hd1;rw[e0'] at hb;obtain⟨_,tJ⟩:=xr (rN h (fY hi)) hb.1 hb.2;have hn:=h.nd;rw[YX hi,dq] at hn;have ec:alive (x.getD i e0::x.drop (i+1))=iy (x.getD i e0)++alive (x.drop (i+1)):=by simp[alive]
  rw[ec,agS,agS] at hn;obtain⟨n1,n2,n3⟩:=ahn.1 hn;obtain⟨n4,n5,n6⟩:=ahn.1 n2;have k1:id∉(alive (x.take i)).map (·.id):=λhm=>n3 id hm id (ag1 _ hh) rfl;have k2:id∉(alive (x.drop (i+1))).map (·.id):=λhm=>n6 id hh id hm rfl;have e1:iy ((x.getD i e0).1,FN (x.getD i e0).2 id)=(iy (x.getD i e0)).filter λd=>!decide (d.id=id):=by
   unfold iy;rw[List.filter_filter];refine ajg λd hd=>?_;simp only[tJ]
   by_cases ha:d.id∈(x.getD i e0).2<;>by_cases hb:d.id=id<;>simp[ha,hb]
  show alive (x.set i _)=_;rw[adU hi,dq]
  conv=>rhs;rw[YX hi,dq,ec,aht,aht,tm k1,tm k2]
  have ec2:alive (((x.getD i e0).1,FN (x.getD i e0).2 id)::x.drop (i+1))=iy ((x.getD i e0).1,FN (x.getD i e0).2 id)++alive (x.drop (i+1)):=by simp[alive]
  rw[ec2,e1]
 ·rename_i hf;rw[tm];intro hm;obtain⟨d,hd,e⟩:=agG.1 hm;obtain⟨p,hp,tM⟩:=jU.1 hd;obtain⟨i,hi,rfl⟩:=bK e0 hp;have:=ahT.1 hf i (ag3.2 hi);unfold po at this;exact this (by simp only[agQ];exact agG.2 ⟨d,tM,e⟩)
def DW {x:List Sd}(id:Int):(cW x id).2=decide (id∈(alive x).map (·.id)):=by
 unfold cW
 split
 ·rename_i i hf;have hi:i<x.length:=ag3.1 (ahP hf);have hh:po (x.getD i e0) id=true:=by simpa using aiV hf
  unfold po at hh;simp only[agQ] at hh;obtain⟨d,hd,e⟩:=agG.1 hh;exact(agH (agG.2 ⟨d,jU.2 ⟨_,fY hi,hd⟩,e⟩)).symm
 ·rename_i hf;refine(agI λhm=>?_).symm;obtain⟨d,hd,e⟩:=agG.1 hm;obtain⟨p,hp,tM⟩:=jU.1 hd;obtain⟨i,hi,rfl⟩:=bK e0 hp;have:=ahT.1 hf i (ag3.2 hi);unfold po at this;exact this (by simp only[agQ];exact agG.2 ⟨d,tM,e⟩)
def uC {x:List Sd}(h:GX x)(id:Int):GX (cW x id).1:=by
 have ha:=mn h id;have hs:(alive (cW x id).1).Sublist (alive x):=by rw[ha];exact ait
 have hm:∀p∈(cW x id).1,p∈x\/∃q∈x,p=(q.1,FN q.2 id)/\id∈q.1.map (·.id)/\1<=id/\id<=1000000000:=λp hp=>by
  unfold cW at hp
  split at hp
  ·rename_i i hf;have hi:i<x.length:=ag3.1 (ahP hf);have hh:po (x.getD i e0) id=true:=by simpa using aiV hf
   unfold po at hh;simp only[agQ] at hh;obtain⟨d,hd,e⟩:=agG.1 hh;rcases List.mem_or_eq_of_mem_set hp with h1|h1
   ·exact .inl h1
   ·have hb:=zq (h.vd _ (fY hi)) (ag0.1 hd).1;rw[e] at hb;exact .inr ⟨_,fY hi,h1,agG.2 ⟨d,(ag0.1 hd).1,e⟩,hb.1,hb.2⟩
  ·exact .inl hp
 refine⟨λp hp=>?_,λp hp=>?_,λp hp=>?_,λp hp=>?_,(hs.map _).nodup h.nd,agJ hs.length_le h.n⟩
 ·rcases hm p hp with h1|⟨q,hq,rfl,_⟩
  ·exact h.vd p h1
  ·exact h.vd q hq
 ·rcases hm p hp with h1|⟨q,hq,rfl,_⟩
  ·exact h.ne p h1
  ·exact h.ne q hq
 ·rcases hm p hp with h1|⟨q,hq,rfl,_,h2,h3⟩
  ·exact h.da p h1
  ·exact(xr (rN h hq) h2 h3).1
 ·rcases hm p hp with h1|⟨q,hq,rfl,h4,h2,h3⟩
  ·exact h.dd p h1
  ·intro i hi;rcases ((xr (rN h hq) h2 h3).2 i).1 hi with h5|h5
   ·exact h.dd q hq i h5
   ·rw[h5];exact h4
def fS (x:List Sd)(d:Dc):List Sd:=(cW x d.id).1++[([d],[])]
def oH {x:List Sd}(h:GX x)(d:Dc):alive (fS x d)=((alive x).filter λy=>!decide (y.id=d.id))++[d]:=by
 unfold fS;rw[dq,mn h]
 congr 1
def nR {x:List Sd}(h:GX x){d:Dc}(hv:aS d=true)(hn:(alive x).length<2000\/(cW x d.id).2=true):GX (fS x d):=by
 have hk:=uC h d.id;have ha:=oH h d;have hm:∀p∈fS x d,p∈(cW x d.id).1\/p=([d],[]):=λp hp=>by
  unfold fS at hp;rcases agR.1 hp with h1|h1
  ·exact .inl h1
  ·exact .inr (by simpa using h1)
 refine⟨λp hp=>?_,λp hp=>?_,λp hp=>?_,λp hp=>?_,?_,?_⟩
 ·rcases hm p hp with h1|rfl
  ·exact hk.vd p h1
  ·exact⟨by simp,List.pairwise_singleton _ _,λy hy=>by simp at hy;rw[hy];exact hv⟩
 ·rcases hm p hp with h1|rfl
  ·exact hk.ne p h1
  ·simp
 ·rcases hm p hp with h1|rfl
  ·exact hk.da p h1
  ·exact List.Pairwise.nil
 ·rcases hm p hp with h1|rfl
  ·exact hk.dd p h1
  ·intro i hi;simp at hi
 ·rw[ha,agS,ahn];refine⟨(ait.map _).nodup h.nd,by simp,?_⟩;intro a h1 b h2 e;obtain⟨y,hy,e1⟩:=agG.1 h1;have h3:=(ag0.1 hy).2;simp at h2;rw[<-e1,h2] at e;simp[e] at h3
 ·rw[ha,agF];rcases hn with h1|h1
  ·have:=ahf (λy:Dc=>!decide (y.id=d.id)) (alive x);simp only[ahw];omega
  ·rw[DW] at h1;simp only[agQ] at h1;obtain⟨y,hy,e⟩:=agG.1 h1;have h2:((alive x).filter λy=>!decide (y.id=d.id)).length<(alive x).length:=by
    refine List.length_filter_lt_length_iff_exists.2 ⟨y,hy,?_⟩;simp[e]
   have:=h.n;simp only[ahw];omega
theorem GX.sub {x y:List Sd}(h:GX x)(hs:y.Sublist x):GX y:=by
 have ha:(alive y).Sublist (alive x):=by
  unfold alive
  induction hs with
  |slnil=>exact List.Sublist.refl _
  |cons a hs ih=>
   rw[agT];refine(ih ⟨λp hp=>h.vd p (ahZ _ hp),λp hp=>h.ne p (ahZ _ hp),λp hp=>h.da p (ahZ _ hp),λp hp=>h.dd p (ahZ _ hp),?_,?_⟩).trans (List.sublist_append_right _ _)
   ·have:=h.nd;have e:∀l:List Sd,alive (a::l)=iy a++alive l:=λl=>by simp[alive]
    rw[e,agS] at this;exact(ahn.1 this).2.1
   ·have:=h.n;have e:∀l:List Sd,alive (a::l)=iy a++alive l:=λl=>by simp[alive]
    rw[e,agF] at this;omega
  |cons_cons a hs ih=>
   rw[agT,agT];refine List.Sublist.append (List.Sublist.refl _) (ih ⟨λp hp=>h.vd p (ahZ _ hp),λp hp=>h.ne p (ahZ _ hp),λp hp=>h.da p (ahZ _ hp),λp hp=>h.dd p (ahZ _ hp),?_,?_⟩)
   ·have:=h.nd;have e:∀l:List Sd,alive (a::l)=iy a++alive l:=λl=>by simp[alive]
    rw[e,agS] at this;exact(ahn.1 this).2.1
   ·have:=h.n;have e:∀l:List Sd,alive (a::l)=iy a++alive l:=λl=>by simp[alive]
    rw[e,agF] at this;omega
 exact⟨λp hp=>h.vd p (hs.subset hp),λp hp=>h.ne p (hs.subset hp),λp hp=>h.da p (hs.subset hp),λp hp=>h.dd p (hs.subset hp),(ha.map _).nodup h.nd,agJ ha.length_le h.n⟩
def fl (x:List Sd):List Dc:=eg (alive x)
def gF {x:List Sd}(h:GX x):VD (fl x):=by
 refine⟨by unfold fl;rw[dV];exact h.n,pH h.nd,λd hd=>?_⟩;obtain⟨p,hp,h2⟩:=jU.1 ((eQ d).1 hd);exact(h.vd p hp).v d (ag0.1 h2).1
def qi {x:List Sd}{d:Dc}:d∈fl x↔∃p∈x,d∈iy p:=(eQ d).trans jU
def jR {x:List Sd}{i:Nat}(hi:i<x.length)(d:Dc):d∈fl (x.take (i+1))↔d∈fl (x.take i)\/d∈iy (x.getD i e0):=by
 rw[qi,qi,aV x i e0 hi]
 constructor
 ·rintro⟨p,hp,h⟩;rcases agR.1 hp with h1|h1
  ·exact .inl ⟨p,h1,h⟩
  ·simp only[ahl] at h1;exact .inr (h1▸h)
 ·rintro (⟨p,hp,h⟩|h)
  ·exact⟨p,ag1 _ hp,h⟩
  ·exact⟨_,aiN _ (ahl.2 rfl),h⟩
def ig {x:List Sd}(h:GX x)(i:Nat):GX (x.take i):=h.sub (List.take_sublist _ _)
def jD (p:Sd):List Int:=comb (λ_ q=>!q) (p.1.map (·.id)) p.2
def sC {x:List Sd}(h:GX x){p:Sd}(hp:p∈x):VD (iy p):=(h.vd p hp).filter _
def oC {x:List Sd}(h:GX x){p:Sd}(hp:p∈x):jD p=(iy p).map (·.id):=by
 obtain⟨a,b⟩:=jc (λ_ q=>!q) (nE (h.vd p hp)) (rN h hp);refine jZ _ _ a (ahj.2 (sC h hp).lt) λz=>?_;rw[show z∈jD p↔_ from b z];simp only[Bool.not_true,ai2,ahE,and_false,ajn,ajm]
 constructor
 ·rintro⟨h1,h2⟩;obtain⟨d,hd,rfl⟩:=agG.1 h1;exact agG.2 ⟨d,ag0.2 ⟨hd,by simpa using h2⟩,rfl⟩
 ·intro h1;obtain⟨d,hd,rfl⟩:=agG.1 h1;obtain⟨h2,h3⟩:=ag0.1 hd;exact⟨agG.2 ⟨d,h2,rfl⟩,by simpa using h3⟩
def FL (a b:List Int):List Int:=comb (λ_ _=>true) a b
def xq {a b:List Int}(ha:V a)(hb:V b):kn (FL a b)/\∀z,z∈FL a b↔z∈a\/z∈b:=by
 obtain⟨h1,h2⟩:=jc (λ_ _=>true) ha hb;refine⟨h1,λz=>?_⟩;rw[show z∈FL a b↔_ from h2 z]
 by_cases h3:z∈a<;>by_cases h4:z∈b<;>simp[h3,h4]
def Uy {a:List Int}(h:V a):kn a:=kg h
def sK {a:List Int}(ha:V a):FL [] a=a:=by
 obtain⟨h1,h2⟩:=xq (show V [] from rfl) ha;exact jZ _ _ h1 (Uy ha) λz=>by rw[h2];simp
def jI (x:List Sd):Nat->List Int
 |0=>[]
 |i+1=>FL (FL [] (jI x i)) (jD (x.getD i e0))
theorem pQ {x:List Sd}(h:GX x):∀i,i<=x.length->jI x i=(fl (x.take i)).map (·.id)
 |0,_=>rfl
 |i+1,hi=>by
  have hg:=gF (ig h i);have hg2:=gF (ig h (i+1));unfold jI;rw[pQ h i (by omega),sK (nE hg),oC h (fY hi)];obtain⟨h1,h2⟩:=xq (nE hg) (nE (sC h (fY hi)));refine jZ _ _ h1 (ahj.2 hg2.lt) λz=>?_;rw[h2]
  constructor
  ·rintro (h3|h3)
   ·obtain⟨d,hd,rfl⟩:=agG.1 h3;exact agG.2 ⟨d,(jR hi d).2 (.inl hd),rfl⟩
   ·obtain⟨d,hd,rfl⟩:=agG.1 h3;exact agG.2 ⟨d,(jR hi d).2 (.inr hd),rfl⟩
  ·intro h3;obtain⟨d,hd,rfl⟩:=agG.1 h3;rcases (jR hi d).1 hd with h4|h4
   ·exact .inl (agG.2 ⟨d,h4,rfl⟩)
   ·exact .inr (agG.2 ⟨d,h4,rfl⟩)
theorem Ad {L:List Dc}(hL:VD L)(k:Ky){ds:List Int}(hd:V ds):lR (dg L k) ds=dg (L.filter λd=>decide (d.id∈ds)) k:=by
 unfold lR;rw[agN ⟨gZ hL.lt hL.v k,hd⟩,<-Ze (cU (gZ hL.lt hL.v k)).1 (Uy hd)];clear hL;unfold Xt dg
 induction L with
 |nil=>rfl
 |cons a L ih=>
  rw[agT,aht,ih]
  by_cases ha:a.id∈ds
  ·rw[ahQ (by simpa using ha),agT]
   congr 1
   unfold Co
   split
   ·rfl
   ·simp[ha]
  ·rw[ahK (by simpa using ha)];unfold Co
   split
   ·rfl
   ·simp[ha]
def Ag {x:List Sd}(h:GX x){p:Sd}(hp:p∈x):(p.1.filter λd=>decide (d.id∈jD p))=iy p:=by
 rw[oC h hp];unfold iy;refine ajg λd hd=>?_
 by_cases hx:d.id∈p.2
 ·simp only[hx,decide_true,Bool.not_true,ahX];intro hm;obtain⟨y,hy,e⟩:=agG.1 hm;have:=(ag0.1 hy).2;rw[e] at this;simp[hx] at this
 ·simp only[hx,decide_false,ai2,agQ];exact agG.2 ⟨d,ag0.2 ⟨hd,by simp[hx]⟩,rfl⟩
def eC (x:List Sd)(k:Ky):Nat->List Ps
 |0=>[]
 |i+1=>iU (eC x k i) (lR (iH (eu (x.getD i e0).1) k) (jD (x.getD i e0)))
theorem tj {x:List Sd}(h:GX x)(k:Ky):∀i,i<=x.length->eC x k i=dg (fl (x.take i)) k
 |0,_=>rfl
 |i+1,hi=>by
  have hp:=fY (x:=x) hi;have hv:=h.vd _ hp;unfold eC;rw[tj h k i (by omega),vp hv.n hv.lt hv.v,Ad hv k (by rw[oC h hp];exact nE (sC h hp)),Ag h hp];exact S8 (gF (ig h i)) (sC h hp) (gF (ig h (i+1))) (jR hi) k
def nV {x:List Sd}(h:GX x)(k:Ky):eC x k x.length=dg (fl x) k:=by rw[tj h k _ (agE _),agZ]
def kX (x:List Sd)(f lo hi:Int):Nat->List Int
 |0=>[]
 |i+1=>FL (FL [] (kX x f lo hi i)) (comb (λ_ q=>!q) (kW (eu (x.getD i e0).1) f lo hi) (x.getD i e0).2)
theorem wu {x:List Sd}(h:GX x)(f lo hi:Int):∀i,i<=x.length->kX x f lo hi i=kW (eu (fl (x.take i))) f lo hi
 |0,_=>by
  refine jZ _ _ List.Pairwise.nil (wo _ _ _ _) λz=>?_;have hv:VD (fl (x.take 0)):=gF (ig h 0);rw[oE hv];simp[kX,fl,alive,eg]
 |i+1,iP=>by
  have hp:=fY (x:=x) iP;have hv:=h.vd _ hp;have hg:=gF (ig h i);have hg2:=gF (ig h (i+1));unfold kX;rw[wu h f lo hi i (by omega),sK (Io hg f lo hi)];obtain⟨a,b⟩:=jc (λ_ q=>!q) (Io hv f lo hi) (rN h hp);have hw:V (comb (λ_ q=>!q) (kW (eu (x.getD i e0).1) f lo hi) (x.getD i e0).2):=mY a λq hq=>by
   have h3:=(b q).1 hq;simp only[Bool.not_true,ai2,ahE,and_false,ajn,ajm] at h3;obtain⟨d,hd,rfl,_⟩:=(oE hv f lo hi q).1 h3.1;exact zq hv hd
  obtain⟨h1,h2⟩:=xq (Io hg f lo hi) hw;refine jZ _ _ h1 (wo _ _ _ _) λz=>?_;rw[h2,b,oE hg,oE hg2,oE hv];simp only[Bool.not_true,ai2,ahE,and_false,ajn,ajm]
  constructor
  ·rintro (⟨d,hd,h3⟩|⟨⟨d,hd,h3,h4⟩,h5⟩)
   ·exact⟨d,(jR iP d).2 (.inl hd),h3⟩
   ·refine⟨d,(jR iP d).2 (.inr (ag0.2 ⟨hd,?_⟩)),h3,h4⟩;rw[h3,agI h5];rfl
  ·rintro⟨d,hd,h3,h4⟩;rcases (jR iP d).1 hd with h5|h5
   ·exact .inl ⟨d,h5,h3,h4⟩
   ·obtain⟨h6,h7⟩:=ag0.1 h5;refine .inr ⟨⟨d,h6,h3,h4⟩,?_⟩;rw[<-h3];simpa[-getD_eq_getElem?_getD] using h7
def EB {x:List Sd}(h:GX x)(f lo hi:Int):kX x f lo hi x.length=kW (eu (fl x)) f lo hi:=by rw[wu h f lo hi _ (agE _),agZ]
structure PX (P:Dc->Prop)(B:Nat)(x:List Sd):Prop where
 p:∀p∈x,∀d∈p.1,P d
 b:∀p∈x,p.1.length<=B
def lY {p:Sd}{d:Dc}(h:d∈iy p):d∈p.1:=(ag0.1 h).1
def PX.each {P:Dc->Prop}{B:Nat}{x:List Sd}(h:PX P B x):∀d∈alive x,P d:=λd hd=>by
 obtain⟨p,hp,h2⟩:=jU.1 hd;exact h.p p hp d (lY h2)
def PX.M3 {P:Dc->Prop}{B:Nat}{x:List Sd}(h:PX P B x){i j:Nat}{L:List Dc}(hL:∀d∈L,P d)(hb:L.length<=B):PX P B (gI x i j L):=by
 have hm:∀p∈gI x i j L,p∈x\/p=(L,[]):=λp hp=>by
  unfold gI at hp;rcases agR.1 hp with h1|h1
  ·rcases agR.1 h1 with h2|h2
   ·exact .inl (aiR h2)
   ·unfold rv at h2
    split at h2
    ·simp at h2
    ·exact .inr (by simpa using h2)
  ·exact .inl (List.mem_of_mem_drop h1)
 refine⟨λp hp=>?_,λp hp=>?_⟩
 ·rcases hm p hp with h1|rfl
  ·exact h.p p h1
  ·exact hL
 ·rcases hm p hp with h1|rfl
  ·exact h.b p h1
  ·exact hb
def oJ {x:List Sd}{p:Sd}(hp:p∈x):(iy p).length<=(alive x).length:=by
 obtain⟨a,b,rfl⟩:=aiZ hp;rw[dq,agF];have:alive (p::b)=iy p++alive b:=by simp[alive]
 rw[this,agF];omega
def xN {x:List Sd}{i:Nat}(hi:i+1<x.length):(both x i).length<=(alive x).length:=by
 have e:x=x.take i++(x.take (i+2)).drop i++x.drop (i+2):=by
  have h1:x.take i=(x.take (i+2)).take i:=by rw[take_take,aje (by omega)]
  rw[h1,ag7,ag7]
 have h1:(alive x).length=(alive (x.take i++(x.take (i+2)).drop i++x.drop (i+2))).length:=by rw[<-e]
 rw[dq,dq,pP hi,agF,agF] at h1;have e2:alive [x.getD i e0,x.getD (i+1) e0]=iy (x.getD i e0)++iy (x.getD (i+1) e0):=by simp[alive]
 rw[e2] at h1;unfold both;rw[dV];omega
def EA {x:List Sd}{i:Nat}{d:Dc}(hd:d∈both x i):d∈(x.getD i e0).1\/d∈(x.getD (i+1) e0).1:=
 (agR.1 ((eQ d).1 hd)).imp lY lY
theorem PX.step {P:Dc->Prop}{B:Nat}{x y:List Sd}(h:PX P B x)(hB:(alive x).length<=B)(hs:iE x=some y):PX P B y:=by
 unfold iE at hs
 split at hs
 ·rename_i i hf;obtain rfl:=Option.some.inj hs;have hi:i<x.length:=ag3.1 (ahP hf);exact h.M3 (λd hd=>h.p _ (fY hi) d (lY hd)) (agJ (oJ (fY hi)) hB)
 ·cases hf:(List.range (x.length-1)).reverse.find? (qW x) with
  |none=>rw[hf] at hs;cases hs
  |some i=>
   rw[hf] at hs;obtain rfl:=Option.some.inj hs;have hi:i<x.length-1:=ag3.1 (ai8.1 (ahP hf));exact h.M3 (λd hd=>(EA hd).elim (h.p _ (fY (by omega)) d) (h.p _ (fY (by omega)) d)) (agJ (xN (by omega)) hB)
theorem PX.tidy {P:Dc->Prop}{B:Nat}:∀(k:Nat) {x:List Sd},GX x->PX P B x->(alive x).length<=B->PX P B (gg k x)
 |0,x,_,h,_=>h
 |k+1,x,hg,h,hB=>by
  unfold gg
  cases hs:iE x with
  |none=>exact h
  |some y=>
   obtain⟨h1,h2,_⟩:=jS hg hs;exact PX.tidy k h1 (h.step hB hs) (by rw[h2.length_eq];exact hB)
def PX.kill {P:Dc->Prop}{B:Nat}{x:List Sd}(h:PX P B x)(id:Int):PX P B (cW x id).1:=by
 have hm:∀p∈(cW x id).1,∃q∈x,p.1=q.1:=λp hp=>by
  unfold cW at hp
  split at hp
  ·rename_i i hf;have hi:i<x.length:=ag3.1 (ahP hf);rcases List.mem_or_eq_of_mem_set hp with h1|h1
   ·exact⟨p,h1,rfl⟩
   ·exact⟨_,fY hi,by rw[h1]⟩
  ·exact⟨p,hp,rfl⟩
 refine⟨λp hp=>?_,λp hp=>?_⟩
 ·obtain⟨q,hq,e⟩:=hm p hp;rw[e];exact h.p q hq
 ·obtain⟨q,hq,e⟩:=hm p hp;rw[e];exact h.b q hq
def PX.plus {P:Dc->Prop}{B:Nat}{x:List Sd}(h:PX P B x){d:Dc}(hd:P d)(hB:1<=B):PX P B (fS x d):=by
 have hk:=h.kill d.id;refine⟨λp hp=>?_,λp hp=>?_⟩
 ·rcases agR.1 hp with h1|h1
  ·exact hk.p p h1
  ·have:p=([d],[]):=by simpa using h1
   subst this;intro y hy;have:y=d:=by simpa using hy
   rw[this];exact hd
 ·rcases agR.1 hp with h1|h1
  ·exact hk.b p h1
  ·have:p=([d],[]):=by simpa using h1
   subst this;exact hB
def Gi (x:List Sd):Prop:=(∀i,i<x.length->2*(x.getD i e0).2.length<=(x.getD i e0).1.length)/\∀i,i+1<x.length->2*(x.getD (i+1) e0).1.length<=(x.getD i e0).1.length
theorem Pt {x:List Sd}(h:GX x){p:Sd}(hp:p∈x):(iy p).length+p.2.length=p.1.length:=by
 have h1:=ka (h.da p hp) (h.dd p hp);have h2:(p.1.filter λd=>decide (d.id∈p.2)).length<=p.2.length:=by
  have hn:((p.1.filter λd=>decide (d.id∈p.2)).map (·.id)).Nodup:=(ait.map _).nodup (me (h.vd p hp).lt);have:=qg hn (m:=p.2) λi hi=>by
   obtain⟨d,hd,rfl⟩:=agG.1 hi;exact aiF (ag0.1 hd).2
  rwa [agU] at this
 have h3:∀l:List Dc,(l.filter λd=>!decide (d.id∈p.2)).length+(l.filter λd=>decide (d.id∈p.2)).length=l.length:=by
  intro l
  induction l with
  |nil=>rfl
  |cons a l ih=>
   by_cases ha:a.id∈p.2<;>simp only[List.filter_cons,ha,decide_true,decide_false,Bool.not_true,ai2,ain,aiq,ahd,ahE]<;>omega
 have:=h3 p.1;unfold iy at h1 ⊢;omega
theorem Dn {x:List Sd}(h:GX x)(ht:Gi x):∀i,i<x.length->∀j,j<=i->2 ^ j<=(x.getD (i-j) e0).1.length
 |i,hi,0,_=>by
  have:=ahN.2 (h.ne _ (fY hi));simp only[Nat.sub_zero];omega
 |i,hi,j+1,hj=>by
  have h1:=Dn h ht i hi j (by omega);have h2:=ht.2 (i-(j+1)) (by omega);rw[show i-(j+1)+1=i-j by omega] at h2;rw[Nat.pow_succ];omega
def Oy {x:List Sd}(h:GX x)(ht:Gi x){B:Nat}(hB:(alive x).length<=B):x≠[]->2 ^ (x.length-1)<=2*B:=λdN=>by
 have hl:=ahN.2 dN;have h1:=Dn h ht (x.length-1) (by omega) (x.length-1) (agE _);rw[ah1] at h1;have h2:=ht.1 0 hl;have h3:=Pt h (fY hl);have h4:=oJ (fY (x:=x) hl);omega
def Mq (s:Sg)(d:List Int):List Int:=comb (λ_ q=>!q) s.aB d
def oj (S:List Sg)(D:List (List Int)):Nat->List Int
 |0=>[]
 |i+1=>FL (oj S D i) (Mq (S.getD i bV) (D.getD i []))
def Qk (S:List Sg)(D:List (List Int))(i:Nat):Bool:=
 ((aY (S.getD i bV)&&decide ((S.getD i bV).aB≠[]))&&decide (i=0\/2*(S.getD i bV).aB.length<=(S.getD (i-1) bV).aB.length)) &&
 ((oX (D.getD i []) 1 1000000000&&decide (comb (λ_ q=>!q) (D.getD i []) (S.getD i bV).aB=[]))&&decide (2*(D.getD i []).length<=(S.getD i bV).aB.length)) &&
 decide (comb (λp q=>p&&q) (oj S D i) (Mq (S.getD i bV) (D.getD i []))=[])
def mW (S:List Sg)(D:List (List Int)):Bool:=decide (S.length=D.length)&&((List.range S.length).all (Qk S D)&&decide ((oj S D S.length).length<=2000))
def br (x:List Sd):List Sg:=x.map λp=>eu p.1
def cj (x:List Sd):List (List Int):=x.map (·.2)
def fx {x:List Sd}{i:Nat}(h:i<x.length):(br x).getD i bV=eu (x.getD i e0).1:=by
 unfold br;simp[agB,ahJ,agD h]
def gn {x:List Sd}{i:Nat}(h:i<x.length):(cj x).getD i []=(x.getD i e0).2:=by
 unfold cj;simp[agB,ahJ,agD h]
def fw (x:List Sd):(br x).length=x.length:=by unfold br;rw[agU]
def l0 (x:List Sd):(cj x).length=x.length:=by unfold cj;rw[agU]
def wW (p:Sd):Mq (eu p.1) p.2=jD p:=rfl
theorem wx {x:List Sd}(h:GX x):∀i,i<=x.length->oj (br x) (cj x) i=(fl (x.take i)).map (·.id)
 |0,_=>rfl
 |i+1,hi=>by
  rw[<-pQ h (i+1) hi];unfold oj jI;rw[wx h i (by omega),fx hi,gn hi,pQ h i (by omega),sK (nE (gF (ig h i)))];rfl
def Iy {x:List Sd}(h:GX x)(ht:Gi x):mW (br x) (cj x)=true:=by
 unfold mW;rw[fw,l0,agH rfl,ahM,agO];refine⟨aha.2 λi hi=>?_,?_⟩
 ·have hi:=ag3.1 hi;have hp:=fY (x:=x) hi;have hv:=h.vd _ hp;have hd:(eu (x.getD i e0).1).aB=(x.getD i e0).1.map (·.id):=rfl;unfold Qk;rw[fx hi,gn hi,wx h i (by omega),wW,oC h hp,hv.valid,rN h hp];have h1:(eu (x.getD i e0).1).aB≠[]:=by
   rw[hd];intro e;exact h.ne _ hp (List.map_eq_nil_iff.1 e)
  have h2:i=0\/2*(eu (x.getD i e0).1).aB.length<=((br x).getD (i-1) bV).aB.length:=by
   rcases ahc i with h0|h0
   ·exact .inl h0
   ·refine .inr ?_;rw[fx (by omega)];have:=ht.2 (i-1) (by omega);rw[show i-1+1=i by omega] at this;show 2*((x.getD i e0).1.map (·.id)).length<=((x.getD (i-1) e0).1.map (·.id)).length;rw[agU,agU];exact this
  have h3:comb (λ_ q=>!q) (x.getD i e0).2 (eu (x.getD i e0).1).aB=[]:=by
   obtain⟨_,b⟩:=jc (λ_ q=>!q) (rN h hp) (nE hv);rw[ah3];intro z hz;have:=(b z).1 hz;simp only[Bool.not_true,ai2,ahE,and_false,ajn,ajm] at this;exact this.2 (h.dd _ hp z this.1)
  have h4:2*(x.getD i e0).2.length<=(eu (x.getD i e0).1).aB.length:=by
   show _<=((x.getD i e0).1.map (·.id)).length;rw[agU];exact ht.1 i hi
  have h5:comb (λp q=>p&&q) ((fl (x.take i)).map (·.id)) ((iy (x.getD i e0)).map (·.id))=[]:=by
   obtain⟨_,b⟩:=jc (λp q=>p&&q) (nE (gF (ig h i))) (nE (sC h hp));rw[ah3];intro z hz;have:=(b z).1 hz;simp only[Bool.and_false,Bool.false_and,Bool.and_true,ahE,and_false,false_or,ajm] at this;obtain⟨d,hd1,e1⟩:=agG.1 this.1;obtain⟨d2,tM,e2⟩:=agG.1 this.2;have hn:=(ig h (i+1)).nd;rw[aV x i e0 hi,dq,agS] at hn;have hm:z∈(alive (x.take i)).map (·.id):=agG.2 ⟨d,(eQ d).1 hd1,e1⟩;have Qt:z∈(alive [x.getD i e0]).map (·.id):=agG.2 ⟨d2,by simpa[alive,-getD_eq_getElem?_getD] using tM,e2⟩;exact(ahn.1 hn).2.2 z hm z Qt rfl
  rw[agH h1,agH h2,agH h3,agH h4,agH h5];rfl
 ·rw[wx h _ (agE _),agU,agZ];have:=(gF h).n;simpa using this
def A0 (x:List Sd)(d:Dc):List Sd:=gg (dW (fS x d)) (fS x d)
def wT (x:List Sd)(id:Int):List Sd:=if (cW x id).2=true then gg (dW (cW x id).1) (cW x id).1 else x
structure IX (P:Dc->Prop)(B:Nat)(x:List Sd):Prop where
 g:GX x
 t:Gi x
 p:PX P B x
def IX.nil {P:Dc->Prop}{B:Nat}:IX P B []:=⟨⟨by simp,by simp,by simp,by simp,by simp[alive],by simp[alive]⟩,⟨by simp,by simp⟩,⟨by simp,by simp⟩⟩
def IX.valid {P:Dc->Prop}{B:Nat}{x:List Sd}(h:IX P B x):mW (br x) (cj x)=true:=Iy h.g h.t
def IX.put {P:Dc->Prop}{B:Nat}{x:List Sd}(h:IX P B x){d:Dc}(hv:aS d=true)(hd:P d)(hB:1<=B)(hn:(alive x).length<2000)(hl:(alive (fS x d)).length<=B) :
  IX P B (A0 x d)/\(alive (A0 x d)).Perm (((alive x).filter λy=>!decide (y.id=d.id))++[d]):=by
 have hg:=nR h.g hv (.inl hn);obtain⟨h1,h2,h3⟩:=uh (dW (fS x d)) hg (agE _);exact⟨⟨h1,zQ h3,PX.tidy _ hg (h.p.plus hd hB) hl⟩,h2.trans (by rw[oH h.g])⟩
def IX.drop {P:Dc->Prop}{B:Nat}{x:List Sd}(h:IX P B x)(id:Int)(hl:(alive x).length<=B) :
  IX P B (wT x id)/\(alive (wT x id)).Perm ((alive x).filter λy=>!decide (y.id=id)):=by
 unfold wT
 split
 ·have hg:=uC h.g id;have hle:(alive (cW x id).1).length<=B:=by
   rw[mn h.g];exact agJ (ahf _ _) hl
  obtain⟨h1,h2,h3⟩:=uh (dW (cW x id).1) hg (agE _);exact⟨⟨h1,zQ h3,PX.tidy _ hg (h.p.kill id) hle⟩,h2.trans (by rw[mn h.g])⟩
 ·rename_i hw;refine⟨h,?_⟩;rw[tm];intro hm;rw[DW] at hw;exact hw (agH hm)
def nm (id:Int)(w:Bs):Dc:=⟨id,[⟨1,[(w,0)]⟩],[]⟩
abbrev qM:=Bool×Dc
def tV (x:List Sd)(o:qM):List Sd:=if o.1=true then wT x o.2.id else if aS o.2=true then A0 x o.2 else x
def fc (l:List qM):List Sd:=l.foldl tV []
def Mo (l:List qM)(d:Dc):Prop:=∃o∈l,o.2=d/\aS d=true
def pL {l:List qM}{L:List Dc}(hn:(L.map (·.id)).Nodup)(h:∀d∈L,Mo l d):L.length<=l.length:=by
 have:=qg hn (m:=l.map (·.2.id)) λi hi=>by
  obtain⟨d,hd,rfl⟩:=agG.1 hi;obtain⟨o,ho,rfl,_⟩:=h d hd;exact agG.2 ⟨o,ho,rfl⟩
 rwa [agU,agU] at this
def Wp {l:List qM}{B:Nat}(hl:l.length<=B)(hB:B<2000){x:List Sd}(h:IX (Mo l) B x){o:qM}(ho:o∈l):IX (Mo l) B (tV x o):=by
 have ha:∀{y:List Sd},GX y->PX (Mo l) B y->(alive y).length<=B:=λhg hp=>agJ (pL hg.nd hp.each) hl;have hx:=ha h.g h.p;unfold tV
 split
 ·exact(h.drop _ hx).1
 ·split
  ·rename_i hv;have hd:Mo l o.2:=⟨o,ho,rfl,hv⟩
   have eO:1<=B:=by have:=List.length_pos_of_mem ho;omega
   exact(h.put hv hd eO (by omega) (ha (nR h.g hv (.inl (by omega))) (h.p.plus hd eO))).1
  ·exact h
theorem mH {l:List qM}{B:Nat}(hl:l.length<=B)(hB:B<2000):∀m,m<=l.length->IX (Mo l) B (fc (l.take m))
 |0,_=>IX.nil
 |m+1,hm=>by
  have aZ:m<l.length:=hm;have e:fc (l.take (m+1))=tV (fc (l.take m)) l[m]:=by
   unfold fc;rw[ah0 aZ,ail];rfl
  rw[e];exact Wp hl hB (mH hl hB m (by omega)) (ahb aZ)
def L9 {l:List qM}{B:Nat}(hl:l.length<=B)(hB:B<2000){x:List Sd}(h:IX (Mo l) B x){o:qM}(ho:o∈l) :
  (alive (tV x o)).Perm (if o.1=true then (alive x).filter (λy=>!decide (y.id=o.2.id)) else if aS o.2=true then (alive x).filter (λy=>!decide (y.id=o.2.id))++[o.2] else alive x):=by
 have ha:∀{y:List Sd},GX y->PX (Mo l) B y->(alive y).length<=B:=λhg hp=>agJ (pL hg.nd hp.each) hl;have hx:=ha h.g h.p;unfold tV
 split
 ·exact(h.drop _ hx).2
 ·split
  ·rename_i hv;have hd:Mo l o.2:=⟨o,ho,rfl,hv⟩
   have eO:1<=B:=by have:=List.length_pos_of_mem ho;omega
   exact(h.put hv hd eO (by omega) (ha (nR h.g hv (.inl (by omega))) (h.p.plus hd eO))).2
  ·exact List.Perm.refl _
structure Cz (m:Nat)(d:Dc):Prop where
 k:(dm d).length<=m
 w:∀z∈d.zs,z.ws.length<=1000
 n:d.ns.length<=20
def Nr {L:List Dc}(hv:VD L){m:Nat}(h:∀d∈L,Cz m d)(h40:L.length<=19)(hm:L.length*m<=1000):uX (eu L):=
 P8 (agJ h40 (by decide)) (agJ (iI dm m L λd hd=>(h d hd).k) hm) hv.v (λd hd=>(h d hd).w) (λd hd=>(h d hd).n)
def Ix (id:Int)(w:Bs):Cz 1 (nm id w):=⟨by simp[dm,eZ,nm],λz hz=>by simp[nm] at hz;subst hz;simp,by simp[nm]⟩
structure BX (m:Nat)(x:List Sd):Prop where
 g:GX x
 a:(alive x).length<=19
 b:∀p∈x,p.1.length<=19/\p.1.length*m<=1000
 c:(alive x).length*m<=1000
 w:∀p∈x,∀d∈p.1,Cz m d
def BX.sz {m:Nat}{x:List Sd}(h:BX m x){p:Sd}(hp:p∈x):uX (eu p.1):=Nr (h.g.vd p hp) (h.w p hp) (h.b p hp).1 (h.b p hp).2
def BX.lv {m:Nat}{x:List Sd}(h:BX m x){p:Sd}(hp:p∈x):uX (eu (iy p)):=by
 refine Nr (sC h.g hp) (λd hd=>h.w p hp d (lY hd)) (agJ (sM p) (h.b p hp).1) (agJ (ahF _ (sM p)) (h.b p hp).2)
theorem BX.both {m:Nat}{x:List Sd}(h:BX m x){i:Nat}(hi:i+1<x.length):uX (eu (both x i)):=by
 have hl:=xN hi;refine Nr (wm h.g hi) (λd hd=>?_) (agJ hl h.a) (agJ (ahF _ hl) h.c);exact(EA hd).elim (h.w _ (fY (by omega)) d) (h.w _ (fY (by omega)) d)
theorem BX.step {m:Nat}{x y:List Sd}(h:BX m x)(hs:iE x=some y):BX m y:=by
 obtain⟨h1,h2,_⟩:=jS h.g hs;have hp:PX (Cz m) 19 y:=PX.step ⟨h.w,λp hp=>(h.b p hp).1⟩ h.a hs;refine⟨h1,by rw[h2.length_eq];exact h.a,λp QT=>⟨hp.b p QT,?_⟩,by rw[h2.length_eq];exact h.c,hp.p⟩;rcases ahc m with h0|h0
 ·subst h0;omega
 ·have hq:PX (Cz m) (1000 / m) y:=PX.step ⟨h.w,λp hp=>(ajf h0).2 (h.b p hp).2⟩ ((ajf h0).2 h.c) hs;exact(ajf h0).1 (hq.b p QT)
def IX.bx {P:Dc->Prop}{B m:Nat}{x:List Sd}(h:IX P B x)(hP:∀d,P d->Cz m d)(ha:(alive x).length<=B)(hB:B<=19)(hm:B*m<=1000):BX m x:=
 ⟨h.g,by omega,λp hp=>⟨agJ (h.p.b p hp) hB,agJ (ahF _ (h.p.b p hp)) hm⟩,agJ (ahF _ ha) hm,λp hp d hd=>hP d (h.p.p p hp d hd)⟩
theorem BX.kill {m:Nat}{x:List Sd}(h:BX m x)(id:Int):BX m (cW x id).1:=by
 have hp:PX (Cz m) 19 (cW x id).1:=PX.kill ⟨h.w,λp hp=>(h.b p hp).1⟩ id;have hl:(alive (cW x id).1).length<=(alive x).length:=by rw[mn h.g];exact ahf _ _
 refine⟨uC h.g id,agJ hl h.a,λp QT=>⟨hp.b p QT,?_⟩,agJ (ahF _ hl) h.c,hp.p⟩;rcases ahc m with h0|h0
 ·subst h0;omega
 ·have hq:PX (Cz m) (1000 / m) (cW x id).1:=PX.kill ⟨h.w,λp hp=>(ajf h0).2 (h.b p hp).2⟩ id;exact(ajf h0).1 (hq.b p QT)
def BX.plus {m:Nat}{x:List Sd}(h:BX m x){d:Dc}(hv:aS d=true)(hd:Cz m d)(ha:(alive (fS x d)).length<=19)(hm:(alive (fS x d)).length*m<=1000):BX m (fS x d):=by
 have hk:=h.kill d.id;have eO:1<=(alive (fS x d)).length:=by rw[oH h.g,agF,ahw];omega
 have Qu:1*m<=1000:=agJ (ahF _ eO) hm;have hc:∀p∈fS x d,p∈(cW x d.id).1\/p=([d],[]):=λp hp=>by
  unfold fS at hp;rcases agR.1 hp with h1|h1
  ·exact .inl h1
  ·exact .inr (by simpa using h1)
 refine⟨nR h.g hv (.inl (by have:=h.a;omega)),ha,λp hp=>?_,hm,λp hp=>?_⟩
 ·rcases hc p hp with h1|rfl
  ·exact hk.b p h1
  ·exact⟨by simp,by simpa using Qu⟩
 ·rcases hc p hp with h1|rfl
  ·exact hk.w p h1
  ·intro y hy;have:y=d:=by simpa using hy
   rw[this];exact hd
def MX:List Sd:=fc [(false,nm 1 [97]),(false,nm 2 [97]),(false,nm 3 [98])]
def zm:List Sd:=A0 MX (nm 1 [99])
def YV:MX=[([nm 1 [97],nm 2 [97]],[]),([nm 3 [98]],[])]:=by decide +kernel
def aeR:zm=[([nm 1 [99],nm 2 [97],nm 3 [98]],[])]:=by decide +kernel
def PJ:aB (dg (fl zm) (1,[97]))=[2]:=by decide +kernel
def fD (l:List Sg):List AV:=l.flatMap dA
def oA:ep dA 3:=λ_=>rfl
def dD (l:List Sg):(fD l).length=l.length*3:=bY oA l
def Bn (l:List Sg)(i:Nat)(h:i<l.length):(fD l).getD (i*3) .top=.sl (l.getD i bV).aB.length (ints (l.getD i bV).aB) .none/\(fD l).getD (i*3+1) .top=.sl (l.getD i bV).bO.length (du (l.getD i bV).bO) .none/\(fD l).getD (i*3+2) .top=.sl (l.getD i bV).aO.length (dH (l.getD i bV).aO) .none:=
 ⟨eJ oA l i 0 bV h (by omega),eJ oA l i 1 bV h (by omega),eJ oA l i 2 bV h (by omega)⟩
def j7 (l:List Sg)(i:Nat)(h:i<l.length):((fD l).drop (i*3)).take 3=dA (l.getD i bV):=fO oA l i bV h
def Ks (l:List Sg)(x:Sg):fD l++dA x=fD (l++[x]):=nL (f:=dA) l x
def OF (a b:List Sg):fD a++fD b=fD (a++b):=by simp[fD]
def Kt (l:List Sg)(i:Nat):(fD l).drop (i*3)=fD (l.drop i):=jT oA l i
def IC (l:List Sg)(i:Nat):(fD l).take (i*3)=fD (l.take i):=nK oA l i
@[simp] theorem abV (n t:Nat) (l:List Sg):aM n t (fD l):=fG (f:=dA) (λx=>by simp) l
abbrev Cm (l:List Int):AV:=.sl l.length (ints l) .none
def fL (D:List (List Int)):List AV:=D.map Cm
def bF (D:List (List Int)):(fL D).length=D.length:=by unfold fL;rw[agU]
def oD (D:List (List Int))(i:Nat)(h:i<D.length):(fL D).getD i .top=Cm (D.getD i []):=by
 unfold fL;simp[agB,ahJ,agD h]
def PY (a b:List (List Int)):fL a++fL b=fL (a++b):=by simp[fL]
def LW (a:List (List Int))(d:List Int):fL a++[Cm d]=fL (a++[d]):=by simp[fL]
def LX (D:List (List Int))(i:Nat):(fL D).drop i=fL (D.drop i):=by simp[fL]
def I6 (D:List (List Int))(i:Nat):(fL D).take i=fL (D.take i):=by simp[fL]
def PW (D:List (List Int))(i:Nat)(d:List Int):(fL D).set i (Cm d)=fL (D.set i d):=by unfold fL;rw[List.map_set]
@[simp] theorem abZ (n t:Nat) (D:List (List Int)):aM n t (fL D):=by
 intro v hv;obtain⟨x,_,rfl⟩:=agG.1 hv;simp
abbrev iv (S:List Sg)(D:List (List Int)):List AV:=[.sl S.length (fD S) .none,.sl D.length (fL D) .none]
abbrev A4 (S:List Sg)(D:List (List Int)):AV:=.agg (iv S D)
abbrev yp (x:List Sd):AV:=A4 (br x) (cj x)
structure Ym (S:List Sg)(D:List (List Int)):Prop where
 n:S.length<=400
 s:∀s∈S,uX s
 d:D.length<=400
 l:∀d∈D,d.length<=1000
end Go.Proofs.YtoejlmpbebjemaaGreat
