/- Indexes: segments with their dead documents (layer 40, plain). Putting and dropping in an index (layer 40, plain). What is found in an index is what is found in the segment of its live documents (layer 40, plain). Sizes of tidy indexes (layer 40, plain). When an index is valid (layer 40, plain). Puts and drops, one after the other, keep an index tidy (layer 40, plain). Indexes of documents with one word (layer 40, plain). Changes, one after the other (layer 40, plain). Sizes of the segments of an index (layer 40, plain). The example of the document, played (layer 40, plain). Indexes as cells (layer 40).
  Conditions: as the theorems say. -/
import Derived.Test.YtoejlmpbebjemaaGreatGZx
import Derived.Test.YtoejlmpbebjemaaGreatGZy
set_option linter.all false
set_option maxRecDepth 100000

open List (take_append_drop getD_eq_getElem?_getD take_take)
namespace Go.Proofs.YtoejlmpbebjemaaGreat
open Go Go.Am im cL eT
abbrev Sd:=List Dc×List Int
def e0:Sd:=([],[])
def iG (p:Sd):List Dc:=p.1.filter λd=>!decide (d.id∈p.2)
def alive (x:List Sd):List Dc:=x.flatMap iG
structure GX (x:List Sd):Prop where
 vd:∀p∈x,VD p.1
 ne:∀p∈x,p.1≠[]
 da:∀p∈x,kz p.2
 dd:∀p∈x,∀i∈p.2,i∈p.1.map (·.id)
 nd:((alive x).map (·.id)).Nodup
 n:(alive x).length<=2000
def rz (L:List Dc):List Sd:=if L=[] then [] else [(L,[])]
def gO (x:List Sd)(i j:Nat)(L:List Dc):List Sd:=x.take i++rz L++x.drop j
def TP (L:List Dc):iG (L,[])=L:=by unfold iG;simp
def Nc (L:List Dc):alive (rz L)=L:=by
 unfold rz alive
 split
 ·rename_i h;rw[h];rfl
 ·simp[TP]
def dw (x y:List Sd):alive (x++y)=alive x++alive y:=by unfold alive;rw[ahZ]
def sq {x:List Sd}{i j:Nat}{L:List Dc}(hij:i<=j)(hL:L.Perm (alive ((x.take j).drop i))):(alive (gO x i j L)).Perm (alive x):=by
 have e:x=x.take i++(x.take j).drop i++x.drop j:=by
  have h1:x.take i=(x.take j).take i:=by rw[take_take,ajQ hij]
  rw[h1,ahM,ahM]
 unfold gO;rw[dw,dw,Nc]
 conv=>rhs;rw[e,dw,dw]
 exact(hL.append_left _).append_right _
def GX.NR {x:List Sd}(h:GX x){i j:Nat}{L:List Dc}(hij:i<=j)(hL:L.Perm (alive ((x.take j).drop i)))(hv:VD L):GX (gO x i j L):=by
 have hp:=sq hij hL;have hm:∀p∈gO x i j L,p∈x\/(p=(L,[])/\L≠[]):=λp hp=>by
  unfold gO at hp;rcases ahw.1 hp with h1|h1
  ·rcases ahw.1 h1 with h2|h2
   ·exact .inl (ajw h2)
   ·unfold rz at h2
    split at h2
    ·simp at h2
    ·rename_i hn;simp only[ah0] at h2;exact .inr ⟨h2,hn⟩
  ·exact .inl (List.mem_of_mem_drop h1)
 refine⟨λp hp=>?_,λp hp=>?_,λp hp=>?_,λp hp=>?_,(hp.map _).nodup_iff.2 h.nd,by rw[hp.length_eq];exact h.n⟩
 ·rcases hm p hp with h1|⟨rfl,_⟩
  ·exact h.vd p h1
  ·exact hv
 ·rcases hm p hp with h1|⟨rfl,h2⟩
  ·exact h.ne p h1
  ·exact h2
 ·rcases hm p hp with h1|⟨rfl,_⟩
  ·exact h.da p h1
  ·exact List.Pairwise.nil
 ·rcases hm p hp with h1|⟨rfl,_⟩
  ·exact h.dd p h1
  ·intro i hi;simp at hi
def dX (x:List Sd):Nat:=(x.map λp=>p.1.length).sum+x.length
def qs (x y:List Sd):dX (x++y)=dX x+dX y:=by unfold dX;simp only[ahx,List.sum_append,ahk];omega
def Ab (L:List Dc):dX (rz L)<=L.length+1/\(L=[]->dX (rz L)=0):=by
 unfold rz dX
 split
 ·rename_i h;simp[h]
 ·rename_i h;simp[h]
def yi {x:List Sd}{i j:Nat}{L:List Dc}(hij:i<=j)(hL:dX (rz L)<dX ((x.take j).drop i)):dX (gO x i j L)<dX x:=by
 have e:x=x.take i++(x.take j).drop i++x.drop j:=by
  have h1:x.take i=(x.take j).take i:=by rw[take_take,ajQ hij]
  rw[h1,ahM,ahM]
 unfold gO;rw[qs,qs]
 conv=>rhs;rw[e,qs,qs]
 omega
def rJ (x:List Sd)(i:Nat):Bool:=decide ((x.getD i e0).1.length<2*(x.getD i e0).2.length)
def re (x:List Sd)(i:Nat):Bool:=decide ((x.getD i e0).1.length<2*(x.getD (i+1) e0).1.length)
def both (x:List Sd)(i:Nat):List Dc:=ep (iG (x.getD i e0)++iG (x.getD (i+1) e0))
def iK (x:List Sd):Option (List Sd):=
 match (List.range x.length).find? (rJ x) with
 |some i=>some (gO x i (i+1) (iG (x.getD i e0)))
 |none=>((List.range (x.length-1)).reverse.find? (re x)).map λi=>gO x i (i+2) (both x i)
def gy:Nat->List Sd->List Sd
 |0,x=>x
 |k+1,x=>match iK x with
  |none=>x
  |some y=>gy k y
def drop_one {x:List Sd}{i:Nat}(h:i<x.length):(x.take (i+1)).drop i=[x.getD i e0]:=by
 rw[aU x i e0 h,aju (by rw[ahJ];omega),List.drop_eq_nil_of_le (by rw[ahJ];omega)];rfl
def pW {x:List Sd}{i:Nat}(h:i+1<x.length):(x.take (i+2)).drop i=[x.getD i e0,x.getD (i+1) e0]:=by
 rw[aU x (i+1) e0 h,aju (by rw[ahJ];omega),drop_one (by omega)];rfl
def gu {x:List Sd}{i:Nat}(h:i<x.length):x.getD i e0∈x:=aS x i e0 h
def sX (p:Sd):(iG p).length<=p.1.length:=ahU _ _
theorem ki {p:Sd}(ha:kz p.2)(hd:∀i∈p.2,i∈p.1.map (·.id)):(iG p).length+p.2.length<=p.1.length:=by
 have h1:p.2.length<=(p.1.filter λd=>decide (d.id∈p.2)).length:=by
  have hn:p.2.Nodup:=ha.imp λh=>by omega
  have:=qk hn (m:=(p.1.filter λd=>decide (d.id∈p.2)).map (·.id)) λi hi=>by
   obtain⟨d,YB,rfl⟩:=ahl.1 (hd i hi);exact ahl.2 ⟨d,ahF.2 ⟨YB,by simpa using hi⟩,rfl⟩
  rwa [ahz] at this
 have h2:∀l:List Dc,(l.filter λd=>!decide (d.id∈p.2)).length+(l.filter λd=>decide (d.id∈p.2)).length=l.length:=by
  intro l
  induction l with
  |nil=>rfl
  |cons a l ih=>
   by_cases ha:a.id∈p.2<;>simp only[List.filter_cons,ha,decide_true,decide_false,Bool.not_true,ajE,ai1,ai5,ahS,aik]<;>omega
 have:=h2 p.1;unfold iG;omega
def yk {x:List Sd}(h:GX x){i:Nat}(hi:i+1<x.length):((iG (x.getD i e0)++iG (x.getD (i+1) e0)).map (·.id)).Nodup:=by
 have e:x=x.take i++(x.take (i+2)).drop i++x.drop (i+2):=by
  have h1:x.take i=(x.take (i+2)).take i:=by rw[take_take,ajQ (by omega)]
  rw[h1,ahM,ahM]
 have hn:=h.nd;rw[e,dw,dw,pW hi,ahx,ahx] at hn;have:=(ah2.1 (ah2.1 hn).1).2.1;simpa[alive] using this
def wF {x:List Sd}(h:GX x){i:Nat}(hi:i+1<x.length):VD (both x i):=by
 refine⟨?_,pO (yk h hi),λd hd=>?_⟩
 ·unfold both;rw[dW];have e:x=x.take i++(x.take (i+2)).drop i++x.drop (i+2):=by
   have h1:x.take i=(x.take (i+2)).take i:=by rw[take_take,ajQ (by omega)]
   rw[h1,ahM,ahM]
  have hn:=h.n;rw[e,dw,dw,pW hi,ahk,ahk] at hn;have e2:alive [x.getD i e0,x.getD (i+1) e0]=iG (x.getD i e0)++iG (x.getD (i+1) e0):=by simp[alive]
  rw[e2] at hn;omega
 ·rcases ahw.1 ((eZ d).1 hd) with h1|h1
  ·exact(h.vd _ (gu (by omega))).v d (ahF.1 h1).1
  ·exact(h.vd _ (gu hi)).v d (ahF.1 h1).1
theorem jY {x y:List Sd}(h:GX x)(hs:iK x=some y):GX y/\(alive y).Perm (alive x)/\dX y<dX x:=by
 unfold iK at hs
 split at hs
 ·rename_i i hf;obtain rfl:=Option.some.inj hs;have hi:i<x.length:=ahI.1 (aiu hf);have hb:rJ x i=true:=ajA hf;unfold rJ at hb;simp only[ahv] at hb;have sy:(iG (x.getD i e0)).Perm (alive ((x.take (i+1)).drop i)):=by rw[drop_one hi];simp[alive]
  refine⟨h.NR (by omega) sy ((h.vd _ (gu hi)).filter _),sq (by omega) sy,yi (by omega) ?_⟩;rw[drop_one hi];have h1:=ki (h.da _ (gu hi)) (h.dd _ (gu hi));have h2:=(Ab (iG (x.getD i e0))).1;have h3:dX [x.getD i e0]=(x.getD i e0).1.length+1:=by simp[dX]
  omega
 ·cases hf:(List.range (x.length-1)).reverse.find? (re x) with
  |none=>rw[hf] at hs;cases hs
  |some i=>
   rw[hf] at hs;obtain rfl:=Option.some.inj hs;have hi:i<x.length-1:=ahI.1 (ajN.1 (aiu hf));have sy:(both x i).Perm (alive ((x.take (i+2)).drop i)):=by
    rw[pW (by omega)];unfold both;simpa[alive] using(gh _).perm
   refine⟨h.NR (by omega) sy (wF h (by omega)),sq (by omega) sy,yi (by omega) ?_⟩;rw[pW (by omega)];have h2:=(Ab (both x i)).1;have h3:dX [x.getD i e0,x.getD (i+1) e0]=(x.getD i e0).1.length+(x.getD (i+1) e0).1.length+2:=by simp[dX]
   have h4:(both x i).length=(iG (x.getD i e0)).length+(iG (x.getD (i+1) e0)).length:=by unfold both;rw[dW,ahk]
   have:=sX (x.getD i e0);have:=sX (x.getD (i+1) e0);omega
theorem ux:∀(k:Nat) {x:List Sd},GX x->dX x<=k->GX (gy k x)/\(alive (gy k x)).Perm (alive x)/\iK (gy k x)=none
 |0,x,h,hk=>by
  have:x=[]:=ahT (by unfold dX at hk;omega);subst this;exact⟨h,List.Perm.refl _,rfl⟩
 |k+1,x,h,hk=>by
  unfold gy
  cases hs:iK x with
  |none=>exact⟨h,List.Perm.refl _,hs⟩
  |some y=>
   obtain⟨h1,h2,h3⟩:=jY h hs;obtain⟨g1,g2,g3⟩:=ux k h1 (by omega);exact⟨g1,g2.trans h2,g3⟩
def z6 {x:List Sd}(h:iK x=none):(∀i,i<x.length->2*(x.getD i e0).2.length<=(x.getD i e0).1.length)/\∀i,i+1<x.length->2*(x.getD (i+1) e0).1.length<=(x.getD i e0).1.length:=by
 unfold iK at h
 split at h
 ·cases h
 ·rename_i hf;have h1:∀i,i<x.length->rJ x i=false:=λi hi=>by
   have:=aiy.1 hf i (ahI.2 hi);simpa using this
  have h2:=aiy.1 (Option.map_eq_none_iff.1 h);refine⟨λi hi=>?_,λi hi=>?_⟩
  ·have:=h1 i hi;unfold rJ at this;simp only[aiD] at this;omega
  ·have:=h2 i (ajN.2 (ahI.2 (by omega)));unfold re at this;simp only[ahv] at this;omega
def pz (p:Sd)(id:Int):Bool:=decide (id∈(iG p).map (·.id))
def Gi (d:List Int)(id:Int):List Int:=comb (λ_ _=>true) d [id]
def cW (x:List Sd)(id:Int):List Sd×Bool:=
 match (List.range x.length).find? λi=>pz (x.getD i e0) id with
 |some i=>(x.set i ((x.getD i e0).1,Gi (x.getD i e0).2 id),true)
 |none=>(x,false)
def rP {x:List Sd}(h:GX x){p:Sd}(hp:p∈x):V p.2:=
 nf (h.da p hp) λq hq=>by
  obtain⟨d,hd,rfl⟩:=ahl.1 (h.dd p hp q hq);exact zD (h.vd p hp) hd
def ZX {id:Int}(h1:1<=id)(h2:id<=1000000000):V [id]:=nf (List.pairwise_singleton _ _) λq hq=>by simp at hq;omega
def xJ {d:List Int}{id:Int}(hd:V d)(h1:1<=id)(h2:id<=1000000000):kz (Gi d id)/\∀z,z∈Gi d id↔z∈d\/z=id:=by
 obtain⟨a,b⟩:=jk (λ_ _=>true) hd (ZX h1 h2);refine⟨a,λz=>?_⟩;unfold Gi;rw[b]
 by_cases hb:z=id
 ·subst hb;by_cases ha:z∈d<;>simp[ha]
 ·by_cases ha:z∈d<;>simp[ha,hb]
def j0 {x:List Sd}{d:Dc}:d∈alive x↔∃p∈x,d∈iG p:=by unfold alive;exact ah1
def ZH {x:List Sd}{i:Nat}(h:i<x.length):x=x.take i++x.getD i e0::x.drop (i+1):=by
 conv=>lhs;rw[<-take_append_drop i x,aiK h]
 rw[ahg,ahi h];rfl
def aeE {x:List Sd}{i:Nat}(h:i<x.length)(p:Sd):x.set i p=x.take i++p::x.drop (i+1):=by
 rw[List.set_eq_take_append_cons_drop,ahs h]
def tG {l:List Dc}{id:Int}(h:id∉l.map (·.id)):l.filter (λd=>!decide (d.id=id))=l:=by
 rw[aiT];intro d hd;have:d.id≠id:=λe=>h (ahl.2 ⟨d,hd,e⟩);simp[this]
def mA {x:List Sd}(h:GX x)(id:Int):alive (cW x id).1=(alive x).filter λd=>!decide (d.id=id):=by
 unfold cW
 split
 ·rename_i i hf;have hi:i<x.length:=ahI.1 (aiu hf);have hh:pz (x.getD i e0) id=true:=by simpa using ajA hf
  unfold pz at hh;simp only[ahv] at hh;obtain⟨d0,hd0,e0'⟩:=ahl.1 hh;have hd1:=(ahF.1 hd0).1;have hb:=zD (h.vd _ (gu hi)) hd1;rw[e0'] at hb;obtain⟨_,tW⟩:=xJ (rP h (gu hi)) hb.1 hb.2;have hn:=h.nd;rw[ZH hi,dw] at hn;have ec:alive (x.getD i e0::x.drop (i+1))=iG (x.getD i e0)++alive (x.drop (i+1)):=by simp[alive]
  rw[ec,ahx,ahx] at hn;obtain⟨n1,n2,n3⟩:=ah2.1 hn;obtain⟨n4,n5,n6⟩:=ah2.1 n2;have k1:id∉(alive (x.take i)).map (·.id):=λhm=>n3 id hm id (ahG _ hh) rfl;have k2:id∉(alive (x.drop (i+1))).map (·.id):=λhm=>n6 id hh id hm rfl;have e1:iG ((x.getD i e0).1,Gi (x.getD i e0).2 id)=(iG (x.getD i e0)).filter λd=>!decide (d.id=id):=by
   unfold iG;rw[List.filter_filter];refine ajV λd hd=>?_;simp only[tW]
   by_cases ha:d.id∈(x.getD i e0).2<;>by_cases hb:d.id=id<;>simp[ha,hb]
  show alive (x.set i _)=_;rw[aeE hi,dw]
  conv=>rhs;rw[ZH hi,dw,ec,ah8,ah8,tG k1,tG k2]
  have ec2:alive (((x.getD i e0).1,Gi (x.getD i e0).2 id)::x.drop (i+1))=iG ((x.getD i e0).1,Gi (x.getD i e0).2 id)++alive (x.drop (i+1)):=by simp[alive]
  rw[ec2,e1]
 ·rename_i hf;rw[tG];intro hm;obtain⟨d,hd,e⟩:=ahl.1 hm;obtain⟨p,hp,hd2⟩:=j0.1 hd;obtain⟨i,hi,rfl⟩:=bH e0 hp;have:=aiy.1 hf i (ahI.2 hi);unfold pz at this;exact this (by simp only[ahv];exact ahl.2 ⟨d,hd2,e⟩)
def Es {x:List Sd}(id:Int):(cW x id).2=decide (id∈(alive x).map (·.id)):=by
 unfold cW
 split
 ·rename_i i hf;have hi:i<x.length:=ahI.1 (aiu hf);have hh:pz (x.getD i e0) id=true:=by simpa using ajA hf
  unfold pz at hh;simp only[ahv] at hh;obtain⟨d,hd,e⟩:=ahl.1 hh;exact(ahm (ahl.2 ⟨d,j0.2 ⟨_,gu hi,hd⟩,e⟩)).symm
 ·rename_i hf;refine(ahn λhm=>?_).symm;obtain⟨d,hd,e⟩:=ahl.1 hm;obtain⟨p,hp,hd2⟩:=j0.1 hd;obtain⟨i,hi,rfl⟩:=bH e0 hp;have:=aiy.1 hf i (ahI.2 hi);unfold pz at this;exact this (by simp only[ahv];exact ahl.2 ⟨d,hd2,e⟩)
def uN {x:List Sd}(h:GX x)(id:Int):GX (cW x id).1:=by
 have ha:=mA h id;have hs:(alive (cW x id).1).Sublist (alive x):=by rw[ha];exact ai8
 have hm:∀p∈(cW x id).1,p∈x\/∃q∈x,p=(q.1,Gi q.2 id)/\id∈q.1.map (·.id)/\1<=id/\id<=1000000000:=λp hp=>by
  unfold cW at hp
  split at hp
  ·rename_i i hf;have hi:i<x.length:=ahI.1 (aiu hf);have hh:pz (x.getD i e0) id=true:=by simpa using ajA hf
   unfold pz at hh;simp only[ahv] at hh;obtain⟨d,hd,e⟩:=ahl.1 hh;rcases List.mem_or_eq_of_mem_set hp with h1|h1
   ·exact .inl h1
   ·have hb:=zD (h.vd _ (gu hi)) (ahF.1 hd).1;rw[e] at hb;exact .inr ⟨_,gu hi,h1,ahl.2 ⟨d,(ahF.1 hd).1,e⟩,hb.1,hb.2⟩
  ·exact .inl hp
 refine⟨λp hp=>?_,λp hp=>?_,λp hp=>?_,λp hp=>?_,(hs.map _).nodup h.nd,aho hs.length_le h.n⟩
 ·rcases hm p hp with h1|⟨q,hq,rfl,_⟩
  ·exact h.vd p h1
  ·exact h.vd q hq
 ·rcases hm p hp with h1|⟨q,hq,rfl,_⟩
  ·exact h.ne p h1
  ·exact h.ne q hq
 ·rcases hm p hp with h1|⟨q,hq,rfl,_,h2,h3⟩
  ·exact h.da p h1
  ·exact(xJ (rP h hq) h2 h3).1
 ·rcases hm p hp with h1|⟨q,hq,rfl,h4,h2,h3⟩
  ·exact h.dd p h1
  ·intro i hi;rcases ((xJ (rP h hq) h2 h3).2 i).1 hi with h5|h5
   ·exact h.dd q hq i h5
   ·rw[h5];exact h4
def gg (x:List Sd)(d:Dc):List Sd:=(cW x d.id).1++[([d],[])]
def oL {x:List Sd}(h:GX x)(d:Dc):alive (gg x d)=((alive x).filter λy=>!decide (y.id=d.id))++[d]:=by
 unfold gg;rw[dw,mA h]
 congr 1
def nU {x:List Sd}(h:GX x){d:Dc}(hv:aR d=true)(hn:(alive x).length<2000\/(cW x d.id).2=true):GX (gg x d):=by
 have hk:=uN h d.id;have ha:=oL h d;have hm:∀p∈gg x d,p∈(cW x d.id).1\/p=([d],[]):=λp hp=>by
  unfold gg at hp;rcases ahw.1 hp with h1|h1
  ·exact .inl h1
  ·exact .inr (by simpa using h1)
 refine⟨λp hp=>?_,λp hp=>?_,λp hp=>?_,λp hp=>?_,?_,?_⟩
 ·rcases hm p hp with h1|rfl
  ·exact hk.vd p h1
  ·exact⟨by simp,List.pairwise_singleton _ _,λy hy=>by simp at hy;rw[hy];exact hv⟩
 ·rcases hm p hp with h1|rfl
  ·exact hk.ne p h1
  ·simp
 ·rcases hm p hp with h1|rfl
  ·exact hk.da p h1
  ·exact List.Pairwise.nil
 ·rcases hm p hp with h1|rfl
  ·exact hk.dd p h1
  ·intro i hi;simp at hi
 ·rw[ha,ahx,ah2];refine⟨(ai8.map _).nodup h.nd,by simp,?_⟩;intro a h1 b h2 e;obtain⟨y,hy,e1⟩:=ahl.1 h1;have h3:=(ahF.1 hy).2;simp at h2;rw[<-e1,h2] at e;simp[e] at h3
 ·rw[ha,ahk];rcases hn with h1|h1
  ·have:=ahU (λy:Dc=>!decide (y.id=d.id)) (alive x);simp only[aib];omega
  ·rw[Es] at h1;simp only[ahv] at h1;obtain⟨y,hy,e⟩:=ahl.1 h1;have h2:((alive x).filter λy=>!decide (y.id=d.id)).length<(alive x).length:=by
    refine List.length_filter_lt_length_iff_exists.2 ⟨y,hy,?_⟩;simp[e]
   have:=h.n;simp only[aib];omega
theorem GX.sub {x y:List Sd}(h:GX x)(hs:y.Sublist x):GX y:=by
 have ha:(alive y).Sublist (alive x):=by
  unfold alive
  induction hs with
  |slnil=>exact List.Sublist.refl _
  |cons a hs ih=>
   rw[ahy];refine(ih ⟨λp hp=>h.vd p (aiF _ hp),λp hp=>h.ne p (aiF _ hp),λp hp=>h.da p (aiF _ hp),λp hp=>h.dd p (aiF _ hp),?_,?_⟩).trans (List.sublist_append_right _ _)
   ·have:=h.nd;have e:∀l:List Sd,alive (a::l)=iG a++alive l:=λl=>by simp[alive]
    rw[e,ahx] at this;exact(ah2.1 this).2.1
   ·have:=h.n;have e:∀l:List Sd,alive (a::l)=iG a++alive l:=λl=>by simp[alive]
    rw[e,ahk] at this;omega
  |cons_cons a hs ih=>
   rw[ahy,ahy];refine List.Sublist.append (List.Sublist.refl _) (ih ⟨λp hp=>h.vd p (aiF _ hp),λp hp=>h.ne p (aiF _ hp),λp hp=>h.da p (aiF _ hp),λp hp=>h.dd p (aiF _ hp),?_,?_⟩)
   ·have:=h.nd;have e:∀l:List Sd,alive (a::l)=iG a++alive l:=λl=>by simp[alive]
    rw[e,ahx] at this;exact(ah2.1 this).2.1
   ·have:=h.n;have e:∀l:List Sd,alive (a::l)=iG a++alive l:=λl=>by simp[alive]
    rw[e,ahk] at this;omega
 exact⟨λp hp=>h.vd p (hs.subset hp),λp hp=>h.ne p (hs.subset hp),λp hp=>h.da p (hs.subset hp),λp hp=>h.dd p (hs.subset hp),(ha.map _).nodup h.nd,aho ha.length_le h.n⟩
def fC (x:List Sd):List Dc:=ep (alive x)
def gL {x:List Sd}(h:GX x):VD (fC x):=by
 refine⟨by unfold fC;rw[dW];exact h.n,pO h.nd,λd hd=>?_⟩;obtain⟨p,hp,h2⟩:=j0.1 ((eZ d).1 hd);exact(h.vd p hp).v d (ahF.1 h2).1
def qm {x:List Sd}{d:Dc}:d∈fC x↔∃p∈x,d∈iG p:=(eZ d).trans j0
def jX {x:List Sd}{i:Nat}(hi:i<x.length)(d:Dc):d∈fC (x.take (i+1))↔d∈fC (x.take i)\/d∈iG (x.getD i e0):=by
 rw[qm,qm,aU x i e0 hi]
 constructor
 ·rintro⟨p,hp,h⟩;rcases ahw.1 hp with h1|h1
  ·exact .inl ⟨p,h1,h⟩
  ·simp only[ah0] at h1;exact .inr (h1▸h)
 ·rintro (⟨p,hp,h⟩|h)
  ·exact⟨p,ahG _ hp,h⟩
  ·exact⟨_,ajp _ (ah0.2 rfl),h⟩
def iu {x:List Sd}(h:GX x)(i:Nat):GX (x.take i):=h.sub (List.take_sublist _ _)
def jM (p:Sd):List Int:=comb (λ_ q=>!q) (p.1.map (·.id)) p.2
def sN {x:List Sd}(h:GX x){p:Sd}(hp:p∈x):VD (iG p):=(h.vd p hp).filter _
def oG {x:List Sd}(h:GX x){p:Sd}(hp:p∈x):jM p=(iG p).map (·.id):=by
 obtain⟨a,b⟩:=jk (λ_ q=>!q) (nH (h.vd p hp)) (rP h hp);refine j8 _ _ a (ahY.2 (sN h hp).lt) λz=>?_;rw[show z∈jM p↔_ from b z];simp only[Bool.not_true,ajE,aik,and_false,aj2,aj1]
 constructor
 ·rintro⟨h1,h2⟩;obtain⟨d,hd,rfl⟩:=ahl.1 h1;exact ahl.2 ⟨d,ahF.2 ⟨hd,by simpa using h2⟩,rfl⟩
 ·intro h1;obtain⟨d,hd,rfl⟩:=ahl.1 h1;obtain⟨h2,h3⟩:=ahF.1 hd;exact⟨ahl.2 ⟨d,h2,rfl⟩,by simpa using h3⟩
def Gg (a b:List Int):List Int:=comb (λ_ _=>true) a b
def xI {a b:List Int}(ha:V a)(hb:V b):kz (Gg a b)/\∀z,z∈Gg a b↔z∈a\/z∈b:=by
 obtain⟨h1,h2⟩:=jk (λ_ _=>true) ha hb;refine⟨h1,λz=>?_⟩;rw[show z∈Gg a b↔_ from h2 z]
 by_cases h3:z∈a<;>by_cases h4:z∈b<;>simp[h3,h4]
def Vw {a:List Int}(h:V a):kz a:=ko h
def sV {a:List Int}(ha:V a):Gg [] a=a:=by
 obtain⟨h1,h2⟩:=xI (show V [] from rfl) ha;exact j8 _ _ h1 (Vw ha) λz=>by rw[h2];simp
def jQ (x:List Sd):Nat->List Int
 |0=>[]
 |i+1=>Gg (Gg [] (jQ x i)) (jM (x.getD i e0))
theorem pX {x:List Sd}(h:GX x):∀i,i<=x.length->jQ x i=(fC (x.take i)).map (·.id)
 |0,_=>rfl
 |i+1,hi=>by
  have hg:=gL (iu h i);have hg2:=gL (iu h (i+1));unfold jQ;rw[pX h i (by omega),sV (nH hg),oG h (gu hi)];obtain⟨h1,h2⟩:=xI (nH hg) (nH (sN h (gu hi)));refine j8 _ _ h1 (ahY.2 hg2.lt) λz=>?_;rw[h2]
  constructor
  ·rintro (h3|h3)
   ·obtain⟨d,hd,rfl⟩:=ahl.1 h3;exact ahl.2 ⟨d,(jX hi d).2 (.inl hd),rfl⟩
   ·obtain⟨d,hd,rfl⟩:=ahl.1 h3;exact ahl.2 ⟨d,(jX hi d).2 (.inr hd),rfl⟩
  ·intro h3;obtain⟨d,hd,rfl⟩:=ahl.1 h3;rcases (jX hi d).1 hd with h4|h4
   ·exact .inl (ahl.2 ⟨d,h4,rfl⟩)
   ·exact .inr (ahl.2 ⟨d,h4,rfl⟩)
theorem Ao {L:List Dc}(hL:VD L)(k:Ky){ds:List Int}(hd:V ds):l0 (dg L k) ds=dg (L.filter λd=>decide (d.id∈ds)) k:=by
 unfold l0;rw[ahs ⟨ij hL.lt hL.v k,hd⟩,<-ZY (cU (ij hL.lt hL.v k)).1 (Vw hd)];clear hL;unfold Ye dg
 induction L with
 |nil=>rfl
 |cons a L ih=>
  rw[ahy,ah8,ih]
  by_cases ha:a.id∈ds
  ·rw[aiw (by simpa using ha),ahy]
   congr 1
   unfold CM
   split
   ·rfl
   ·simp[ha]
  ·rw[aiq (by simpa using ha)];unfold CM
   split
   ·rfl
   ·simp[ha]
def Ar {x:List Sd}(h:GX x){p:Sd}(hp:p∈x):(p.1.filter λd=>decide (d.id∈jM p))=iG p:=by
 rw[oG h hp];unfold iG;refine ajV λd hd=>?_
 by_cases hx:d.id∈p.2
 ·simp only[hx,decide_true,Bool.not_true,aiD];intro hm;obtain⟨y,hy,e⟩:=ahl.1 hm;have:=(ahF.1 hy).2;rw[e] at this;simp[hx] at this
 ·simp only[hx,decide_false,ajE,ahv];exact ahl.2 ⟨d,ahF.2 ⟨hd,by simp[hx]⟩,rfl⟩
def eF (x:List Sd)(k:Ky):Nat->List Ps
 |0=>[]
 |i+1=>ja (eF x k i) (l0 (iO (eB (x.getD i e0).1) k) (jM (x.getD i e0)))
theorem tF {x:List Sd}(h:GX x)(k:Ky):∀i,i<=x.length->eF x k i=dg (fC (x.take i)) k
 |0,_=>rfl
 |i+1,hi=>by
  have hp:=gu (x:=x) hi;have hv:=h.vd _ hp;unfold eF;rw[tF h k i (by omega),vC hv.n hv.lt hv.v,Ao hv k (by rw[oG h hp];exact nH (sN h hp)),Ar h hp];exact Uf (gL (iu h i)) (sN h hp) (gL (iu h (i+1))) (jX hi) k
def nZ {x:List Sd}(h:GX x)(k:Ky):eF x k x.length=dg (fC x) k:=by rw[tF h k _ (ahj _),ahE]
def ll (x:List Sd)(f lo hi:Int):Nat->List Int
 |0=>[]
 |i+1=>Gg (Gg [] (ll x f lo hi i)) (comb (λ_ q=>!q) (lg (eB (x.getD i e0).1) f lo hi) (x.getD i e0).2)
theorem wH {x:List Sd}(h:GX x)(f lo hi:Int):∀i,i<=x.length->ll x f lo hi i=lg (eB (fC (x.take i))) f lo hi
 |0,_=>by
  refine j8 _ _ List.Pairwise.nil (wG _ _ _ _) λz=>?_;have hv:VD (fC (x.take 0)):=gL (iu h 0);rw[oI hv];simp[ll,fC,alive,ep]
 |i+1,iV=>by
  have hp:=gu (x:=x) iV;have hv:=h.vd _ hp;have hg:=gL (iu h i);have hg2:=gL (iu h (i+1));unfold ll;rw[wH h f lo hi i (by omega),sV (Je hg f lo hi)];obtain⟨a,b⟩:=jk (λ_ q=>!q) (Je hv f lo hi) (rP h hp);have hw:V (comb (λ_ q=>!q) (lg (eB (x.getD i e0).1) f lo hi) (x.getD i e0).2):=nf a λq hq=>by
   have h3:=(b q).1 hq;simp only[Bool.not_true,ajE,aik,and_false,aj2,aj1] at h3;obtain⟨d,hd,rfl,_⟩:=(oI hv f lo hi q).1 h3.1;exact zD hv hd
  obtain⟨h1,h2⟩:=xI (Je hg f lo hi) hw;refine j8 _ _ h1 (wG _ _ _ _) λz=>?_;rw[h2,b,oI hg,oI hg2,oI hv];simp only[Bool.not_true,ajE,aik,and_false,aj2,aj1]
  constructor
  ·rintro (⟨d,hd,h3⟩|⟨⟨d,hd,h3,h4⟩,h5⟩)
   ·exact⟨d,(jX iV d).2 (.inl hd),h3⟩
   ·refine⟨d,(jX iV d).2 (.inr (ahF.2 ⟨hd,?_⟩)),h3,h4⟩;rw[h3,ahn h5];rfl
  ·rintro⟨d,hd,h3,h4⟩;rcases (jX iV d).1 hd with h5|h5
   ·exact .inl ⟨d,h5,h3,h4⟩
   ·obtain⟨h6,h7⟩:=ahF.1 h5;refine .inr ⟨⟨d,h6,h3,h4⟩,?_⟩;rw[<-h3];simpa[-getD_eq_getElem?_getD] using h7
def E6 {x:List Sd}(h:GX x)(f lo hi:Int):ll x f lo hi x.length=lg (eB (fC x)) f lo hi:=by rw[wH h f lo hi _ (ahj _),ahE]
structure PX (P:Dc->Prop)(B:Nat)(x:List Sd):Prop where
 p:∀p∈x,∀d∈p.1,P d
 b:∀p∈x,p.1.length<=B
def mf {p:Sd}{d:Dc}(h:d∈iG p):d∈p.1:=(ahF.1 h).1
def PX.each {P:Dc->Prop}{B:Nat}{x:List Sd}(h:PX P B x):∀d∈alive x,P d:=λd hd=>by
 obtain⟨p,hp,h2⟩:=j0.1 hd;exact h.p p hp d (mf h2)
def PX.NR {P:Dc->Prop}{B:Nat}{x:List Sd}(h:PX P B x){i j:Nat}{L:List Dc}(hL:∀d∈L,P d)(hb:L.length<=B):PX P B (gO x i j L):=by
 have hm:∀p∈gO x i j L,p∈x\/p=(L,[]):=λp hp=>by
  unfold gO at hp;rcases ahw.1 hp with h1|h1
  ·rcases ahw.1 h1 with h2|h2
   ·exact .inl (ajw h2)
   ·unfold rz at h2
    split at h2
    ·simp at h2
    ·exact .inr (by simpa using h2)
  ·exact .inl (List.mem_of_mem_drop h1)
 refine⟨λp hp=>?_,λp hp=>?_⟩
 ·rcases hm p hp with h1|rfl
  ·exact h.p p h1
  ·exact hL
 ·rcases hm p hp with h1|rfl
  ·exact h.b p h1
  ·exact hb
def oN {x:List Sd}{p:Sd}(hp:p∈x):(iG p).length<=(alive x).length:=by
 obtain⟨a,b,rfl⟩:=ajF hp;rw[dw,ahk];have:alive (p::b)=iG p++alive b:=by simp[alive]
 rw[this,ahk];omega
def x5 {x:List Sd}{i:Nat}(hi:i+1<x.length):(both x i).length<=(alive x).length:=by
 have e:x=x.take i++(x.take (i+2)).drop i++x.drop (i+2):=by
  have h1:x.take i=(x.take (i+2)).take i:=by rw[take_take,ajQ (by omega)]
  rw[h1,ahM,ahM]
 have h1:(alive x).length=(alive (x.take i++(x.take (i+2)).drop i++x.drop (i+2))).length:=by rw[<-e]
 rw[dw,dw,pW hi,ahk,ahk] at h1;have e2:alive [x.getD i e0,x.getD (i+1) e0]=iG (x.getD i e0)++iG (x.getD (i+1) e0):=by simp[alive]
 rw[e2] at h1;unfold both;rw[dW];omega
def E5 {x:List Sd}{i:Nat}{d:Dc}(hd:d∈both x i):d∈(x.getD i e0).1\/d∈(x.getD (i+1) e0).1:=
 (ahw.1 ((eZ d).1 hd)).imp mf mf
theorem PX.step {P:Dc->Prop}{B:Nat}{x y:List Sd}(h:PX P B x)(hB:(alive x).length<=B)(hs:iK x=some y):PX P B y:=by
 unfold iK at hs
 split at hs
 ·rename_i i hf;obtain rfl:=Option.some.inj hs;have hi:i<x.length:=ahI.1 (aiu hf);exact h.NR (λd hd=>h.p _ (gu hi) d (mf hd)) (aho (oN (gu hi)) hB)
 ·cases hf:(List.range (x.length-1)).reverse.find? (re x) with
  |none=>rw[hf] at hs;cases hs
  |some i=>
   rw[hf] at hs;obtain rfl:=Option.some.inj hs;have hi:i<x.length-1:=ahI.1 (ajN.1 (aiu hf));exact h.NR (λd hd=>(E5 hd).elim (h.p _ (gu (by omega)) d) (h.p _ (gu (by omega)) d)) (aho (x5 (by omega)) hB)
theorem PX.tidy {P:Dc->Prop}{B:Nat}:∀(k:Nat) {x:List Sd},GX x->PX P B x->(alive x).length<=B->PX P B (gy k x)
 |0,x,_,h,_=>h
 |k+1,x,hg,h,hB=>by
  unfold gy
  cases hs:iK x with
  |none=>exact h
  |some y=>
   obtain⟨h1,h2,_⟩:=jY hg hs;exact PX.tidy k h1 (h.step hB hs) (by rw[h2.length_eq];exact hB)
def PX.kill {P:Dc->Prop}{B:Nat}{x:List Sd}(h:PX P B x)(id:Int):PX P B (cW x id).1:=by
 have hm:∀p∈(cW x id).1,∃q∈x,p.1=q.1:=λp hp=>by
  unfold cW at hp
  split at hp
  ·rename_i i hf;have hi:i<x.length:=ahI.1 (aiu hf);rcases List.mem_or_eq_of_mem_set hp with h1|h1
   ·exact⟨p,h1,rfl⟩
   ·exact⟨_,gu hi,by rw[h1]⟩
  ·exact⟨p,hp,rfl⟩
 refine⟨λp hp=>?_,λp hp=>?_⟩
 ·obtain⟨q,hq,e⟩:=hm p hp;rw[e];exact h.p q hq
 ·obtain⟨q,hq,e⟩:=hm p hp;rw[e];exact h.b q hq
def PX.plus {P:Dc->Prop}{B:Nat}{x:List Sd}(h:PX P B x){d:Dc}(hd:P d)(hB:1<=B):PX P B (gg x d):=by
 have hk:=h.kill d.id;refine⟨λp hp=>?_,λp hp=>?_⟩
 ·rcases ahw.1 hp with h1|h1
  ·exact hk.p p h1
  ·have:p=([d],[]):=by simpa using h1
   subst this;intro y hy;have:y=d:=by simpa using hy
   rw[this];exact hd
 ·rcases ahw.1 hp with h1|h1
  ·exact hk.b p h1
  ·have:p=([d],[]):=by simpa using h1
   subst this;exact hB
def GK (x:List Sd):Prop:=(∀i,i<x.length->2*(x.getD i e0).2.length<=(x.getD i e0).1.length)/\∀i,i+1<x.length->2*(x.getD (i+1) e0).1.length<=(x.getD i e0).1.length
theorem Qm {x:List Sd}(h:GX x){p:Sd}(hp:p∈x):(iG p).length+p.2.length=p.1.length:=by
 have h1:=ki (h.da p hp) (h.dd p hp);have h2:(p.1.filter λd=>decide (d.id∈p.2)).length<=p.2.length:=by
  have hn:((p.1.filter λd=>decide (d.id∈p.2)).map (·.id)).Nodup:=(ai8.map _).nodup (mn (h.vd p hp).lt);have:=qk hn (m:=p.2) λi hi=>by
   obtain⟨d,hd,rfl⟩:=ahl.1 hi;exact ajk (ahF.1 hd).2
  rwa [ahz] at this
 have h3:∀l:List Dc,(l.filter λd=>!decide (d.id∈p.2)).length+(l.filter λd=>decide (d.id∈p.2)).length=l.length:=by
  intro l
  induction l with
  |nil=>rfl
  |cons a l ih=>
   by_cases ha:a.id∈p.2<;>simp only[List.filter_cons,ha,decide_true,decide_false,Bool.not_true,ajE,ai1,ai5,ahS,aik]<;>omega
 have:=h3 p.1;unfold iG at h1 ⊢;omega
theorem DR {x:List Sd}(h:GX x)(ht:GK x):∀i,i<x.length->∀j,j<=i->2 ^ j<=(x.getD (i-j) e0).1.length
 |i,hi,0,_=>by
  have:=ait.2 (h.ne _ (gu hi));simp only[Nat.sub_zero];omega
 |i,hi,j+1,hj=>by
  have h1:=DR h ht i hi j (by omega);have h2:=ht.2 (i-(j+1)) (by omega);rw[show i-(j+1)+1=i-j by omega] at h2;rw[Nat.pow_succ];omega
def Pp {x:List Sd}(h:GX x)(ht:GK x){B:Nat}(hB:(alive x).length<=B):x≠[]->2 ^ (x.length-1)<=2*B:=λhne=>by
 have hl:=ait.2 hne;have h1:=DR h ht (x.length-1) (by omega) (x.length-1) (ahj _);rw[aiH] at h1;have h2:=ht.1 0 hl;have h3:=Qm h (gu hl);have h4:=oN (gu (x:=x) hl);omega
def Nh (s:Sg)(d:List Int):List Int:=comb (λ_ q=>!q) s.aA d
def ot (S:List Sg)(D:List (List Int)):Nat->List Int
 |0=>[]
 |i+1=>Gg (ot S D i) (Nh (S.getD i bR) (D.getD i []))
def Rd (S:List Sg)(D:List (List Int))(i:Nat):Bool:=
 ((aX (S.getD i bR)&&decide ((S.getD i bR).aA≠[]))&&decide (i=0\/2*(S.getD i bR).aA.length<=(S.getD (i-1) bR).aA.length)) &&
 ((oZ (D.getD i []) 1 1000000000&&decide (comb (λ_ q=>!q) (D.getD i []) (S.getD i bR).aA=[]))&&decide (2*(D.getD i []).length<=(S.getD i bR).aA.length)) &&
 decide (comb (λp q=>p&&q) (ot S D i) (Nh (S.getD i bR) (D.getD i []))=[])
def m8 (S:List Sg)(D:List (List Int)):Bool:=decide (S.length=D.length)&&((List.range S.length).all (Rd S D)&&decide ((ot S D S.length).length<=2000))
def bf (x:List Sd):List Sg:=x.map λp=>eB p.1
def bX (x:List Sd):List (List Int):=x.map (·.2)
def fH {x:List Sd}{i:Nat}(h:i<x.length):(bf x).getD i bR=eB (x.getD i e0).1:=by
 unfold bf;simp[ahg,aip,ahi h]
def gD {x:List Sd}{i:Nat}(h:i<x.length):(bX x).getD i []=(x.getD i e0).2:=by
 unfold bX;simp[ahg,aip,ahi h]
def fG (x:List Sd):(bf x).length=x.length:=by unfold bf;rw[ahz]
def mh (x:List Sd):(bX x).length=x.length:=by unfold bX;rw[ahz]
def xi (p:Sd):Nh (eB p.1) p.2=jM p:=rfl
theorem wI {x:List Sd}(h:GX x):∀i,i<=x.length->ot (bf x) (bX x) i=(fC (x.take i)).map (·.id)
 |0,_=>rfl
 |i+1,hi=>by
  rw[<-pX h (i+1) hi];unfold ot jQ;rw[wI h i (by omega),fH hi,gD hi,pX h i (by omega),sV (nH (gL (iu h i)))];rfl
def Jn {x:List Sd}(h:GX x)(ht:GK x):m8 (bf x) (bX x)=true:=by
 unfold m8;rw[fG,mh,ahm rfl,ais,aht];refine⟨ahQ.2 λi hi=>?_,?_⟩
 ·have hi:=ahI.1 hi;have hp:=gu (x:=x) hi;have hv:=h.vd _ hp;have hd:(eB (x.getD i e0).1).aA=(x.getD i e0).1.map (·.id):=rfl;unfold Rd;rw[fH hi,gD hi,wI h i (by omega),xi,oG h hp,hv.valid,rP h hp];have h1:(eB (x.getD i e0).1).aA≠[]:=by
   rw[hd];intro e;exact h.ne _ hp (List.map_eq_nil_iff.1 e)
  have h2:i=0\/2*(eB (x.getD i e0).1).aA.length<=((bf x).getD (i-1) bR).aA.length:=by
   rcases ahR i with h0|h0
   ·exact .inl h0
   ·refine .inr ?_;rw[fH (by omega)];have:=ht.2 (i-1) (by omega);rw[show i-1+1=i by omega] at this;show 2*((x.getD i e0).1.map (·.id)).length<=((x.getD (i-1) e0).1.map (·.id)).length;rw[ahz,ahz];exact this
  have h3:comb (λ_ q=>!q) (x.getD i e0).2 (eB (x.getD i e0).1).aA=[]:=by
   obtain⟨_,b⟩:=jk (λ_ q=>!q) (rP h hp) (nH hv);rw[aiJ];intro z hz;have:=(b z).1 hz;simp only[Bool.not_true,ajE,aik,and_false,aj2,aj1] at this;exact this.2 (h.dd _ hp z this.1)
  have h4:2*(x.getD i e0).2.length<=(eB (x.getD i e0).1).aA.length:=by
   show _<=((x.getD i e0).1.map (·.id)).length;rw[ahz];exact ht.1 i hi
  have h5:comb (λp q=>p&&q) ((fC (x.take i)).map (·.id)) ((iG (x.getD i e0)).map (·.id))=[]:=by
   obtain⟨_,b⟩:=jk (λp q=>p&&q) (nH (gL (iu h i))) (nH (sN h hp));rw[aiJ];intro z hz;have:=(b z).1 hz;simp only[Bool.and_false,Bool.false_and,Bool.and_true,aik,and_false,false_or,aj1] at this;obtain⟨d,hd1,e1⟩:=ahl.1 this.1;obtain⟨d2,hd2,e2⟩:=ahl.1 this.2;have hn:=(iu h (i+1)).nd;rw[aU x i e0 hi,dw,ahx] at hn;have hm:z∈(alive (x.take i)).map (·.id):=ahl.2 ⟨d,(eZ d).1 hd1,e1⟩;have Rn:z∈(alive [x.getD i e0]).map (·.id):=ahl.2 ⟨d2,by simpa[alive,-getD_eq_getElem?_getD] using hd2,e2⟩;exact(ah2.1 hn).2.2 z hm z Rn rfl
  rw[ahm h1,ahm h2,ahm h3,ahm h4,ahm h5];rfl
 ·rw[wI h _ (ahj _),ahz,ahE];have:=(gL h).n;simpa using this
def Bg (x:List Sd)(d:Dc):List Sd:=gy (dX (gg x d)) (gg x d)
def xe (x:List Sd)(id:Int):List Sd:=if (cW x id).2=true then gy (dX (cW x id).1) (cW x id).1 else x
structure IX (P:Dc->Prop)(B:Nat)(x:List Sd):Prop where
 g:GX x
 t:GK x
 p:PX P B x
def IX.nil {P:Dc->Prop}{B:Nat}:IX P B []:=⟨⟨by simp,by simp,by simp,by simp,by simp[alive],by simp[alive]⟩,⟨by simp,by simp⟩,⟨by simp,by simp⟩⟩
def IX.valid {P:Dc->Prop}{B:Nat}{x:List Sd}(h:IX P B x):m8 (bf x) (bX x)=true:=Jn h.g h.t
def IX.put {P:Dc->Prop}{B:Nat}{x:List Sd}(h:IX P B x){d:Dc}(hv:aR d=true)(hd:P d)(hB:1<=B)(hn:(alive x).length<2000)(hl:(alive (gg x d)).length<=B) :
  IX P B (Bg x d)/\(alive (Bg x d)).Perm (((alive x).filter λy=>!decide (y.id=d.id))++[d]):=by
 have hg:=nU h.g hv (.inl hn);obtain⟨h1,h2,h3⟩:=ux (dX (gg x d)) hg (ahj _);exact⟨⟨h1,z6 h3,PX.tidy _ hg (h.p.plus hd hB) hl⟩,h2.trans (by rw[oL h.g])⟩
def IX.drop {P:Dc->Prop}{B:Nat}{x:List Sd}(h:IX P B x)(id:Int)(hl:(alive x).length<=B) :
  IX P B (xe x id)/\(alive (xe x id)).Perm ((alive x).filter λy=>!decide (y.id=id)):=by
 unfold xe
 split
 ·have hg:=uN h.g id;have hle:(alive (cW x id).1).length<=B:=by
   rw[mA h.g];exact aho (ahU _ _) hl
  obtain⟨h1,h2,h3⟩:=ux (dX (cW x id).1) hg (ahj _);exact⟨⟨h1,z6 h3,PX.tidy _ hg (h.p.kill id) hle⟩,h2.trans (by rw[mA h.g])⟩
 ·rename_i hw;refine⟨h,?_⟩;rw[tG];intro hm;rw[Es] at hw;exact hw (ahm hm)
def nr (id:Int)(w:Bs):Dc:=⟨id,[⟨1,[(w,0)]⟩],[]⟩
abbrev qQ:=Bool×Dc
def ug (x:List Sd)(o:qQ):List Sd:=if o.1=true then xe x o.2.id else if aR o.2=true then Bg x o.2 else x
def fl (l:List qQ):List Sd:=l.foldl ug []
def Nf (l:List qQ)(d:Dc):Prop:=∃o∈l,o.2=d/\aR d=true
def pR {l:List qQ}{L:List Dc}(hn:(L.map (·.id)).Nodup)(h:∀d∈L,Nf l d):L.length<=l.length:=by
 have:=qk hn (m:=l.map (·.2.id)) λi hi=>by
  obtain⟨d,hd,rfl⟩:=ahl.1 hi;obtain⟨o,ho,rfl,_⟩:=h d hd;exact ahl.2 ⟨o,ho,rfl⟩
 rwa [ahz,ahz] at this
def Xi {l:List qQ}{B:Nat}(hl:l.length<=B)(hB:B<2000){x:List Sd}(h:IX (Nf l) B x){o:qQ}(ho:o∈l):IX (Nf l) B (ug x o):=by
 have ha:∀{y:List Sd},GX y->PX (Nf l) B y->(alive y).length<=B:=λhg hp=>aho (pR hg.nd hp.each) hl;have hx:=ha h.g h.p;unfold ug
 split
 ·exact(h.drop _ hx).1
 ·split
  ·rename_i hv;have hd:Nf l o.2:=⟨o,ho,rfl,hv⟩
   have eV:1<=B:=by have:=List.length_pos_of_mem ho;omega
   exact(h.put hv hd eV (by omega) (ha (nU h.g hv (.inl (by omega))) (h.p.plus hd eV))).1
  ·exact h
theorem mQ {l:List qQ}{B:Nat}(hl:l.length<=B)(hB:B<2000):∀m,m<=l.length->IX (Nf l) B (fl (l.take m))
 |0,_=>IX.nil
 |m+1,hm=>by
  have hlt:m<l.length:=hm;have e:fl (l.take (m+1))=ug (fl (l.take m)) l[m]:=by
   unfold fl;rw[aiG hlt,ai0];rfl
  rw[e];exact Xi hl hB (mQ hl hB m (by omega)) (ahP hlt)
def MY {l:List qQ}{B:Nat}(hl:l.length<=B)(hB:B<2000){x:List Sd}(h:IX (Nf l) B x){o:qQ}(ho:o∈l) :
  (alive (ug x o)).Perm (if o.1=true then (alive x).filter (λy=>!decide (y.id=o.2.id)) else if aR o.2=true then (alive x).filter (λy=>!decide (y.id=o.2.id))++[o.2] else alive x):=by
 have ha:∀{y:List Sd},GX y->PX (Nf l) B y->(alive y).length<=B:=λhg hp=>aho (pR hg.nd hp.each) hl;have hx:=ha h.g h.p;unfold ug
 split
 ·exact(h.drop _ hx).2
 ·split
  ·rename_i hv;have hd:Nf l o.2:=⟨o,ho,rfl,hv⟩
   have eV:1<=B:=by have:=List.length_pos_of_mem ho;omega
   exact(h.put hv hd eV (by omega) (ha (nU h.g hv (.inl (by omega))) (h.p.plus hd eV))).2
  ·exact List.Perm.refl _
structure CX (m:Nat)(d:Dc):Prop where
 k:(dn d).length<=m
 w:∀z∈d.zs,z.ws.length<=1000
 n:d.ns.length<=20
def Oi {L:List Dc}(hv:VD L){m:Nat}(h:∀d∈L,CX m d)(h40:L.length<=19)(hm:L.length*m<=1000):ve (eB L):=
 QY (aho h40 (by decide)) (aho (iP dn m L λd hd=>(h d hd).k) hm) hv.v (λd hd=>(h d hd).w) (λd hd=>(h d hd).n)
def Jm (id:Int)(w:Bs):CX 1 (nr id w):=⟨by simp[dn,fh,nr],λz hz=>by simp[nr] at hz;subst hz;simp,by simp[nr]⟩
structure BX (m:Nat)(x:List Sd):Prop where
 g:GX x
 a:(alive x).length<=19
 b:∀p∈x,p.1.length<=19/\p.1.length*m<=1000
 c:(alive x).length*m<=1000
 w:∀p∈x,∀d∈p.1,CX m d
def BX.sz {m:Nat}{x:List Sd}(h:BX m x){p:Sd}(hp:p∈x):ve (eB p.1):=Oi (h.g.vd p hp) (h.w p hp) (h.b p hp).1 (h.b p hp).2
def BX.lv {m:Nat}{x:List Sd}(h:BX m x){p:Sd}(hp:p∈x):ve (eB (iG p)):=by
 refine Oi (sN h.g hp) (λd hd=>h.w p hp d (mf hd)) (aho (sX p) (h.b p hp).1) (aho (ail _ (sX p)) (h.b p hp).2)
theorem BX.both {m:Nat}{x:List Sd}(h:BX m x){i:Nat}(hi:i+1<x.length):ve (eB (both x i)):=by
 have hl:=x5 hi;refine Oi (wF h.g hi) (λd hd=>?_) (aho hl h.a) (aho (ail _ hl) h.c);exact(E5 hd).elim (h.w _ (gu (by omega)) d) (h.w _ (gu (by omega)) d)
theorem BX.step {m:Nat}{x y:List Sd}(h:BX m x)(hs:iK x=some y):BX m y:=by
 obtain⟨h1,h2,_⟩:=jY h.g hs;have hp:PX (CX m) 19 y:=PX.step ⟨h.w,λp hp=>(h.b p hp).1⟩ h.a hs;refine⟨h1,by rw[h2.length_eq];exact h.a,λp RN=>⟨hp.b p RN,?_⟩,by rw[h2.length_eq];exact h.c,hp.p⟩;rcases ahR m with h0|h0
 ·subst h0;omega
 ·have hq:PX (CX m) (1000 / m) y:=PX.step ⟨h.w,λp hp=>(ajR h0).2 (h.b p hp).2⟩ ((ajR h0).2 h.c) hs;exact(ajR h0).1 (hq.b p RN)
def IX.bx {P:Dc->Prop}{B m:Nat}{x:List Sd}(h:IX P B x)(hP:∀d,P d->CX m d)(ha:(alive x).length<=B)(hB:B<=19)(hm:B*m<=1000):BX m x:=
 ⟨h.g,by omega,λp hp=>⟨aho (h.p.b p hp) hB,aho (ail _ (h.p.b p hp)) hm⟩,aho (ail _ ha) hm,λp hp d hd=>hP d (h.p.p p hp d hd)⟩
theorem BX.kill {m:Nat}{x:List Sd}(h:BX m x)(id:Int):BX m (cW x id).1:=by
 have hp:PX (CX m) 19 (cW x id).1:=PX.kill ⟨h.w,λp hp=>(h.b p hp).1⟩ id;have hl:(alive (cW x id).1).length<=(alive x).length:=by rw[mA h.g];exact ahU _ _
 refine⟨uN h.g id,aho hl h.a,λp RN=>⟨hp.b p RN,?_⟩,aho (ail _ hl) h.c,hp.p⟩;rcases ahR m with h0|h0
 ·subst h0;omega
 ·have hq:PX (CX m) (1000 / m) (cW x id).1:=PX.kill ⟨h.w,λp hp=>(ajR h0).2 (h.b p hp).2⟩ id;exact(ajR h0).1 (hq.b p RN)
def BX.plus {m:Nat}{x:List Sd}(h:BX m x){d:Dc}(hv:aR d=true)(hd:CX m d)(ha:(alive (gg x d)).length<=19)(hm:(alive (gg x d)).length*m<=1000):BX m (gg x d):=by
 have hk:=h.kill d.id;have eV:1<=(alive (gg x d)).length:=by rw[oL h.g,ahk,aib];omega
 have Ro:1*m<=1000:=aho (ail _ eV) hm;have hc:∀p∈gg x d,p∈(cW x d.id).1\/p=([d],[]):=λp hp=>by
  unfold gg at hp;rcases ahw.1 hp with h1|h1
  ·exact .inl h1
  ·exact .inr (by simpa using h1)
 refine⟨nU h.g hv (.inl (by have:=h.a;omega)),ha,λp hp=>?_,hm,λp hp=>?_⟩
 ·rcases hc p hp with h1|rfl
  ·exact hk.b p h1
  ·exact⟨by simp,by simpa using Ro⟩
 ·rcases hc p hp with h1|rfl
  ·exact hk.w p h1
  ·intro y hy;have:y=d:=by simpa using hy
   rw[this];exact hd
def NM:List Sd:=fl [(false,nr 1 [97]),(false,nr 2 [97]),(false,nr 3 [98])]
def zA:List Sd:=Bg NM (nr 1 [99])
def ZF:NM=[([nr 1 [97],nr 2 [97]],[]),([nr 3 [98]],[])]:=by decide +kernel
def afz:zA=[([nr 1 [99],nr 2 [97],nr 3 [98]],[])]:=by decide +kernel
def QC:aA (dg (fC zA) (1,[97]))=[2]:=by decide +kernel
def fK (l:List Sg):List AV:=l.flatMap dC
def oE:eu dC 3:=λ_=>rfl
def dF (l:List Sg):(fK l).length=l.length*3:=bU oE l
def BH (l:List Sg)(i:Nat)(h:i<l.length):(fK l).getD (i*3) .top=.sl (l.getD i bR).aA.length (ints (l.getD i bR).aA) .none/\(fK l).getD (i*3+1) .top=.sl (l.getD i bR).bK.length (dx (l.getD i bR).bK) .none/\(fK l).getD (i*3+2) .top=.sl (l.getD i bR).aN.length (dJ (l.getD i bR).aN) .none:=
 ⟨eP oE l i 0 bR h (by omega),eP oE l i 1 bR h (by omega),eP oE l i 2 bR h (by omega)⟩
def ke (l:List Sg)(i:Nat)(h:i<l.length):((fK l).drop (i*3)).take 3=dC (l.getD i bR):=fW oE l i bR h
def Lm (l:List Sg)(x:Sg):fK l++dC x=fK (l++[x]):=nO (f:=dC) l x
def Px (a b:List Sg):fK a++fK b=fK (a++b):=by simp[fK]
def Ln (l:List Sg)(i:Nat):(fK l).drop (i*3)=fK (l.drop i):=jZ oE l i
def Jr (l:List Sg)(i:Nat):(fK l).take (i*3)=fK (l.take i):=nN oE l i
@[simp] theorem acH (n t:Nat) (l:List Sg):aK n t (fK l):=fN (f:=dC) (λx=>by simp) l
abbrev CK (l:List Int):AV:=.sl l.length (ints l) .none
def fT (D:List (List Int)):List AV:=D.map CK
def bC (D:List (List Int)):(fT D).length=D.length:=by unfold fT;rw[ahz]
def oH (D:List (List Int))(i:Nat)(h:i<D.length):(fT D).getD i .top=CK (D.getD i []):=by
 unfold fT;simp[ahg,aip,ahi h]
def QO (a b:List (List Int)):fT a++fT b=fT (a++b):=by simp[fT]
def MN (a:List (List Int))(d:List Int):fT a++[CK d]=fT (a++[d]):=by simp[fT]
def MO (D:List (List Int))(i:Nat):(fT D).drop i=fT (D.drop i):=by simp[fT]
def JS (D:List (List Int))(i:Nat):(fT D).take i=fT (D.take i):=by simp[fT]
def QN (D:List (List Int))(i:Nat)(d:List Int):(fT D).set i (CK d)=fT (D.set i d):=by unfold fT;rw[List.map_set]
@[simp] theorem acL (n t:Nat) (D:List (List Int)):aK n t (fT D):=by
 intro v hv;obtain⟨x,_,rfl⟩:=ahl.1 hv;simp
abbrev iE (S:List Sg)(D:List (List Int)):List AV:=[.sl S.length (fK S) .none,.sl D.length (fT D) .none]
abbrev Bk (S:List Sg)(D:List (List Int)):AV:=.agg (iE S D)
abbrev yH (x:List Sd):AV:=Bk (bf x) (bX x)
structure Y5 (S:List Sg)(D:List (List Int)):Prop where
 n:S.length<=400
 s:∀s∈S,ve s
 d:D.length<=400
 l:∀d∈D,d.length<=1000
end Go.Proofs.YtoejlmpbebjemaaGreat
