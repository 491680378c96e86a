/- Documents that are put in the opposite order (layer 40, plain).
  Conditions: none. -/
import Derived.Test.YtoejlmpbebjemaaGreatXCu
import Derived.Test.YtoejlmpbebjemaaGreatXWq
import Derived.Test.YtoejlmpbebjemaaGreatXZc
import Derived.Test.YtoejlmpbebjemaaGreatGSdl
set_option linter.all false
set_option maxRecDepth 100000
namespace Go.Proofs.YtoejlmpbebjemaaGreat
open Go Go.Am ia cO eN
def HQ {l:List Dc}(h:(cZ l).2=0):(∀d∈l,aS d=true)/\(l.map (·.id)).Nodup:=by
 unfold cZ at h
 split at h
 ·exact absurd h (by decide)
 split at h
 ·exact absurd h (by decide)
 rename_i VH
 split at h
 ·exact absurd h (by decide)
 rename_i mM;refine⟨λd hd=>?_,Classical.not_not.1 mM⟩;have:=aiv.1 (by simpa using VH:l.any (λd=>!aS d)=false) d hd;simpa using this
def fk (l:List Dc):List qM:=l.map λd=>(false,d)
def j9 (l:List Dc):(fk l).length=l.length:=agU _
def vG (d:Dc):Dc:={ d with id:=1000000000 }
def kI (l:List Dc):List qM:=fk l.reverse++[(false,l.getD 0 d0),(false,vG (l.getD 0 d0)),(true,vG (l.getD 0 d0))]
def qD (l:List Dc):(kI l).length=l.length+3:=by simp[kI,fk]
def IJ {m B:Nat}{l:List qM}(hl:l.length<=B)(hw:∀o∈l,aS o.2=true->Cz m o.2)(hB:B<=19)(hm:B*m<=1000):BX m (fc l)/\(fc l).length<=7:=by
 have:=(mH hl (by omega) l.length (agE _)).szB hl hw hB hm
 rwa [agZ] at this
def NT {l:List qM}(hl:l.length<=19):GX (fc l):=by
 have:=(mH hl (by omega) l.length (agE _)).g
 rwa [agZ] at this
def zS {d:Dc}(h:Ca d=true)(hv:aS d=true):Cz 60 d:=
 ⟨(um h hv).1,λz hz=>agJ ((um h hv).2 z hz) (by decide),Dt h⟩
def Kh {d:Dc}(h:Ca d=true):Ca (vG d)=true:=h
def zN {d:Dc}(h:aS d=true):aS (vG d)=true:=by
 unfold aS at h ⊢;rw[agO] at h ⊢;exact⟨agH (by show 1<=(1000000000:Int)/\(1000000000:Int)<=1000000000;omega),h.2⟩
def Md {l:List Dc}(hn:l≠[]){o:qM}(h:o∈kI l):∃d∈l,o.2=d\/o.2=vG d:=by
 have h0:l.getD 0 d0∈l:=aT l 0 d0 (ahN.2 hn);unfold kI fk at h;rcases agR.1 h with h|h
 ·obtain⟨d,hd,rfl⟩:=agG.1 h;exact⟨d,ai8.1 hd,.inl rfl⟩
 ·simp only[ag6,List.not_mem_nil,ajn] at h;rcases h with rfl|rfl|rfl
  ·exact⟨_,h0,.inl rfl⟩
  ·exact⟨_,h0,.inr rfl⟩
  ·exact⟨_,h0,.inr rfl⟩
def Ld {l:List Dc}(hl:l.length<=8)(h0:l≠[])(hv:∀d∈l,aS d=true)(hn:(l.map (·.id)).Nodup)(hM:∀d∈l,d.id≠1000000000) :
  fl (fc (fk l))=fl (fc (kI l)):=by
 have l1:(fk l).length<=19:=by rw[j9];omega
 have l2:(kI l).length<=19:=by rw[qD];omega
 refine Fz (NT l1) (NT l2) λd=>?_;rw[(uN l1 (by omega)).mem_iff,(uN l2 (by omega)).mem_iff];have m0:l.getD 0 d0∈l:=aT l 0 d0 (ahN.2 h0);have hb:∀d,d∈tT (fk l.reverse)↔d∈l:=λd=>(xH (λd hd=>hv d (ai8.1 hd)) (by rw[List.map_reverse];exact(List.reverse_perm _).nodup_iff.2 hn) d).trans ai8;have e:tT (kI l)=tU (tU (tU (tT (fk l.reverse)) (false,l.getD 0 d0)) (false,vG (l.getD 0 d0))) (true,vG (l.getD 0 d0)):=by
  unfold tT kI;rw[ail];rfl
 have hv0:=hv _ m0;rw[e,show d∈tT (fk l)↔d∈l from xH hv hn d,tq (.inl rfl),tq (.inr (zN hv0)),tq (.inr hv0),hb];have FG:∀a∈l,∀b∈l,a.id=b.id->a=b:=λa ha b hb e=>by
  obtain⟨i,hi,rfl⟩:=List.getElem_of_mem ha;obtain⟨j,hj,rfl⟩:=List.getElem_of_mem hb;have hp:l.Pairwise λa b=>a.id≠b.id:=ahj.1 hn;rcases ah6 i j with h|h|h
  ·exact absurd e (ag8.1 hp i j hi hj h)
  ·subst h;rfl
  ·exact absurd e.symm (ag8.1 hp j i hj hi h)
 have Yx:(vG (l.getD 0 d0)).id=1000000000:=rfl;generalize l.getD 0 d0=z at *
 constructor
 ·intro h;refine .inl ⟨.inl ⟨?_,?_⟩,?_⟩
  ·by_cases he:d.id=z.id
   ·exact .inr ⟨rfl,FG d h z m0 he⟩
   ·exact .inl ⟨h,he⟩
  ·rw[Yx];exact hM d h
  ·rw[Yx];exact hM d h
 ·rintro (⟨(⟨(⟨h,_⟩|⟨_,h⟩),_⟩|⟨_,h⟩),FG⟩|⟨h,_⟩)
  ·exact h
  ·rw[h];exact m0
  ·rw[h] at FG;exact absurd rfl FG
  ·cases h
def Hg {x y:List Sd}(hx:GX x)(hy:GX y)(h:fl x=fl y)(k:Ky):eC x k x.length=eC y k y.length:=by rw[nV hx,nV hy,h]
def E9 {x y:List Sd}(hx:GX x)(hy:GX y)(h:fl x=fl y)(f:Int)(p:Bs):iT x f p=iT y f p:=by rw[zJ hx,zJ hy,h]
def Lc {x y:List Sd}(hx:GX x)(hy:GX y)(h:fl x=fl y)(f lo hi:Int):kX x f lo hi x.length=kX y f lo hi y.length:=by rw[EB hx,EB hy,h]
end Go.Proofs.YtoejlmpbebjemaaGreat
