/- Documents that are put in the opposite order (layer 40, plain).
  Conditions: none. -/
import Derived.Test.YtoejlmpbebjemaaGreatXCu
import Derived.Test.YtoejlmpbebjemaaGreatXWq
import Derived.Test.YtoejlmpbebjemaaGreatXZc
import Derived.Test.YtoejlmpbebjemaaGreatGSdl
set_option linter.all false
set_option maxRecDepth 100000
namespace Go.Proofs.YtoejlmpbebjemaaGreat
open Go Go.Am im cL eT
def IF {l:List Dc}(h:(cZ l).2=0):(∀d∈l,aR d=true)/\(l.map (·.id)).Nodup:=by
 unfold cZ at h
 split at h
 ·exact absurd h (by decide)
 split at h
 ·exact absurd h (by decide)
 rename_i Wy
 split at h
 ·exact absurd h (by decide)
 rename_i mU;refine⟨λd hd=>?_,Classical.not_not.1 mU⟩;have:=ai9.1 (by simpa using Wy:l.any (λd=>!aR d)=false) d hd;simpa using this
def fy (l:List Dc):List qQ:=l.map λd=>(false,d)
def kh (l:List Dc):(fy l).length=l.length:=ahz _
def vP (d:Dc):Dc:={ d with id:=1000000000 }
def kN (l:List Dc):List qQ:=fy l.reverse++[(false,l.getD 0 d0),(false,vP (l.getD 0 d0)),(true,vP (l.getD 0 d0))]
def qH (l:List Dc):(kN l).length=l.length+3:=by simp[kN,fy]
def Jy {m B:Nat}{l:List qQ}(hl:l.length<=B)(hw:∀o∈l,aR o.2=true->CX m o.2)(hB:B<=19)(hm:B*m<=1000):BX m (fl l)/\(fl l).length<=7:=by
 have:=(mQ hl (by omega) l.length (ahj _)).szB hl hw hB hm
 rwa [ahE] at this
def OO {l:List qQ}(hl:l.length<=19):GX (fl l):=by
 have:=(mQ hl (by omega) l.length (ahj _)).g
 rwa [ahE] at this
def z8 {d:Dc}(h:Cy d=true)(hv:aR d=true):CX 60 d:=
 ⟨(uB h hv).1,λz hz=>aho ((uB h hv).2 z hz) (by decide),DX h⟩
def Lb {d:Dc}(h:Cy d=true):Cy (vP d)=true:=h
def zX {d:Dc}(h:aR d=true):aR (vP d)=true:=by
 unfold aR at h ⊢;rw[aht] at h ⊢;exact⟨ahm (by show 1<=(1000000000:Int)/\(1000000000:Int)<=1000000000;omega),h.2⟩
def M3 {l:List Dc}(hn:l≠[]){o:qQ}(h:o∈kN l):∃d∈l,o.2=d\/o.2=vP d:=by
 have h0:l.getD 0 d0∈l:=aS l 0 d0 (ait.2 hn);unfold kN fy at h;rcases ahw.1 h with h|h
 ·obtain⟨d,hd,rfl⟩:=ahl.1 h;exact⟨d,ajN.1 hd,.inl rfl⟩
 ·simp only[ahL,List.not_mem_nil,aj2] at h;rcases h with rfl|rfl|rfl
  ·exact⟨_,h0,.inl rfl⟩
  ·exact⟨_,h0,.inr rfl⟩
  ·exact⟨_,h0,.inr rfl⟩
def L3 {l:List Dc}(hl:l.length<=8)(h0:l≠[])(hv:∀d∈l,aR d=true)(hn:(l.map (·.id)).Nodup)(hM:∀d∈l,d.id≠1000000000) :
  fC (fl (fy l))=fC (fl (kN l)):=by
 have l1:(fy l).length<=19:=by rw[kh];omega
 have l2:(kN l).length<=19:=by rw[qH];omega
 refine F6 (OO l1) (OO l2) λd=>?_;rw[(uY l1 (by omega)).mem_iff,(uY l2 (by omega)).mem_iff];have m0:l.getD 0 d0∈l:=aS l 0 d0 (ait.2 h0);have hb:∀d,d∈ue (fy l.reverse)↔d∈l:=λd=>(xV (λd hd=>hv d (ajN.1 hd)) (by rw[List.map_reverse];exact(List.reverse_perm _).nodup_iff.2 hn) d).trans ajN;have e:ue (kN l)=uf (uf (uf (ue (fy l.reverse)) (false,l.getD 0 d0)) (false,vP (l.getD 0 d0))) (true,vP (l.getD 0 d0)):=by
  unfold ue kN;rw[ai0];rfl
 have hv0:=hv _ m0;rw[e,show d∈ue (fy l)↔d∈l from xV hv hn d,tI (.inl rfl),tI (.inr (zX hv0)),tI (.inr hv0),hb];have Gb:∀a∈l,∀b∈l,a.id=b.id->a=b:=λa ha b hb e=>by
  obtain⟨i,hi,rfl⟩:=List.getElem_of_mem ha;obtain⟨j,hj,rfl⟩:=List.getElem_of_mem hb;have hp:l.Pairwise λa b=>a.id≠b.id:=ahY.1 hn;rcases aiM i j with h|h|h
  ·exact absurd e (ahN.1 hp i j hi hj h)
  ·subst h;rfl
  ·exact absurd e.symm (ahN.1 hp j i hj hi h)
 have Zg:(vP (l.getD 0 d0)).id=1000000000:=rfl;generalize l.getD 0 d0=z at *
 constructor
 ·intro h;refine .inl ⟨.inl ⟨?_,?_⟩,?_⟩
  ·by_cases he:d.id=z.id
   ·exact .inr ⟨rfl,Gb d h z m0 he⟩
   ·exact .inl ⟨h,he⟩
  ·rw[Zg];exact hM d h
  ·rw[Zg];exact hM d h
 ·rintro (⟨(⟨(⟨h,_⟩|⟨_,h⟩),_⟩|⟨_,h⟩),Gb⟩|⟨h,_⟩)
  ·exact h
  ·rw[h];exact m0
  ·rw[h] at Gb;exact absurd rfl Gb
  ·cases h
def H4 {x y:List Sd}(hx:GX x)(hy:GX y)(h:fC x=fC y)(k:Ky):eF x k x.length=eF y k y.length:=by rw[nZ hx,nZ hy,h]
def FD {x y:List Sd}(hx:GX x)(hy:GX y)(h:fC x=fC y)(f:Int)(p:Bs):iZ x f p=iZ y f p:=by rw[zU hx,zU hy,h]
def LZ {x y:List Sd}(hx:GX x)(hy:GX y)(h:fC x=fC y)(f lo hi:Int):ll x f lo hi x.length=ll y f lo hi y.length:=by rw[E6 hx,E6 hy,h]
end Go.Proofs.YtoejlmpbebjemaaGreat
