/- What is live behind changes (layer 40, plain).
  Conditions: none. -/
import Derived.Test.YtoejlmpbebjemaaGreatXZa
set_option linter.all false
set_option maxRecDepth 100000
namespace Go.Proofs.YtoejlmpbebjemaaGreat
open Go Go.Am im cL eT
def uf (acc:List Dc)(o:qQ):List Dc:=
 if o.1=true then acc.filter (λy=>!decide (y.id=o.2.id)) else if aR o.2=true then acc.filter (λy=>!decide (y.id=o.2.id))++[o.2] else acc
def ue (l:List qQ):List Dc:=l.foldl uf []
def MS {a b:List Dc}(h:a.Perm b)(o:qQ):(uf a o).Perm (uf b o):=by
 unfold uf
 split
 ·exact h.filter _
 ·split
  ·exact(h.filter _).append_right _
  ·exact h
theorem ET {l:List qQ}{B:Nat}(hl:l.length<=B)(hB:B<2000):∀m,m<=l.length->(alive (fl (l.take m))).Perm (ue (l.take m))
 |0,_=>.refl _
 |m+1,hm=>by
  have hlt:m<l.length:=hm;have e1:fl (l.take (m+1))=ug (fl (l.take m)) l[m]:=by
   unfold fl;rw[aiG hlt,ai0];rfl
  have e2:ue (l.take (m+1))=uf (ue (l.take m)) l[m]:=by
   unfold ue;rw[aiG hlt,ai0];rfl
  rw[e1,e2];exact(MY hl hB (mQ hl hB m (by omega)) (ahP hlt)).trans (MS (ET hl hB m (by omega)) _)
def uY {l:List qQ}{B:Nat}(hl:l.length<=B)(hB:B<2000):(alive (fl l)).Perm (ue l):=by
 have:=ET hl hB l.length (ahj _)
 rwa [ahE] at this
def F6 {x y:List Sd}(hx:GX x)(hy:GX y)(h:∀d,d∈alive x↔d∈alive y):fC x=fC y:=
 qx (gL hx).lt (gL hy).lt λd=>(eZ d).trans ((h d).trans (eZ d).symm)
theorem tI {a:List Dc}{o:qQ}{d:Dc}(hv:o.1=true\/aR o.2=true):d∈uf a o↔(d∈a/\d.id≠o.2.id)\/(o.1=false/\d=o.2):=by
 unfold uf
 cases h:o.1 with
 |true=>simp[ahF]
 |false=>
  rcases hv with h1|h1
  ·rw[h] at h1;cases h1
  ·rw[ahq (by simp),ahs h1,ahw,ahF,ah0];simp
theorem xV {L:List Dc}(hv:∀d∈L,aR d=true)(hn:(L.map (·.id)).Nodup):∀d,d∈ue (L.map λd=>(false,d))↔d∈L:=by
 have key:∀(M:List Dc)(acc:List Dc),(∀d∈M,aR d=true)->(M.map (·.id)).Nodup->(∀a∈acc,a.id∉M.map (·.id))->∀d,d∈(M.map λd=>((false,d):qQ)).foldl uf acc↔d∈acc\/d∈M:=by
  intro M
  induction M with
  |nil=>intro acc _ _ _ d;simp
  |cons x M ih=>
   intro acc h1 h2 h3 d;rw[ahX,ajz] at h2;rw[ahX,aiR];have fS:∀z,z∈uf acc (false,x)↔(z∈acc/\z.id≠x.id)\/z=x:=λz=>by
    rw[tI (.inr (h1 x (by simp)))];simp
   rw[ih (uf acc (false,x)) (λz hz=>h1 z (by simp[hz])) h2.2 (λa ha=>by
    rcases (fS a).1 ha with⟨h4,h5⟩|rfl
    ·intro h6;exact h3 a h4 (by rw[ahX];exact aiF _ h6)
    ·exact h2.1) d,fS,ahL]
   constructor
   ·rintro ((⟨h4,_⟩|h4)|h4)
    ·exact .inl h4
    ·exact .inr (.inl h4)
    ·exact .inr (.inr h4)
   ·rintro (h4|h4|h4)
    ·exact .inl (.inl ⟨h4,λe=>h3 d h4 (by rw[e];simp)⟩)
    ·exact .inl (.inr h4)
    ·exact .inr h4
 intro d;have:=key L [] hv hn (by simp) d;simpa[ue] using this
end Go.Proofs.YtoejlmpbebjemaaGreat
