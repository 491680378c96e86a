/- What is live behind changes (layer 40, plain).
  Conditions: none. -/
import Derived.Test.YtoejlmpbebjemaaGreatXZa
set_option linter.all false
set_option maxRecDepth 100000
namespace Go.Proofs.YtoejlmpbebjemaaGreat
open Go Go.Am ia cO eN
def tU (acc:List Dc)(o:qM):List Dc:=
 if o.1=true then acc.filter (λy=>!decide (y.id=o.2.id)) else if aS o.2=true then acc.filter (λy=>!decide (y.id=o.2.id))++[o.2] else acc
def tT (l:List qM):List Dc:=l.foldl tU []
def L3 {a b:List Dc}(h:a.Perm b)(o:qM):(tU a o).Perm (tU b o):=by
 unfold tU
 split
 ·exact h.filter _
 ·split
  ·exact(h.filter _).append_right _
  ·exact h
theorem Ep {l:List qM}{B:Nat}(hl:l.length<=B)(hB:B<2000):∀m,m<=l.length->(alive (fc (l.take m))).Perm (tT (l.take m))
 |0,_=>.refl _
 |m+1,hm=>by
  have aZ:m<l.length:=hm;have e1:fc (l.take (m+1))=tV (fc (l.take m)) l[m]:=by
   unfold fc;rw[ah0 aZ,ail];rfl
  have e2:tT (l.take (m+1))=tU (tT (l.take m)) l[m]:=by
   unfold tT;rw[ah0 aZ,ail];rfl
  rw[e1,e2];exact(L9 hl hB (mH hl hB m (by omega)) (ahb aZ)).trans (L3 (Ep hl hB m (by omega)) _)
def uN {l:List qM}{B:Nat}(hl:l.length<=B)(hB:B<2000):(alive (fc l)).Perm (tT l):=by
 have:=Ep hl hB l.length (agE _)
 rwa [agZ] at this
def Fz {x y:List Sd}(hx:GX x)(hy:GX y)(h:∀d,d∈alive x↔d∈alive y):fl x=fl y:=
 qt (gF hx).lt (gF hy).lt λd=>(eQ d).trans ((h d).trans (eQ d).symm)
theorem tq {a:List Dc}{o:qM}{d:Dc}(hv:o.1=true\/aS o.2=true):d∈tU a o↔(d∈a/\d.id≠o.2.id)\/(o.1=false/\d=o.2):=by
 unfold tU
 cases h:o.1 with
 |true=>simp[ag0]
 |false=>
  rcases hv with h1|h1
  ·rw[h] at h1;cases h1
  ·rw[agL (by simp),agN h1,agR,ag0,ahl];simp
theorem xH {L:List Dc}(hv:∀d∈L,aS d=true)(hn:(L.map (·.id)).Nodup):∀d,d∈tT (L.map λd=>(false,d))↔d∈L:=by
 have key:∀(M:List Dc)(acc:List Dc),(∀d∈M,aS d=true)->(M.map (·.id)).Nodup->(∀a∈acc,a.id∉M.map (·.id))->∀d,d∈(M.map λd=>((false,d):qM)).foldl tU acc↔d∈acc\/d∈M:=by
  intro M
  induction M with
  |nil=>intro acc _ _ _ d;simp
  |cons x M ih=>
   intro acc h1 h2 h3 d;rw[ahi,aiU] at h2;rw[ahi,aia];have fK:∀z,z∈tU acc (false,x)↔(z∈acc/\z.id≠x.id)\/z=x:=λz=>by
    rw[tq (.inr (h1 x (by simp)))];simp
   rw[ih (tU acc (false,x)) (λz hz=>h1 z (by simp[hz])) h2.2 (λa ha=>by
    rcases (fK a).1 ha with⟨h4,h5⟩|rfl
    ·intro h6;exact h3 a h4 (by rw[ahi];exact ahZ _ h6)
    ·exact h2.1) d,fK,ag6]
   constructor
   ·rintro ((⟨h4,_⟩|h4)|h4)
    ·exact .inl h4
    ·exact .inr (.inl h4)
    ·exact .inr (.inr h4)
   ·rintro (h4|h4|h4)
    ·exact .inl (.inl ⟨h4,λe=>h3 d h4 (by rw[e];simp)⟩)
    ·exact .inl (.inr h4)
    ·exact .inr h4
 intro d;have:=key L [] hv hn (by simp) d;simpa[tT] using this
end Go.Proofs.YtoejlmpbebjemaaGreat
