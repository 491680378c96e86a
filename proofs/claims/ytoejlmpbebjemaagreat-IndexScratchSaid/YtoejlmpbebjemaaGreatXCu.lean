/- What is live behind changes (layer 40, plain).
  Conditions: none. -/
import Derived.Test.YtoejlmpbebjemaaGreatXZa
set_option linter.all false
set_option maxRecDepth 100000
namespace Go.Proofs.YtoejlmpbebjemaaGreat
open Go Go.Am ie cN eN
def wm (acc:List Dc)(o:oI):List Dc:=
 if o.1=true then acc.filter (λy=>!decide (y.id=o.2.id)) else if aU o.2=true then acc.filter (λy=>!decide (y.id=o.2.id))++[o.2] else acc
def kL (l:List oI):List Dc:=l.foldl wm []
def ML {a b:List Dc}(h:a.Perm b)(o:oI):(wm a o).Perm (wm b o):=by
 unfold wm
 split
 ·exact h.filter _
 ·split
  ·exact(h.filter _).append_right _
  ·exact h
theorem Fa {l:List oI}{B:Nat}(hl:l.length<=B)(hB:B<2000):∀m,m<=l.length->(alive (fE (l.take m))).Perm (kL (l.take m))
 |0,_=>.refl _
 |m+1,hm=>by
  have bp:m<l.length:=hm;have e1:fE (l.take (m+1))=uz (fE (l.take m)) l[m]:=by
   unfold fE;rw[aiS bp,ai8];rfl
  have e2:kL (l.take (m+1))=wm (kL (l.take m)) l[m]:=by
   unfold kL;rw[aiS bp,ai8];rfl
  rw[e1,e2];exact(MS hl hB (lW hl hB m zO) (ah2 bp)).trans (ML (Fa hl hB m zO) _)
def MK {l:List oI}{B:Nat}(hl:l.length<=B)(hB:B<2000):(alive (fE l)).Perm (kL l):=by
 have:=Fa hl hB l.length (ahv _)
 rwa [ahO] at this
end Go.Proofs.YtoejlmpbebjemaaGreat
