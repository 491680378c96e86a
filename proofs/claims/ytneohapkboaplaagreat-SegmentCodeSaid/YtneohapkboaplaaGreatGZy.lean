/- Sizes of what is merged of small segments (layer 39, plain).
  Conditions: as the theorems say. -/
import Derived.Test.YtneohapkboaplaaGreatGZx
import Derived.Test.YtneohapkboaplaaGreatGLA
set_option linter.all false
set_option maxRecDepth 100000
namespace Go.Proofs.YtneohapkboaplaaGreat
open Go Go.Am gH dc eB
structure Sm (s:Sg):Prop where
 d:s.aw.length≤20
 t:s.aJ.length≤60
 w:∀t∈s.aJ,t.w.length≤maxLen∧t.l.length≤30∧∀p∈t.l,p.2.length≤30
 c:s.az.length≤6
 x:∀c∈s.az,c.x.length≤30
theorem Jx {s:Sg}(h:lf s=true)(ha:SV s):Sm s:=by
 unfold lf at h;simp only[Bool.and_eq_true,decide_eq_true_eq] at h;obtain⟨⟨h1,h2⟩,h3,h4,h5⟩:=h;refine⟨by omega,by omega,fun t ht=>?_,by omega,fun c hc=>?_⟩
 ·obtain⟨i,hi,rfl⟩:=bP t0 ht;have:=of_decide_eq_true (lj h1 hi);exact⟨(ha.w _ ht).1,by omega,fun p hp=>by have:=this.2 p hp;omega⟩
 ·obtain⟨i,hi,rfl⟩:=bP c0 hc;have:=of_decide_eq_true (lj h2 hi);omega
theorem Sm.sz {s:Sg}(h:Sm s):re s:=⟨by have:=h.d;omega,by have:=h.t;omega,fun t ht=>⟨(h.w t ht).1,by have:=(h.w t ht).2.1;omega,fun p hp=>by have:=(h.w t ht).2.2 p hp;omega⟩,by have:=h.c;omega,fun c hc=>by have:=h.x c hc;omega⟩
end Go.Proofs.YtneohapkboaplaaGreat
