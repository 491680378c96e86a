/- Small valid documents (layers 37, 39).
  Conditions: none. -/
import Derived.Test.YtoejlmpbebjemaaGreatGSd
import Derived.Test.YtoejlmpbebjemaaGreatGZc
set_option linter.all false
set_option maxRecDepth 100000
namespace Go.Proofs.YtoejlmpbebjemaaGreat
open Go Go.Am ia eN
theorem Iw:∀(zs:List Zn)(n:Int),0<=n->(∀z∈zs,z.ws.length<=1000001)->n+(zs.length:Int)*1000002<=4611686018427387904->
  zs.foldl (λn z=>IntKind.i64.wrap (n+IntKind.i64.wrap (1+(z.ws.length:Int)))) n=n+(zs.length:Int)+((zs.flatMap eZ).length:Int)
 |[],n,_,_,_=>by simp
 |z::r,n,h0,hz,hb=>by
  have h1:=hz z (by simp);have e1:IntKind.i64.wrap (1+(z.ws.length:Int))=1+(z.ws.length:Int):=wrap64 (by omega) (by omega);simp only[ahd] at hb;have e2:IntKind.i64.wrap (n+(1+(z.ws.length:Int)))=n+(1+(z.ws.length:Int)):=wrap64 (by omega) (by omega);rw[aia,e1,e2,Iw r _ (by omega) (λy hy=>hz y (by simp[hy])) (by omega)];have h3:(eZ z).length=z.ws.length:=by simp[eZ]
  rw[agT,agF,ahd,h3];omega
def um {d:Dc}(h:Ca d=true)(hv:aS d=true):(dm d).length<=60/\(∀z∈d.zs,z.ws.length<=60):=by
 have hz:=(cC hv).2.1;have h4:=sT hz;have hws:∀z∈d.zs,z.ws.length<=1000001:=λz TE=>by
  obtain⟨i,hi,e⟩:=bK z0 TE;have:=Dh (fH (hz i hi)).2.2.2;rw[e] at this;exact this
 have hs:=Iw d.zs 0 (by omega) hws (by omega);unfold Ca QL at h;rw[hs] at h;simp only[agO,agQ] at h;have hk:(dm d).length<=60:=by unfold dm;omega
 refine⟨hk,λz TE=>?_⟩;have:(eZ z).length<=(d.zs.flatMap eZ).length:=by
  obtain⟨A,B,e⟩:=aiZ TE;rw[e,ahk,agT,agF,agF];omega
 have h3:(eZ z).length=z.ws.length:=by simp[eZ]
 unfold dm at hk;omega
def Dt {d:Dc}(h:Ca d=true):d.ns.length<=20:=by
 unfold Ca at h;simp only[agO,agQ] at h;exact h.2
def LM {l:List Dc}(h:CM l=true):l.length<=8/\∀d∈l,Ca d=true:=by
 unfold CM at h;rw[agO,agQ] at h;refine⟨h.2,λd hd=>?_⟩;obtain⟨i,hi,e⟩:=bK d0 hd;rw[<-e];exact ow h.1 hi
end Go.Proofs.YtoejlmpbebjemaaGreat
