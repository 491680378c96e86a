/- Small valid documents (layers 37, 39).
  Conditions: none. -/
import Derived.Test.YtoejlmpbebjemaaGreatGSd
import Derived.Test.YtoejlmpbebjemaaGreatGZc
set_option linter.all false
set_option maxRecDepth 100000
namespace Go.Proofs.YtoejlmpbebjemaaGreat
open Go Go.Am ie eN
theorem I6:∀(zs:List Zn)(n:Int),0<=n->(∀z∈zs,z.ws.length<=1000001)->n+(zs.length:Int)*1000002<=4611686018427387904->
  zs.foldl (λn z=>IntKind.i64.wrap (n+IntKind.i64.wrap (1+(z.ws.length:Int)))) n=n+(zs.length:Int)+((zs.flatMap fh).length:Int)
 |[],n,_,_,_=>by simp
 |z::r,n,h0,hz,hb=>by
  have h1:=hz z zS;have e1:IntKind.i64.wrap (1+(z.ws.length:Int))=1+(z.ws.length:Int):=wrap64 zO zO;simp only[ahY] at hb;have e2:IntKind.i64.wrap (n+(1+(z.ws.length:Int)))=n+(1+(z.ws.length:Int)):=wrap64 zO zO;rw[ajb,e1,e2,I6 r _ zO (λy hy=>hz y (by simp[hy])) zO];have h3:(fh z).length=z.ws.length:=by simp[fh]
  rw[ahK,ahw,ahY,h3];omega
def Az {d:Dc}(h:Gl d=true)(hv:aU d=true):(dy d).length<=60/\(∀z∈d.zs,z.ws.length<=60):=by
 have hz:=(cG hv).2.1;have h4:=tF hz;have hws:∀z∈d.zs,z.ws.length<=1000001:=λz Ur=>by
  obtain⟨i,hi,e⟩:=bP z0 Ur;have:=D0 (fP (hz i hi)).2.2.2;rw[e] at this;exact this
 have hs:=I6 d.zs 0 zO hws zO;unfold Gl Rx at h;rw[hs] at h;simp only[ahG,ahH] at h;have hk:(dy d).length<=60:=by unfold dy;omega
 refine⟨hk,λz Ur=>?_⟩;have:(fh z).length<=(d.zs.flatMap fh).length:=by
  obtain⟨A,B,e⟩:=ajS Ur;rw[e,aid,ahK,ahw,ahw];omega
 have h3:(fh z).length=z.ws.length:=by simp[fh]
 unfold dy at hk;omega
def Pt {d:Dc}(h:Gl d=true):d.ns.length<=20:=by
 unfold Gl at h;simp only[ahG,ahH] at h;exact h.2
end Go.Proofs.YtoejlmpbebjemaaGreat
