/- Small valid documents (layers 37, 39).
  Conditions: none. -/
import Derived.Test.YtoejlmpbebjemaaGreatGSd
import Derived.Test.YtoejlmpbebjemaaGreatGZc
set_option linter.all false
set_option maxRecDepth 100000
namespace Go.Proofs.YtoejlmpbebjemaaGreat
open Go Go.Am im eT
theorem Jl:∀(zs:List Zn)(n:Int),0<=n->(∀z∈zs,z.ws.length<=1000001)->n+(zs.length:Int)*1000002<=4611686018427387904->
  zs.foldl (λn z=>IntKind.i64.wrap (n+IntKind.i64.wrap (1+(z.ws.length:Int)))) n=n+(zs.length:Int)+((zs.flatMap fh).length:Int)
 |[],n,_,_,_=>by simp
 |z::r,n,h0,hz,hb=>by
  have h1:=hz z (by simp);have e1:IntKind.i64.wrap (1+(z.ws.length:Int))=1+(z.ws.length:Int):=wrap64 (by omega) (by omega);simp only[ahS] at hb;have e2:IntKind.i64.wrap (n+(1+(z.ws.length:Int)))=n+(1+(z.ws.length:Int)):=wrap64 (by omega) (by omega);rw[aiR,e1,e2,Jl r _ (by omega) (λy hy=>hz y (by simp[hy])) (by omega)];have h3:(fh z).length=z.ws.length:=by simp[fh]
  rw[ahy,ahk,ahS,h3];omega
def uB {d:Dc}(h:Cy d=true)(hv:aR d=true):(dn d).length<=60/\(∀z∈d.zs,z.ws.length<=60):=by
 have hz:=(bZ hv).2.1;have h4:=tn hz;have hws:∀z∈d.zs,z.ws.length<=1000001:=λz UF=>by
  obtain⟨i,hi,e⟩:=bH z0 UF;have:=DK (fO (hz i hi)).2.2.2;rw[e] at this;exact this
 have hs:=Jl d.zs 0 (by omega) hws (by omega);unfold Cy RF at h;rw[hs] at h;simp only[aht,ahv] at h;have hk:(dn d).length<=60:=by unfold dn;omega
 refine⟨hk,λz UF=>?_⟩;have:(fh z).length<=(d.zs.flatMap fh).length:=by
  obtain⟨A,B,e⟩:=ajF UF;rw[e,ahZ,ahy,ahk,ahk];omega
 have h3:(fh z).length=z.ws.length:=by simp[fh]
 unfold dn at hk;omega
def DX {d:Dc}(h:Cy d=true):d.ns.length<=20:=by
 unfold Cy at h;simp only[aht,ahv] at h;exact h.2
def MB {l:List Dc}(h:Df l=true):l.length<=8/\∀d∈l,Cy d=true:=by
 unfold Df at h;rw[aht,ahv] at h;refine⟨h.2,λd hd=>?_⟩;obtain⟨i,hi,e⟩:=bH d0 hd;rw[<-e];exact oC h.1 hi
end Go.Proofs.YtoejlmpbebjemaaGreat
