/- Small valid documents (layers 37, 39).
  Conditions: none. -/
import Derived.Test.YtneohapkboaplaaGreatGSd
import Derived.Test.YtneohapkboaplaaGreatGZc
set_option linter.all false
set_option maxRecDepth 100000
namespace Go.Proofs.YtneohapkboaplaaGreat
open Go Go.Am Sug Seg
theorem wsI_sum:∀(zs:List Zn)(n:Int),0≤n→(∀z∈zs,z.ws.length≤1000001)→n+(zs.length:Int)*1000002≤4611686018427387904→
  zs.foldl (fun n z=>IntKind.i64.wrap (n+IntKind.i64.wrap (1+(z.ws.length:Int)))) n=n+(zs.length:Int)+((zs.flatMap zkeys).length:Int)
 |[],n,_,_,_=>by simp
 |z::r,n,h0,hz,hb=>by
  have h1:=hz z (by simp);have e1:IntKind.i64.wrap (1+(z.ws.length:Int))=1+(z.ws.length:Int):=wrap64 (by omega) (by omega);simp only[List.length_cons] at hb;have e2:IntKind.i64.wrap (n+(1+(z.ws.length:Int)))=n+(1+(z.ws.length:Int)):=wrap64 (by omega) (by omega);rw[List.foldl_cons,e1,e2,wsI_sum r _ (by omega) (fun y hy=>hz y (by simp[hy])) (by omega)];have h3:(zkeys z).length=z.ws.length:=by simp[zkeys]
  rw[List.flatMap_cons,List.length_append,List.length_cons,h3];omega
theorem small_doc {d:Dc}(h:smR d=true)(hv:validD d=true):(dkeys d).length≤60∧(∀z∈d.zs,z.ws.length≤60):=by
 have hz:=(validD_parts hv).2.1;have h4:=valid_zs hz;have hws:∀z∈d.zs,z.ws.length≤1000001:=fun z hzm=>by
  obtain⟨i,hi,e⟩:=mem_getD z0 hzm;have:=valid_ws (okZn_parts (hz i hi)).2.2.2;rw[e] at this;exact this
 have hs:=wsI_sum d.zs 0 (by omega) hws (by omega);unfold smR wsI at h;rw[hs] at h;simp only[Bool.and_eq_true,decide_eq_true_eq] at h;have hk:(dkeys d).length≤60:=by unfold dkeys;omega
 refine⟨hk,fun z hzm=>?_⟩;have:(zkeys z).length≤(d.zs.flatMap zkeys).length:=by
  obtain⟨A,B,e⟩:=List.append_of_mem hzm;rw[e,List.flatMap_append,List.flatMap_cons,List.length_append,List.length_append];omega
 have h3:(zkeys z).length=z.ws.length:=by simp[zkeys]
 unfold dkeys at hk;omega
theorem small_ns {d:Dc}(h:smR d=true):d.ns.length≤20:=by
 unfold smR at h;simp only[Bool.and_eq_true,decide_eq_true_eq] at h;exact h.2
theorem few_parts {l:List Dc}(h:fewR l=true):l.length≤8∧∀d∈l,smR d=true:=by
 unfold fewR at h;rw[Bool.and_eq_true,decide_eq_true_eq] at h;refine⟨h.2,fun d hd=>?_⟩;obtain⟨i,hi,e⟩:=mem_getD d0 hd;rw[←e];exact all_at h.1 hi
end Go.Proofs.YtneohapkboaplaaGreat
