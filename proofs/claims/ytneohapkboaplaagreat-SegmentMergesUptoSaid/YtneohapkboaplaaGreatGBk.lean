/- What the bulk of a list of documents says of its size.
  Conditions: none. -/
import Derived.Test.YtneohapkboaplaaGreatGAd
import Derived.Test.YtneohapkboaplaaGreatGZc
set_option linter.all false
set_option maxRecDepth 100000
namespace Go.Proofs.YtneohapkboaplaaGreat
open Go Go.Am Go.ChangeShapes Go.WideShapes Go.RowKit Seg
theorem bulk_pos {H:Type}(d:DataW H):1≤Rows.uptoBulk d:=by
 cases d with
 |lit l=>cases l<;>simp[Rows.uptoBulk]
 |_=>simp[Rows.uptoBulk]
theorem bulk_sum {H:Type}:∀l:List (DataW H),Rows.uptoBulkAll l=(l.map Rows.uptoBulk).sum
 |[]=>by simp[Rows.uptoBulkAll]
 |d::r=>by rw[Rows.uptoBulkAll,bulk_sum r];simp
theorem bulk_len {H:Type}(l:List (DataW H)):l.length≤Rows.uptoBulkAll l:=by
 induction l with
 |nil=>simp[Rows.uptoBulkAll]
 |cons d r ih=>have:=bulk_pos d;rw[Rows.uptoBulkAll,List.length_cons];omega
section
variable {H : Type} {enc : TypeId × Value → H} {w : World} {base fuel : Nat} {sp : Nat → Bool} {held : Bool} {cs : List Value} {x : DataW H × List MemPlace} {P : Program} {t e : TypeId}
theorem rc_sliceB {G:List AV→Nat→Prop}(ht:P.underlying t=some (.slice e))(hp:0<P.cellsOf e)(he:∀n c y,DataW.trod enc P w base sp held n e c=some y→∃a,G a (Rows.uptoBulk y.1)∧RC w a c)
  (h:DataW.trod enc P w base sp held fuel t cs=some x):∃(len:Nat) (A:Nat→List AV) (B:Nat→Nat),(∀i,i<len→G (A i) (B i)∧1≤B i)∧len≤maxLen∧((List.range len).map B).sum+1≤Rows.uptoBulk x.1∧RC w [.sl len ((List.range len).map A).flatten .none] cs:=by
 rcases DataW.trod_slice ht h with⟨rfl,rfl⟩|⟨a,len,cap,elems,rest,n,_,rfl,hx,hb,hlc,hm,hel,hal,_,_⟩
 ·exact⟨0,fun _=>[],fun _=>0,fun i h=>absurd h (Nat.not_lt_zero _),Nat.zero_le _,by simpa using bulk_pos _,RC.one (.sl0 _ _ _ trivial) rfl⟩
 ·have hbl:((List.range len).map fun i=>Rows.uptoBulk ((elems.map (·.1)).getD i .nil)).sum+1≤Rows.uptoBulk x.1:=by
   rw[hx];show _≤Rows.uptoBulkAll _+Rows.uptoBulkAll _+1;rw[bulk_sum (elems.map (·.1))];have:(List.range len).map (fun i=>Rows.uptoBulk ((elems.map (·.1)).getD i .nil))=(elems.map (·.1)).map Rows.uptoBulk:=by
    apply List.ext_getElem
    ·simp[hel]
    ·intro i h1 h2;simp at h1 h2;rw[List.getElem_map,List.getElem_range,List.getElem_map,List.getD_eq_getElem?_getD,List.getElem?_eq_getElem (by simpa using h2)];rfl
   rw[this];omega
  have key:∀i,i<len→∃(c:List Value) (av:List AV),G av (Rows.uptoBulk ((elems.map (·.1)).getD i .nil))∧RC w av c∧c.length=P.cellsOf e∧∀j,j<P.cellsOf e→w.cell? ((a.add (i*P.cellsOf e)).add j)=c[j]?:=by
   intro i hi;have h1:=hal i hi;rw[List.getElem?_eq_getElem (by omega)] at h1;obtain⟨c,h2,h3⟩:=Option.bind_eq_some_iff.1 h1;obtain⟨_,h4,h5⟩:=World.cells?_some h2;obtain⟨av,h6,h7⟩:=he _ _ _ h3;refine⟨c,av,?_,h7,h4,h5⟩;rw[List.getD_eq_getElem?_getD,List.getElem?_map,List.getElem?_eq_getElem (by omega)];exact h6
  rcases Nat.eq_zero_or_pos len with h0|h0
  ·subst h0;exact⟨0,fun _=>[],fun _=>0,fun i h=>absurd h (Nat.not_lt_zero _),Nat.zero_le _,by simpa using bulk_pos _,RC.one (.sl0 _ _ _ trivial) rfl⟩
  have hspot:a.spot=none:=by
   obtain⟨c,_,_,_,h4,h5⟩:=key 0 h0;have:=h5 0 hp;rw[List.getElem?_eq_getElem (by omega)] at this;have h6:=World.cell?_spot (a:=(a.add (0*P.cellsOf e)).add 0) this;simpa[Addr.add] using h6
  obtain⟨ab,ao,asp⟩:=a;simp only at hspot;subst hspot
  let C:Nat→List Value:=fun i=>if h:i<len then Classical.choose (key i h) else []
  let A:Nat→List AV:=fun i=>if h:i<len then Classical.choose (Classical.choose_spec (key i h)) else []
  have hCA:∀i,i<len→G (A i) (Rows.uptoBulk ((elems.map (·.1)).getD i .nil))∧RC w (A i) (C i)∧(C i).length=P.cellsOf e∧∀j,j<P.cellsOf e→w.cell? ⟨ab,ao+(i*P.cellsOf e+j),none⟩=(C i)[j]?:=by
   intro i hi;have:=Classical.choose_spec (Classical.choose_spec (key i hi));simp only[C,A,dif_pos hi];refine⟨this.1,this.2.1,this.2.2.1,fun j hj=>?_⟩;rw[←this.2.2.2 j hj];rw[Addr.add_add];unfold Addr.add
   split
   ·rename_i h0;rw[h0];rfl
   ·rfl
  refine⟨len,A,fun i=>Rows.uptoBulk ((elems.map (·.1)).getD i .nil),fun i hi=>⟨(hCA i hi).1,bulk_pos _⟩,Nat.le_trans hlc hm,hbl,?_⟩;have hA:∀av∈(List.range len).map A,av.length=P.cellsOf e:=by
   intro av hav;obtain⟨i,hi,rfl⟩:=List.mem_map.1 hav;obtain⟨_,h1,h2,_⟩:=hCA i (List.mem_range.1 hi);rw[←h1.1];exact h2
  have hC:∀c∈(List.range len).map C,c.length=P.cellsOf e:=by
   intro c hc;obtain⟨i,hi,rfl⟩:=List.mem_map.1 hc;exact(hCA i (List.mem_range.1 hi)).2.2.1
  have hlA:=Go.Am.flat_len _ hA;have hlC:=Go.Am.flat_len _ hC;simp only[List.length_map,List.length_range] at hlA hlC;have hcell:∀j,j<len*P.cellsOf e→w.cell? ⟨ab,ao+j,none⟩=((List.range len).map C).flatten[j]?:=by
   intro j hj;have hi:j / P.cellsOf e<len:=by rw[Nat.div_lt_iff_lt_mul hp];exact hj
   have hr:j % P.cellsOf e<P.cellsOf e:=Nat.mod_lt _ hp;have e1:j / P.cellsOf e*P.cellsOf e+j % P.cellsOf e=j:=by rw[Nat.mul_comm];exact Nat.div_add_mod _ _
   have h1:=(hCA _ hi).2.2.2 _ hr;have h2:=flat_get _ hC (j / P.cellsOf e) (j % P.cellsOf e) (by simpa using hi) hr;rw[e1] at h1 h2;rw[h1,h2];simp
  refine RC.one ?_ rfl;have hrep:RC w ((List.range len).map A).flatten ((List.range len).map C).flatten:=RC.flatten (c:=0) _ _ (by simp) fun i hi hi'=>by
   simp only[List.getElem_map,List.getElem_range];exact(hCA i (by simpa using hi)).2.1
  refine Rep.sl_mk hlc ?_ hrep (fun j hj=>hcell j (by rw[hlA] at hj;exact hj)) trivial;rw[hlA];have hpos:0<len*P.cellsOf e:=Nat.mul_pos h0 hp;have hlast:=hcell (len*P.cellsOf e-1) (by omega);rw[List.getElem?_eq_getElem (by rw[hlC];omega)] at hlast;have:=cell_m0 hlast;show ao+len*P.cellsOf e≤m0 w ab;omega
theorem range_list {α:Type}{f:α→List AV}{μ:α→Nat}{R:α→Prop}{A:Nat→List AV}{B:Nat→Nat}:∀len:Nat,(∀i,i<len→∃p:α,R p∧μ p≤B i∧A i=f p)→
  ∃l:List α,l.length=len∧((List.range len).map A).flatten=l.flatMap f∧(l.map μ).sum≤((List.range len).map B).sum∧∀x∈l,R x
 |0,_=>⟨[],rfl,rfl,by simp,fun x hx=>by simp at hx⟩
 |n+1,h=>by
  obtain⟨l,h1,h2,h3,h4⟩:=range_list n (fun i hi=>h i (by omega));obtain⟨p,k1,k2,k3⟩:=h n (by omega);refine⟨l++[p],by simp[h1],?_,?_,fun x hx=>?_⟩
  ·rw[List.range_succ,List.map_append,List.flatten_append,h2,List.flatMap_append];simp[k3]
  ·rw[List.range_succ,List.map_append,List.map_append,List.sum_append,List.sum_append];simp;omega
  ·rcases List.mem_append.1 hx with hx|hx
   ·exact h4 x hx
   ·obtain rfl:=List.mem_singleton.1 hx;exact k1
theorem rc_listB {α:Type}{f:α→List AV}{μ:α→Nat}{R:α→Prop}(ht:P.underlying t=some (.slice e))(hp:0<P.cellsOf e)
  (he:∀n c y,DataW.trod enc P w base sp held n e c=some y→∃a:α,R a∧μ a≤Rows.uptoBulk y.1∧RC w (f a) c) (h:DataW.trod enc P w base sp held fuel t cs=some x) :
  ∃l:List α,(∀a∈l,R a)∧l.length≤maxLen∧(l.map μ).sum+1≤Rows.uptoBulk x.1∧RC w [.sl l.length (l.flatMap f) .none] cs:=by
 obtain⟨len,A,B,g1,g2,g3,g4⟩:=rc_sliceB (G:=fun a n=>∃p:α,R p∧μ p≤n∧a=f p) ht hp (fun n c y hy=>by
  obtain⟨p,hp,hb,hr⟩:=he n c y hy;exact⟨_,⟨p,hp,hb,rfl⟩,hr⟩) h
 obtain⟨l,k1,k2,k3,k4⟩:=range_list (f:=f) (μ:=μ) (R:=R) len (fun i hi=>(g1 i hi).1);rw[k2,←k1] at g4;exact⟨l,k4,by omega,by omega,g4⟩
theorem rc_fieldsB {fs:Array Field}(ht:P.underlying t=some (.struct fs))(h:DataW.trod enc P w base sp held fuel t cs=some x):∃ys:List (DataW H),ys.length=fs.size∧Rows.uptoBulk x.1=Rows.uptoBulkAll ys+1∧cs.length=P.cellsOf t∧
  ∀(i:Nat)(f:Field),fs[i]?=some f→∃n y,DataW.trod enc P w base sp held n f.type ((cs.drop f.offset).take (P.cellsOf f.type))=some y∧ys[i]?=some y.1:=by
 obtain⟨xs,n,_,hxx,hl,hx,hf⟩:=DataW.trod_struct ht h;refine⟨xs.map (·.1),by simp[hx],by rw[hxx,Rows.uptoBulk],hl,fun i f hi=>?_⟩;have hlt:i<xs.length:=by rw[hx];exact(Array.getElem?_eq_some_iff.1 hi).1
 exact⟨n,xs[i],by rw[hf i f hi,List.getElem?_eq_getElem hlt],by rw[List.getElem?_map,List.getElem?_eq_getElem hlt];rfl⟩
theorem bulk2 {ys:List (DataW H)}{a b:DataW H}(hl:ys.length=2)(h0:ys[0]?=some a)(h1:ys[1]?=some b):Rows.uptoBulkAll ys=Rows.uptoBulk a+Rows.uptoBulk b:=by
 match ys,hl with
 |[x,y],_=>cases h0;cases h1;simp[Rows.uptoBulkAll]
theorem bulk3 {ys:List (DataW H)}{a b c:DataW H}(hl:ys.length=3)(h0:ys[0]?=some a)(h1:ys[1]?=some b)(h2:ys[2]?=some c):Rows.uptoBulkAll ys=Rows.uptoBulk a+Rows.uptoBulk b+Rows.uptoBulk c:=by
 match ys,hl with
 |[x,y,z],_=>cases h0;cases h1;cases h2;simp[Rows.uptoBulkAll];omega
end
section
variable {H : Type} {enc : TypeId × Value → H} {w : World} {base fuel : Nat} {sp : Nat → Bool} {held : Bool} {cs : List Value} {x : DataW H × List MemPlace}
theorem struct2B {t:TypeId}{fs:Array Field}(h2:fs.size=2)(ht:Tryz.prog.underlying t=some (.struct fs))(h:DataW.trod enc Tryz.prog w base sp held fuel t cs=some x):3≤Rows.uptoBulk x.1:=by
 obtain⟨ys,g1,g2,_,_⟩:=rc_fieldsB ht h;have:=bulk_len ys;omega
set_option maxRecDepth 100000 in
theorem rc_znB (h:DataW.trod enc Tryz.prog w base sp held fuel 98 cs=some x):∃z:Zn,SzZ z∧3*z.ws.length+3≤Rows.uptoBulk x.1∧RC w (znC z) cs:=by
 obtain⟨ys,hyl,hyb,hlen,hf⟩:=rc_fieldsB Tryz.underlying98 h;obtain⟨n0,y0,g0',e0⟩:=hf 0 _ rfl;have g0:DataW.trod enc Tryz.prog w base sp held n0 3 ((cs.drop 0).take (Tryz.prog.cellsOf 3))=some y0:=g0';obtain⟨n1,y1,g1',e1⟩:=hf 1 _ rfl;have g1:DataW.trod enc Tryz.prog w base sp held n1 61 ((cs.drop 1).take (Tryz.prog.cellsOf 61))=some y1:=g1';rw[show Tryz.prog.cellsOf 3=1 by kernel_rfl] at g0;rw[show Tryz.prog.cellsOf 61=1 by kernel_rfl] at g1;rw[show Tryz.prog.cellsOf 98=2 by kernel_rfl] at hlen;rw[bulk2 hyl e0 e1] at hyb;have hp0:=bulk_pos y0.1;obtain⟨a,_,b0⟩:=rc_int Tryz.underlying3 g0;obtain⟨l,q1,q2,q3,b1⟩:=rc_listB (f:=wdC) (R:=fun p=>p.1.length≤maxLen) (μ:=fun _=>3) Tryz.underlying61 (by rw[show Tryz.prog.cellsOf 71=2 by kernel_rfl];omega) (fun n c y hy=>by
  obtain⟨p,hp,hr⟩:=rc_wd hy;exact⟨p,hp,struct2B rfl Tryz.underlying71 hy,hr⟩) g1
 have e3:(l.map fun _=>3).sum=3*l.length:=by
  clear q1 q2 q3 b1
  induction l with
  |nil=>rfl
  |cons x r ih=>simp at ih ⊢;omega
 match cs,hlen with
 |[x,y],_=>exact⟨⟨a,l⟩,⟨q2,q1⟩,by show 3*l.length+3≤_;omega,b0.append b1⟩
set_option maxRecDepth 100000 in
theorem rc_dcB (h:DataW.trod enc Tryz.prog w base sp held fuel 66 cs=some x):∃d:Dc,SzD d∧3*(dkeys d).length+3*d.ns.length+4≤Rows.uptoBulk x.1∧RC w (dcC d) cs:=by
 obtain⟨ys,hyl,hyb,hlen,hf⟩:=rc_fieldsB Tryz.underlying66 h;obtain⟨n0,y0,g0',e0⟩:=hf 0 _ rfl;have g0:DataW.trod enc Tryz.prog w base sp held n0 3 ((cs.drop 0).take (Tryz.prog.cellsOf 3))=some y0:=g0';obtain⟨n1,y1,g1',e1⟩:=hf 1 _ rfl;have g1:DataW.trod enc Tryz.prog w base sp held n1 63 ((cs.drop 1).take (Tryz.prog.cellsOf 63))=some y1:=g1';obtain⟨n2,y2,g2',e2⟩:=hf 2 _ rfl;have g2:DataW.trod enc Tryz.prog w base sp held n2 64 ((cs.drop 2).take (Tryz.prog.cellsOf 64))=some y2:=g2';rw[show Tryz.prog.cellsOf 3=1 by kernel_rfl] at g0;rw[show Tryz.prog.cellsOf 63=1 by kernel_rfl] at g1;rw[show Tryz.prog.cellsOf 64=1 by kernel_rfl] at g2;rw[show Tryz.prog.cellsOf 66=3 by kernel_rfl] at hlen;rw[bulk3 hyl e0 e1 e2] at hyb;have hp0:=bulk_pos y0.1;obtain⟨a,_,b0⟩:=rc_int Tryz.underlying3 g0;obtain⟨zs,p1,p2,p5,b1⟩:=rc_listB (f:=znC) (R:=SzZ) (μ:=fun z=>3*z.ws.length) Tryz.underlying63 (by rw[show Tryz.prog.cellsOf 98=2 by kernel_rfl];omega) (fun n c y hy=>by
  obtain⟨p,hp,hb,hr⟩:=rc_znB hy;exact⟨p,hp,by omega,hr⟩) g1
 obtain⟨ns,_,p4,p6,b2⟩:=rc_listB (f:=nmC) (R:=fun _=>True) (μ:=fun _=>3) Tryz.underlying64 (by rw[show Tryz.prog.cellsOf 100=2 by kernel_rfl];omega) (fun n c y hy=>by
  obtain⟨p,hp,hr⟩:=rc_nm hy;exact⟨p,hp,struct2B rfl Tryz.underlying100 hy,hr⟩) g2
 have e3:(ns.map fun _=>3).sum=3*ns.length:=by
  clear p4 p6 b2
  induction ns with
  |nil=>rfl
  |cons x r ih=>simp at ih ⊢;omega
 have e4:(zs.map fun z=>3*z.ws.length).sum=3*(zs.flatMap zkeys).length:=by
  clear p1 p2 p5 b1
  induction zs with
  |nil=>rfl
  |cons x r ih=>simp only[List.map_cons,List.sum_cons,List.flatMap_cons,List.length_append,ih,zkeys,List.length_map];omega
 match cs,hlen with
 |[x,y,z],_=>exact⟨⟨a,zs,ns⟩,⟨p2,p1,p4⟩,by show 3*(zs.flatMap zkeys).length+3*ns.length+4≤_;omega,(b0.append b1).append b2⟩
set_option maxRecDepth 100000 in
theorem av_docs39B {v:Value}{d:DataW H}{ps:List MemPlace}{r:Reach}{b0:Nat}(hval:Value.okWide Tryz.prog w r b0 22 v)(h:DataW.Trod enc Tryz.prog w base sp held 22 v d ps) :
  ∃l:List Dc,((∀d∈l,SzD d)∧3*(l.flatMap dkeys).length+3*(l.flatMap fun d=>d.ns).length+4*l.length≤Rows.uptoBulk d)∧Rep (lay0 w) 0 [] w (.sl l.length (dcAV l) .none) v:=by
 obtain⟨a,l,c,rfl⟩:=okWide_slice Tryz.underlying22 hval;obtain⟨fuel,hf⟩:=h;obtain⟨l,k1,k2,k3,k4⟩:=rc_listB (f:=dcC) (R:=SzD) (μ:=fun d=>3*(dkeys d).length+3*d.ns.length+4) Tryz.underlying22 (by rw[show Tryz.prog.cellsOf 66=3 by kernel_rfl];omega) (fun n c y hy=>rc_dcB hy) hf;have e:(l.map fun d=>3*(dkeys d).length+3*d.ns.length+4).sum=3*(l.flatMap dkeys).length+3*(l.flatMap fun d=>d.ns).length+4*l.length:=by
  clear k1 k2 k3 k4 hf
  induction l with
  |nil=>rfl
  |cons x r ih=>simp only[List.map_cons,List.sum_cons,List.flatMap_cons,List.length_append,List.length_cons,ih];omega
 exact⟨l,⟨k1,by rw[←e];exact Nat.le_trans (Nat.le_succ _) k3⟩,k4.rep⟩
end
end Go.Proofs.YtneohapkboaplaaGreat
