/- The reference of layers 37 and 39, the parts that Build calls: words and numbers of a field, documents in order. The reference's test of documents (layer 37). The reference's terms (layer 39): the words of the fields of documents, in order, each once; the list is a box that is written to later. The reference's positions and columns (layer 39). The reference's Build (layer 39): the lists of the terms grow in place. The reference's Build (layer 39): the loops. The reference's Build (layer 39): the whole.
  Conditions: as the theorems say. -/
import Derived.Test.YtneohapkboaplaaGreatGBC
import Derived.Test.YtneohapkboaplaaGreatGRA
import Derived.Test.YtneohapkboaplaaGreatAmC
set_option linter.all false
set_option maxRecDepth 100000
namespace eB
open gH Go.Am
def yA:List Zn→Int→List Wd
 |[],_=>[]
 |z::r,f=>if z.f=f then z.ws else yA r f
theorem Gd (l:List Dc):(mF l).length=l.length:=(iY l).perm.length_eq
theorem iZ (l:List Nm):(jj l).Perm l:=by
 rw[wP];exact List.mergeSort_perm _ _
end eB
namespace Go.Proofs.YtneohapkboaplaaGreat
open Go Go.Am gH eB
end Go.Proofs.YtneohapkboaplaaGreat
namespace eB
end eB
namespace Go.Proofs.YtneohapkboaplaaGreat
open Go Go.Am gH eB
end Go.Proofs.YtneohapkboaplaaGreat
namespace eB
open gH Go.Am
abbrev k0:Ky:=(0,[])
def aal (l:List Ky):List AV:=l.flatMap fun k=>[.int .i64 k.1,.str k.2,.sl 0 [] .full]
def TR (h0:Nat)(J:List aG)(ks:List Ky)(tv:AV):Prop:=
 (ks=[]∧tv=.sl 0 [] .full)∨(∃i rest,tv=.cO i 0 ks.length∧h0≤i∧J[i]?=some (.cells (aal ks++rest))∧0<ks.length)
theorem TR.app {h0:Nat}{J:List aG}{ks:List Ky}{tv:AV}(h:TR h0 J ks tv)(G:List aG):TR h0 (J++G) ks tv:=by
 rcases h with h|⟨i,rest,h1,h2,h3,h4⟩
 ·exact .inl h
 ·exact .inr ⟨i,rest,h1,h2,by rw[List.getElem?_append_left (List.getElem?_eq_some_iff.1 h3).1];exact h3,h4⟩
end eB
namespace Go.Proofs.YtneohapkboaplaaGreat
open Go Go.Am gH eB
end Go.Proofs.YtneohapkboaplaaGreat
namespace eB
open gH Go.Am
def xu (ws:List Wd)(w:Bs):List Int:=(ws.filter fun x=>x.1==w).map (·.2)
end eB
namespace Go.Proofs.YtneohapkboaplaaGreat
open Go Go.Am gH eB
end Go.Proofs.YtneohapkboaplaaGreat
namespace eB
open gH Go.Am Go.Proofs.YtneohapkboaplaaGreat
structure Rw where
 k:Ky
 pl:List Ps
 tg:Tag
abbrev rwC (r:Rw):List AV:=[.int .i64 r.k.1,.str r.k.2,.sl r.pl.length (bp r.pl) r.tg]
def aae (l:List Rw):List AV:=l.flatMap rwC
def aaf (d:Dc)(k:Ky):List Int:=xu (yA d.zs k.1) k.2
end eB
namespace Go.Proofs.YtneohapkboaplaaGreat
open Go Go.Am gH eB
end Go.Proofs.YtneohapkboaplaaGreat
namespace eB
open gH Go.Am Go.Proofs.YtneohapkboaplaaGreat
def Tb (h0:Nat)(R:List Rw)(tv:AV)(TB:List (Nat×aG)):Prop:=(R=[]∧tv=.sl 0 [] .none∧TB=[])∨∃it rest,tv=.cO it 0 R.length∧TB=[(it,.cells (aae R++rest))]∧h0≤it
def kp (R:List Rw):List (Ky×List Ps):=R.map fun r=>(r.k,r.pl)
end eB
namespace Go.Proofs.YtneohapkboaplaaGreat
open Go Go.Am gH eB
end Go.Proofs.YtneohapkboaplaaGreat
namespace eB
open gH Go.Am Go.Proofs.YtneohapkboaplaaGreat
end eB
namespace Go.Proofs.YtneohapkboaplaaGreat
open Go Go.Am gH eB
end Go.Proofs.YtneohapkboaplaaGreat
namespace eB
open gH Go.Am Go.Proofs.YtneohapkboaplaaGreat
theorem Oh {zs:List Zn}(h:∀k,k<zs.length→nq zs k=true):∀j i,i<j→j<zs.length→(zs.getD i z0).f<(zs.getD j z0).f
 |0,i,h1,_=>absurd h1 (Nat.not_lt_zero _)
 |j+1,i,h1,h2=>by
  have h3:=(fc (h (j+1) h2)).1;unfold lz at h3;rw[if_neg (by omega),Nat.add_sub_cancel] at h3;rcases Nat.lt_or_ge i j with h4|h4
  ·have:=Oh h j i h4 (by omega);omega
  ·have:i=j:=by omega
   subst this;exact h3
theorem wG (k:Ky):∀zs:List Zn,(∀z∈zs,z.f≠k.1)→(ez zs).filter (fun w=>w.1==k)=[]
 |[],_=>rfl
 |z::r,h=>by
  have e:ez (z::r)=nm z.f z.ws++ez r:=by simp[ez]
  rw[e,List.filter_append,wG k r fun y hy=>h y (by simp[hy]),List.append_nil,List.filter_eq_nil_iff];intro w hw;obtain⟨x,_,rfl⟩:=List.mem_map.1 hw;have:=h z (by simp);simp only[beq_iff_eq];intro e;exact this (by rw[←e])
theorem Jh (f:Int)(ws:List Wd)(w:Bs):((nm f ws).filter fun x=>x.1==(f,w)).map (·.2)=xu ws w:=by
 unfold nm xu;rw[List.filter_map,List.map_map]
 congr 1
 apply List.filter_congr;intro x _;rw[Bool.eq_iff_iff];simp
theorem zO (k:Ky):∀zs:List Zn,(zs.Pairwise fun x y=>x.f≠y.f)→((ez zs).filter fun w=>w.1==k).map (·.2)=xu (yA zs k.1) k.2
 |[],_=>rfl
 |z::r,h=>by
  have ⟨h1,h2⟩:=List.pairwise_cons.1 h;have e:ez (z::r)=nm z.f z.ws++ez r:=by simp[ez]
  rw[e,List.filter_append,List.map_append];unfold yA
  by_cases hz:z.f=k.1
  ·rw[if_pos hz,wG k r fun y hy e=>h1 y hy (by rw[hz,e]),List.map_nil,List.append_nil];have:=Jh z.f z.ws k.2;rw[hz] at this ⊢;exact this
  ·rw[if_neg hz,←zO k r h2];have:(nm z.f z.ws).filter (fun w=>w.1==k)=[]:=by
    rw[List.filter_eq_nil_iff];intro w hw;obtain⟨x,_,rfl⟩:=List.mem_map.1 hw;simp only[beq_iff_eq];intro e;exact hz (by rw[←e])
   rw[this];rfl
theorem Gx {d:Dc}(h:bG d=true)(k:Ky):aaf d k=kC d k:=by
 have h1:=(dj h).2.1;refine(zO k d.zs ?_).symm;rw[List.pairwise_iff_getElem];intro i j hi hj lY;have:=Oh h1 j i lY hj;rw[List.getD_eq_getElem?_getD,List.getD_eq_getElem?_getD,List.getElem?_eq_getElem hi,List.getElem?_eq_getElem hj] at this;simp only[Option.getD_some] at this;omega
theorem jH {α β γ:Type}(f:α→List β)(g:α→List γ)(h:∀x,(f x).length≤(g x).length):∀l:List α,(l.flatMap f).length≤(l.flatMap g).length
 |[]=>by simp
 |x::r=>by
  have h1:=jH f g h r;have h2:=h x;rw[List.flatMap_cons,List.flatMap_cons,List.length_append,List.length_append];omega
theorem qA {α β:Type}(f:α→List β)(n:Nat):∀l:List α,(∀x∈l,(f x).length≤n)→(l.flatMap f).length≤l.length*n
 |[],_=>by simp
 |x::r,h=>by
  have h1:=qA f n r fun y hy=>h y (by simp[hy]);have h2:=h x (by simp);rw[List.flatMap_cons,List.length_append,List.length_cons,Nat.add_mul];omega
end eB
namespace Go.Proofs.YtneohapkboaplaaGreat
open Go Go.Am gH eB
end Go.Proofs.YtneohapkboaplaaGreat
