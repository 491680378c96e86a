/- The reference of layers 37 and 39, the parts that Build calls: words and numbers of a field, documents in order. The reference's test of documents (layer 37). The reference's terms (layer 39): the words of the fields of documents, in order, each once; the list is a box that is written to later. The reference's positions and columns (layer 39). The reference's Build (layer 39): the lists of the terms grow in place. The reference's Build (layer 39): the loops. The reference's Build (layer 39): the whole.
  Conditions: as the theorems say. -/
import Derived.Test.YtoejlmpbebjemaaGreatGBC
import Derived.Test.YtoejlmpbebjemaaGreatGRA
import Derived.Test.YtoejlmpbebjemaaGreatAmC
set_option linter.all false
set_option maxRecDepth 100000
namespace Seg
open Sug Go.Am
def wzf:List Zn→Int→List Wd
 |[],_=>[]
 |z::r,f=>if z.f=f then z.ws else wzf r f
theorem sortD_len (l:List Dc):(sortD l).length=l.length:=(sortD_inOrd l).perm.length_eq
theorem isortN_perm (l:List Nm):(isortN l).Perm l:=by
 rw[isortN_eq];exact List.mergeSort_perm _ _
end Seg
namespace Go.Proofs.YtoejlmpbebjemaaGreat
open Go Go.Am Sug Seg
end Go.Proofs.YtoejlmpbebjemaaGreat
namespace Seg
end Seg
namespace Go.Proofs.YtoejlmpbebjemaaGreat
open Go Go.Am Sug Seg
end Go.Proofs.YtoejlmpbebjemaaGreat
namespace Seg
open Sug Go.Am
abbrev k0:Ky:=(0,[])
def krAV (l:List Ky):List AV:=l.flatMap fun k=>[.int .i64 k.1,.str k.2,.sl 0 [] .full]
theorem insK_len (x:Ky):∀d:List Ky,(insK x d).length≤d.length+1
 |[]=>by simp[insK]
 |y::r=>by
  have:=insK_len x r;unfold insK
  split
  ·simp;omega
  ·split<;>simp
def insAll (a:List Ky)(l:List Ky):List Ky:=l.foldl (fun a k=>insK k a) a
theorem insAll_len (l:List Ky):∀a:List Ky,(insAll a l).length≤a.length+l.length:=by
 unfold insAll
 induction l with
 |nil=>intro a;simp
 |cons x r ih=>intro a;rw[List.foldl_cons];have:=ih (insK x a);have:=insK_len x a;simp;omega
def zkeys (z:Zn):List Ky:=z.ws.map fun w=>(z.f,w.1)
def dkeys (d:Dc):List Ky:=d.zs.flatMap zkeys
theorem dwds_keys (zs:List Zn):(dwds zs).map (·.1)=zs.flatMap zkeys:=by
 unfold dwds zwds zkeys;rw[List.map_flatMap];simp[List.map_map,Function.comp_def]
theorem keysF_all (L:List Dc):keysF L=insAll [] (L.flatMap dkeys):=by
 unfold keysF insAll dkeys
 congr 1
 congr 1
 funext d
 exact dwds_keys d.zs
def TR (h0:Nat)(J:List Blk)(ks:List Ky)(tv:AV):Prop:=
 (ks=[]∧tv=.sl 0 [] .full)∨(∃i rest,tv=.msl i 0 ks.length∧h0≤i∧J[i]?=some (.cells (krAV ks++rest))∧0<ks.length)
theorem TR.app {h0:Nat}{J:List Blk}{ks:List Ky}{tv:AV}(h:TR h0 J ks tv)(G:List Blk):TR h0 (J++G) ks tv:=by
 rcases h with h|⟨i,rest,h1,h2,h3,h4⟩
 ·exact .inl h
 ·exact .inr ⟨i,rest,h1,h2,by rw[List.getElem?_append_left (List.getElem?_eq_some_iff.1 h3).1];exact h3,h4⟩
end Seg
namespace Go.Proofs.YtoejlmpbebjemaaGreat
open Go Go.Am Sug Seg
end Go.Proofs.YtoejlmpbebjemaaGreat
namespace Seg
open Sug Go.Am
def posZ (ws:List Wd)(w:Bs):List Int:=(ws.filter fun x=>x.1==w).map (·.2)
end Seg
namespace Go.Proofs.YtoejlmpbebjemaaGreat
open Go Go.Am Sug Seg
end Go.Proofs.YtoejlmpbebjemaaGreat
namespace Seg
open Sug Go.Am Go.Proofs.YtoejlmpbebjemaaGreat
structure Rw where
 k:Ky
 pl:List Ps
 tg:Tag
abbrev rwC (r:Rw):List AV:=[.int .i64 r.k.1,.str r.k.2,.sl r.pl.length (psAV r.pl) r.tg]
def rwAV (l:List Rw):List AV:=l.flatMap rwC
def posR (d:Dc)(k:Ky):List Int:=posZ (wzf d.zs k.1) k.2
def pstR (d:Dc)(k:Ky):List Ps:=if posR d k=[] then [] else [(d.id,posR d k)]
end Seg
namespace Go.Proofs.YtoejlmpbebjemaaGreat
open Go Go.Am Sug Seg
end Go.Proofs.YtoejlmpbebjemaaGreat
namespace Seg
open Sug Go.Am Go.Proofs.YtoejlmpbebjemaaGreat
def Tb (h0:Nat)(R:List Rw)(tv:AV)(TB:List (Nat×Blk)):Prop:=(R=[]∧tv=.sl 0 [] .none∧TB=[])∨∃it rest,tv=.msl it 0 R.length∧TB=[(it,.cells (rwAV R++rest))]∧h0≤it
def kp (R:List Rw):List (Ky×List Ps):=R.map fun r=>(r.k,r.pl)
def colN (L:List Dc)(c:Nat):List Cl:=(List.range c).flatMap fun(c:Nat)=>colF L (5+(c:Int))
theorem colN_succ (L:List Dc)(c:Nat):colN L (c+1)=colN L c++colF L (5+(c:Int)):=by unfold colN;rw[List.range_succ,List.flatMap_append];simp
theorem colN_len (L:List Dc):∀c,(colN L c).length≤c
 |0=>by simp[colN]
 |c+1=>by
  have:=colN_len L c;have h2:(colF L (5+(c:Int))).length≤1:=by unfold colF;split<;>simp
  rw[colN_succ,List.length_append];omega
end Seg
namespace Go.Proofs.YtoejlmpbebjemaaGreat
open Go Go.Am Sug Seg
end Go.Proofs.YtoejlmpbebjemaaGreat
namespace Seg
open Sug Go.Am Go.Proofs.YtoejlmpbebjemaaGreat
theorem pstR_len (k:Ky):∀l:List Dc,(l.flatMap fun d=>pstR d k).length≤l.length
 |[]=>by simp
 |d::l=>by
  have:=pstR_len k l;have h2:(pstR d k).length≤1:=by unfold pstR;split<;>simp
  rw[List.flatMap_cons,List.length_append,List.length_cons];omega
end Seg
namespace Go.Proofs.YtoejlmpbebjemaaGreat
open Go Go.Am Sug Seg
end Go.Proofs.YtoejlmpbebjemaaGreat
namespace Seg
open Sug Go.Am Go.Proofs.YtoejlmpbebjemaaGreat
theorem zn_lt {zs:List Zn}(h:∀k,k<zs.length→okZn zs k=true):∀j i,i<j→j<zs.length→(zs.getD i z0).f<(zs.getD j z0).f
 |0,i,h1,_=>absurd h1 (Nat.not_lt_zero _)
 |j+1,i,h1,h2=>by
  have h3:=(okZn_parts (h (j+1) h2)).1;unfold lastZ at h3;rw[if_neg (by omega),Nat.add_sub_cancel] at h3;rcases Nat.lt_or_ge i j with h4|h4
  ·have:=zn_lt h j i h4 (by omega);omega
  ·have:i=j:=by omega
   subst this;exact h3
theorem posD_none (k:Ky):∀zs:List Zn,(∀z∈zs,z.f≠k.1)→(dwds zs).filter (fun w=>w.1==k)=[]
 |[],_=>rfl
 |z::r,h=>by
  have e:dwds (z::r)=zwds z.f z.ws++dwds r:=by simp[dwds]
  rw[e,List.filter_append,posD_none k r fun y hy=>h y (by simp[hy]),List.append_nil,List.filter_eq_nil_iff];intro w hw;obtain⟨x,_,rfl⟩:=List.mem_map.1 hw;have:=h z (by simp);simp only[beq_iff_eq];intro e;exact this (by rw[←e])
theorem zwds_pos (f:Int)(ws:List Wd)(w:Bs):((zwds f ws).filter fun x=>x.1==(f,w)).map (·.2)=posZ ws w:=by
 unfold zwds posZ;rw[List.filter_map,List.map_map]
 congr 1
 apply List.filter_congr;intro x _;rw[Bool.eq_iff_iff];simp
theorem posD_wzf (k:Ky):∀zs:List Zn,(zs.Pairwise fun x y=>x.f≠y.f)→((dwds zs).filter fun w=>w.1==k).map (·.2)=posZ (wzf zs k.1) k.2
 |[],_=>rfl
 |z::r,h=>by
  have ⟨h1,h2⟩:=List.pairwise_cons.1 h;have e:dwds (z::r)=zwds z.f z.ws++dwds r:=by simp[dwds]
  rw[e,List.filter_append,List.map_append];unfold wzf
  by_cases hz:z.f=k.1
  ·rw[if_pos hz,posD_none k r fun y hy e=>h1 y hy (by rw[hz,e]),List.map_nil,List.append_nil];have:=zwds_pos z.f z.ws k.2;rw[hz] at this ⊢;exact this
  ·rw[if_neg hz,←posD_wzf k r h2];have:(zwds z.f z.ws).filter (fun w=>w.1==k)=[]:=by
    rw[List.filter_eq_nil_iff];intro w hw;obtain⟨x,_,rfl⟩:=List.mem_map.1 hw;simp only[beq_iff_eq];intro e;exact hz (by rw[←e])
   rw[this];rfl
theorem posR_posD {d:Dc}(h:validD d=true)(k:Ky):posR d k=posD d k:=by
 have h1:=(validD_parts h).2.1;refine(posD_wzf k d.zs ?_).symm;rw[List.pairwise_iff_getElem];intro i j hi hj hij;have:=zn_lt h1 j i hij hj;rw[List.getD_eq_getElem?_getD,List.getD_eq_getElem?_getD,List.getElem?_eq_getElem hi,List.getElem?_eq_getElem hj] at this;simp only[Option.getD_some] at this;omega
theorem pstR_pst {d:Dc}(h:validD d=true)(k:Ky):pstR d k=pst d k:=by unfold pstR pst;rw[posR_posD h]
theorem postF_R {L:List Dc}(h:∀d∈L,validD d=true)(k:Ky):(L.flatMap fun d=>pstR d k)=postF L k:=by
 unfold postF
 induction L with
 |nil=>rfl
 |cons d r ih=>rw[List.flatMap_cons,List.flatMap_cons,pstR_pst (h d (by simp)),ih fun x hx=>h x (by simp[hx])]
theorem colN_F (L:List Dc):colN L 3=colsF L:=by
 unfold colsF;rw[colN_succ,colN_succ,colN_succ];simp[colN]
theorem flat_len {α β:Type}(f:α→List β)(n:Nat):∀l:List α,(∀x∈l,(f x).length≤n)→(l.flatMap f).length≤l.length*n
 |[],_=>by simp
 |x::r,h=>by
  have h1:=flat_len f n r fun y hy=>h y (by simp[hy]);have h2:=h x (by simp);rw[List.flatMap_cons,List.length_append,List.length_cons,Nat.add_mul];omega
end Seg
namespace Go.Proofs.YtoejlmpbebjemaaGreat
open Go Go.Am Sug Seg
end Go.Proofs.YtoejlmpbebjemaaGreat
