/- The reference's Build (layer 39): the whole.
  Conditions: lengths below 400 or 1000, as each theorem says. -/
import Derived.Test.YtneohapkboaplaaGreatGTf
set_option linter.all false
set_option maxRecDepth 100000
namespace Seg
open Sug Go.Am Go.Proofs.YtneohapkboaplaaGreat
theorem zn_lt {zs:List Zn}(h:∀k,k<zs.length→okZn zs k=true):∀j i,i<j→j<zs.length→(zs.getD i z0).f<(zs.getD j z0).f
 |0,i,h1,_=>absurd h1 (Nat.not_lt_zero _)
 |j+1,i,h1,h2=>by
  have h3:=(okZn_parts (h (j+1) h2)).1
  unfold lastZ at h3
  rw[if_neg (by omega),Nat.add_sub_cancel] at h3
  rcases Nat.lt_or_ge i j with h4|h4
  ·have:=zn_lt h j i h4 (by omega);omega
  ·have:i=j:=by omega
   subst this;exact h3
theorem posD_none (k:Ky):∀zs:List Zn,(∀z∈zs,z.f≠k.1)→(dwds zs).filter (fun w=>w.1==k)=[]
 |[],_=>rfl
 |z::r,h=>by
  have e:dwds (z::r)=zwds z.f z.ws++dwds r:=by simp[dwds]
  rw[e,List.filter_append,posD_none k r fun y hy=>h y (by simp[hy]),List.append_nil,List.filter_eq_nil_iff]
  intro w hw
  obtain⟨x,_,rfl⟩:=List.mem_map.1 hw
  have:=h z (by simp)
  simp only[beq_iff_eq]
  intro e;exact this (by rw[←e])
theorem zwds_pos (f:Int)(ws:List Wd)(w:Bs):((zwds f ws).filter fun x=>x.1==(f,w)).map (·.2)=posZ ws w:=by
 unfold zwds posZ
 rw[List.filter_map,List.map_map]
 congr 1
 apply List.filter_congr
 intro x _
 rw[Bool.eq_iff_iff]
 simp
theorem posD_wzf (k:Ky):∀zs:List Zn,(zs.Pairwise fun x y=>x.f≠y.f)→((dwds zs).filter fun w=>w.1==k).map (·.2)=posZ (wzf zs k.1) k.2
 |[],_=>rfl
 |z::r,h=>by
  have ⟨h1,h2⟩:=List.pairwise_cons.1 h
  have e:dwds (z::r)=zwds z.f z.ws++dwds r:=by simp[dwds]
  rw[e,List.filter_append,List.map_append]
  unfold wzf
  by_cases hz:z.f=k.1
  ·rw[if_pos hz,posD_none k r fun y hy e=>h1 y hy (by rw[hz,e]),List.map_nil,List.append_nil]
   have:=zwds_pos z.f z.ws k.2
   rw[hz] at this ⊢
   exact this
  ·rw[if_neg hz,←posD_wzf k r h2]
   have:(zwds z.f z.ws).filter (fun w=>w.1==k)=[]:=by
    rw[List.filter_eq_nil_iff]
    intro w hw
    obtain⟨x,_,rfl⟩:=List.mem_map.1 hw
    simp only[beq_iff_eq]
    intro e;exact hz (by rw[←e])
   rw[this];rfl
theorem posR_posD {d:Dc}(h:validD d=true)(k:Ky):posR d k=posD d k:=by
 have h1:=(validD_parts h).2.1
 refine(posD_wzf k d.zs ?_).symm
 rw[List.pairwise_iff_getElem]
 intro i j hi hj hij
 have:=zn_lt h1 j i hij hj
 rw[List.getD_eq_getElem?_getD,List.getD_eq_getElem?_getD,List.getElem?_eq_getElem hi,List.getElem?_eq_getElem hj] at this
 simp only[Option.getD_some] at this
 omega
theorem pstR_pst {d:Dc}(h:validD d=true)(k:Ky):pstR d k=pst d k:=by unfold pstR pst;rw[posR_posD h]
theorem postF_R {L:List Dc}(h:∀d∈L,validD d=true)(k:Ky):(L.flatMap fun d=>pstR d k)=postF L k:=by
 unfold postF
 induction L with
 |nil=>rfl
 |cons d r ih=>rw[List.flatMap_cons,List.flatMap_cons,pstR_pst (h d (by simp)),ih fun x hx=>h x (by simp[hx])]
theorem colN_F (L:List Dc):colN L 3=colsF L:=by
 unfold colsF
 rw[colN_succ,colN_succ,colN_succ]
 simp[colN]
theorem flat_part {α β:Type}(f:α→List β){l:List α}{x:α}(h:x∈l):(f x).length≤(l.flatMap f).length:=by
 obtain⟨A,B,rfl⟩:=List.append_of_mem h
 rw[List.flatMap_append,List.flatMap_cons,List.length_append,List.length_append];omega
theorem flat_le {α β γ:Type}(f:α→List β)(g:α→List γ)(h:∀x,(f x).length≤(g x).length):∀l:List α,(l.flatMap f).length≤(l.flatMap g).length
 |[]=>by simp
 |x::r=>by
  have h1:=flat_le f g h r
  have h2:=h x
  rw[List.flatMap_cons,List.flatMap_cons,List.length_append,List.length_append];omega
theorem flat_perm {α β:Type}(f:α→List β){l m:List α}(h:l.Perm m):(l.flatMap f).length=(m.flatMap f).length:=(h.flatMap_right f).length_eq
theorem flat_len {α β:Type}(f:α→List β)(n:Nat):∀l:List α,(∀x∈l,(f x).length≤n)→(l.flatMap f).length≤l.length*n
 |[],_=>by simp
 |x::r,h=>by
  have h1:=flat_len f n r fun y hy=>h y (by simp[hy])
  have h2:=h x (by simp)
  rw[List.flatMap_cons,List.length_append,List.length_cons,Nat.add_mul];omega
end Seg
namespace Go.Proofs.YtneohapkboaplaaGreat
open Go Go.Am Sug Seg
theorem frz_rowsR {n0 t0:Nat}{J:List Blk}{R:List Rw}{tv:AV}{TB:List (Nat×Blk)}(h:Tb n0 R tv TB)(hJ:∀p∈TB,J[p.1]?=some p.2):Frz n0 t0 J tv (.sl R.length (tmAV (R.map fun r=>(⟨r.k.1,r.k.2,r.pl⟩:Tm))) .none):=by
 rcases h with⟨rfl,rfl,_⟩|⟨it,rest,rfl,rfl,hit⟩
 ·exact .keep (.inr rfl) (by simp[tmAV_nil])
 ·have hH:=hJ _ (List.mem_singleton.2 rfl)
  have h2:tmAV (R.map fun r=>(⟨r.k.1,r.k.2,r.pl⟩:Tm))=R.flatMap fun r=>tmC ⟨r.k.1,r.k.2,r.pl⟩:=by simp[tmAV,List.flatMap_map]
  rw[h2]
  refine .msl hit hH ?_ fun j hj=>?_
  ·rw[List.length_append,rows_len (f:=fun r:Rw=>tmC ⟨r.k.1,r.k.2,r.pl⟩) (k:=3) (fun _=>rfl),rwAV_len];omega
  ·rw[Nat.zero_add]
   refine frz_rows (fa:=rwC) (fb:=fun r=>tmC ⟨r.k.1,r.k.2,r.pl⟩) (k:=3) rw_rows (fun _=>rfl) R (fun r _ j hj=>?_) rest j hj
   match j,hj with
   |0,_=>exact .keep (.inl rfl) (.int _ _)
   |1,_=>exact .keep (.inl rfl) (.str _)
   |2,_=>exact .keep (.inr rfl) (by simp)
attribute [-simp] List.getD_eq_getElem?_getD in
set_option maxHeartbeats 8000000 in
theorem buildR_main (L:List Dc)(hL:L.length≤2000)(hs:∀d∈L,SzD d)(hv:∀d∈L,validD d=true)(hdk:(L.flatMap dkeys).length≤1000000)(hnt:(L.flatMap fun d=>d.ns).length≤1000000)(H:List Blk)(T:Toks)
  (HO:HOk (H++[.cells [.sl 0 [] .full,.sl 0 [] .full,.sl 0 [] .full]]) T) :
  AW ⟨Tryz.prog,135,12,H.length,T.length,[]⟩ (subC [1,1,1,1,1] (Tryz.f14.body.getD .skip)) (RetQ Tryz.prog Tryz.f14.results.toList (BQ H T (.tup [sgAV ⟨L.map (·.id),termsF L,colsF L⟩,.int .i64 0])))
   ⟨[(0,.sl L.length (dcAV L) .none),(2,.ptr H.length 0)],H++[.cells [.sl 0 [] .full,.sl 0 [] .full,.sl 0 [] .full]],T⟩:=by
 conv=>arg 2;whnf
 have hn:∀d∈L,d.ns.length≤1000000:=fun d hd=>Nat.le_trans (flat_part (fun d:Dc=>d.ns) hd) hnt
 have hw:∀d∈L,∀z∈d.zs,z.ws.length≤1000000:=fun d hd z hz=>by
  have h1:=flat_part dkeys hd
  have h2:=flat_part zkeys hz
  have h3:(zkeys z).length=z.ws.length:=by simp[zkeys]
  unfold dkeys at h1 hdk
  omega
 have hit:∀f,(itsF L f).length≤1000000:=fun f=>Nat.le_trans (flat_le _ _ (fun d:Dc=>by
  rw[List.length_map];exact List.length_filter_le _ _) L) hnt
 have hkl:(keysF L).length≤1000000:=by
  rw[keysF_all]
  have:=insAll_len (L.flatMap dkeys) []
  rw[List.length_nil,Nat.zero_add] at this
  omega
 have key:∀(G:List Blk)(tv:AV),((keysF L=[]∧tv=.sl 0 [] .none)∨∃it rest,tv=.msl it 0 (keysF L).length∧(H++[Blk.cells [.sl 0 [] .full,.sl 0 [] .full,.sl 0 [] .full]]).length≤it∧(H++[Blk.cells [.sl 0 [] .full,.sl 0 [] .full,.sl 0 [] .full]]++G)[it]?=some (.cells (krAV (keysF L)++rest))∧0<(keysF L).length)→
   AW ⟨Tryz.prog,135,12,H.length,T.length,[]⟩ (subC [1,1,1,1,1,1] (Tryz.f14.body.getD .skip)) (RetQ Tryz.prog Tryz.f14.results.toList (BQ H T (.tup [sgAV ⟨L.map (·.id),termsF L,colsF L⟩,.int .i64 0])))
    ⟨[(0,.sl L.length (dcAV L) .none),(2,.ptr H.length 0),(6,.ptr (H.length+(G.length+1)) 0)],(H++.cells [.sl 0 [] .full,.sl 0 [] .full,.sl 0 [] .full]::G)++[.cells [.sl 0 [] .full,tv,.sl 0 [] .full]],T⟩:=by
  intro G tv htv
  conv=>arg 2;whnf
  refine aw_ownC 1 0 (H++.cells [.sl 0 [] .full,.sl 0 [] .full,.sl 0 [] .full]::G) [.sl 0 [] .full,tv,.sl 0 [] .full] 0 [] (by omega) rfl (by simp) ?_
  refine aw_ownC 2 2 (H++.cells [.sl 0 [] .full,.sl 0 [] .full,.sl 0 [] .full]::G) [.sl 0 [] (.own T.length),tv,.sl 0 [] .full] 0 [] (by omega) rfl (by simp) ?_
  refine aw_hok fun HO4=>?_
  simp only[List.length_append,List.length_cons,List.length_nil,List.set_cons_zero,List.set_cons_succ,Nat.zero_add] at HO4 ⊢
  have hRI:∃R,kp R=(keysF L).map (fun k=>(k,[]))∧RI H T H.length (H.length+(G.length+1)) [(T.length,(0,1)),(T.length+1,(0,2))] (.sl 0 [] (.own T.length)) tv (.sl 0 [] (.own (T.length+1))) (.cells [.sl 0 [] .full,.sl 0 [] .full,.sl 0 [] .full]) R
    (H++.cells [.sl 0 [] .full,.sl 0 [] .full,.sl 0 [] .full]::G++[.cells [.sl 0 [] (.own T.length),tv,.sl 0 [] (.own (T.length+1))]]) (T++[(0,1)]++[(0,2)]):=by
   have hb2:∀X:List Blk,(H++Blk.cells [.sl 0 [] .full,.sl 0 [] .full,.sl 0 [] .full]::G++X)[H.length]?=some (.cells [.sl 0 [] .full,.sl 0 [] .full,.sl 0 [] .full]):=fun X=>by simp
   have hb6:(H++Blk.cells [.sl 0 [] .full,.sl 0 [] .full,.sl 0 [] .full]::G++[Blk.cells [.sl 0 [] (.own T.length),tv,.sl 0 [] (.own (T.length+1))]])[H.length+(G.length+1)]?=some (.cells [.sl 0 [] (.own T.length),tv,.sl 0 [] (.own (T.length+1))]):=by
    rw[List.getElem?_append_right (by simp)];simp
   refine⟨(keysF L).map fun k=>⟨k,[],.full⟩,by simp[kp,List.map_map,Function.comp_def],?_⟩
   have hrow:rowT ((keysF L).map fun k=>(⟨k,[],.full⟩:Rw))=[]:=by
    unfold rowT
    rw[List.flatMap_map]
    simp[tokR]
   have hkr:rwAV ((keysF L).map fun k=>(⟨k,[],.full⟩:Rw))=krAV (keysF L):=by unfold rwAV krAV;rw[List.flatMap_map];rfl
   refine⟨?_,?_,fun x hx=>?_,⟨_,by rw[List.append_assoc]⟩,⟨_,by rw[List.append_assoc]⟩⟩
   ·rcases htv with⟨h1,h2⟩|⟨it,rest,h1,h2,h3,h4⟩
    ·refine⟨[],.inl ⟨by rw[h1];rfl,h2,rfl⟩,⟨by simp,fun p hp=>?_⟩⟩
     simp at hp
     rcases hp with rfl|rfl
     ·exact hb2 _
     ·exact hb6
    ·have hlt:=(List.getElem?_eq_some_iff.1 h3).1
     have hne2:it≠H.length:=fun e=>by
      rw[e] at h3
      rw[show (H++[Blk.cells [.sl 0 [] .full,.sl 0 [] .full,.sl 0 [] .full]]++G)[H.length]?=some (.cells [.sl 0 [] .full,.sl 0 [] .full,.sl 0 [] .full]) by simp] at h3
      injection h3 with h3
      injection h3 with h3
      have hh:=congrArg (fun l=>l.getD 0 .top) h3
      have h5:(krAV (keysF L)++rest).getD 0 .top=.int .i64 ((keysF L).getD 0 k0).1:=by
       have:=krAV_cut (keysF L) rest 0 h4
       rw[Nat.zero_mul,List.drop_zero] at this
       have h6:=congrArg (fun l=>l.getD 0 .top) this
       simpa[List.getD_eq_getElem?_getD] using h6
      rw[h5] at hh
      simp at hh
     refine⟨[(it,.cells (rwAV ((keysF L).map fun k=>(⟨k,[],.full⟩:Rw))++rest))],.inr ⟨it,rest,by rw[List.length_map];exact h1,rfl,by simp at h2;omega⟩,⟨?_,fun p hp=>?_⟩⟩
     ·simp at hlt ⊢
      omega
     ·simp only[List.mem_cons,List.not_mem_nil,or_false] at hp
      rcases hp with rfl|rfl|rfl
      ·exact hb2 _
      ·exact hb6
      ·rw[hkr]
       rw[List.getElem?_append_left (by simp at hlt ⊢;omega)]
       rw[←h3];congr 1;simp
   ·rw[hrow]
    refine⟨by simp,fun p hp=>?_⟩
    simp at hp
    rcases hp with rfl|rfl<;>simp
   ·obtain⟨k,_,rfl⟩:=List.mem_map.1 hx
    exact⟨.inl ⟨rfl,rfl⟩,fun tk h=>by cases h⟩
  obtain⟨R,hkp,hRI⟩:=hRI
  have hl0:(H++Blk.cells [.sl 0 [] .full,.sl 0 [] .full,.sl 0 [] .full]::G++[Blk.cells [.sl 0 [] (.own T.length),tv,.sl 0 [] (.own (T.length+1))]]).length=H.length+(G.length+1)+1:=by simp;omega
  have hu0:(T++[((0:Nat),(1:Nat))]++[(0,2)]).length=T.length+2:=by simp
  generalize hJ0:H++Blk.cells [.sl 0 [] .full,.sl 0 [] .full,.sl 0 [] .full]::G++[Blk.cells [.sl 0 [] (.own T.length),tv,.sl 0 [] (.own (T.length+1))]]=J0 at *
  generalize hU0:T++[((0:Nat),(1:Nat))]++[(0,2)]=U0 at *
  obtain⟨b6,hb6⟩:∃b,b=H.length+(G.length+1):=⟨_,rfl⟩
  rw[←hb6] at hRI hl0
  simp only[←hb6]
  clear hJ0 hU0
  refine aw_then fun K2 hK2=>?_
  refine docsR_loop L (by omega) hs hw H T H.length T.length H.length b6 T.length (T.length+1) tv _ _ (keysF L) R J0 U0 (by omega) (by omega) hRI hkp hkl (by omega) (Nat.le_refl _) HO4 _ fun e J1 U1 R1 q1 q2 q3 q4 he=>?_
  refine hK2 _ (aw_hok fun HO5=>?_)
  simp only at HO5
  refine aw_weak ⟨[(0,.sl L.length (dcAV L) .none),(2,.ptr H.length 0),(6,.ptr b6 0)],J1,U1⟩ (weak_to [] [] (by simp) (by simp) (by show H.length≤J1.length;omega) (by show T.length≤U1.length;omega) HO5 he) ?_
  clear hK2 he
  refine aw_then fun K3 hK3=>?_
  refine colsR_loop L (by omega) hs hn hit H T H.length T.length H.length b6 T.length (T.length+1) _ tv _ R1 J1 U1 (by omega) (by omega) q1 (by omega) (by omega) HO5 _ fun e J2 U2 p1 p2 p3 he=>?_
  refine hK3 _ (aw_hok fun HO6=>?_)
  simp only at HO6
  refine aw_weak ⟨[(2,.ptr H.length 0),(6,.ptr b6 0)],J2,U2⟩ (weak_to [] [] (by simp) (by simp) (by show H.length≤J2.length;omega) (by show T.length≤U2.length;omega) HO6 he) ?_
  clear hK3 he
  rw[←colN_F]
  have hte:termsF L=R1.map fun r=>(⟨r.k.1,r.k.2,r.pl⟩:Tm):=by
   have h1:(R1.map fun r=>(⟨r.k.1,r.k.2,r.pl⟩:Tm))=(kp R1).map fun x=>⟨x.1.1,x.1.2,x.2⟩:=by simp[kp,List.map_map,Function.comp_def]
   rw[h1,q2,List.map_map]
   exact List.map_congr_left fun k _=>by simp only[Function.comp];rw[postF_R hv]
  obtain⟨TB,hTB,hJ2⟩:=p1.hJ
  generalize colN L 3=cs at *
  have hidl:(L.map (·.id)).length=L.length:=by simp
  have g2:=hJ2.get (i:=H.length) (b:=.cells [.sl 0 [] .full,.sl 0 [] .full,.sl 0 [] .full]) (by simp)
  have g6:=hJ2.get (i:=b6) (b:=.cells [.sl L.length (ints (L.map (·.id))) (.own T.length),tv,.sl cs.length (clAV cs) (.own (T.length+1))]) (by simp)
  have e6:=at_of g6
  have l6:=(List.getElem?_eq_some_iff.1 g6).1
  have l2:=(List.getElem?_eq_some_iff.1 g2).1
  have e2:=at_of g2
  have hJ3:=Has.set (A:=[]) (B:=(b6,.cells [.sl L.length (ints (L.map (·.id))) (.own T.length),tv,.sl cs.length (clAV cs) (.own (T.length+1))])::TB) (b:=.cells [.sl 0 [] .full,.sl 0 [] .full,.sl 0 [] .full]) (by simpa using hJ2) (.cells [.sl L.length (ints (L.map (·.id))) (.own T.length),tv,.sl cs.length (clAV cs) (.own (T.length+1))])
  have hP2:=p1.pJ.set (Nat.le_refl _) (.cells [.sl L.length (ints (L.map (·.id))) (.own T.length),tv,.sl cs.length (clAV cs) (.own (T.length+1))])
  generalize hids:L.map (·.id)=ids at *
  refine aw_reg fun K hK=>?_;simp(disch:=omega)[e6,l6,e2,l2];refine hK _ ?_;clear hK K
  refine aw_ret ?_;simp(disch:=omega) 
  refine⟨hP2,p1.pU,?_⟩
  have hsg:sgAV ⟨ids,termsF L,cs⟩=.agg [.sl L.length (ints ids) .none,.sl R1.length (tmAV (R1.map fun r=>(⟨r.k.1,r.k.2,r.pl⟩:Tm))) .none,.sl cs.length (clAV cs) .none]:=by
   rw[hte]
   show AV.agg [.sl ids.length (ints ids) .none,.sl (R1.map fun r=>(⟨r.k.1,r.k.2,r.pl⟩:Tm)).length _ .none,_]=_
   rw[hidl,List.length_map]
  rw[hsg]
  have hrw:=frz_rowsR (t0:=T.length) hTB fun p hp=>hJ3.2 p (by simp[hp])
  refine Frz.pair (.agg rfl fun j hj=>?_) (.keep (.inl rfl) (.int _ _))
  match j,hj with
  |0,_=>exact .keep (.inr rfl) (by simp)
  |1,_=>exact hrw
  |2,_=>exact .keep (.inr rfl) (by simp)
 refine aw_reg fun K hK=>?_;simp(disch:=omega) 
 refine⟨_,terms39_ok L (by omega) hdk (fun d hd=>by have:=valid_zs (validD_parts (hv d hd)).2.1;omega) _ _ .none,?_⟩
 rintro r H' T' ⟨⟨G,rfl⟩,hT2,hTR⟩
 subst T'
 rcases hTR with⟨h1,rfl⟩|⟨it,rest,rfl,h2,h3,h4⟩
 ·simp(disch:=omega) 
  refine hK _ ?_;clear hK K
  refine aw_hok fun HO4=>?_
  refine aw_weak ⟨[(0,.sl L.length (dcAV L) .none),(2,.ptr H.length 0),(6,.ptr (H.length+(G.length+1)) 0)],(H++Blk.cells [.sl 0 [] .full,.sl 0 [] .full,.sl 0 [] .full]::G)++[Blk.cells [.sl 0 [] .full,.sl 0 [] .none,.sl 0 [] .full]],T⟩ (weak_to [] [] (by simp) (by simp) (by simp) (Nat.le_refl _) (by simpa using HO4) (by simp)) ?_
  exact key G _ (.inl ⟨h1,rfl⟩)
 ·simp(disch:=omega) 
  refine hK _ ?_;clear hK K
  refine aw_hok fun HO4=>?_
  refine aw_weak ⟨[(0,.sl L.length (dcAV L) .none),(2,.ptr H.length 0),(6,.ptr (H.length+(G.length+1)) 0)],(H++Blk.cells [.sl 0 [] .full,.sl 0 [] .full,.sl 0 [] .full]::G)++[Blk.cells [.sl 0 [] .full,.msl it 0 (keysF L).length,.sl 0 [] .full]],T⟩ (weak_to [] [] (by simp) (by simp) (by simp) (Nat.le_refl _) (by simpa using HO4) (by simp)) ?_
  exact key G _ (.inr ⟨it,rest,rfl,h2,h3,h4⟩)
attribute [-simp] List.getD_eq_getElem?_getD in
set_option maxHeartbeats 8000000 in
theorem buildR_ok (l:List Dc)(hl:l.length≤1000000)(hs:∀d∈l,SzD d)(hdk:(∀d∈l,validD d=true)→(l.flatMap dkeys).length≤1000000)(hnt:(l.flatMap fun d=>d.ns).length≤1000000)(H:List Blk)(T:Toks)(tg:Tag) :
  ACall Tryz.prog 14 [.sl l.length (dcAV l) tg] H T (Is (.tup [sgAV (buildF l).1,.int .i64 (buildF l).2]) H T):=by
 refine ACall.untag1 ?_
 refine ACall.frz ?_
 show ACall Tryz.prog _ _ H T (BQ H T _)
 have hl':l.length≤9223372036854775807:=by omega
 refine acall_enter 12 [] Tryz.ntmps14 Tryz.func14 rfl (fun _ _=>Tryz.call14 _ _) (by simp) (fun HO=>?_)
 have HO1:HOk (H++[.cells [.sl 0 [] .full,.sl 0 [] .full,.sl 0 [] .full]]) T:=HO.snoc (by simp)
 refine aw_reg fun K hK=>?_;simp(disch:=omega) ;refine hK _ ?_;clear hK K
 refine aw_then fun K1 hK1=>?_
 by_cases hb0:2000<l.length
 ·have b0:decide ((2000:Int)<l.length)=true:=decide_eq_true (by omega)
  refine aw_reg fun K hK=>?_;simp(disch:=omega)[b0,hb0];refine hK _ ?_;clear hK K
  refine aw_ift rfl ?_
  refine aw_reg fun K hK=>?_;simp(disch:=omega) ;refine hK _ ?_;clear hK K
  refine aw_ret ?_;simp(disch:=omega) 
  have hF:buildF l=(noSeg,3):=by unfold buildF;rw[if_pos hb0]
  rw[hF]
  exact⟨⟨_,rfl⟩,⟨[],by simp⟩,frz_none 3⟩
 have b0:decide ((2000:Int)<l.length)=false:=decide_eq_false (by omega)
 have n0:¬(2000:Int)<l.length:=by omega
 refine aw_reg fun K hK=>?_;simp(disch:=omega)[b0,n0];refine hK _ ?_;clear hK K
 refine aw_iff rfl ?_
 refine aw_skip ?_
 refine hK1 _ ?_;clear hK1
 refine aw_then fun K1 hK1=>?_
 refine aw_reg fun K hK=>?_;simp(disch:=omega) ;refine hK _ ?_;clear hK K
 refine aw_block ?_
 refine aw_loop (X:=Nat) (fun i=>⟨[(0,.sl l.length (dcAV l) .none),(2,.ptr H.length 0),(4,.int .i64 (i:Nat))],H++[.cells [.sl 0 [] .full,.sl 0 [] .full,.sl 0 [] .full]],T⟩)
  (fun i=>i≤l.length∧∀j,j<i→validD (l.getD j d0)=true) (fun i=>l.length-i) 0 ?_ ?_ ?_
 ·exact⟨Nat.zero_le _,fun j hj=>absurd hj (Nat.not_lt_zero _)⟩
 ·refine weak_to [] [] (by simp) (by simp) (by simp) (by simp) HO1 ?_
  simp
 ·rintro i ⟨g1,g2⟩
  refine aw_then fun K2 hK2=>?_
  refine aw_reg fun K hK=>?_;simp(disch:=omega) ;refine hK _ ?_;clear hK K
  refine aw_if rfl (fun hk=>?_) (fun hk=>?_)
  ·simp  at hk
   have hcut:=dcAV_cut l i hk
   have c:=fun H=>valid37R_ok (l.getD i d0) (hs _ (getD_mem l i d0 hk)) H T
   have hmem:=getD_mem l i d0 hk
   have hadd:validD (l.getD i d0)=true→∀j,j<i+1→validD (l.getD j d0)=true:=fun h j hj=>by
    rcases Nat.lt_or_ge j i with h1|h1
    ·exact g2 j h1
    ·have:j=i:=by omega
     subst this;exact h
   have hbad:validD (l.getD i d0)=false→buildF l=(noSeg,1):=fun h=>by
    unfold buildF
    rw[if_neg hb0,if_pos]
    rw[List.any_eq_true]
    exact⟨_,hmem,by rw[h];rfl⟩
   generalize l.getD i d0=d at *
   refine aw_skip ?_
   refine hK2 _ ?_;clear hK2
   refine aw_then fun K3 hK3=>?_
   refine aw_block ?_
   cases hv:validD d with
   |false=>
    rw[hv] at c
    refine aw_reg fun K hK=>?_;simp(disch:=omega)[hcut,dcAV_len,hk]
    refine acall_is (c _) ?_;simp(disch:=omega) 
    refine hK _ ?_;clear hK K
    refine aw_ift rfl ?_
    refine aw_reg fun K hK=>?_;simp(disch:=omega) ;refine hK _ ?_;clear hK K
    refine aw_ret ?_;simp(disch:=omega) 
    rw[hbad hv]
    exact⟨⟨_,rfl⟩,⟨[],by simp⟩,frz_none 1⟩
   |true=>
    rw[hv] at c
    refine aw_reg fun K hK=>?_;simp(disch:=omega)[hcut,dcAV_len,hk]
    refine acall_is (c _) ?_;simp(disch:=omega) 
    refine hK _ ?_;clear hK K
    refine aw_iff rfl ?_
    refine aw_skip ?_
    refine hK3 _ ?_;clear hK3
    refine aw_reg0 fun K hK=>?_;simp(disch:=omega) 
    refine hK _ ?_;clear hK K
    refine⟨i+1,⟨by show i+1≤_;omega,hadd hv⟩,by show l.length-(i+1)<l.length-i;omega,?_⟩
    refine weak_to [] [] (by simp) (by simp) (by simp) (by simp) HO1 ?_
    simp
  ·simp  at hk
   have hval:∀d∈l,validD d=true:=fun d hd=>by
    obtain⟨j,hj,e⟩:=mem_getD d0 hd
    rw[←e];exact g2 j (by omega)
   have hva:l.any (fun d=>!validD d)=false:=by
    rw[List.any_eq_false]
    intro d hd
    rw[hval d hd];simp
   refine aw_exit ?_;simp(disch:=omega) 
   refine hK1 _ ?_;clear hK1
   have cs:=fun H=>sorted39_ok l (by omega) H T .none
   have hperm:=(sortD_inOrd l).perm
   have hord:=(sortD_inOrd l).ord
   have hLl:(sortD l).length=l.length:=sortD_len l
   have hsL:∀d∈sortD l,d∈l:=fun d hd=>hperm.mem_iff.1 hd
   have hFl:(((sortD l).map (·.id)).Nodup→buildF l=(⟨(sortD l).map (·.id),termsF (sortD l),colsF (sortD l)⟩,0))∧(¬((sortD l).map (·.id)).Nodup→buildF l=(noSeg,10)):=by
    refine⟨fun h=>?_,fun h=>?_⟩
    ·unfold buildF
     rw[if_neg hb0,if_neg (by rw[hva];simp),if_neg (fun hh=>hh ((hperm.map _).nodup_iff.1 h))]
    ·unfold buildF
     rw[if_neg hb0,if_neg (by rw[hva];simp),if_pos (fun hh=>h ((hperm.map _).nodup_iff.2 hh))]
   refine aw_reg fun K hK=>?_;simp(disch:=omega) 
   refine acall_is (cs _) ?_;simp(disch:=omega) 
   refine hK _ ?_;clear hK K
   generalize sortD l=L at *
   refine aw_then fun K1 hK1=>?_
   refine aw_reg fun K hK=>?_;simp(disch:=omega) ;refine hK _ ?_;clear hK K
   refine aw_block ?_
   refine aw_loop (X:=Nat) (fun i=>⟨[(0,.sl L.length (dcAV L) .none),(2,.ptr H.length 0),(5,.int .i64 (i:Nat))],H++[.cells [.sl 0 [] .full,.sl 0 [] .full,.sl 0 [] .full]],T⟩)
    (fun i=>1≤i∧i≤L.length+1∧∀j,0<j→j<i→j<L.length→(L.getD (j-1) d0).id≠(L.getD j d0).id) (fun i=>L.length+1-i) 1 ?_ ?_ ?_
   ·exact⟨Nat.le_refl _,by omega,fun j h1 h2=>by omega⟩
   ·refine weak_to [] [] (by simp) (by simp) (by simp) (by simp) HO1 ?_
    simp
   ·rintro m ⟨m1,m2,m3⟩
    refine aw_then fun K2 hK2=>?_
    refine aw_reg fun K hK=>?_;simp(disch:=omega) ;refine hK _ ?_;clear hK K
    refine aw_if rfl (fun hm=>?_) (fun hm=>?_)
    ·simp  at hm
     have hat:=(dcAV_at L m hm).1
     have hat1:=(dcAV_at L (m-1) (by omega)).1
     have e6:((m:Int)-1)=((m-1:Nat):Int):=by omega
     have hm1:m-1<L.length:=by omega
     have hdup:=fun h=>adj_dup (L:=L) (i:=m) (by omega) hm h
     have hadd:(L.getD (m-1) d0).id≠(L.getD m d0).id→∀j,0<j→j<m+1→j<L.length→(L.getD (j-1) d0).id≠(L.getD j d0).id:=fun h j h0 hj hjl=>by
      rcases Nat.lt_or_ge j m with h1|h1
      ·exact m3 j h0 h1 hjl
      ·have:j=m:=by omega
       subst this;exact h
     generalize (L.getD m d0).id=x at *
     generalize (L.getD (m-1) d0).id=y at *
     refine aw_skip ?_
     refine hK2 _ ?_;clear hK2
     refine aw_then fun K3 hK3=>?_
     refine aw_block ?_
     by_cases hxy:y=x
     ·have b1:(y==x)=true:=by simpa using hxy
      refine aw_draw [] [] [] drawMixed (by kernel_rfl) (by kernel_rfl) fun K hK=>?_;simp(disch:=omega)[e6,hat,hat1,dcAV_len,hm,hm1,b1,hxy]
      refine hK _ ?_;clear hK K
      refine aw_ift rfl ?_
      refine aw_reg fun K hK=>?_;simp(disch:=omega) ;refine hK _ ?_;clear hK K
      refine aw_ret ?_;simp(disch:=omega) 
      rw[hFl.2 (hdup hxy)]
      exact⟨⟨_,rfl⟩,⟨[],by simp⟩,frz_none 10⟩
     ·have b1:(y==x)=false:=by simpa using hxy
      refine aw_draw [] [] [] drawMixed (by kernel_rfl) (by kernel_rfl) fun K hK=>?_;simp(disch:=omega)[e6,hat,hat1,dcAV_len,hm,hm1,b1,hxy]
      refine hK _ ?_;clear hK K
      refine aw_iff rfl ?_
      refine aw_skip ?_
      refine hK3 _ ?_;clear hK3
      refine aw_reg0 fun K hK=>?_;simp(disch:=omega) 
      refine hK _ ?_;clear hK K
      refine⟨m+1,⟨by show 1≤m+1;omega,by show m+1≤_;omega,hadd hxy⟩,by show L.length+1-(m+1)<L.length+1-m;omega,?_⟩
      refine weak_to [] [] (by simp) (by simp) (by simp) (by simp) HO1 ?_
      simp
    ·simp  at hm
     have hlt:=adj_nodup hord fun j h0 hj=>m3 j h0 (by omega) hj
     have hnd:=lt_nodup hlt
     refine aw_exit ?_;simp(disch:=omega) 
     refine hK1 _ ?_;clear hK1
     refine aw_weak ⟨[(0,.sl L.length (dcAV L) .none),(2,.ptr H.length 0)],H++[.cells [.sl 0 [] .full,.sl 0 [] .full,.sl 0 [] .full]],T⟩ (weak_to [] [] (by simp) (by simp) (by simp) (by simp) HO1 (by simp)) ?_
     rw[hFl.1 hnd]
     exact buildR_main L (by omega) (fun d hd=>hs d (hsL d hd)) (fun d hd=>hval d (hsL d hd)) (by rw[flat_perm dkeys hperm];exact hdk hval) (by rw[flat_perm (fun d:Dc=>d.ns) hperm];exact hnt) H T HO1
end Go.Proofs.YtneohapkboaplaaGreat
