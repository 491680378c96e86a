/- The reference's terms (layer 39): the words of the fields of documents, in order, each once; the list is a box that is written to later.
  Conditions: lengths below 400 or 1000, as each theorem says. -/
import Derived.Test.YtneohapkboaplaaGreatGTb
import Derived.Test.YtneohapkboaplaaGreatAmC
set_option linter.all false
set_option maxRecDepth 100000
namespace Seg
open Sug Go.Am
abbrev k0:Ky:=(0,[])
abbrev krC (k:Ky):List AV:=[.int .i64 k.1,.str k.2,.sl 0 [] .full]
def krAV (l:List Ky):List AV:=l.flatMap fun k=>[.int .i64 k.1,.str k.2,.sl 0 [] .full]
theorem kr_rows:CellsK krC 3:=fun _=>rfl
theorem krAV_len (l:List Ky):(krAV l).length=l.length*3:=rows_len kr_rows l
theorem krAV_cut (l:List Ky)(rest:List AV)(i:Nat)(h:i<l.length):((krAV l++rest).drop (i*3)).take 3=krC (l.getD i k0):=by
 rw[List.drop_append,List.take_append,show ((krAV l).drop (i*3)).take 3=krC (l.getD i k0) from rows_cut kr_rows l i k0 h]
 rw[show 3-((krAV l).drop (i*3)).length=0 by rw[List.length_drop,krAV_len];omega]
 simp
theorem krAV_tk (l:List Ky)(i:Nat):(krAV l).take (i*3)=krAV (l.take i):=rows_take kr_rows l i
theorem krAV_drop (l:List Ky)(i:Nat):(krAV l).drop (i*3)=krAV (l.drop i):=rows_drop kr_rows l i
theorem insK_at (x:Ky):∀(d:List Ky)(n:Nat),n≤d.length→(∀j,j<n→kylt (d.getD j k0) x=true)→(n<d.length→kylt (d.getD n k0) x=false)→
  (n<d.length→kylt x (d.getD n k0)=false→insK x d=d)∧((n<d.length→kylt x (d.getD n k0)=true)→insK x d=d.take n++x::d.drop n)
 |[],n,h,_,_=>by
  have:n=0:=by simpa using h
  subst this;exact⟨fun h=>absurd h (Nat.not_lt_zero _),fun _=>rfl⟩
 |y::r,0,_,_,h=>by
  have h1:kylt y x=false:=h (by simp)
  refine⟨fun _ h2=>?_,fun h2=>?_⟩
  ·have h2:kylt x y=false:=h2
   rw[insK,if_neg (by simp[h1]),if_neg (by simp[h2])]
  ·have h2:kylt x y=true:=h2 (by simp)
   rw[insK,if_neg (by simp[h1]),if_pos h2];rfl
 |y::r,n+1,h0,h1,h2=>by
  have hy:kylt y x=true:=h1 0 (by omega)
  obtain⟨a,b⟩:=insK_at x r n (by simpa using h0) (fun j hj=>h1 (j+1) (by omega)) (fun hn=>h2 (by simpa using hn))
  refine⟨fun h3 h4=>?_,fun h3=>?_⟩
  ·rw[insK,if_pos hy,a (by simpa using h3) h4]
  ·rw[insK,if_pos hy,b fun h4=>h3 (by simpa using h4)];rfl
theorem insK_len (x:Ky):∀d:List Ky,(insK x d).length≤d.length+1
 |[]=>by simp[insK]
 |y::r=>by
  have:=insK_len x r
  unfold insK
  split
  ·simp;omega
  ·split<;>simp
def insAll (a:List Ky)(l:List Ky):List Ky:=l.foldl (fun a k=>insK k a) a
theorem insAll_len (l:List Ky):∀a:List Ky,(insAll a l).length≤a.length+l.length:=by
 unfold insAll
 induction l with
 |nil=>intro a;simp
 |cons x r ih=>intro a;rw[List.foldl_cons];have:=ih (insK x a);have:=insK_len x a;simp;omega
theorem insAll_app (a l m:List Ky):insAll a (l++m)=insAll (insAll a l) m:=by unfold insAll;rw[List.foldl_append]
def zkeys (z:Zn):List Ky:=z.ws.map fun w=>(z.f,w.1)
def dkeys (d:Dc):List Ky:=d.zs.flatMap zkeys
theorem dwds_keys (zs:List Zn):(dwds zs).map (·.1)=zs.flatMap zkeys:=by
 unfold dwds zwds zkeys
 rw[List.map_flatMap]
 simp[List.map_map,Function.comp_def]
theorem keysF_all (L:List Dc):keysF L=insAll [] (L.flatMap dkeys):=by
 unfold keysF insAll dkeys
 congr 1
 congr 1
 funext d
 exact dwds_keys d.zs
def TR (h0:Nat)(J:List Blk)(ks:List Ky)(tv:AV):Prop:=
 (ks=[]∧tv=.sl 0 [] .full)∨(∃i rest,tv=.msl i 0 ks.length∧h0≤i∧J[i]?=some (.cells (krAV ks++rest))∧0<ks.length)
theorem TR.app {h0:Nat}{J:List Blk}{ks:List Ky}{tv:AV}(h:TR h0 J ks tv)(G:List Blk):TR h0 (J++G) ks tv:=by
 rcases h with h|⟨i,rest,h1,h2,h3,h4⟩
 ·exact .inl h
 ·exact .inr ⟨i,rest,h1,h2,by rw[List.getElem?_append_left (List.getElem?_eq_some_iff.1 h3).1];exact h3,h4⟩
end Seg
namespace Go.Proofs.YtneohapkboaplaaGreat
open Go Go.Am Sug Seg
noncomputable def ops17:List Oper:=match subC [1,1,0,1,0,0,1,0,0,1,0,0,1,0,0,1,1,0,0,1,0,0,1,1,1,1,0] (Tryz.f67.body.getD .skip) with
 |.region _ ops _=>ops.toList
 |_=>[]
set_option maxHeartbeats 4000000 in
theorem chain17 {K:St→Prop}{P:List Blk→Toks→Prop}{nb tb:Nat}(f:Int)(w:Bs)(n m:Nat)(A B:List AV)(x1 x2:AV)(e:Env)(J:List Blk)(U:Toks)(hn:n≤1000000)(hm:m≤1000000)(hA:A.length=n*3)(hB:B.length=m*3)
  (h76:eget e 76=.sl 0 [] .full) (h79:eget e 79=x1) (h82:eget e 82=.sl 1 (krC (f,w)) .full) (h86:eget e 86=x2) (hs1:asrc J 3 x1=some (n,A)) (hs2:∀J',Pre J J'→asrc J' 3 x2=some (m,B)) (hP:∀J',Pre J J'→P J' U)
  (k:∀(e':Env)(J':List Blk)(i' cap':Nat)(rest':List AV),Pre J J'→J.length≤i'→J'[i']?=some (.cells (A++krC (f,w)++B++rest'))→eget e' 3=.csl i' (n+1+m) cap'→(∀t,t<80→t≠3→eget e' t=eget e t)→K ⟨e',J',U⟩) :
  cgo2 ⟨Tryz.prog,89,10,nb,tb,[100080,100083]⟩ K P ([4,7,11,12].map fun i=>ops17.getD i default) e J U:=by
 show cgo2 _ K P [ops17.getD 4 default,ops17.getD 7 default,ops17.getD 11 default,ops17.getD 12 default] e J U
 have hJJ:Pre J J:=⟨[],by simp⟩
 have tail:∀(e7:Env)(J7:List Blk)(i7 cap7:Nat)(rest7:List AV),Pre J J7→J.length≤i7→J7[i7]?=some (.cells ((A++krC (f,w))++rest7))→((A++krC (f,w))++rest7).length=cap7*3→eget e7 83=.csl i7 (n+1) cap7→eget e7 86=x2→
   (∀t,t<80→eget e7 t=eget e t)→cgo2 ⟨Tryz.prog,89,10,nb,tb,[100080,100083]⟩ K P [ops17.getD 11 default,ops17.getD 12 default] e7 J7 U:=by
  intro e7 J7 i7 cap7 rest7 hp hi hg hl h83 h862 hold
  rw[cgo2_cons]
  conv=>arg 2;whnf
  refine cexec_csl 127 (A++krC (f,w)) rest7 B m (by simp[aev,h83]) (by simp[aev,h83]) (by simp[aev,h83,h862];exact⟨rfl,rfl,rfl,rfl,rfl⟩) (by simp) hg (by simp[hA];omega) (by simpa using hl) (by simpa using hs2 _ hp) (by simp[hB]) (by simp;omega) (by omega) (by simp) (by simp) ?_
  intro i8 cap8 B8 J8 hor hl8 hc8
  have l7:=(List.getElem?_eq_some_iff.1 hg).1
  have hp8:Pre J J8:=by
   rcases hor with⟨rfl,_⟩|⟨rfl,_⟩
   ·exact hp.set hi _
   ·exact hp.app _
  have hi8:J.length≤i8:=by
   have:=hp.le
   rcases hor with⟨_,rfl⟩|⟨_,rfl⟩<;>omega
  have hg8:J8[i8]?=some (.cells (A++krC (f,w)++B++B8)):=by
   rcases hor with⟨rfl,rfl⟩|⟨rfl,rfl⟩
   ·rw[List.getElem?_set_self l7]
   ·simp
  refine⟨hP J8 hp8,putE_some (Nat.lt_of_sub_eq_succ rfl) ?_⟩
  rw[cgo2_cons]
  conv=>arg 2;whnf
  refine cexec_op (v:=.csl i8 (n+1+m) cap8) (H':=J8) (T':=U) rfl rfl rfl rfl (by simp[aev,eget_eput_same]) ⟨hP J8 hp8,putE_some (Nat.lt_of_sub_eq_succ rfl) ?_⟩
  rw[cgo2_nil]
  exact k _ J8 i8 cap8 B8 hp8 hi8 hg8 (eget_eput_same _ _ _) fun t h1 h2=>by
   rw[eget_eput_other _ _ _ _ (fun e=>h2 e.symm),eget_eput_other _ _ _ _ (by omega),hold t h1]
 rcases Nat.eq_zero_or_pos n with h0|h0
 ·subst h0
  have hA0:A=[]:=List.length_eq_zero_iff.1 (by simpa using hA)
  subst hA0
  rw[cgo2_cons]
  conv=>arg 2;whnf
  refine cexec_z (by simp[-asrc,aev,h76,h79,hs1]) ⟨hP J hJJ,putE_some (Nat.lt_of_sub_eq_succ rfl) ?_⟩
  rw[cgo2_cons]
  conv=>arg 2;whnf
  refine cexec_cap0 (m:=1) (z:=3) (ys:=krC (f,w)) (by simp[aev,h82,eget_eput_same,eget_eput_other,asrc]) (by simp[aev,h82,eget_eput_same,eget_eput_other,asrc]) fun nc hnc=>⟨hP _ (hJJ.app _),putE_some (Nat.lt_of_sub_eq_succ rfl) ?_⟩
  refine tail _ _ J.length nc (List.replicate ((nc-1)*3) .top) (hJJ.app _) (Nat.le_refl _) (by simp) (by simp;omega) (by simp[eget_eput_same]) ?_ ?_
  ·rw[eget_eput_other _ _ _ _ (by omega),eget_eput_other _ _ _ _ (by omega),h86]
  ·intro t ht
   rw[eget_eput_other _ _ _ _ (by omega),eget_eput_other _ _ _ _ (by omega)]
 ·have hn0:n≠0:=by omega
  have q1:n*48≤140737488355328:=by omega
  have q2:n≤9223372036854775807:=by omega
  rw[cgo2_cons]
  conv=>arg 2;whnf
  refine cexec_cap0 (m:=n) (z:=3) (ys:=A) (by simp[-asrc,aev,h76,h79,hs1,hn0]) (by simp[-asrc,aev,h76,h79,hs1,h0,q1,q2]) fun nc hnc=>⟨hP _ (hJJ.app _),putE_some (Nat.lt_of_sub_eq_succ rfl) ?_⟩
  rw[cgo2_cons]
  conv=>arg 2;whnf
  refine cexec_csl 127 A (List.replicate ((nc-n)*3) .top) (krC (f,w)) 1 (i:=J.length) (n:=n) (cap:=nc) (by simp[aev,eget_eput_same]) (by simp[aev,eget_eput_same]) (by simp[aev,eget_eput_same,eget_eput_other,h82];exact⟨rfl,rfl,rfl⟩) (by simp) (by simp) (by simpa using hA) (by simp[hA,Nat.sub_mul];omega) (by simp[asrc]) (by simp) (by simp;omega) (by omega) (by simp) (by simp) ?_
  intro i7 cap7 B7 J7 hor hl7 hc7
  have hp7:Pre J J7:=by
   rcases hor with⟨rfl,_⟩|⟨rfl,_⟩
   ·exact(hJJ.app _).set (Nat.le_refl _) _
   ·exact(hJJ.app _).app _
  have hi7:J.length≤i7:=by
   rcases hor with⟨_,rfl⟩|⟨_,rfl⟩<;>simp
  refine⟨hP J7 hp7,putE_some (Nat.lt_of_sub_eq_succ rfl) ?_⟩
  refine tail _ J7 i7 cap7 B7 hp7 hi7 ?_ (by simpa using hl7) (eget_eput_same _ _ _) ?_ ?_
  ·rcases hor with⟨rfl,rfl⟩|⟨rfl,rfl⟩
   ·rw[List.getElem?_set_self (by simp)]
   ·rw[List.getElem?_append_right (Nat.le_refl _)];simp
  ·rw[eget_eput_other _ _ _ _ (by omega),eget_eput_other _ _ _ _ (by omega),h86]
  ·intro t ht
   rw[eget_eput_other _ _ _ _ (by omega),eget_eput_other _ _ _ _ (by omega)]
attribute [-simp] List.getD_eq_getElem?_getD in
set_option maxHeartbeats 8000000 in
theorem key_step (L:List Dc)(f:Int)(ws:List Wd)(i zi k p6:Nat)(ks:List Ky)(tv:AV)(h0 nb tb:Nat)(J:List Blk)(U:Toks)(hk:k<ws.length)(hks:ks.length≤1000000)(hTR:TR h0 J ks tv)(h6:J[p6]?=some (.cells (znC ⟨f,ws⟩)))
  (hnb:nb≤J.length) (htb:tb≤U.length) (HO:HOk J U) (h0J:h0≤J.length) (Q:Exit→St→Prop)
  (go:∀(e:Env)(J':List Blk)(tv':AV),(∃G,J'=J++G)→TR h0 J' (insK (f,(ws.getD k w0).1) ks) tv'→
   envLe J'.length U.length e [(0,.sl L.length (dcAV L) .none),(3,tv'),(4,.int .i64 (i:Nat)),(5,.int .i64 (zi:Nat)),(6,.ptr p6 0),(7,.int .i64 (k:Nat))]→Q .normal ⟨e,J',U⟩) :
  AW ⟨Tryz.prog,89,10,nb,tb,[100080,100083]⟩ (subC [1,1,0,1,0,0,1,0,0,1,0,0,1,0,0,1,1,0,0,1,0,0] (Tryz.f67.body.getD .skip)) Q
   ⟨[(0,.sl L.length (dcAV L) .none),(3,tv),(4,.int .i64 (i:Nat)),(5,.int .i64 (zi:Nat)),(6,.ptr p6 0),(7,.int .i64 (k:Nat))],J,U⟩:=by
 conv=>arg 2;whnf
 have hat:=(wdAV_at ws k hk).1
 have e6:=at_of h6
 have l6:=(List.getElem?_eq_some_iff.1 h6).1
 generalize (ws.getD k w0).1=w at *
 refine aw_draw [9,10] [0,0,0,0,0,0,0,0,0,0,1] [[0,1,2,3,4,5,6,7,8],[]] drawMixed (by kernel_rfl) (by kernel_rfl) fun K hK=>?_;simp(disch:=omega)[e6,l6,wdAV_len,hat,hk,List.getElem?_append_left,List.getElem_append_left]
 refine hK _ ?_;clear hK K
 have HO1:HOk (J++[.cells (krC (f,w))]) U:=HO.snoc (by simp)
 have g8:(J++[Blk.cells (krC (f,w))])[J.length]?=some (.cells (krC (f,w))):=by simp
 have hTR1:=hTR.app [Blk.cells (krC (f,w))]
 have hl1:(J++[Blk.cells (krC (f,w))]).length=J.length+1:=by simp
 have hpre:∃G,J++[Blk.cells (krC (f,w))]=J++G:=⟨_,rfl⟩
 obtain⟨p8,hp8⟩:∃p,p=J.length:=⟨_,rfl⟩
 rw[←hp8] at g8
 simp only[←hp8]
 rw[show Blk.cells [.int .i64 f,.str w,.sl 0 [] .full]=.cells (krC (f,w)) from rfl]
 generalize J++[Blk.cells (krC (f,w))]=J1 at *
 have e8:=at_of g8
 have l8:=(List.getElem?_eq_some_iff.1 g8).1
 have hbt:∀(n:Nat),J1.length≤n→Below n U.length tv:=fun n hn=>by
  rcases hTR1 with⟨_,rfl⟩|⟨i,rest,rfl,_,h3,_⟩
  ·simp
  ·have:=(List.getElem?_eq_some_iff.1 h3).1
   simp;omega
 have hbt0:=hbt J1.length (Nat.le_refl _)
 refine aw_weak ⟨[(0,.sl L.length (dcAV L) .none),(3,tv),(4,.int .i64 (i:Nat)),(5,.int .i64 (zi:Nat)),(6,.ptr p6 0),(7,.int .i64 (k:Nat)),(8,.ptr p8 0)],J1,U⟩ (weak_to [] [] (by simp) (by simp) (by show nb≤J1.length;omega) htb HO1 (by simp[hbt0];omega)) ?_
 refine aw_reg fun K hK=>?_;simp(disch:=omega) ;refine hK _ ?_;clear hK K
 refine aw_then fun K5 hK5=>?_
 refine aw_block ?_
 have hes:∀(e:Env)(n:Nat),envLe J1.length U.length e [(0,.sl L.length (dcAV L) .none),(3,tv),(4,.int .i64 (i:Nat)),(5,.int .i64 (zi:Nat)),(6,.ptr p6 0),(7,.int .i64 (k:Nat)),(8,.ptr p8 0),(9,.int .i64 (n:Nat))]→
   Weak ⟨Tryz.prog,89,10,nb,tb,[100080,100083]⟩ ⟨e,J1,U⟩ ⟨[(0,.sl L.length (dcAV L) .none),(3,tv),(4,.int .i64 (i:Nat)),(5,.int .i64 (zi:Nat)),(6,.ptr p6 0),(7,.int .i64 (k:Nat)),(8,.ptr p8 0),(9,.int .i64 (n:Nat))],J1,U⟩:=fun e n he=>
  weak_to [] [] (by simp) (by simp) (by show nb≤J1.length;omega) htb HO1 he
 have cont:∀n,n≤ks.length→(∀j,j<n→kylt (ks.getD j k0) (f,w)=true)→(n<ks.length→kylt (ks.getD n k0) (f,w)=false)→∀e,envLe J1.length U.length e [(0,.sl L.length (dcAV L) .none),(3,tv),(4,.int .i64 (i:Nat)),(5,.int .i64 (zi:Nat)),(6,.ptr p6 0),(7,.int .i64 (k:Nat)),(8,.ptr p8 0),(9,.int .i64 (n:Nat))]→K5 ⟨e,J1,U⟩:=by
  intro n hn1 hn2 hn3 e he
  refine hK5 _ (aw_weak _ (hes e n he) ?_)
  clear hK5 he
  obtain⟨hsame,hins⟩:=insK_at (f,w) ks n hn1 hn2 hn3
  have fin:(n<ks.length→kylt (f,w) (ks.getD n k0)=true)→∀(e:Env)(J':List Blk)(i' cap':Nat)(rest':List AV),Pre J1 J'→J1.length≤i'→J'[i']?=some (.cells (krAV (ks.take n++(f,w)::ks.drop n)++rest'))→
    envLe J'.length U.length e [(0,.sl L.length (dcAV L) .none),(3,.msl i' 0 (n+1+(ks.length-n))),(4,.int .i64 (i:Nat)),(5,.int .i64 (zi:Nat)),(6,.ptr p6 0),(7,.int .i64 (k:Nat))]→Q .normal ⟨e,J',U⟩:=by
   intro h e J' i' cap' rest' hp hi' hg he
   obtain⟨G,rfl⟩:=hp
   obtain⟨G1,rfl⟩:=hpre
   have hl:(insK (f,w) ks).length=n+1+(ks.length-n):=by rw[hins h];simp;omega
   refine go e _ _ ⟨G1++G,by simp⟩ (.inr ⟨i',rest',rfl,by simp at hi';omega,by rw[hins h];exact hg,by omega⟩) ?_
   rw[hl];exact he
  have fin2:(n<ks.length→kylt (f,w) (ks.getD n k0)=true)→∀(e e0:Env)(J':List Blk)(i' cap':Nat)(rest':List AV),Pre J1 J'→J1.length≤i'→J'[i']?=some (.cells (krAV (ks.take n)++krC (f,w)++krAV (ks.drop n)++rest'))→eget e 3=.csl i' (n+1+(ks.length-n)) cap'→(∀t,t<80→t≠3→eget e t=eget e0 t)→
    eget e0 0=.sl L.length (dcAV L) .none→eget e0 4=.int .i64 (i:Nat)→eget e0 5=.int .i64 (zi:Nat)→eget e0 6=.ptr p6 0→eget e0 7=.int .i64 (k:Nat)→Q .normal ⟨e,J',U⟩:=by
   intro h e e0 J' i' cap' rest' hp hi' hg h3 hold q0 q4 q5 q6 q7
   have hle:=hp.le
   have hlt:=(List.getElem?_eq_some_iff.1 hg).1
   refine fin h e J' i' cap' rest' hp hi' ?_ ?_
   ·rw[hg];congr 2
    rw[show krAV (ks.take n++(f,w)::ks.drop n)=krAV (ks.take n)++krC (f,w)++krAV (ks.drop n) by simp[krAV]]
   ·simp[h3,hold,q0,q4,q5,q6,q7,hlt];omega
  have c1:(krAV (ks.take n)).length=n*3:=by rw[krAV_len,List.length_take];omega
  have c2:(krAV (ks.drop n)).length=(ks.length-n)*3:=by rw[krAV_len,List.length_drop]
  have hPre8:∀J',Pre J1 J'→J'[p8]?=some (.cells (krC (f,w))):=by
   rintro J' ⟨G,rfl⟩
   rw[List.getElem?_append_left l8];exact g8
  rcases hTR1 with⟨rfl,rfl⟩|⟨ib,rest,rfl,hib,gi,hpos⟩
  ·have hn0:n=0:=by simpa using hn1
   subst hn0
   refine aw_draw [] [] [] drawMixed (by kernel_rfl) (by kernel_rfl) fun K hK=>?_;simp(disch:=omega) 
   refine hK _ ?_;clear hK K
   refine aw_ift rfl ?_
   refine aw_chain0 [4,7,11,12] drawMixed (by kernel_rfl) fun K hK=>?_
   simp(disch:=omega)[amade_zero,e8,l8]
   refine cgo_of (fun J' _=>J'[p8]?=some (.cells (krC (f,w)))) (fun J' U' hJ'=>?_) ?_
   ·have e9:=at_of hJ'
    have l9:=(List.getElem?_eq_some_iff.1 hJ').1
    simp(disch:=omega)[amade_zero,e9,l9]
   ·exact chain17 f w 0 0 [] [] _ _ _ J1 U (by omega) (by omega) rfl rfl rfl rfl rfl rfl rfl (fun _ _=>rfl) hPre8 fun e' J' i' cap' rest' hp hi' hg h3 hold=>hK _ (fin2 (fun h=>absurd h (Nat.not_lt_zero _)) e' _ J' i' cap' rest' hp hi' (by simpa[krAV] using hg) h3 hold rfl rfl rfl rfl rfl)
  ·have hcut:=krAV_cut ks rest
   have hlen:(krAV ks++rest).length=ks.length*3+rest.length:=by rw[List.length_append,krAV_len]
   have hv1:(krAV ks++rest).take (n*3)=krAV (ks.take n):=by rw[List.take_append_of_le_length (by rw[krAV_len];omega),krAV_tk]
   have hv2:((krAV ks++rest).drop (n*3)).take ((ks.length-n)*3)=krAV (ks.drop n):=by
    rw[List.drop_append_of_le_length (by rw[krAV_len];omega),krAV_drop,List.take_left' c2]
   generalize hvs:krAV ks++rest=vs at *
   have ei:=at_of gi
   have li:=(List.getElem?_eq_some_iff.1 gi).1
   have hPrei:∀J',Pre J1 J'→J'[ib]?=some (.cells vs):=by
    rintro J' ⟨G,rfl⟩
    rw[List.getElem?_append_left li];exact gi
   rcases Nat.lt_or_ge n ks.length with h4|h4
   ·have hcutn:=hcut n h4
    have b1:((n:Int)==(ks.length:Int))=false:=beq_eq_false_iff_ne.2 (by omega)
    have c:=termLess_ok (f,w) (ks.getD n k0) (.sl 0 [] .full) (.sl 0 [] .full) J1 U (by simp) (by simp)
    have d1:n*3+3≤vs.length:=by omega
    have d2:n*3≤vs.length:=by omega
    have d3:n*3+(ks.length-n)*3≤vs.length:=by omega
    cases hlt:kylt (f,w) (ks.getD n k0) with
    |false=>
     rw[hlt] at c
     rw[hsame h4 hlt] at go
     generalize ks.getD n k0=y at *
     refine aw_draw [] [] [] drawMixed (by kernel_rfl) (by kernel_rfl) fun K hK=>?_;simp(disch:=omega)[b1,h4,e8,l8,ei,li,hcutn,d1,d2]
     refine dcall_is (c) rfl ?_;simp(disch:=omega) 
     refine hK _ ?_;clear hK K
     refine aw_iff rfl ?_
     refine aw_skip ?_
     obtain⟨G1,hG1⟩:=hpre
     refine go _ J1 _ ⟨G1,hG1⟩ (.inr ⟨ib,rest,rfl,hib,by rw[hvs];exact gi,hpos⟩) ?_
     simp[li]
     omega
    |true=>
     rw[hlt] at c
     have fin3:=fin2 fun _=>hlt
     generalize ks.getD n k0=y at *
     refine aw_draw [] [] [] drawMixed (by kernel_rfl) (by kernel_rfl) fun K hK=>?_;simp(disch:=omega)[b1,h4,e8,l8,ei,li,hcutn,d1,d2]
     refine dcall_is (c) rfl ?_;simp(disch:=omega) 
     refine hK _ ?_;clear hK K
     refine aw_ift rfl ?_
     refine aw_chain0 [4,7,11,12] drawMixed (by kernel_rfl) fun K hK=>?_
     simp(disch:=omega)[amade_zero,e8,l8,h4]
     refine cgo_of (fun J' _=>J'[p8]?=some (.cells (krC (f,w)))) (fun J' U' hJ'=>?_) ?_
     ·have e9:=at_of hJ'
      have l9:=(List.getElem?_eq_some_iff.1 hJ').1
      simp(disch:=omega)[amade_zero,e9,l9,h4]
     ·exact chain17 f w n (ks.length-n) (krAV (ks.take n)) (krAV (ks.drop n)) _ _ _ J1 U (by omega) (by omega) c1 c2 rfl rfl rfl rfl (by simp[asrc,ei,li,d2,hv1]) (fun J' hp=>by
       have:=hPrei J' hp
       simp[asrc,this,d3,hv2]) hPre8 fun e' J' i' cap' rest' hp hi' hg h3 hold=>hK _ (fin3 e' _ J' i' cap' rest' hp hi' hg h3 hold rfl rfl rfl rfl rfl)
   ·have hnk:n=ks.length:=by omega
    subst hnk
    have fin3:=fin2 fun h=>absurd h (Nat.lt_irrefl _)
    have d2:ks.length*3≤vs.length:=by omega
    have hne:ks≠[]:=fun e=>by rw[e] at hpos;exact absurd hpos (Nat.lt_irrefl _)
    refine aw_draw [] [] [] drawMixed (by kernel_rfl) (by kernel_rfl) fun K hK=>?_;simp(disch:=omega) 
    refine hK _ ?_;clear hK K
    refine aw_ift rfl ?_
    refine aw_chain0 [4,7,11,12] drawMixed (by kernel_rfl) fun K hK=>?_
    simp(disch:=omega)[amade_zero,e8,l8,hne]
    refine cgo_of (fun J' _=>J'[p8]?=some (.cells (krC (f,w)))) (fun J' U' hJ'=>?_) ?_
    ·have e9:=at_of hJ'
     have l9:=(List.getElem?_eq_some_iff.1 hJ').1
     simp(disch:=omega)[amade_zero,e9,l9,hne]
    ·exact chain17 f w ks.length (ks.length-ks.length) (krAV (ks.take ks.length)) (krAV (ks.drop ks.length)) _ _ _ J1 U (by omega) (by omega) c1 c2 rfl rfl rfl rfl (by simp[asrc,ei,li,d2,hv1]) (fun J' hp=>by simp[krAV]) hPre8 fun e' J' i' cap' rest' hp hi' hg h3 hold=>hK _ (fin3 e' _ J' i' cap' rest' hp hi' hg h3 hold rfl rfl rfl rfl rfl)
 refine aw_loop (X:=Nat) (fun n=>⟨[(0,.sl L.length (dcAV L) .none),(3,tv),(4,.int .i64 (i:Nat)),(5,.int .i64 (zi:Nat)),(6,.ptr p6 0),(7,.int .i64 (k:Nat)),(8,.ptr p8 0),(9,.int .i64 (n:Nat))],J1,U⟩)
  (fun n=>n≤ks.length∧∀j,j<n→kylt (ks.getD j k0) (f,w)=true) (fun n=>ks.length-n) 0 ?_ ?_ ?_
 ·exact⟨Nat.zero_le _,fun j hj=>absurd hj (Nat.not_lt_zero _)⟩
 ·refine hes _ 0 ?_
  simp[hbt0,l8];omega
 ·rintro n ⟨hn1,hn2⟩
  replace cont:=cont n hn1 hn2
  have hes2:=hes
  refine aw_then fun K6 hK6=>?_
  rcases Nat.lt_or_ge n ks.length with h4|h4
  ·rcases hTR1 with⟨rfl,rfl⟩|⟨ib,rest,rfl,hib,gi,hpos⟩
   ·exact absurd h4 (Nat.not_lt_zero _)
   have hcutn:=krAV_cut ks rest n h4
   have hlen:(krAV ks++rest).length=ks.length*3+rest.length:=by rw[List.length_append,krAV_len]
   generalize krAV ks++rest=vs at *
   have ei:=at_of gi
   have li:=(List.getElem?_eq_some_iff.1 gi).1
   have d1:n*3+3≤vs.length:=by omega
   have b1:decide ((n:Int)<(ks.length:Int))=true:=decide_eq_true (by omega)
   have c:=termLess_ok (ks.getD n k0) (f,w) (.sl 0 [] .full) (.sl 0 [] .full) J1 U (by simp) (by simp)
   have hst:kylt (ks.getD n k0) (f,w)=true→∀j,j<n+1→kylt (ks.getD j k0) (f,w)=true:=fun h j hj=>by
    rcases Nat.lt_or_ge j n with h3|h3
    ·exact hn2 j h3
    ·have:j=n:=by omega
     subst this;exact h
   cases hlt:kylt (ks.getD n k0) (f,w) with
   |true=>
    rw[hlt] at c
    replace hst:=hst hlt
    generalize ks.getD n k0=y at hcutn c
    refine aw_draw [] [] [] drawMixed (by kernel_rfl) (by kernel_rfl) fun K hK=>?_;simp(disch:=omega)[b1,h4,e8,l8,ei,li,hcutn,d1]
    refine dcall_is (c) rfl ?_;simp(disch:=omega) 
    refine hK _ ?_;clear hK K
    refine aw_ift rfl ?_
    refine aw_skip ?_
    refine hK6 _ ?_;clear hK6
    refine aw_block ?_
    refine aw_reg0 fun K hK=>?_;simp(disch:=omega) 
    refine hK _ ?_;clear hK K
    refine⟨n+1,⟨by show n+1≤_;omega,hst⟩,by show ks.length-(n+1)<ks.length-n;omega,?_⟩
    refine hes2 _ (n+1) ?_
    simp[li,l8];omega
   |false=>
    rw[hlt] at c
    replace cont:=cont fun _=>hlt
    generalize ks.getD n k0=y at hcutn c
    refine aw_draw [] [] [] drawMixed (by kernel_rfl) (by kernel_rfl) fun K hK=>?_;simp(disch:=omega)[b1,h4,e8,l8,ei,li,hcutn,d1]
    refine dcall_is (c) rfl ?_;simp(disch:=omega) 
    refine hK _ ?_;clear hK K
    refine aw_iff rfl ?_
    refine aw_exit ?_;simp(disch:=omega) 
    refine cont _ ?_
    simp[li,l8];omega
  ·have hnk:n=ks.length:=by omega
   replace cont:=cont fun h=>absurd h (by omega)
   subst hnk
   rcases hTR1 with⟨rfl,rfl⟩|⟨ib,rest,rfl,hib,gi,hpos⟩
   ·refine aw_draw [] [] [] drawMixed (by kernel_rfl) (by kernel_rfl) fun K hK=>?_;simp(disch:=omega) 
    refine hK _ ?_;clear hK K
    refine aw_iff rfl ?_
    refine aw_exit ?_;simp(disch:=omega) 
    refine cont _ ?_
    simp[l8];omega
   ·have li:=(List.getElem?_eq_some_iff.1 gi).1
    refine aw_draw [] [] [] drawMixed (by kernel_rfl) (by kernel_rfl) fun K hK=>?_;simp(disch:=omega) 
    refine hK _ ?_;clear hK K
    refine aw_iff rfl ?_
    refine aw_exit ?_;simp(disch:=omega) 
    refine cont _ ?_
    simp[li,l8];omega
attribute [-simp] List.getD_eq_getElem?_getD in
set_option maxHeartbeats 4000000 in
theorem wordsT_loop (L:List Dc)(f:Int)(ws:List Wd)(i zi p6:Nat)(ks:List Ky)(tv:AV)(h0 nb tb:Nat)(J:List Blk)(U:Toks)(hks:ks.length+ws.length≤1000000)(hTR:TR h0 J ks tv)(h6:J[p6]?=some (.cells (znC ⟨f,ws⟩)))
  (hnb:nb≤J.length) (htb:tb≤U.length) (HO:HOk J U) (h0J:h0≤J.length) (Q:Exit→St→Prop)
  (go:∀(e:Env)(J':List Blk)(tv':AV),(∃G,J'=J++G)→TR h0 J' (insAll ks (zkeys ⟨f,ws⟩)) tv'→
   envLe J'.length U.length e [(0,.sl L.length (dcAV L) .none),(3,tv'),(4,.int .i64 (i:Nat)),(5,.int .i64 (zi:Nat))]→Q .normal ⟨e,J',U⟩) :
  AW ⟨Tryz.prog,89,10,nb,tb,[100080,100083]⟩ (subC [1,1,0,1,0,0,1,0,0,1,0,0,1,0,0,1] (Tryz.f67.body.getD .skip)) Q
   ⟨[(0,.sl L.length (dcAV L) .none),(3,tv),(4,.int .i64 (i:Nat)),(5,.int .i64 (zi:Nat)),(6,.ptr p6 0)],J,U⟩:=by
 conv=>arg 2;whnf
 have l6:=(List.getElem?_eq_some_iff.1 h6).1
 have hbt:∀(J1:List Blk)(ks1:List Ky)(tv1:AV),TR h0 J1 ks1 tv1→Below J1.length U.length tv1:=fun J1 ks1 tv1 h=>by
  rcases h with⟨_,rfl⟩|⟨i,rest,rfl,_,h3,_⟩
  ·simp
  ·simpa using(List.getElem?_eq_some_iff.1 h3).1
 have hb0:=hbt J ks tv hTR
 refine aw_reg fun K hK=>?_;simp(disch:=omega) ;refine hK _ ?_;clear hK K
 refine aw_block ?_
 refine aw_loop (X:=Nat×List Blk×AV) (fun x=>⟨[(0,.sl L.length (dcAV L) .none),(3,x.2.2),(4,.int .i64 (i:Nat)),(5,.int .i64 (zi:Nat)),(6,.ptr p6 0),(7,.int .i64 (x.1:Nat))],x.2.1,U⟩)
  (fun x=>x.1≤ws.length∧(∃G,x.2.1=J++G)∧TR h0 x.2.1 (insAll ks ((ws.take x.1).map fun w=>(f,w.1))) x.2.2∧HOk x.2.1 U) (fun x=>ws.length-x.1) (0,J,tv) ?_ ?_ ?_
 ·exact⟨Nat.zero_le _,⟨[],by simp⟩,by simpa[insAll] using hTR,HO⟩
 ·refine weak_to [] [] (by simp) (by simp) hnb htb HO ?_
  simp[hb0,l6]
 ·rintro⟨k,J1,tv1⟩ ⟨g1,⟨G,hG⟩,g3,g4⟩
  simp only at g1 hG g3 g4
  have hl1:J.length≤J1.length:=by rw[hG];simp
  have h61:J1[p6]?=some (.cells (znC ⟨f,ws⟩)):=by rw[hG,List.getElem?_append_left l6];exact h6
  have e6:=at_of h61
  have l61:=(List.getElem?_eq_some_iff.1 h61).1
  have hb1:=hbt J1 _ tv1 g3
  refine aw_then fun K5 hK5=>?_
  refine aw_reg fun K hK=>?_;simp(disch:=omega)[e6,l61];refine hK _ ?_;clear hK K
  refine aw_if rfl (fun hk=>?_) (fun hk=>?_)
  ·simp  at hk
   have hkl:(insAll ks ((ws.take k).map fun w=>(f,w.1))).length≤1000000:=by
    have:=insAll_len ((ws.take k).map fun w=>(f,w.1)) ks
    rw[List.length_map,List.length_take] at this
    omega
   have hnx:insAll ks ((ws.take (k+1)).map fun w=>(f,w.1))=insK (f,(ws.getD k w0).1) (insAll ks ((ws.take k).map fun w=>(f,w.1))):=by
    rw[take_getD ws k w0 hk,List.map_append,insAll_app];rfl
   generalize insAll ks ((ws.take k).map fun w=>(f,w.1))=ks1 at *
   refine aw_skip ?_
   refine hK5 _ ?_;clear hK5
   refine aw_then fun K6 hK6=>?_
   refine aw_block ?_
   refine aw_weak ⟨[(0,.sl L.length (dcAV L) .none),(3,tv1),(4,.int .i64 (i:Nat)),(5,.int .i64 (zi:Nat)),(6,.ptr p6 0),(7,.int .i64 (k:Nat))],J1,U⟩ (weak_to [] [] (by simp) (by simp) (by show nb≤J1.length;omega) htb g4 (by simp[hb1,l61])) ?_
   refine key_step L f ws i zi k p6 ks1 tv1 h0 nb tb J1 U hk hkl g3 h61 (by omega) htb g4 (by omega) _ fun e J2 tv2 hG2 hT2 he=>?_
   have hb2:=hbt J2 _ tv2 hT2
   obtain⟨G2,hG2⟩:=hG2
   have hl2:J1.length≤J2.length:=by rw[hG2];simp
   refine hK6 _ (aw_hok fun HO2=>?_)
   refine aw_weak ⟨[(0,.sl L.length (dcAV L) .none),(3,tv2),(4,.int .i64 (i:Nat)),(5,.int .i64 (zi:Nat)),(6,.ptr p6 0),(7,.int .i64 (k:Nat))],J2,U⟩ (weak_to [] [] (by simp) (by simp) (by show nb≤J2.length;omega) htb HO2 he) ?_
   refine aw_reg0 fun K hK=>?_;simp(disch:=omega) 
   refine hK _ ?_;clear hK K
   refine⟨(k+1,J2,tv2),⟨by show k+1≤_;omega,⟨G++G2,by rw[hG2,hG,List.append_assoc]⟩,by simp only;rw[hnx];exact hT2,HO2⟩,by show ws.length-(k+1)<ws.length-k;omega,?_⟩
   refine weak_to [] [] (by simp) (by simp) (by show nb≤J2.length;omega) htb HO2 ?_
   simp[hb2];omega
  ·simp  at hk
   have hke:k=ws.length:=by omega
   subst hke
   rw[List.take_length] at g3
   refine aw_exit ?_;simp(disch:=omega) 
   refine go _ J1 tv1 ⟨G,hG⟩ g3 ?_
   simp[hb1]
attribute [-simp] List.getD_eq_getElem?_getD in
set_option maxHeartbeats 4000000 in
theorem zonesT_loop (L:List Dc)(i:Nat)(hi:i<L.length)(ks:List Ky)(tv:AV)(h0 nb tb:Nat)(J:List Blk)(U:Toks)(hks:ks.length+(dkeys (L.getD i d0)).length≤1000000)(hzl:(L.getD i d0).zs.length≤9223372036854775807)(hTR:TR h0 J ks tv)
  (hnb:nb≤J.length) (htb:tb≤U.length) (HO:HOk J U) (h0J:h0≤J.length) (Q:Exit→St→Prop)
  (go:∀(e:Env)(J':List Blk)(tv':AV),(∃G,J'=J++G)→TR h0 J' (insAll ks (dkeys (L.getD i d0))) tv'→
   envLe J'.length U.length e [(0,.sl L.length (dcAV L) .none),(3,tv'),(4,.int .i64 (i:Nat))]→Q .normal ⟨e,J',U⟩) :
  AW ⟨Tryz.prog,89,10,nb,tb,[100080,100083]⟩ (subC [1,1,0,1,0,0,1,0,0] (Tryz.f67.body.getD .skip)) Q
   ⟨[(0,.sl L.length (dcAV L) .none),(3,tv),(4,.int .i64 (i:Nat))],J,U⟩:=by
 conv=>arg 2;whnf
 obtain⟨_,hat,_⟩:=dcAV_at L i hi
 have hbt:∀(J1:List Blk)(ks1:List Ky)(tv1:AV),TR h0 J1 ks1 tv1→Below J1.length U.length tv1:=fun J1 ks1 tv1 h=>by
  rcases h with⟨_,rfl⟩|⟨i,rest,rfl,_,h3,_⟩
  ·simp
  ·simpa using(List.getElem?_eq_some_iff.1 h3).1
 have hb0:=hbt J ks tv hTR
 unfold dkeys at hks go
 generalize (L.getD i d0).zs=zs at *
 refine aw_reg fun K hK=>?_;simp(disch:=omega) ;refine hK _ ?_;clear hK K
 refine aw_block ?_
 refine aw_loop (X:=Nat×List Blk×AV) (fun x=>⟨[(0,.sl L.length (dcAV L) .none),(3,x.2.2),(4,.int .i64 (i:Nat)),(5,.int .i64 (x.1:Nat))],x.2.1,U⟩)
  (fun x=>x.1≤zs.length∧(∃G,x.2.1=J++G)∧TR h0 x.2.1 (insAll ks ((zs.take x.1).flatMap zkeys)) x.2.2∧HOk x.2.1 U) (fun x=>zs.length-x.1) (0,J,tv) ?_ ?_ ?_
 ·exact⟨Nat.zero_le _,⟨[],by simp⟩,by simpa[insAll] using hTR,HO⟩
 ·refine weak_to [] [] (by simp) (by simp) hnb htb HO ?_
  simp[hb0]
 ·rintro⟨k,J1,tv1⟩ ⟨g1,⟨G,hG⟩,g3,g4⟩
  simp only at g1 hG g3 g4
  have hl1:J.length≤J1.length:=by rw[hG];simp
  have hb1:=hbt J1 _ tv1 g3
  refine aw_then fun K5 hK5=>?_
  refine aw_reg fun K hK=>?_;simp(disch:=omega)[hat,dcAV_len,hi];refine hK _ ?_;clear hK K
  refine aw_if rfl (fun hk=>?_) (fun hk=>?_)
  ·simp  at hk
   have hcut:=znAV_cut zs k hk
   have hnx:insAll ks ((zs.take (k+1)).flatMap zkeys)=insAll (insAll ks ((zs.take k).flatMap zkeys)) (zkeys (zs.getD k z0)):=by
    rw[take_getD zs k z0 hk,List.flatMap_append,insAll_app];simp
   have hkl:(insAll ks ((zs.take k).flatMap zkeys)).length+(zs.getD k z0).ws.length≤1000000:=by
    have h1:=insAll_len ((zs.take k).flatMap zkeys) ks
    have h2:((zs.take k).flatMap zkeys).length+(zkeys (zs.getD k z0)).length≤(zs.flatMap zkeys).length:=by
     have h3:zs.flatMap zkeys=(zs.take k).flatMap zkeys++(zkeys (zs.getD k z0)++(zs.drop (k+1)).flatMap zkeys):=by
      conv=>lhs;rw[←List.take_append_drop k zs,getD_cons_drop zs k z0 hk,List.flatMap_append,List.flatMap_cons]
     rw[h3];simp
    have h4:(zkeys (zs.getD k z0)).length=(zs.getD k z0).ws.length:=by simp[zkeys]
    omega
   generalize insAll ks ((zs.take k).flatMap zkeys)=ks1 at *
   generalize zs.getD k z0=z at *
   obtain⟨f,ws⟩:=z
   simp only at hcut hkl
   refine aw_skip ?_
   refine hK5 _ ?_;clear hK5
   refine aw_then fun K6 hK6=>?_
   refine aw_block ?_
   refine aw_reg fun K hK=>?_;simp(disch:=omega)[hat,dcAV_len,hi,hcut,znAV_len,hk];refine hK _ ?_;clear hK K
   have HO1:HOk (J1++[.cells (znC ⟨f,ws⟩)]) U:=g4.snoc (by simp)
   have hg6:(J1++[Blk.cells (znC ⟨f,ws⟩)])[J1.length]?=some (.cells (znC ⟨f,ws⟩)):=by simp
   have hT1:=g3.app [Blk.cells (znC ⟨f,ws⟩)]
   have hlx:(J1++[Blk.cells (znC ⟨f,ws⟩)]).length=J1.length+1:=by simp
   have hGx:∃G',J1++[Blk.cells (znC ⟨f,ws⟩)]=J++G':=⟨G++[Blk.cells (znC ⟨f,ws⟩)],by rw[hG,List.append_assoc]⟩
   rw[show Blk.cells [.int .i64 f,.sl ws.length (wdAV ws) .none]=.cells (znC ⟨f,ws⟩) from rfl]
   obtain⟨p6,hp6⟩:∃p,p=J1.length:=⟨_,rfl⟩
   rw[←hp6] at hg6
   simp only[←hp6]
   generalize J1++[Blk.cells (znC ⟨f,ws⟩)]=J2 at *
   obtain⟨G',hG'⟩:=hGx
   have hb2:=hbt J2 _ tv1 hT1
   refine aw_weak ⟨[(0,.sl L.length (dcAV L) .none),(3,tv1),(4,.int .i64 (i:Nat)),(5,.int .i64 (k:Nat)),(6,.ptr p6 0)],J2,U⟩ (weak_to [] [] (by simp) (by simp) (by show nb≤J2.length;omega) htb HO1 (by simp[hb2];omega)) ?_
   refine wordsT_loop L f ws i k p6 ks1 tv1 h0 nb tb J2 U hkl hT1 hg6 (by omega) htb HO1 (by omega) _ fun e J3 tv3 hG3 hT3 he=>?_
   have hb3:=hbt J3 _ tv3 hT3
   obtain⟨G3,hG3⟩:=hG3
   have hl3:J2.length≤J3.length:=by rw[hG3];simp
   refine hK6 _ (aw_hok fun HO2=>?_)
   refine aw_weak ⟨[(0,.sl L.length (dcAV L) .none),(3,tv3),(4,.int .i64 (i:Nat)),(5,.int .i64 (k:Nat))],J3,U⟩ (weak_to [] [] (by simp) (by simp) (by show nb≤J3.length;omega) htb HO2 he) ?_
   refine aw_reg0 fun K hK=>?_;simp(disch:=omega) 
   refine hK _ ?_;clear hK K
   refine⟨(k+1,J3,tv3),⟨by show k+1≤_;omega,⟨G'++G3,by rw[hG3,hG',List.append_assoc]⟩,by simp only;rw[hnx];exact hT3,HO2⟩,by show zs.length-(k+1)<zs.length-k;omega,?_⟩
   refine weak_to [] [] (by simp) (by simp) (by show nb≤J3.length;omega) htb HO2 ?_
   simp[hb3]
  ·simp  at hk
   have hke:k=zs.length:=by omega
   subst hke
   rw[List.take_length] at g3
   refine aw_exit ?_;simp(disch:=omega) 
   refine go _ J1 tv1 ⟨G,hG⟩ g3 ?_
   simp[hb1]
attribute [-simp] List.getD_eq_getElem?_getD in
set_option maxHeartbeats 4000000 in
theorem terms39_ok (L:List Dc)(hL:L.length≤1000000)(hks:(L.flatMap dkeys).length≤1000000)(hz:∀d∈L,d.zs.length≤1000000)(H:List Blk)(T:Toks)(tg:Tag) :
  ACall Tryz.prog 67 [.sl L.length (dcAV L) tg] H T (fun r H' T'=>(∃G,H'=H++G)∧T'=T∧TR H.length H' (keysF L) r):=by
 refine ACall.untag1 ?_
 rw[keysF_all]
 have hbt:∀(J1:List Blk)(ks1:List Ky)(tv1:AV),TR H.length J1 ks1 tv1→Below J1.length T.length tv1:=fun J1 ks1 tv1 h=>by
  rcases h with⟨_,rfl⟩|⟨i,rest,rfl,_,h3,_⟩
  ·simp
  ·simpa using(List.getElem?_eq_some_iff.1 h3).1
 refine acall_enter 10 [100080,100083] Tryz.ntmps67 Tryz.func67 rfl (fun _ _=>Tryz.call67 _ _) (by simp) (fun HO=>?_)
 refine aw_reg fun K hK=>?_;simp(disch:=omega) ;refine hK _ ?_;clear hK K
 refine aw_reg fun K hK=>?_;simp(disch:=omega) ;refine hK _ ?_;clear hK K
 refine aw_then fun K1 hK1=>?_
 refine aw_reg fun K hK=>?_;simp(disch:=omega) ;refine hK _ ?_;clear hK K
 refine aw_block ?_
 refine aw_loop (X:=Nat×List Blk×AV) (fun x=>⟨[(0,.sl L.length (dcAV L) .none),(3,x.2.2),(4,.int .i64 (x.1:Nat))],x.2.1,T⟩)
  (fun x=>x.1≤L.length∧(∃G,x.2.1=H++G)∧TR H.length x.2.1 (insAll [] ((L.take x.1).flatMap dkeys)) x.2.2∧HOk x.2.1 T) (fun x=>L.length-x.1) (0,H,.sl 0 [] .full) ?_ ?_ ?_
 ·exact⟨Nat.zero_le _,⟨[],by simp⟩,.inl ⟨by simp[insAll],rfl⟩,HO⟩
 ·refine weak_to [] [] (by simp) (by simp) (Nat.le_refl _) (Nat.le_refl _) HO ?_
  simp
 ·rintro⟨k,J1,tv1⟩ ⟨g1,⟨G,hG⟩,g3,g4⟩
  simp only at g1 hG g3 g4
  have hl1:H.length≤J1.length:=by rw[hG];simp
  have hb1:=hbt J1 _ tv1 g3
  refine aw_then fun K5 hK5=>?_
  refine aw_reg fun K hK=>?_;simp(disch:=omega) ;refine hK _ ?_;clear hK K
  refine aw_if rfl (fun hk=>?_) (fun hk=>?_)
  ·simp  at hk
   have hnx:insAll [] ((L.take (k+1)).flatMap dkeys)=insAll (insAll [] ((L.take k).flatMap dkeys)) (dkeys (L.getD k d0)):=by
    rw[take_getD L k d0 hk,List.flatMap_append,insAll_app];simp
   have hkl:(insAll [] ((L.take k).flatMap dkeys)).length+(dkeys (L.getD k d0)).length≤1000000:=by
    have h1:=insAll_len ((L.take k).flatMap dkeys) []
    have h2:((L.take k).flatMap dkeys).length+(dkeys (L.getD k d0)).length≤(L.flatMap dkeys).length:=by
     have h3:L.flatMap dkeys=(L.take k).flatMap dkeys++(dkeys (L.getD k d0)++(L.drop (k+1)).flatMap dkeys):=by
      conv=>lhs;rw[←List.take_append_drop k L,getD_cons_drop L k d0 hk,List.flatMap_append,List.flatMap_cons]
     rw[h3];simp
    rw[List.length_nil,Nat.zero_add] at h1;omega
   have hzk:=hz _ (getD_mem L k d0 hk)
   generalize insAll [] ((L.take k).flatMap dkeys)=ks1 at *
   refine aw_skip ?_
   refine hK5 _ ?_;clear hK5
   refine aw_then fun K6 hK6=>?_
   refine aw_block ?_
   refine aw_weak ⟨[(0,.sl L.length (dcAV L) .none),(3,tv1),(4,.int .i64 (k:Nat))],J1,T⟩ (weak_to [] [] (by simp) (by simp) hl1 (Nat.le_refl _) g4 (by simp[hb1])) ?_
   refine zonesT_loop L k hk ks1 tv1 H.length H.length T.length J1 T hkl (by omega) g3 hl1 (Nat.le_refl _) g4 hl1 _ fun e J3 tv3 hG3 hT3 he=>?_
   have hb3:=hbt J3 _ tv3 hT3
   obtain⟨G3,hG3⟩:=hG3
   have hl3:J1.length≤J3.length:=by rw[hG3];simp
   refine hK6 _ (aw_hok fun HO2=>?_)
   refine aw_weak ⟨[(0,.sl L.length (dcAV L) .none),(3,tv3),(4,.int .i64 (k:Nat))],J3,T⟩ (weak_to [] [] (by simp) (by simp) (by show H.length≤J3.length;omega) (Nat.le_refl _) HO2 he) ?_
   refine aw_reg0 fun K hK=>?_;simp(disch:=omega) 
   refine hK _ ?_;clear hK K
   refine⟨(k+1,J3,tv3),⟨by show k+1≤_;omega,⟨G++G3,by rw[hG3,hG,List.append_assoc]⟩,by simp only;rw[hnx];exact hT3,HO2⟩,by show L.length-(k+1)<L.length-k;omega,?_⟩
   refine weak_to [] [] (by simp) (by simp) (by show H.length≤J3.length;omega) (Nat.le_refl _) HO2 ?_
   simp[hb3]
  ·simp  at hk
   have hke:k=L.length:=by omega
   subst hke
   rw[List.take_length] at g3
   refine aw_exit ?_;simp(disch:=omega) 
   refine hK1 _ ?_;clear hK1
   refine aw_reg fun K hK=>?_;simp(disch:=omega) ;refine hK _ ?_;clear hK K
   refine aw_ret ?_;simp(disch:=omega) 
   exact⟨⟨G,hG⟩,g3⟩
end Go.Proofs.YtneohapkboaplaaGreat
