/- The reference's Build (layer 39): the lists of the terms grow in place.
  Conditions: lengths below 400 or 1000, as each theorem says. -/
import Derived.Test.YtneohapkboaplaaGreatGTc
import Derived.Test.YtneohapkboaplaaGreatGTd
set_option linter.all false
set_option maxRecDepth 100000
namespace Seg
open Sug Go.Am Go.Proofs.YtneohapkboaplaaGreat
structure Rw where
 k:Ky
 pl:List Ps
 tg:Tag
abbrev rwC (r:Rw):List AV:=[.int .i64 r.k.1,.str r.k.2,.sl r.pl.length (psAV r.pl) r.tg]
def rwAV (l:List Rw):List AV:=l.flatMap rwC
theorem rw_rows:CellsK rwC 3:=fun _=>rfl
theorem rwAV_len (l:List Rw):(rwAV l).length=l.length*3:=rows_len rw_rows l
theorem rw_split (R1 R2:List Rw)(r:Rw)(rest:List AV):rwAV (R1++r::R2)++rest=rwAV R1++(.int .i64 r.k.1::.str r.k.2::.sl r.pl.length (psAV r.pl) r.tg::(rwAV R2++rest)):=by simp[rwAV]
theorem rw_at (R1 R2:List Rw)(r:Rw)(rest:List AV):(rwAV (R1++r::R2)++rest).getD (R1.length*3) .top=.int .i64 r.k.1∧(rwAV (R1++r::R2)++rest).getD (R1.length*3+1) .top=.str r.k.2∧(rwAV (R1++r::R2)++rest).getD (R1.length*3+2) .top=.sl r.pl.length (psAV r.pl) r.tg:=by
 rw[rw_split]
 have h:=rwAV_len R1
 have key:∀(j:Nat)(X:List AV),(rwAV R1++X).getD (R1.length*3+j) .top=X.getD j .top:=fun j X=>by
  rw[List.getD_eq_getElem?_getD,List.getElem?_append_right (by omega),List.getD_eq_getElem?_getD];congr 2;omega
 exact⟨key 0 _,key 1 _,key 2 _⟩
theorem rw_set (R1 R2:List Rw)(r:Rw)(rest:List AV)(pl:List Ps)(tg:Tag):(rwAV (R1++r::R2)++rest).set (R1.length*3+2) (.sl pl.length (psAV pl) tg)=rwAV (R1++⟨r.k,pl,tg⟩::R2)++rest:=by
 rw[rw_split,rw_split,List.set_append_right _ _ (by rw[rwAV_len];omega),rwAV_len]
 congr 1
 rw[show R1.length*3+2-R1.length*3=2 by omega]
 rfl
def tokR (r:Rw):List (Nat×(Nat×Nat)):=match r.tg with
 |.own tk=>[(tk,(r.pl.length*2,2))]
 |_=>[]
def rowT (R:List Rw):List (Nat×(Nat×Nat)):=R.flatMap tokR
def RwOk (r:Rw):Prop:=(r.tg=.full∧r.pl=[])∨∃tk,r.tg=.own tk
def posR (d:Dc)(k:Ky):List Int:=posZ (wzf d.zs k.1) k.2
def pstR (d:Dc)(k:Ky):List Ps:=if posR d k=[] then [] else [(d.id,posR d k)]
end Seg
namespace Go.Proofs.YtneohapkboaplaaGreat
open Go Go.Am Sug Seg
attribute [-simp] List.getD_eq_getElem?_getD in
set_option maxHeartbeats 8000000 in
theorem row_step (L:List Dc)(i:Nat)(hi:i<L.length)(hs:SzD (L.getD i d0))(hw6:∀z∈(L.getD i d0).zs,z.ws.length≤1000000)(R1 R2:List Rw)(r:Rw)(hr:RwOk r)(hpl:r.pl.length≤1000000)(H:List Blk)(T:Toks)(nb tb b2 b6 td tc it n:Nat)(hn:n=R1.length+1+R2.length)
  (dv cv:AV) (B0:Blk) (rest:List AV) (J:List Blk) (U:Toks) (RU:List (Nat×(Nat×Nat))) (hnb:nb≤J.length) (htb:tb≤U.length) (hit:H.length≤it)
  (hJ:Has J ((b2,B0)::(b6,.cells [dv,.msl it 0 n,cv])::[(it,.cells (rwAV (R1++r::R2)++rest))])) (hU:Has U (RU++rowT (R1++r::R2))) (hPJ:Pre H J) (hPU:Pre T U) (htT:∀tk,r.tg=.own tk→T.length≤tk) (HO:HOk J U) (Q:Exit→St→Prop)
  (go:∀(e:Env)(J':List Blk)(U':Toks)(r':Rw),r'.k=r.k→r'.pl=r.pl++pstR (L.getD i d0) r.k→RwOk r'→(∀tk,r'.tg=.own tk→T.length≤tk)→Has J' ((b2,B0)::(b6,.cells [dv,.msl it 0 n,cv])::[(it,.cells (rwAV (R1++r'::R2)++rest))])→
   Has U' (RU++rowT (R1++r'::R2))→Pre H J'→Pre T U'→J'.length=J.length→U.length≤U'.length→envLe J'.length U'.length e [(0,.sl L.length (dcAV L) .none),(2,.ptr b2 0),(6,.ptr b6 0),(7,.int .i64 (i:Nat)),(8,.int .i64 (R1.length:Nat))]→Q .normal ⟨e,J',U'⟩) :
  AW ⟨Tryz.prog,135,12,nb,tb,[]⟩ (subC [1,1,1,1,1,1,0,1,0,0,1,0,0,1,1,0,0,1,0,0] (Tryz.f14.body.getD .skip)) Q
   ⟨[(0,.sl L.length (dcAV L) .none),(2,.ptr b2 0),(6,.ptr b6 0),(7,.int .i64 (i:Nat)),(8,.int .i64 (R1.length:Nat))],J,U⟩:=by
 conv=>arg 2;whnf
 have hcut:=dcAV_cut L i hi
 have hid:=(dcAV_at L i hi).1
 have c:=positionsR_ok (L.getD i d0) hs hw6 r.k.1 r.k.2 J U
 have hpo:pstR (L.getD i d0) r.k=if posR (L.getD i d0) r.k=[] then [] else [((L.getD i d0).id,posR (L.getD i d0) r.k)]:=rfl
 rw[show posZ (wzf (L.getD i d0).zs r.k.1) r.k.2=posR (L.getD i d0) r.k from rfl] at c
 have hpln:(posR (L.getD i d0) r.k).length≤1000000:=by
  unfold posR posZ
  rw[List.length_map]
  refine Nat.le_trans (List.length_filter_le _ _) ?_
  have key:∀zs:List Zn,(∀z∈zs,z.ws.length≤1000000)→(wzf zs r.k.1).length≤1000000:=by
   intro zs
   induction zs with
   |nil=>intro _;simp[wzf]
   |cons z q ih=>
    intro h
    unfold wzf
    split
    ·exact h z (by simp)
    ·exact ih fun y hy=>h y (by simp[hy])
  exact key _ hw6
 generalize posR (L.getD i d0) r.k=ps at *
 generalize pstR (L.getD i d0) r.k=pr at *
 generalize L.getD i d0=d at *
 have g6:=hJ.get (i:=b6) (b:=.cells [dv,.msl it 0 n,cv]) (by simp)
 have git:=hJ.get (i:=it) (b:=.cells (rwAV (R1++r::R2)++rest)) (by simp)
 have l2:=hJ.lt (i:=b2) (b:=B0) (by simp)
 have e6:=at_of g6
 have eit:=at_of git
 have l6:=(List.getElem?_eq_some_iff.1 g6).1
 have lit:=(List.getElem?_eq_some_iff.1 git).1
 obtain⟨v0,v1,v2⟩:=rw_at R1 R2 r rest
 have vset:=rw_set R1 R2 r rest
 have vlen:R1.length*3+3≤(rwAV (R1++r::R2)++rest).length:=by rw[List.length_append,rwAV_len];simp;omega
 have hin:R1.length<n:=by omega
 generalize hvs:rwAV (R1++r::R2)++rest=vs at *
 have d0':R1.length*3<vs.length:=by omega
 have d1':R1.length*3+1<vs.length:=by omega
 have d2':R1.length*3+2<vs.length:=by omega
 have e1:R1.length*3+1=1+R1.length*3:=by omega
 refine aw_draw [] [] [] drawMixed (by kernel_rfl) (by kernel_rfl) fun K hK=>?_;simp(disch:=omega)[e6,l6,eit,lit,hcut,dcAV_len,hi,hin,v0,v1,d0',d1']
 refine dcall_is (c) rfl ?_;simp(disch:=omega) 
 refine hK _ ?_;clear hK K
 refine aw_weak ⟨[(0,.sl L.length (dcAV L) .none),(2,.ptr b2 0),(6,.ptr b6 0),(7,.int .i64 (i:Nat)),(8,.int .i64 (R1.length:Nat)),(9,.sl ps.length (ints ps) .none)],J,U⟩ (weak_to [] [] (by simp) (by simp) hnb htb HO (by simp[l2,l6])) ?_
 by_cases hps:ps=[]
 ·subst hps
  refine aw_reg fun K hK=>?_;simp(disch:=omega) ;refine hK _ ?_;clear hK K
  refine aw_iff rfl ?_
  refine aw_skip ?_
  refine go _ J U r rfl (by rw[hpo,if_pos rfl,List.append_nil]) hr htT (by rw[hvs];exact hJ) hU hPJ hPU rfl (Nat.le_refl _) ?_
  simp[l2,l6]
 have hpl0:0<ps.length:=by
  rcases Nat.eq_zero_or_pos ps.length with h|h
  ·exact absurd (List.length_eq_zero_iff.1 h) hps
  ·exact h
 have b1:decide ((0:Int)<(ps.length:Int))=true:=decide_eq_true (by omega)
 rw[if_neg hps] at hpo
 refine aw_reg fun K hK=>?_;simp(disch:=omega)[b1,hpl0];refine hK _ ?_;clear hK K
 refine aw_ift rfl ?_
 rcases hr with⟨hr1,hr2⟩|⟨tk,hr1⟩
 ·rw[hr1,hr2] at v2
  have vs2:=vset [(d.id,ps)] (.own U.length)
  rw[show psAV [(d.id,ps)]=[.int .i64 d.id,.sl ps.length (ints ps) .none] from rfl,show [(d.id,ps)].length=1 from rfl] at vs2
  refine aw_draw0 [17,20] [0,0,0,0,0,0,0,0,0,0,0,0,0,0,0,0,0,0,1,1,1] [[0,1,2],[]] drawMixed (by kernel_rfl) (by kernel_rfl) fun K hK=>?_;simp(disch:=omega)[e6,l6,eit,lit,hid,dcAV_len,hi,hin,v2,d2',psAV_nil]
  rw[vs2]
  have hJ2:=Has.set (A:=[(b2,B0),(b6,.cells [dv,.msl it 0 n,cv])]) (B:=[]) (b:=.cells vs) hJ (.cells (rwAV (R1++⟨r.k,[(d.id,ps)],.own U.length⟩::R2)++rest))
  have hU2:Has (U++[(2,2)]) (RU++rowT (R1++⟨r.k,[(d.id,ps)],.own U.length⟩::R2)):=by
   refine(hU.new (2,2)).perm ?_
   have h1:rowT (R1++⟨r.k,[(d.id,ps)],.own U.length⟩::R2)=rowT R1++(U.length,(2,2))::rowT R2:=by simp[rowT,tokR]
   have h2:rowT (R1++r::R2)=rowT R1++rowT R2:=by simp[rowT,tokR,hr1]
   rw[h1,h2]
   have h3:RU++(rowT R1++(U.length,(2,2))::rowT R2)=(RU++rowT R1)++(U.length,(2,2))::rowT R2:=by simp
   rw[h3]
   refine List.perm_middle.trans ?_
   refine(List.perm_append_singleton _ _).symm.trans ?_
   simp
  have hpU:=hPU.le
  refine hK _ ?_
  refine go _ _ _ ⟨r.k,[(d.id,ps)],.own U.length⟩ rfl (by rw[hr2,hpo];rfl) (.inr ⟨_,rfl⟩) (fun tk h=>by injection h with h;omega) hJ2 hU2 (hPJ.set hit _) (hPU.app _) (by simp) (by simp) ?_
  simp[l2,l6]
 ·have gU:=hU.get (i:=tk) (b:=(r.pl.length*2,2)) (by simp[rowT,tokR,hr1])
  have eU:=at_of gU
  have lU:=(List.getElem?_eq_some_iff.1 gU).1
  rw[hr1] at v2
  have vs2:=vset (r.pl++[(d.id,ps)]) (.own tk)
  rw[show psAV (r.pl++[(d.id,ps)])=psAV r.pl++[.int .i64 d.id,.sl ps.length (ints ps) .none] by simp[psAV],show (r.pl++[(d.id,ps)]).length=r.pl.length+1 by simp] at vs2
  refine aw_draw0 [17,20] [0,0,0,0,0,0,0,0,0,0,0,0,0,0,0,0,0,0,1,1,1] [[0,1,2],[]] drawMixed (by kernel_rfl) (by kernel_rfl) fun K hK=>?_;simp(disch:=omega)[e6,l6,eit,lit,hid,dcAV_len,hi,hin,v2,d2',psAV_len,eU,lU]
  rw[vs2]
  have hJ2:=Has.set (A:=[(b2,B0),(b6,.cells [dv,.msl it 0 n,cv])]) (B:=[]) (b:=.cells vs) hJ (.cells (rwAV (R1++⟨r.k,r.pl++[(d.id,ps)],.own tk⟩::R2)++rest))
  have hU2:Has (U.set tk ((r.pl.length+1)*2,2)) (RU++rowT (R1++⟨r.k,r.pl++[(d.id,ps)],.own tk⟩::R2)):=by
   have h1:RU++rowT (R1++⟨r.k,r.pl++[(d.id,ps)],.own tk⟩::R2)=(RU++rowT R1)++(tk,((r.pl.length+1)*2,2))::rowT R2:=by simp[rowT,tokR]
   have h2:RU++rowT (R1++r::R2)=(RU++rowT R1)++(tk,(r.pl.length*2,2))::rowT R2:=by simp[rowT,tokR,hr1]
   rw[h1];rw[h2] at hU
   exact hU.set _
  have htk:=htT tk hr1
  refine hK _ ?_
  refine go _ _ _ ⟨r.k,r.pl++[(d.id,ps)],.own tk⟩ rfl (by rw[hpo]) (.inr ⟨_,rfl⟩) (fun tk' h=>by injection h with h;omega) hJ2 hU2 (hPJ.set hit _) (hPU.set htk _) (by simp) (by simp) ?_
  simp[l2,l6]
end Go.Proofs.YtneohapkboaplaaGreat
