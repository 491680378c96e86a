/- segment.Documents (layer 39): the words are sorted.
  Conditions: at most 2^40 words of a zone, as the theorems say. -/
import Derived.Test.YtneohapkboaplaaGreatGDd
import Derived.Test.YtneohapkboaplaaGreatGDp
set_option linter.all false
set_option maxRecDepth 100000
namespace Go.Proofs.YtneohapkboaplaaGreat
open Go Go.Am Sug Seg
def srtWz (z:Wz):Wz:={ z with ws:=sortW z.ws }
theorem sortW_len (l:List Wd):(sortW l).length=l.length:=List.length_mergeSort _
theorem zrs_cut {l:List Wz}{k:Nat}(hk:k<l.length)(r:List AV)(d:Wz):((zrs l++r).drop (k*2)).take 2=[.int .i64 (l.getD k d).f,gv (l.getD k d).ws.length (l.getD k d).i (l.getD k d).cap]:=by
 have h:=zrs_len l
 rw[List.drop_append_of_le_length (by omega),List.take_append_of_le_length (by rw[List.length_drop];omega)]
 exact rows_cut zr_rows l k d hk
attribute [-simp] List.getD_eq_getElem?_getD in
set_option maxHeartbeats 16000000 in
theorem zsort (H:List Blk)(T:Toks)(b1 bo bm nd p22 vi vk nz zi zc:Nat)(N:Nat)(R:List (Nat×Blk))(J:List Blk)(U:Toks)(D1 D2:List Dz)(id:Int)(zs1 zs2:List Wz)(z:Wz)(rest:List AV)(ns:List Nm)(tk:Nat)
  (hS:DS H T R bo N J U (D1++⟨id,zs1++z::zs2,zi,zc,rest,ns,tk⟩::D2)) (hN:N≤1099511627776) (hk:vk=zs1.length) (hnz:nz=zs1.length+1+zs2.length) (hne:z.ws≠[]) (hT:z.ws.Pairwise fun x y=>x.2≠y.2) (hb1:b1<J.length) (hbm:bm<J.length) (hp:p22<J.length) (Q:Exit→St→Prop)
  (go:∀(e:Env)(J':List Blk),(HOk J' U→DS H T R bo N J' U (D1++⟨id,zs1++srtWz z::zs2,zi,zc,rest,ns,tk⟩::D2))→J.length≤J'.length→
   envLe J'.length U.length e [(1,.ptr b1 0),(3,.csl bo nd nd),(4,.mref bm),(173,.msl bo 0 nd),(174,.int .i64 (nd:Nat)),(175,.int .i64 (vi:Nat)),(22,.ptr p22 0),(180,.msl zi 0 nz),(181,.int .i64 (nz:Nat)),(182,.int .i64 (vk:Nat))]→Q .normal ⟨e,J',U⟩) :
  AW ⟨Tryz.prog,192,190,H.length,T.length,[100100,100131]⟩ (subC [1,1,1,1,1,1,1,0,1,0,0,1,1,0,0,1,1,0,0,1,1,0,0] (Tryz.f40.body.getD .skip)) Q ⟨[(1,.ptr b1 0),(3,.csl bo nd nd),(4,.mref bm),(173,.msl bo 0 nd),(174,.int .i64 (nd:Nat)),(175,.int .i64 (vi:Nat)),(22,.ptr p22 0),(180,.msl zi 0 nz),(181,.int .i64 (nz:Nat)),(182,.int .i64 (vk:Nat))],J,U⟩:=by
 conv=>arg 2;whnf
 have gz:=hS.hJ.get (i:=zi) (b:=.cells (zrs (zs1++z::zs2)++rest)) (by simp[Dz.bx,gb])
 have lz:=(List.getElem?_eq_some_iff.1 gz).1
 have ez:=at_of gz
 have lo:=hS.hJ.lt (i:=bo) (b:=.cells (drs (D1++⟨id,zs1++z::zs2,zi,zc,rest,ns,tk⟩::D2))) (by simp)
 have lH:=hS.pJ.le
 have lT:=hS.pU.le
 have hcut:=zrs_cut (l:=zs1++z::zs2) (k:=vk) (by simp;omega) rest z
 have hgz:(zs1++z::zs2).getD vk z=z:=by rw[hk,List.getD_eq_getElem?_getD,List.getElem?_append_right (by omega),Nat.sub_self];rfl
 rw[hgz] at hcut
 have hzl:(zrs (zs1++z::zs2)++rest).length=nz*2+rest.length:=by rw[List.length_append,zrs_len];simp;omega
 have hkn:vk<nz:=by omega
 have hz:=(hS.hD ⟨id,zs1++z::zs2,zi,zc,rest,ns,tk⟩ (by simp)).w z (by simp)
 have hwl:z.ws.length≠0:=fun h=>hne (List.length_eq_zero_iff.1 h)
 simp only[gv,if_neg hwl] at hcut
 refine aw_reg fun K hK=>?_;simp(disch:=omega)[ez,hzl,hcut];refine hK _ ?_;clear hK K
 have hlz:z.i<J.length:=hS.hJ.lt (b:=.cells (wdAV z.ws++z.rest)) (by simp[Dz.bx,Wz.bx,gb,hne])
 have ho1:HOk (J++[.cells [.int .i64 z.f,.csl z.i z.ws.length z.cap]]) U:=hS.ok.snoc (by intro v hv;simp at hv;rcases hv with rfl|rfl<;>first|exact .int _ _|exact .csl _ _ _ (by omega))
 have hS2:=hS.new _ ho1
 have hll2:(J++[Blk.cells [.int .i64 z.f,.csl z.i z.ws.length z.cap]]).length=J.length+1:=by simp
 obtain⟨p24,h24⟩:∃i,i=J.length:=⟨_,rfl⟩
 rw[←h24] at hS2
 simp only[←h24]
 generalize J++[Blk.cells [.int .i64 z.f,.csl z.i z.ws.length z.cap]]=J1 at *
 have g24:=hS2.hJ.get (i:=p24) (b:=.cells [.int .i64 z.f,.csl z.i z.ws.length z.cap]) (by simp)
 have l24:=(List.getElem?_eq_some_iff.1 g24).1
 have e24:=at_of g24
 have gi:=hS2.hJ.get (i:=z.i) (b:=.cells (wdAV z.ws++z.rest)) (by simp[Dz.bx,Wz.bx,gb,hne])
 have cs:=fun U=>sortWd_ok z.ws hne hT z.rest z.i z.cap (by have:=hz.1;omega) J1 U gi
 have hdr:drs (D1++⟨id,zs1++srtWz z::zs2,zi,zc,rest,ns,tk⟩::D2)=drs (D1++⟨id,zs1++z::zs2,zi,zc,rest,ns,tk⟩::D2):=by simp[drs]
 have hzr:zrs (zs1++srtWz z::zs2)=zrs (zs1++z::zs2):=by simp[zrs,srtWz,sortW_len]
 have hbx:∀y:Wz,y.ws≠[]→Dz.bx ⟨id,zs1++y::zs2,zi,zc,rest,ns,tk⟩=(zi,.cells (zrs (zs1++y::zs2)++rest))::(zs1.flatMap Wz.bx++((y.i,.cells (wdAV y.ws++y.rest))::zs2.flatMap Wz.bx)):=fun y hy=>by simp[Dz.bx,gb,Wz.bx,hy]
 have hJ3:=Has.set (A:=(p24,.cells [.int .i64 z.f,.csl z.i z.ws.length z.cap])::(R++(bo,.cells (drs (D1++⟨id,zs1++z::zs2,zi,zc,rest,ns,tk⟩::D2)))::(D1.flatMap Dz.bx++((zi,.cells (zrs (zs1++z::zs2)++rest))::zs1.flatMap Wz.bx)))) (B:=zs2.flatMap Wz.bx++D2.flatMap Dz.bx) (b:=.cells (wdAV z.ws++z.rest)) (by
  have:=hS2.hJ
  rw[List.flatMap_append,List.flatMap_cons,hbx z hne] at this
  simpa using this) (.cells (wdAV (sortW z.ws)++z.rest))
 refine aw_reg0 fun K hK=>?_;simp(disch:=omega)[e24]
 refine acall_is (cs _) ?_;simp(disch:=omega) 
 refine hK _ ?_;clear hK K
 refine go _ _ (fun ho=>⟨?_,?_,?_,hS2.pJ.set (hz.2 hwl).2.2 _,hS2.pU,ho⟩) (by simp;omega) (by simp;omega)
 ·rw[List.flatMap_append,List.flatMap_cons,hbx (srtWz z) (fun h=>hne ((sortW_nil_iff _).1 h)),hdr,hzr]
  rw[List.cons_append] at hJ3
  have h5:=hJ3.sub (List.sublist_cons_self _ _)
  simpa[srtWz] using h5
 ·simpa[Dz.tx] using hS2.hU
 ·intro x hx
  rcases List.mem_append.1 hx with hx|hx
  ·exact hS2.hD x (by simp[hx])
  rcases List.mem_cons.1 hx with rfl|hx
  ·have hd:=hS2.hD ⟨id,zs1++z::zs2,zi,zc,rest,ns,tk⟩ (by simp)
   refine⟨by simpa using hd.z,fun y hy=>?_,hd.n⟩
   rcases List.mem_append.1 hy with hy|hy
   ·exact hd.w y (by simp[hy])
   rcases List.mem_cons.1 hy with rfl|hy
   ·have:=hd.w z (by simp)
    exact⟨by simpa[srtWz,sortW_len] using this.1,fun h=>by
     have:=this.2 (by simpa[srtWz,sortW_len] using h)
     simpa[srtWz,sortW_len] using this⟩
   ·exact hd.w y (by simp[hy])
  ·exact hS2.hD x (by simp[hx])
def srtDz (d:Dz):Dz:={ d with zs:=d.zs.map srtWz }
theorem split_zs {l:List Wz}{k:Nat}(hk:k<l.length):∃z∈l,l.drop k=z::l.drop (k+1)∧l.take (k+1)=l.take k++[z]:=
 ⟨l[k],List.getElem_mem _,(List.getElem_cons_drop ..).symm,by rw[List.take_append_getElem]⟩
attribute [-simp] List.getD_eq_getElem?_getD in
set_option maxHeartbeats 16000000 in
theorem dsort (H:List Blk)(T:Toks)(b1 bo bm nd vi:Nat)(N:Nat)(R:List (Nat×Blk))(J:List Blk)(U:Toks)(D1 D2:List Dz)(d:Dz)
  (hS:DS H T R bo N J U (D1++d::D2)) (hN:N≤1099511627776) (hk:vi=D1.length) (hnd:nd=D1.length+1+D2.length) (hW:∀z∈d.zs,z.ws≠[]∧z.ws.Pairwise fun x y=>x.2≠y.2) (hb1:b1<J.length) (hbm:bm<J.length) (Q:Exit→St→Prop)
  (go:∀(e:Env)(J':List Blk),DS H T R bo N J' U (D1++srtDz d::D2)→J.length≤J'.length→
   envLe J'.length U.length e [(1,.ptr b1 0),(3,.csl bo nd nd),(4,.mref bm),(173,.msl bo 0 nd),(174,.int .i64 (nd:Nat)),(175,.int .i64 (vi:Nat))]→Q .normal ⟨e,J',U⟩) :
  AW ⟨Tryz.prog,192,190,H.length,T.length,[100100,100131]⟩ (subC [1,1,1,1,1,1,1,0,1,0,0,1,1,0,0] (Tryz.f40.body.getD .skip)) Q ⟨[(1,.ptr b1 0),(3,.csl bo nd nd),(4,.mref bm),(173,.msl bo 0 nd),(174,.int .i64 (nd:Nat)),(175,.int .i64 (vi:Nat))],J,U⟩:=by
 conv=>arg 2;whnf
 have go_:=hS.hJ.get (i:=bo) (b:=.cells (drs (D1++d::D2))) (by simp)
 have lo:=(List.getElem?_eq_some_iff.1 go_).1
 have eo:=at_of go_
 have lH:=hS.pJ.le
 have lT:=hS.pU.le
 have hrl:(drs (D1++d::D2)).length=nd*3:=by rw[drs_len];simp;omega
 have hcut:((drs (D1++d::D2)).drop (vi*3)).take 3=d.row:=by
  have:=rows_cut dr_rows (D1++d::D2) vi d (by simp;omega)
  rw[show (D1++d::D2).getD vi d=d by rw[hk,List.getD_eq_getElem?_getD,List.getElem?_append_right (by omega),Nat.sub_self];rfl] at this
  exact this
 have hvn:vi<nd:=by omega
 have hd:=hS.hD d (by simp)
 simp only[Dz.row] at hcut
 refine aw_reg fun K hK=>?_;simp(disch:=omega)[eo,hrl,hcut];refine hK _ ?_;clear hK K
 refine aw_hok fun ho1=>?_
 simp only at ho1
 have hS2:=hS.new _ ho1
 have hll2:(J++[Blk.cells [AV.int .i64 d.id,gv d.zs.length d.i d.cap,ov d.ns d.tk]]).length=J.length+1:=by simp
 obtain⟨p22,h22⟩:∃i,i=J.length:=⟨_,rfl⟩
 rw[←h22] at hS2
 simp only[←h22]
 generalize J++[Blk.cells [AV.int .i64 d.id,gv d.zs.length d.i d.cap,ov d.ns d.tk]]=J1 at *
 have g22:=hS2.hJ.get (i:=p22) (b:=.cells [.int .i64 d.id,gv d.zs.length d.i d.cap,ov d.ns d.tk]) (by simp)
 have l22:=(List.getElem?_eq_some_iff.1 g22).1
 have e22:=at_of g22
 obtain⟨id,zs,i,cap,rest,ns,tk⟩:=d
 simp only at e22 hW
 by_cases hz:zs=[]
 ·subst hz
  simp only[gv,List.length_nil,if_true] at e22
  refine aw_reg fun K hK=>?_;simp(disch:=omega)[e22];refine hK _ ?_;clear hK K
  refine aw_block ?_
  refine aw_loop (X:=Unit) (fun _=>⟨[(1,.ptr b1 0),(3,.csl bo nd nd),(4,.mref bm),(173,.msl bo 0 nd),(174,.int .i64 (nd:Nat)),(175,.int .i64 (vi:Nat)),(180,.sl 0 [] .none),(181,.int .i64 0),(182,.int .i64 0)],J1,U⟩) (fun _=>True) (fun _=>0) () ?_ ?_ ?_
  ·trivial
  ·refine weak_to [] [] ?_ ?_ ?_ ?_ ho1 ?_
   all_goals simp
   all_goals omega
  ·rintro⟨⟩ -
   refine aw_reg fun K hK=>?_;simp(disch:=omega) ;refine hK _ ?_;clear hK K
   refine aw_then fun K2 hK2=>?_
   refine aw_iff rfl ?_
   refine aw_exit ?_;simp(disch:=omega) 
   refine go _ J1 ((hS2.sub (by simp))) (by omega) ?_
   simp;omega
 have hzl:zs.length≠0:=fun h=>hz (List.length_eq_zero_iff.1 h)
 simp only[gv,if_neg hzl] at e22
 have hq:=hd.z.1
 simp only at hq
 have hli:i<J1.length:=hS2.hJ.lt (b:=.cells (zrs zs++rest)) (by simp[Dz.bx,gb,hz])
 refine aw_reg fun K hK=>?_;simp(disch:=omega)[e22];refine hK _ ?_;clear hK K
 refine aw_block ?_
 refine aw_loop (X:=Nat×List Blk) (fun x=>⟨[(1,.ptr b1 0),(3,.csl bo nd nd),(4,.mref bm),(173,.msl bo 0 nd),(174,.int .i64 (nd:Nat)),(175,.int .i64 (vi:Nat)),(22,.ptr p22 0),(180,.msl i 0 zs.length),(181,.int .i64 (zs.length:Nat)),(182,.int .i64 (x.1:Nat))],x.2,U⟩)
  (fun x=>x.1≤zs.length∧DS H T ((p22,.cells [.int .i64 id,.csl i zs.length cap,ov ns tk])::R) bo N x.2 U (D1++⟨id,(zs.take x.1).map srtWz++zs.drop x.1,i,cap,rest,ns,tk⟩::D2)∧J1.length≤x.2.length) (fun x=>zs.length-x.1) (0,J1) ?_ ?_ ?_
 ·exact⟨Nat.zero_le _,by simpa[gv,hzl] using hS2,Nat.le_refl _⟩
 ·refine weak_to [] [] ?_ ?_ ?_ ?_ ho1 ?_
  all_goals simp
  all_goals omega
 ·rintro⟨k,J2⟩ ⟨k1,k2,k3⟩
  simp only at k1 k2 k3
  have lH2:=k2.pJ.le
  have lT2:=k2.pU.le
  refine aw_reg fun K hK=>?_;simp(disch:=omega) ;refine hK _ ?_;clear hK K
  refine aw_then fun K2 hK2=>?_
  refine aw_if rfl (fun hk5=>?_) (fun hk5=>?_)
  ·simp  at hk5
   refine aw_skip ?_;simp(disch:=omega) 
   refine hK2 _ ?_;clear hK2
   refine aw_then fun K3 hK3=>?_
   refine aw_block ?_
   refine aw_weak ⟨[(1,.ptr b1 0),(3,.csl bo nd nd),(4,.mref bm),(173,.msl bo 0 nd),(174,.int .i64 (nd:Nat)),(175,.int .i64 (vi:Nat)),(22,.ptr p22 0),(180,.msl i 0 zs.length),(181,.int .i64 (zs.length:Nat)),(182,.int .i64 (k:Nat))],J2,U⟩ (weak_to [] [] (by simp) (by simp) (by show H.length≤_;omega) (by show T.length≤_;omega) k2.ok (by simp;omega)) ?_
   obtain⟨z,hzm,hdk,htk0⟩:=split_zs hk5
   rw[hdk] at k2
   have hlen:((zs.take k).map srtWz).length=k:=by simp;omega
   refine zsort H T b1 bo bm nd p22 vi k zs.length i cap N _ J2 U D1 D2 id _ _ z rest ns tk k2 hN hlen.symm (by rw[hlen,List.length_drop];omega) (hW z hzm).1 (hW z hzm).2 (by omega) (by omega) (by omega) _ fun e J' a1 a2 a3=>?_
   refine hK3 _ (aw_hok fun HO3=>?_)
   replace a1:=a1 HO3
   have lH3:=a1.pJ.le
   have lT3:=a1.pU.le
   refine aw_weak ⟨[(1,.ptr b1 0),(3,.csl bo nd nd),(4,.mref bm),(173,.msl bo 0 nd),(174,.int .i64 (nd:Nat)),(175,.int .i64 (vi:Nat)),(22,.ptr p22 0),(180,.msl i 0 zs.length),(181,.int .i64 (zs.length:Nat)),(182,.int .i64 (k:Nat))],J',U⟩ (weak_to [] [] (by simp) (by simp) (by show H.length≤_;omega) (by show T.length≤_;omega) a1.ok a3) ?_
   clear hK3
   have htk:(zs.take (k+1)).map srtWz++zs.drop (k+1)=(zs.take k).map srtWz++srtWz z::zs.drop (k+1):=by
    rw[htk0];simp
   refine aw_reg0 fun K hK=>?_;simp(disch:=omega) 
   refine hK _ ?_;clear hK K
   refine⟨(k+1,J'),⟨by show k+1≤_;omega,by show DS _ _ _ _ _ _ _ (D1++⟨id,(zs.take (k+1)).map srtWz++zs.drop (k+1),i,cap,rest,ns,tk⟩::D2);rw[htk];exact a1,by show J1.length≤J'.length;omega⟩,by show zs.length-(k+1)<zs.length-k;omega,?_⟩
   refine weak_to [] [] ?_ ?_ ?_ ?_ a1.ok ?_
   all_goals simp
   all_goals omega
  ·simp  at hk5
   have hkk:k=zs.length:=by omega
   subst hkk
   refine aw_exit ?_;simp(disch:=omega) 
   rw[List.take_length,List.drop_length,List.append_nil] at k2
   refine go _ J2 (k2.sub (by simp)) (by omega) ?_
   simp;omega
end Go.Proofs.YtneohapkboaplaaGreat
