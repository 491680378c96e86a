/- The reference's Build (layer 39): the loops.
  Conditions: lengths below 400 or 1000, as each theorem says. -/
import Derived.Test.YtneohapkboaplaaGreatGTe
set_option linter.all false
set_option maxRecDepth 100000
namespace Seg
open Sug Go.Am Go.Proofs.YtneohapkboaplaaGreat
def Tb (h0:Nat)(R:List Rw)(tv:AV)(TB:List (Nat×Blk)):Prop:=(R=[]∧tv=.sl 0 [] .none∧TB=[])∨∃it rest,tv=.msl it 0 R.length∧TB=[(it,.cells (rwAV R++rest))]∧h0≤it
structure RI (H:List Blk)(T:Toks)(b2 b6:Nat)(RU:List (Nat×(Nat×Nat)))(dv tv cv:AV)(B0:Blk)(R:List Rw)(J:List Blk)(U:Toks):Prop where
 hJ:∃TB,Tb H.length R tv TB∧Has J ((b2,B0)::(b6,.cells [dv,tv,cv])::TB)
 hU:Has U (RU++rowT R)
 hr:∀r∈R,RwOk r∧∀tk,r.tg=.own tk→T.length≤tk
 pJ:Pre H J
 pU:Pre T U
abbrev rw0:Rw:=⟨k0,[],.full⟩
def kp (R:List Rw):List (Ky×List Ps):=R.map fun r=>(r.k,r.pl)
def stepK (d:Dc)(x:Ky×List Ps):Ky×List Ps:=(x.1,x.2++pstR d x.1)
theorem kp_len (R:List Rw):(kp R).length=R.length:=by simp[kp]
def colN (L:List Dc)(c:Nat):List Cl:=(List.range c).flatMap fun(c:Nat)=>colF L (5+(c:Int))
theorem colN_succ (L:List Dc)(c:Nat):colN L (c+1)=colN L c++colF L (5+(c:Int)):=by unfold colN;rw[List.range_succ,List.flatMap_append];simp
theorem colN_len (L:List Dc):∀c,(colN L c).length≤c
 |0=>by simp[colN]
 |c+1=>by
  have:=colN_len L c
  have h2:(colF L (5+(c:Int))).length≤1:=by unfold colF;split<;>simp
  rw[colN_succ,List.length_append];omega
end Seg
namespace Go.Proofs.YtneohapkboaplaaGreat
open Go Go.Am Sug Seg
attribute [-simp] List.getD_eq_getElem?_getD in
set_option maxHeartbeats 8000000 in
theorem rows_loop (L:List Dc)(i:Nat)(hi:i<L.length)(hs:SzD (L.getD i d0))(hw6:∀z∈(L.getD i d0).zs,z.ws.length≤1000000)(H:List Blk)(T:Toks)(nb tb b2 b6 td tc:Nat)(dv tv cv:AV)(B0:Blk)(RU:List (Nat×(Nat×Nat)))(R:List Rw)(J:List Blk)(U:Toks)(hnb:nb≤J.length)(htb:tb≤U.length)
  (hRI:RI H T b2 b6 RU dv tv cv B0 R J U) (hpl:∀x∈kp R,x.2.length≤1000000) (hRl:R.length≤1000000) (HO:HOk J U) (Q:Exit→St→Prop)
  (go:∀(e:Env)(J':List Blk)(U':Toks)(R':List Rw),RI H T b2 b6 RU dv tv cv B0 R' J' U'→kp R'=(kp R).map (stepK (L.getD i d0))→J'.length=J.length→U.length≤U'.length→
   envLe J'.length U'.length e [(0,.sl L.length (dcAV L) .none),(2,.ptr b2 0),(6,.ptr b6 0),(7,.int .i64 (i:Nat))]→Q .normal ⟨e,J',U'⟩) :
  AW ⟨Tryz.prog,135,12,nb,tb,[]⟩ (subC [1,1,1,1,1,1,0,1,0,0,1,0,0,1] (Tryz.f14.body.getD .skip)) Q
   ⟨[(0,.sl L.length (dcAV L) .none),(2,.ptr b2 0),(6,.ptr b6 0),(7,.int .i64 (i:Nat))],J,U⟩:=by
 conv=>arg 2;whnf
 have hb:∀{R' J' U'},RI H T b2 b6 RU dv tv cv B0 R' J' U'→b2<J'.length∧b6<J'.length:=fun h=>by
  obtain⟨TB,_,h2⟩:=h.hJ
  exact⟨h2.lt (b:=B0) (by simp),h2.lt (b:=.cells [dv,tv,cv]) (by simp)⟩
 obtain⟨m2,m6⟩:=hb hRI
 refine aw_reg fun K hK=>?_;simp(disch:=omega) ;refine hK _ ?_;clear hK K
 refine aw_block ?_
 refine aw_loop (X:=Nat×List Blk×Toks×List Rw) (fun x=>⟨[(0,.sl L.length (dcAV L) .none),(2,.ptr b2 0),(6,.ptr b6 0),(7,.int .i64 (i:Nat)),(8,.int .i64 (x.1:Nat))],x.2.1,x.2.2.1⟩)
  (fun x=>x.1≤R.length∧RI H T b2 b6 RU dv tv cv B0 x.2.2.2 x.2.1 x.2.2.1∧kp x.2.2.2=((kp R).take x.1).map (stepK (L.getD i d0))++(kp R).drop x.1∧x.2.1.length=J.length∧U.length≤x.2.2.1.length∧HOk x.2.1 x.2.2.1) (fun x=>R.length-x.1) (0,J,U,R) ?_ ?_ ?_
 ·exact⟨Nat.zero_le _,hRI,by simp,rfl,Nat.le_refl _,HO⟩
 ·refine weak_to [] [] (by simp) (by simp) hnb htb HO ?_
  simp[m2,m6]
 ·rintro⟨kk,J1,U1,R3⟩ ⟨g1,g2,g3,g4,g5,g6⟩
  simp only at g1 g2 g3 g4 g5 g6
  obtain⟨n2,n6⟩:=hb g2
  have hlen:R3.length=R.length:=by
   have:=congrArg List.length g3
   rw[kp_len,List.length_append,List.length_map,List.length_take,List.length_drop,kp_len] at this
   omega
  obtain⟨TB,hTB,hJ1⟩:=g2.hJ
  have e6:=at_of (hJ1.get (i:=b6) (b:=.cells [dv,tv,cv]) (by simp))
  refine aw_then fun K5 hK5=>?_
  rcases hTB with⟨h1,htv,_⟩|⟨it,rest,htv,hTBe,hit⟩
  ·subst htv
   have hR0:R.length=0:=by rw[←hlen,h1];rfl
   have hk0:kk=0:=by omega
   subst hk0
   refine aw_reg fun K hK=>?_;simp(disch:=omega)[e6,n6];refine hK _ ?_;clear hK K
   refine aw_iff rfl ?_
   refine aw_exit ?_;simp(disch:=omega) 
   refine go _ J1 U1 R3 g2 (by rw[h1,List.length_eq_zero_iff.1 hR0];rfl) g4 g5 ?_
   simp[n2,n6]
  ·rw[hlen] at htv
   subst htv
   subst hTBe
   refine aw_reg fun K hK=>?_;simp(disch:=omega)[e6,n6];refine hK _ ?_;clear hK K
   refine aw_if rfl (fun hk=>?_) (fun hk=>?_)
   ·simp  at hk
    obtain⟨R1,r,R2,hR3,hR1⟩:∃R1 r R2,R3=R1++r::R2∧R1.length=kk:=⟨R3.take kk,R3.getD kk rw0,R3.drop (kk+1),by rw[←getD_cons_drop R3 kk rw0 (by omega),List.take_append_drop],by rw[List.length_take];omega⟩
    subst hR1
    subst hR3
    have hkl:R1.length<(kp R).length:=by rw[kp_len];exact hk
    have hsp:kp R1++(r.k,r.pl)::kp R2=((kp R).take R1.length).map (stepK (L.getD i d0))++(kp R).drop R1.length:=by rw[←g3];simp[kp]
    obtain⟨hA,hB⟩:=List.append_inj hsp (by rw[kp_len,List.length_map,List.length_take];omega)
    rw[getD_cons_drop (kp R) R1.length (k0,[]) hkl] at hB
    obtain⟨hx,hB2⟩:=List.cons.inj hB
    have hmem:(r.k,r.pl)∈kp R:=by rw[hx];exact getD_mem (kp R) R1.length (k0,[]) hkl
    have hn:R.length=R1.length+1+R2.length:=by rw[←hlen];simp;omega
    obtain⟨hr1,hr2⟩:=g2.hr r (by simp)
    refine aw_skip ?_
    refine hK5 _ ?_;clear hK5
    refine aw_then fun K6 hK6=>?_
    refine aw_block ?_
    refine aw_weak ⟨[(0,.sl L.length (dcAV L) .none),(2,.ptr b2 0),(6,.ptr b6 0),(7,.int .i64 (i:Nat)),(8,.int .i64 (R1.length:Nat))],J1,U1⟩ (weak_to [] [] (by simp) (by simp) (by show nb≤J1.length;omega) (by show tb≤U1.length;omega) g6 (by simp[n2,n6])) ?_
    refine row_step L i hi hs hw6 R1 R2 r hr1 (hpl _ hmem) H T nb tb b2 b6 td tc it R.length hn dv cv B0 rest J1 U1 RU (by omega) (by omega) hit hJ1 g2.hU g2.pJ g2.pU hr2 g6 _ fun e J2 U2 r' q1 q2 q3 q4 q5 q6 q7 q8 q9 q10 he=>?_
    have p2:b2<J2.length:=by omega
    have p6:b6<J2.length:=by omega
    refine hK6 _ (aw_hok fun HO2=>?_)
    refine aw_weak ⟨[(0,.sl L.length (dcAV L) .none),(2,.ptr b2 0),(6,.ptr b6 0),(7,.int .i64 (i:Nat)),(8,.int .i64 (R1.length:Nat))],J2,U2⟩ (weak_to [] [] (by simp) (by simp) (by show nb≤J2.length;omega) (by show tb≤U2.length;omega) HO2 he) ?_
    refine aw_reg0 fun K hK=>?_;simp(disch:=omega) 
    refine hK _ ?_;clear hK K
    have hlen2:R.length=(R1++r'::R2).length:=by rw[hn];simp;omega
    refine⟨(R1.length+1,J2,U2,R1++r'::R2),⟨by show R1.length+1≤_;omega,⟨⟨_,.inr ⟨it,rest,by rw[←hlen2],rfl,hit⟩,q5⟩,q6,fun x hx2=>?_,q7,q8⟩,?_,by show J2.length=_;omega,by show _≤U2.length;omega,HO2⟩,by show R.length-(R1.length+1)<R.length-R1.length;omega,?_⟩
    ·rcases List.mem_append.1 hx2 with hx2|hx2
     ·exact g2.hr x (by simp[hx2])
     ·rcases List.mem_cons.1 hx2 with rfl|hx2
      ·exact⟨q3,q4⟩
      ·exact g2.hr x (by simp[hx2])
    ·show kp (R1++r'::R2)=((kp R).take (R1.length+1)).map (stepK (L.getD i d0))++(kp R).drop (R1.length+1)
     rw[take_getD (kp R) R1.length (k0,[]) hkl,List.map_append,←hA,←hB2,←hx]
     simp[kp,stepK,q1,q2]
    ·refine weak_to [] [] (by simp) (by simp) (by show nb≤J2.length;omega) (by show tb≤U2.length;omega) HO2 ?_
     simp[p2,p6]
   ·simp  at hk
    have hke:kk=R.length:=by omega
    subst hke
    refine aw_exit ?_;simp(disch:=omega) 
    refine go _ J1 U1 R3 g2 ?_ g4 g5 ?_
    ·rw[g3,←kp_len R,List.take_length,List.drop_length,List.append_nil]
    ·simp[n2,n6]
end Go.Proofs.YtneohapkboaplaaGreat
namespace Seg
open Sug Go.Am Go.Proofs.YtneohapkboaplaaGreat
theorem pstR_len (k:Ky):∀l:List Dc,(l.flatMap fun d=>pstR d k).length≤l.length
 |[]=>by simp
 |d::l=>by
  have:=pstR_len k l
  have h2:(pstR d k).length≤1:=by unfold pstR;split<;>simp
  rw[List.flatMap_cons,List.length_append,List.length_cons];omega
end Seg
namespace Go.Proofs.YtneohapkboaplaaGreat
open Go Go.Am Sug Seg
attribute [-simp] List.getD_eq_getElem?_getD in
set_option maxHeartbeats 8000000 in
theorem docsR_loop (L:List Dc)(hL:L.length≤1000000)(hs:∀d∈L,SzD d)(hw6:∀d∈L,∀z∈d.zs,z.ws.length≤1000000)(H:List Blk)(T:Toks)(nb tb b2 b6 td tc:Nat)(tv cv:AV)(B0:Blk)(ks:List Ky)(R:List Rw)(J:List Blk)(U:Toks)(hnb:nb≤J.length)(htb:tb≤U.length)
  (hRI:RI H T b2 b6 [(td,(0,1)),(tc,(0,2))] (.sl 0 [] (.own td)) tv cv B0 R J U) (hk0:kp R=ks.map fun k=>(k,[])) (hkl:ks.length≤1000000) (hb6:H.length≤b6) (htd:T.length≤td) (HO:HOk J U) (Q:Exit→St→Prop)
  (go:∀(e:Env)(J':List Blk)(U':Toks)(R':List Rw),RI H T b2 b6 [(td,(L.length,1)),(tc,(0,2))] (.sl L.length (ints (L.map (·.id))) (.own td)) tv cv B0 R' J' U'→kp R'=ks.map (fun k=>(k,L.flatMap fun d=>pstR d k))→J'.length=J.length→U.length≤U'.length→
   envLe J'.length U'.length e [(0,.sl L.length (dcAV L) .none),(2,.ptr b2 0),(6,.ptr b6 0)]→Q .normal ⟨e,J',U'⟩) :
  AW ⟨Tryz.prog,135,12,nb,tb,[]⟩ (subC [1,1,1,1,1,1,0] (Tryz.f14.body.getD .skip)) Q
   ⟨[(0,.sl L.length (dcAV L) .none),(2,.ptr b2 0),(6,.ptr b6 0)],J,U⟩:=by
 conv=>arg 2;whnf
 have hb:∀{RU dv R' J' U'},RI H T b2 b6 RU dv tv cv B0 R' J' U'→b2<J'.length∧b6<J'.length:=fun {RU dv R' J' U'} h=>by
  obtain⟨TB,_,h2⟩:=h.hJ
  exact⟨h2.lt (b:=B0) (by simp),h2.lt (b:=.cells [dv,tv,cv]) (by simp)⟩
 obtain⟨m2,m6⟩:=hb hRI
 refine aw_reg fun K hK=>?_;simp(disch:=omega) ;refine hK _ ?_;clear hK K
 refine aw_block ?_
 refine aw_loop (X:=Nat×List Blk×Toks×List Rw) (fun x=>⟨[(0,.sl L.length (dcAV L) .none),(2,.ptr b2 0),(6,.ptr b6 0),(7,.int .i64 (x.1:Nat))],x.2.1,x.2.2.1⟩)
  (fun x=>x.1≤L.length∧RI H T b2 b6 [(td,(x.1,1)),(tc,(0,2))] (.sl x.1 (ints ((L.take x.1).map (·.id))) (.own td)) tv cv B0 x.2.2.2 x.2.1 x.2.2.1∧kp x.2.2.2=ks.map (fun k=>(k,(L.take x.1).flatMap fun d=>pstR d k))∧x.2.1.length=J.length∧U.length≤x.2.2.1.length∧HOk x.2.1 x.2.2.1) (fun x=>L.length-x.1) (0,J,U,R) ?_ ?_ ?_
 ·exact⟨Nat.zero_le _,by simpa using hRI,by simpa using hk0,rfl,Nat.le_refl _,HO⟩
 ·refine weak_to [] [] (by simp) (by simp) hnb htb HO ?_
  simp[m2,m6]
 ·rintro⟨i,J1,U1,R3⟩ ⟨g1,g2,g3,g4,g5,g6⟩
  simp only at g1 g2 g3 g4 g5 g6
  obtain⟨n2,n6⟩:=hb g2
  refine aw_then fun K2 hK2=>?_
  refine aw_reg fun K hK=>?_;simp(disch:=omega) ;refine hK _ ?_;clear hK K
  refine aw_if rfl (fun hk=>?_) (fun hk=>?_)
  ·simp  at hk
   have hid:=(dcAV_at L i hk).1
   obtain⟨TB,hTB,hJ1⟩:=g2.hJ
   have e6:=at_of (hJ1.get (i:=b6) (b:=.cells [.sl i (ints ((L.take i).map (·.id))) (.own td),tv,cv]) (by simp))
   have gU:=g2.hU.get (i:=td) (b:=(i,1)) (by simp)
   have eU:=at_of gU
   have lU:=(List.getElem?_eq_some_iff.1 gU).1
   have htk:ints ((L.take i).map (·.id))++[.int .i64 (L.getD i d0).id]=ints ((L.take (i+1)).map (·.id)):=by rw[take_getD L i d0 hk,List.map_append,ints_snoc];rfl
   have hidl:((L.take i).map (·.id)).length=i:=by rw[List.length_map,List.length_take];omega
   generalize (L.take i).map (·.id)=ids at *
   generalize hids2:(L.take (i+1)).map (·.id)=ids2 at *
   generalize (L.getD i d0).id=xid at *
   have hil:(L.take i).length=i:=by rw[List.length_take];omega
   have hfm:∀k,(L.take (i+1)).flatMap (fun d=>pstR d k)=(L.take i).flatMap (fun d=>pstR d k)++pstR (L.getD i d0) k:=fun k=>by rw[take_getD L i d0 hk,List.flatMap_append];simp
   refine aw_skip ?_
   refine hK2 _ ?_;clear hK2
   refine aw_then fun K6 hK6=>?_
   refine aw_block ?_
   refine aw_draw [8,10] [0,0,0,0,0,0,0,0,0,1,1] [[],[]] drawMixed (by kernel_rfl) (by kernel_rfl) fun K hK=>?_;simp(disch:=omega)[e6,n6,hid,dcAV_len,hk,eU,lU,hidl]
   refine hK _ ?_;clear hK K
   refine aw_hok fun HO2=>?_
   simp only at HO2
   have hJ2:=Has.set (A:=[(b2,B0)]) (B:=TB) (b:=.cells [.sl i (ints ids) (.own td),tv,cv]) hJ1 (.cells [.sl (i+1) (ints ids2) (.own td),tv,cv])
   have hU2:=Has.set (A:=[]) (B:=(tc,(0,2))::rowT R3) (b:=(i,1)) (by simpa using g2.hU) (i+1,1)
   rw[←htk] at hJ2
   have hRI2:RI H T b2 b6 [(td,(i+1,1)),(tc,(0,2))] (.sl (i+1) (ints ids2) (.own td)) tv cv B0 R3 (J1.set b6 (.cells [.sl (i+1) (ints ids++[.int .i64 xid]) (.own td),tv,cv])) (U1.set td (i+1,1)):=⟨⟨TB,hTB,by rw[←htk];exact hJ2⟩,by simpa using hU2,g2.hr,g2.pJ.set hb6 _,g2.pU.set htd _⟩
   have hl2:(J1.set b6 (.cells [.sl (i+1) (ints ids++[.int .i64 xid]) (.own td),tv,cv])).length=J1.length:=by simp
   have hlU:(U1.set td (i+1,1)).length=U1.length:=by simp
   generalize J1.set b6 (.cells [.sl (i+1) (ints ids++[.int .i64 xid]) (.own td),tv,cv])=J2 at *
   generalize U1.set td (i+1,1)=U2 at *
   have p2:b2<J2.length:=by omega
   have p6:b6<J2.length:=by omega
   refine aw_weak ⟨[(0,.sl L.length (dcAV L) .none),(2,.ptr b2 0),(6,.ptr b6 0),(7,.int .i64 (i:Nat))],J2,U2⟩ (weak_to [] [] (by simp) (by simp) (by show nb≤J2.length;omega) (by show tb≤U2.length;omega) HO2 (by simp[p2,p6])) ?_
   refine rows_loop L i hk (hs _ (getD_mem L i d0 hk)) (hw6 _ (getD_mem L i d0 hk)) H T nb tb b2 b6 td tc _ tv cv B0 _ R3 J2 U2 (by omega) (by omega) hRI2 (fun x hx=>?_) (by rw[←kp_len,g3,List.length_map];exact hkl) HO2 _ fun e J3 U3 R4 q1 q2 q3 q4 he=>?_
   ·rw[g3] at hx
    obtain⟨k,_,rfl⟩:=List.mem_map.1 hx
    have:=pstR_len k (L.take i)
    simp only;omega
   obtain⟨r2,r6⟩:=hb q1
   refine hK6 _ (aw_hok fun HO3=>?_)
   refine aw_weak ⟨[(0,.sl L.length (dcAV L) .none),(2,.ptr b2 0),(6,.ptr b6 0),(7,.int .i64 (i:Nat))],J3,U3⟩ (weak_to [] [] (by simp) (by simp) (by show nb≤J3.length;omega) (by show tb≤U3.length;omega) HO3 he) ?_
   refine aw_reg0 fun K hK=>?_;simp(disch:=omega) 
   refine hK _ ?_;clear hK K
   refine⟨(i+1,J3,U3,R4),⟨by show i+1≤_;omega,by simp only[hids2];exact q1,?_,by show J3.length=_;omega,by show _≤U3.length;omega,HO3⟩,by show L.length-(i+1)<L.length-i;omega,?_⟩
   ·show kp R4=_
    rw[q2,g3,List.map_map]
    exact List.map_congr_left fun k _=>by simp only[Function.comp,stepK];rw[hfm]
   ·refine weak_to [] [] (by simp) (by simp) (by show nb≤J3.length;omega) (by show tb≤U3.length;omega) HO3 ?_
    simp[r2,r6]
  ·simp  at hk
   have hie:i=L.length:=by omega
   subst hie
   rw[List.take_length] at g2 g3
   refine aw_exit ?_;simp(disch:=omega) 
   refine go _ J1 U1 R3 g2 g3 g4 g5 ?_
   simp[n2,n6]
attribute [-simp] List.getD_eq_getElem?_getD in
set_option maxHeartbeats 8000000 in
theorem colsR_loop (L:List Dc)(hL:L.length≤1000000)(hs:∀d∈L,SzD d)(hn:∀d∈L,d.ns.length≤1000000)(hi:∀f,(itsF L f).length≤1000000)(H:List Blk)(T:Toks)(nb tb b2 b6 td tc:Nat)(dv tv:AV)(B0:Blk)(R:List Rw)(J:List Blk)(U:Toks)(hnb:nb≤J.length)(htb:tb≤U.length)
  (hRI:RI H T b2 b6 [(td,(L.length,1)),(tc,(0,2))] dv tv (.sl 0 [] (.own tc)) B0 R J U) (hb6:H.length≤b6) (htc:T.length≤tc) (HO:HOk J U) (Q:Exit→St→Prop)
  (go:∀(e:Env)(J':List Blk)(U':Toks),RI H T b2 b6 [(td,(L.length,1)),(tc,((colN L 3).length*2,2))] dv tv (.sl (colN L 3).length (clAV (colN L 3)) (.own tc)) B0 R J' U'→J'.length=J.length→U.length≤U'.length→
   envLe J'.length U'.length e [(2,.ptr b2 0),(6,.ptr b6 0)]→Q .normal ⟨e,J',U'⟩) :
  AW ⟨Tryz.prog,135,12,nb,tb,[]⟩ (subC [1,1,1,1,1,1,1,0] (Tryz.f14.body.getD .skip)) Q
   ⟨[(0,.sl L.length (dcAV L) .none),(2,.ptr b2 0),(6,.ptr b6 0)],J,U⟩:=by
 conv=>arg 2;whnf
 have hb:∀{RU cv J' U'},RI H T b2 b6 RU dv tv cv B0 R J' U'→b2<J'.length∧b6<J'.length:=fun {RU cv J' U'} h=>by
  obtain⟨TB,_,h2⟩:=h.hJ
  exact⟨h2.lt (b:=B0) (by simp),h2.lt (b:=.cells [dv,tv,cv]) (by simp)⟩
 obtain⟨m2,m6⟩:=hb hRI
 refine aw_reg fun K hK=>?_;simp(disch:=omega) ;refine hK _ ?_;clear hK K
 refine aw_block ?_
 refine aw_loop (X:=Nat×List Blk×Toks) (fun x=>⟨[(0,.sl L.length (dcAV L) .none),(2,.ptr b2 0),(6,.ptr b6 0),(10,.int .i64 (5+(x.1:Nat)))],x.2.1,x.2.2⟩)
  (fun x=>x.1≤3∧RI H T b2 b6 [(td,(L.length,1)),(tc,((colN L x.1).length*2,2))] dv tv (.sl (colN L x.1).length (clAV (colN L x.1)) (.own tc)) B0 R x.2.1 x.2.2∧x.2.1.length=J.length∧U.length≤x.2.2.length∧HOk x.2.1 x.2.2) (fun x=>3-x.1) (0,J,U) ?_ ?_ ?_
 ·exact⟨Nat.zero_le _,by simpa[colN,clAV_nil] using hRI,rfl,Nat.le_refl _,HO⟩
 ·refine weak_to [] [] (by simp) (by simp) hnb htb HO ?_
  simp[m2,m6]
 ·rintro⟨c,J1,U1⟩ ⟨g1,g2,g4,g5,g6⟩
  simp only at g1 g2 g4 g5 g6
  obtain⟨n2,n6⟩:=hb g2
  have cc:=fun H T=>columnR_ok L (5+(c:Int)) hL hs hn (hi _) H T .none
  have hcs:=colN_succ L c
  have hcl:=colN_len L c
  have hcf:colF L (5+(c:Int))=if itsF L (5+(c:Int))=[] then [] else [⟨5+(c:Int),isortN (itsF L (5+(c:Int)))⟩]:=rfl
  have hpl:(isortN (itsF L (5+(c:Int)))).length=(itsF L (5+(c:Int))).length:=(isortN_perm _).length_eq
  have hi5:=hi (5+(c:Int))
  have w7:-9223372036854775808≤5+(c:Int)+1∧5+(c:Int)+1≤9223372036854775807:=by omega
  refine aw_then fun K2 hK2=>?_
  rcases Nat.lt_or_ge c 3 with h3|h3
  ·have b1:decide (5+(c:Int)≤7)=true:=decide_eq_true (by omega)
   have n1:5+(c:Int)≤7:=by omega
   refine aw_reg fun K hK=>?_;simp(disch:=omega)[b1,n1];refine hK _ ?_;clear hK K
   refine aw_ift rfl ?_
   refine aw_skip ?_
   refine hK2 _ ?_;clear hK2
   refine aw_then fun K6 hK6=>?_
   refine aw_block ?_
   refine aw_reg fun K hK=>?_;simp(disch:=omega) 
   refine acall_is (cc _ _) ?_;simp(disch:=omega) 
   refine hK _ ?_;clear hK K
   by_cases he:itsF L (5+(c:Int))=[]
   ·rw[if_pos he] at hcf
    rw[hcf,List.append_nil] at hcs
    have hz:(isortN (itsF L (5+(c:Int)))).length=0:=by rw[hpl,he];rfl
    refine aw_reg fun K hK=>?_;simp(disch:=omega)[hz];refine hK _ ?_;clear hK K
    refine aw_iff rfl ?_
    refine aw_skip ?_
    refine hK6 _ ?_;clear hK6
    refine aw_reg0 fun K hK=>?_;simp(disch:=omega) 
    refine hK _ ?_;clear hK K
    refine⟨(c+1,J1,U1),⟨by show c+1≤3;omega,by simp only;rw[hcs];exact g2,g4,g5,g6⟩,by show 3-(c+1)<3-c;omega,?_⟩
    refine weak_to [] [] (by simp) (by simp) (by show nb≤J1.length;omega) (by show tb≤U1.length;omega) g6 ?_
    simp[n2,n6];omega
   ·rw[if_neg he] at hcf
    have hp0:0<(itsF L (5+(c:Int))).length:=by
     rcases Nat.eq_zero_or_pos (itsF L (5+(c:Int))).length with h|h
     ·exact absurd (List.length_eq_zero_iff.1 h) he
     ·exact h
    generalize isortN (itsF L (5+(c:Int)))=il at *
    have b2':decide ((0:Int)<(il.length:Int))=true:=decide_eq_true (by omega)
    have n2':0<il.length:=by omega
    obtain⟨TB,hTB,hJ1⟩:=g2.hJ
    have e6:=at_of (hJ1.get (i:=b6) (b:=.cells [dv,tv,.sl (colN L c).length (clAV (colN L c)) (.own tc)]) (by simp))
    have gU:=g2.hU.get (i:=tc) (b:=((colN L c).length*2,2)) (by simp)
    have eU:=at_of gU
    have lU:=(List.getElem?_eq_some_iff.1 gU).1
    have hsn:=clAV_snoc (colN L c) ⟨5+(c:Int),il⟩
    rw[hcf] at hcs
    simp only at hsn
    rw[←hcs] at hsn
    have hcl2:(colN L (c+1)).length=(colN L c).length+1:=by rw[hcs];simp
    refine aw_reg fun K hK=>?_;simp(disch:=omega)[b2',n2'];refine hK _ ?_;clear hK K
    refine aw_ift rfl ?_
    refine aw_reg0 fun K hK=>?_;simp(disch:=omega)[e6,n6,eU,lU,clAV_len]
    refine hK _ ?_;clear hK K
    have hJ2:=Has.set (A:=[(b2,B0)]) (B:=TB) (b:=.cells [dv,tv,.sl (colN L c).length (clAV (colN L c)) (.own tc)]) hJ1 (.cells [dv,tv,.sl (colN L (c+1)).length (clAV (colN L (c+1))) (.own tc)])
    have hU2:=Has.set (A:=[(td,(L.length,1))]) (B:=rowT R) (b:=((colN L c).length*2,2)) (by simpa using g2.hU) ((colN L (c+1)).length*2,2)
    rw[←hsn,hcl2] at hJ2
    rw[hcl2] at hU2
    have hRI2:RI H T b2 b6 [(td,(L.length,1)),(tc,((colN L (c+1)).length*2,2))] dv tv (.sl (colN L (c+1)).length (clAV (colN L (c+1))) (.own tc)) B0 R (J1.set b6 (.cells [dv,tv,.sl ((colN L c).length+1) (clAV (colN L c)++[.int .i64 (5+(c:Int)),.sl il.length (nmAV il) .none]) (.own tc)])) (U1.set tc (((colN L c).length+1)*2,2)):=⟨⟨TB,hTB,by rw[hcl2,←hsn];exact hJ2⟩,by rw[hcl2];simpa using hU2,g2.hr,g2.pJ.set hb6 _,g2.pU.set htc _⟩
    have hl2:(J1.set b6 (.cells [dv,tv,.sl ((colN L c).length+1) (clAV (colN L c)++[.int .i64 (5+(c:Int)),.sl il.length (nmAV il) .none]) (.own tc)])).length=J1.length:=by simp
    have hlU:(U1.set tc (((colN L c).length+1)*2,2)).length=U1.length:=by simp
    refine hK6 _ (aw_hok fun HO2=>?_)
    simp only at HO2
    generalize J1.set b6 (.cells [dv,tv,.sl ((colN L c).length+1) (clAV (colN L c)++[.int .i64 (5+(c:Int)),.sl il.length (nmAV il) .none]) (.own tc)])=J2 at *
    generalize U1.set tc (((colN L c).length+1)*2,2)=U2 at *
    have p2:b2<J2.length:=by omega
    have p6:b6<J2.length:=by omega
    refine aw_reg0 fun K hK=>?_;simp(disch:=omega) 
    refine hK _ ?_;clear hK K
    refine⟨(c+1,J2,U2),⟨by show c+1≤3;omega,hRI2,by show J2.length=_;omega,by show _≤U2.length;omega,HO2⟩,by show 3-(c+1)<3-c;omega,?_⟩
    refine weak_to [] [] (by simp) (by simp) (by show nb≤J2.length;omega) (by show tb≤U2.length;omega) HO2 ?_
    simp[p2,p6];omega
  ·have hc3:c=3:=by omega
   subst hc3
   refine aw_reg fun K hK=>?_;simp(disch:=omega) ;refine hK _ ?_;clear hK K
   refine aw_iff rfl ?_
   refine aw_exit ?_;simp(disch:=omega) 
   refine go _ J1 U1 g2 g4 g5 ?_
   simp[n2,n6]
end Go.Proofs.YtneohapkboaplaaGreat
