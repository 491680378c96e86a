/- segment.Build (layer 39): one document. segment.Build (layer 39): the terms out of the map, in any order. segment.Build (layer 39): the columns. segment.Build (layer 39): the documents, one after another.
  Conditions: lengths below 400 or 1000, as each theorem says. -/
import Derived.Test.YtneohapkboaplaaGreatGBA
set_option linter.all false
set_option maxRecDepth 100000
set_option maxHeartbeats 16000000
namespace eJ
open Go Go.Am
theorem mr.nd {id:Int}{E E':List En}{l:List (Ky×Int)}(h:mr id E l E')(hn:(E.map (·.k)).Nodup):(E'.map (·.k)).Nodup:=by
 cases h with
 |nil=>exact hn
 |snoc _ h2=>exact h2.nd
end eJ
namespace Go.Proofs.YtneohapkboaplaaGreat
open Go Go.Am iF eJ
inductive qx:List Ef→List (Int×Nm)→List Ef→Prop
 |nil (E:List Ef):qx E [] E
 |snoc {E E1 E2:List Ef} {l:List (Int×Nm)} {k:Int} {p:Nm} (h:qx E l E1) (h2:qG E1 k p E2):qx E (l++[(k,p)]) E2
theorem qx.trans {E E1 E2:List Ef}{l m:List (Int×Nm)}(h:qx E l E1)(k:qx E1 m E2):qx E (l++m) E2:=by
 induction k with
 |nil=>simpa using h
 |snoc _ h2 ih=>rw[←List.append_assoc];exact ih.snoc h2
theorem qx.nd {E E':List Ef}{l:List (Int×Nm)}(h:qx E l E')(hn:(E.map (·.f)).Nodup):(E'.map (·.f)).Nodup:=by
 cases h with
 |nil=>exact hn
 |snoc _ h2=>exact h2.nd
def zP (id:Int)(ns:List Nm):List (Int×Nm):=ns.map fun x=>(x.1,(x.2,id))
theorem H8 (id:Int)(ns:List Nm)(k:Nat)(h:k<ns.length):zP id (ns.take k)++[((ns.getD k n0).1,((ns.getD k n0).2,id))]=zP id (ns.take (k+1)):=by
 rw[bf ns k n0 h];simp[zP]
structure DI (H:List aA)(T:ar)(b2 b4 b5 b6 td N M:Nat)(J:List aA)(U:ar)(ids:List Int)(E:List En)(F:List Ef):Prop where
 hJ:Has J ((b2,.cells [.sl 0 [] .full,.sl 0 [] .full,.sl 0 [] .full])::(b4,.cells [.sl ids.length (ints ids) (.own td),.sl 0 [] .full,.sl 0 [] .full])::(b6,.map (bL F))::(gR F++(b5,.map (cj E))::dD E))
 hU:Has U ((td,(ids.length,1))::jj E)
 hE:∀e∈E,CT H.length T.length N e
 ndE:(E.map (·.k)).Nodup
 ftE:cW Tryz.prog 111 (cj E)=true
 hF:∀e∈F,M9 H.length M e
 ndF:(F.map (·.f)).Nodup
 ftF:cW Tryz.prog 3 (bL F)=true
 pJ:eT H J
 pU:eT T U
 ok:bC J U
structure JK (d:Dc):Prop where
 z:∀z∈d.zs,(-9223372036854775808≤z.f∧z.f≤9223372036854775807)∧∀w∈z.ws,w.1.length≤maxLen
 n:∀x∈d.ns,-9223372036854775808≤x.1∧x.1≤9223372036854775807
attribute [-simp] List.getD_eq_getElem?_getD in
theorem Lz (H:List aA)(T:ar)(nb tb N M:Nat)(fO:nb≤H.length)(eS:tb≤T.length)(L:List Dc)(vi b2 b4 b5 b6 td:Nat)(ids:List Int)(E:List En)(F:List Ef)(J:List aA)(U:ar)
  (hB:DI H T b2 b4 b5 b6 td N M J U ids E F) (hi:vi<L.length) (hL:L.length≤1000) (IE:ids.length≤1000) (hN:N+(et (L.getD vi d0).zs).length≤1099511627776) (hM:M+(L.getD vi d0).ns.length≤1099511627776) (vS:(L.getD vi d0).zs.length≤1099511627776)
  (hg:JK (L.getD vi d0)) (iE:H.length≤b2) (CH:H.length≤b4) (FL:H.length≤b5) (Cr:H.length≤b6) (Ri:T.length≤td) (Q:Exit→St→Prop)
  (bad:0<vi→(L.getD (vi-1) d0).id=(L.getD vi d0).id→∀(e:Env)(J':List aA),bF e 2=.ptr b2 0→bF e 3=.int .i64 10→J'[b2]?=some (.cells [.sl 0 [] .full,.sl 0 [] .full,.sl 0 [] .full])→eT H J'→Q .ret ⟨e,J',U⟩)
  (go:(0<vi→(L.getD (vi-1) d0).id≠(L.getD vi d0).id)→∀(e:Env)(J':List aA)(U':ar)(E':List En)(F':List Ef),DI H T b2 b4 b5 b6 td (N+(et (L.getD vi d0).zs).length) (M+(L.getD vi d0).ns.length) J' U' (ids++[(L.getD vi d0).id]) E' F'→
   mr (L.getD vi d0).id E (et (L.getD vi d0).zs) E'→qx F (zP (L.getD vi d0).id (L.getD vi d0).ns) F'→bt J'.length U'.length e [(0,.sl L.length (aM L) .none),(2,.ptr b2 0),(4,.ptr b4 0),(5,.aO b5),(6,.aO b6),(34,.sl L.length (aM L) .none),(35,.int .i64 (L.length:Nat)),(36,.int .i64 (vi:Nat))]→Q .normal ⟨e,J',U'⟩) :
  AW ⟨Tryz.prog,192,152,nb,tb,[100104,100147,100166]⟩ (du [1,1,1,1,1,1,1,1,0,1,0,0,1,1,0,0] (Tryz.f13.body.getD .skip)) Q ⟨[(0,.sl L.length (aM L) .none),(2,.ptr b2 0),(4,.ptr b4 0),(5,.aO b5),(6,.aO b6),(34,.sl L.length (aM L) .none),(35,.int .i64 (L.length:Nat)),(36,.int .i64 (vi:Nat))],J,U⟩:=by
 conv=>arg 2;whnf
 have lH:=hB.pJ.le;have lT:=hB.pU.le;have bA:=iz L vi hi;have wI:=fun h=>jc L (vi-1) h;generalize hdd:L.getD vi d0=d at *;generalize Zk:L.getD (vi-1) d0=dp at *;obtain⟨id,zs,ns⟩:=d;simp only at bA hN hM vS bad go;obtain⟨q1,q2,q3,q4,q5,q6,q7,q8,q9,YX,WN⟩:=hB;obtain⟨SE,W9⟩:=hg;simp only at SE W9;have l2:=q1.lt (i:=b2) (b:=.cells [.sl 0 [] .full,.sl 0 [] .full,.sl 0 [] .full]) (by simp);have l4:=q1.lt (i:=b4) (b:=.cells [.sl ids.length (ints ids) (.own td),.sl 0 [] .full,.sl 0 [] .full]) (by simp);have l5:=q1.lt (i:=b5) (b:=.map (cj E)) (by simp);have l6:=q1.lt (i:=b6) (b:=.map (bL F)) (by simp);refine ae fun K hK=>?_;simp(disch:=omega)[bA,bD];apply hK;clear hK K;have pH:bC (J++[.cells (fw ⟨id,zs,ns⟩)]) U:=WN.snoc (by simp);have q1:=(q1.new (.cells (fw ⟨id,zs,ns⟩))).perm (List.perm_append_singleton _ _).symm;have q9:=q9.app [aA.cells (fw ⟨id,zs,ns⟩)];have wG:(J++[aA.cells (fw ⟨id,zs,ns⟩)]).length=J.length+1:=by simp
 obtain⟨b8,h8⟩:∃i,i=J.length:=⟨_,rfl⟩
 rw[←h8] at q1;simp only[←h8];have W0:aA.cells [.int .i64 id,.sl zs.length (dS zs) .none,.sl ns.length (aU ns) .none]=.cells (fw ⟨id,zs,ns⟩):=rfl;rw[W0];generalize J++[aA.cells (fw ⟨id,zs,ns⟩)]=J1 at *;have g8:=q1.get (i:=b8) (b:=.cells (fw ⟨id,zs,ns⟩)) (by simp);have g4:=q1.get (i:=b4) (b:=.cells [.sl ids.length (ints ids) (.own td),.sl 0 [] .full,.sl 0 [] .full]) (by simp);have g2:=q1.get (i:=b2) (b:=.cells [.sl 0 [] .full,.sl 0 [] .full,.sl 0 [] .full]) (by simp);have e8:=aV g8;have e4:=aV g4;have l8:=(List.getElem?_eq_some_iff.1 g8).1;have gU:=q2.get (i:=td) (b:=(ids.length,1)) (by simp);have lU:=(List.getElem?_eq_some_iff.1 gU).1;have eU:=aV gU;refine aH ⟨[(7,.int .i64 (vi:Nat)),(0,.sl L.length (aM L) .none),(2,.ptr b2 0),(4,.ptr b4 0),(5,.aO b5),(6,.aO b6),(8,.ptr b8 0),(34,.sl L.length (aM L) .none),(35,.int .i64 (L.length:Nat)),(36,.int .i64 (vi:Nat))],J1,U⟩ (ag [] [] (by simp) (by simp) (by show nb≤_;omega) (by show tb≤_;omega) pH (by simp;omega)) ?_;have e2:=aV g2;have l2':b2<J1.length:=by omega
 have l4':b4<J1.length:=by omega
 refine af fun K1 aQ=>?_;have key:(0<vi→dp.id≠id)→∀e,bt J1.length U.length e [(0,.sl L.length (aM L) .none),(2,.ptr b2 0),(4,.ptr b4 0),(5,.aO b5),(6,.aO b6),(8,.ptr b8 0),(34,.sl L.length (aM L) .none),(35,.int .i64 (L.length:Nat)),(36,.int .i64 (vi:Nat))]→K1 ⟨e,J1,U⟩:=by
  intro dA e he;refine aQ _ (aH ⟨[(0,.sl L.length (aM L) .none),(2,.ptr b2 0),(4,.ptr b4 0),(5,.aO b5),(6,.aO b6),(8,.ptr b8 0),(34,.sl L.length (aM L) .none),(35,.int .i64 (L.length:Nat)),(36,.int .i64 (vi:Nat))],J1,U⟩ (ag [] [] (by simp) (by simp) (by show nb≤_;omega) (by show tb≤_;omega) pH he) ?_);clear aQ;refine ae fun K hK=>?_;simp(disch:=omega)[e8,e4,eU];apply hK;clear hK K;refine cZ fun dy=>?_;simp only at dy;have gL:=Has.set (A:=[(b8,.cells (fw ⟨id,zs,ns⟩)),(b2,.cells [.sl 0 [] .full,.sl 0 [] .full,.sl 0 [] .full])]) (B:=(b6,.map (bL F))::(gR F++(b5,.map (cj E))::dD E)) (b:=.cells [.sl ids.length (ints ids) (.own td),.sl 0 [] .full,.sl 0 [] .full]) (by simpa using q1) (.cells [.sl (ids.length+1) (ints ids++[.int .i64 id]) (.own td),.sl 0 [] .full,.sl 0 [] .full]);have rC:=Has.set (A:=[]) (B:=jj E) (b:=(ids.length,1)) (by simpa using q2) (ids.length+1,1);have oJ:=q9.set CH (.cells [.sl (ids.length+1) (ints ids++[.int .i64 id]) (.own td),.sl 0 [] .full,.sl 0 [] .full]);have TH:=YX.set Ri (ids.length+1,1);have iD:(J1.set b4 (.cells [.sl (ids.length+1) (ints ids++[.int .i64 id]) (.own td),.sl 0 [] .full,.sl 0 [] .full])).length=J1.length:=by simp
  have Zr:(U.set td (ids.length+1,1)).length=U.length:=by simp
  rw[cX] at gL dy oJ iD ⊢;have cC:ids.length+1=(ids++[id]).length:=by simp
  rw[cC] at gL rC dy oJ TH iD Zr ⊢;generalize J1.set b4 (.cells [.sl (ids++[id]).length (ints (ids++[id])) (.own td),.sl 0 [] .full,.sl 0 [] .full])=J2 at *;generalize U.set td ((ids++[id]).length,1)=U2 at *;generalize jM:ids++[id]=rD at *;have hBI:BI H T ((b8,.cells (fw ⟨id,zs,ns⟩))::(b2,.cells [.sl 0 [] .full,.sl 0 [] .full,.sl 0 [] .full])::(b4,.cells [.sl rD.length (ints rD) (.own td),.sl 0 [] .full,.sl 0 [] .full])::(b6,.map (bL F))::gR F) [(td,(rD.length,1))] b5 N J2 U2 E:=
   ⟨by simpa using gL,by simpa using rC,q3,q4,q5,oJ,TH,dy⟩
  have e8:=aV (gL.get (i:=b8) (b:=.cells (fw ⟨id,zs,ns⟩)) (by simp));have l8:b8<J2.length:=by omega
  clear e4 eU g8 g4 g2 e2;refine af fun K1 aQ=>?_;refine ae fun K hK=>?_;simp(disch:=omega)[e8];apply hK;clear hK K;apply ah;refine aG (X:=Nat×List aA×ar×List En) (fun x=>⟨[(0,.sl L.length (aM L) .none),(2,.ptr b2 0),(4,.ptr b4 0),(5,.aO b5),(6,.aO b6),(8,.ptr b8 0),(34,.sl L.length (aM L) .none),(35,.int .i64 (L.length:Nat)),(36,.int .i64 (vi:Nat)),(63,.sl zs.length (dS zs) .none),(64,.int .i64 (zs.length:Nat)),(65,.int .i64 (x.1:Nat))],x.2.1,x.2.2.1⟩)
   (fun x=>x.1≤zs.length∧BI H T ((b8,.cells (fw ⟨id,zs,ns⟩))::(b2,.cells [.sl 0 [] .full,.sl 0 [] .full,.sl 0 [] .full])::(b4,.cells [.sl rD.length (ints rD) (.own td),.sl 0 [] .full,.sl 0 [] .full])::(b6,.map (bL F))::gR F) [(td,(rD.length,1))] b5 (N+(et (zs.take x.1)).length) x.2.1 x.2.2.1 x.2.2.2∧mr id E (et (zs.take x.1)) x.2.2.2∧J2.length≤x.2.1.length) (fun x=>zs.length-x.1) (0,J2,U2,E) ?_ ?_ ?_
  ·exact⟨Nat.zero_le _,hBI,.nil E,Nat.le_refl _⟩
  ·refine ag [] [] ?_ ?_ ?_ ?_ dy ?_
   all_goals simp
   all_goals omega
  ·rintro⟨j,J3,U3,E3⟩ ⟨k1,k2,k3,k4⟩;simp only at k1 k2 k3 k4;have FE:=k2.pJ.le;have FD:=k2.pU.le;have Za:=k2.hJ.lt (i:=b5) (b:=.map (cj E3)) (by simp);apply ae;intro K h;simp(disch:=omega);apply h;clear h K;refine af fun K2 aW=>?_;refine aN rfl (fun fD=>?_) (fun fD=>?_)
   ·simp  at fD;have RA:=HZ zs j fD;have lN:(et (zs.take j)).length+(zs.getD j z0).ws.length=(et (zs.take (j+1))).length:=by rw[←RA];simp[nh]
    have aco:(et (zs.take (j+1))).length≤(et zs).length:=by
     have:et zs=et (zs.take (j+1))++et (zs.drop (j+1)):=by rw[et,et,et,←List.flatMap_append,List.take_append_drop]
     rw[this];simp
    apply ai;simp(disch:=omega) ;apply aW;clear aW;refine af fun K3 bz=>?_;apply ah;refine aH ⟨[(0,.sl L.length (aM L) .none),(2,.ptr b2 0),(4,.ptr b4 0),(5,.aO b5),(6,.aO b6),(8,.ptr b8 0),(34,.sl L.length (aM L) .none),(35,.int .i64 (L.length:Nat)),(36,.int .i64 (vi:Nat)),(63,.sl zs.length (dS zs) .none),(64,.int .i64 (zs.length:Nat)),(65,.int .i64 (j:Nat))],J3,U3⟩ (ag [] [] (by simp) (by simp) (by show nb≤_;omega) (by show tb≤_;omega) k2.ok (by simp;omega)) ?_;refine Gl (N:=N+(et (zs.take j)).length) H T nb tb fO eS L zs vi j b2 b4 b5 b6 b8 id _ _ E3 J3 U3 _ _ k2 fD (by omega) (List.mem_cons_self ..) FL (by omega) (by omega) (by omega) (SE _ (aR zs j z0 fD)).1 (SE _ (aR zs j z0 fD)).2 _ fun e J' U' E' a1 a2 a3 a4=>?_;have lH4:=a1.pJ.le;have lT4:=a1.pU.le;rw[Nat.add_assoc,lN] at a1;refine bz _ (aH ⟨[(0,.sl L.length (aM L) .none),(2,.ptr b2 0),(4,.ptr b4 0),(5,.aO b5),(6,.aO b6),(8,.ptr b8 0),(34,.sl L.length (aM L) .none),(35,.int .i64 (L.length:Nat)),(36,.int .i64 (vi:Nat)),(63,.sl zs.length (dS zs) .none),(64,.int .i64 (zs.length:Nat)),(65,.int .i64 (j:Nat))],J',U'⟩ (ag [] [] (by simp) (by simp) (by show nb≤_;omega) (by show tb≤_;omega) a1.ok a4) ?_);clear bz;refine au fun K hK=>?_;simp(disch:=omega) ;apply hK;clear hK K;refine⟨(j+1,J',U',E'),⟨by show j+1≤_;omega,a1,?_,by show J2.length≤J'.length;omega⟩,by show zs.length-(j+1)<zs.length-j;omega,?_⟩
    ·show mr id E (et (zs.take (j+1))) E';rw[←RA];exact k3.trans a2
    ·refine ag [] [] ?_ ?_ ?_ ?_ a1.ok ?_
     all_goals simp
     all_goals omega
   ·simp  at fD;have hjj:j=zs.length:=by omega
    subst hjj;rw[List.take_length] at k2 k3;apply aC;simp(disch:=omega) ;apply aQ;clear aQ;have Za:=k2.hJ.lt (i:=b5) (b:=.map (cj E3)) (by simp);have e8:=aV (k2.hJ.get (i:=b8) (b:=.cells (fw ⟨id,zs,ns⟩)) (by simp));have l8:b8<J3.length:=by omega
    have S3:BF H T ((b8,.cells (fw ⟨id,zs,ns⟩))::(b2,.cells [.sl 0 [] .full,.sl 0 [] .full,.sl 0 [] .full])::(b4,.cells [.sl rD.length (ints rD) (.own td),.sl 0 [] .full,.sl 0 [] .full])::(b5,.map (cj E3))::dD E3) b6 M J3 U3 F:=by
     refine⟨k2.hJ.perm ?_,q6,q7,q8,k2.pJ,k2.pU,k2.ok⟩;simp only[List.cons_append];refine(((List.Perm.cons _ (List.Perm.cons _ (List.Perm.cons _ ?_)))));have:=(List.perm_append_comm (l₁:=(b5,aA.map (cj E3))::dD E3) (l₂:=(b6,aA.map (bL F))::gR F))
     simpa using this
    refine ae fun K hK=>?_;simp(disch:=omega)[e8];apply hK;clear hK K;apply ah;refine aG (X:=Nat×List aA×List Ef) (fun x=>⟨[(0,.sl L.length (aM L) .none),(2,.ptr b2 0),(4,.ptr b4 0),(5,.aO b5),(6,.aO b6),(8,.ptr b8 0),(34,.sl L.length (aM L) .none),(35,.int .i64 (L.length:Nat)),(36,.int .i64 (vi:Nat)),(128,.sl ns.length (aU ns) .none),(129,.int .i64 (ns.length:Nat)),(130,.int .i64 (x.1:Nat))],x.2.1,U3⟩)
     (fun x=>x.1≤ns.length∧BF H T ((b8,.cells (fw ⟨id,zs,ns⟩))::(b2,.cells [.sl 0 [] .full,.sl 0 [] .full,.sl 0 [] .full])::(b4,.cells [.sl rD.length (ints rD) (.own td),.sl 0 [] .full,.sl 0 [] .full])::(b5,.map (cj E3))::dD E3) b6 (M+x.1) x.2.1 U3 x.2.2∧qx F (zP id (ns.take x.1)) x.2.2∧J3.length≤x.2.1.length) (fun x=>ns.length-x.1) (0,J3,F) ?_ ?_ ?_
    ·exact⟨Nat.zero_le _,S3,.nil F,Nat.le_refl _⟩
    ·refine ag [] [] ?_ ?_ ?_ ?_ k2.ok ?_
     all_goals simp
     all_goals omega
    ·rintro⟨k,J4,F4⟩ ⟨m1,m2,m3,m4⟩;simp only at m1 m2 m3 m4;have lH4:=m2.pJ.le;apply ae;intro K h;simp(disch:=omega);apply h;clear h K;refine af fun K2 aW=>?_;refine aN rfl (fun Rx=>?_) (fun Rx=>?_)
     ·simp  at Rx;apply ai;simp(disch:=omega) ;apply aW;clear aW;refine af fun K3 bz=>?_;apply ah;refine aH ⟨[(0,.sl L.length (aM L) .none),(2,.ptr b2 0),(4,.ptr b4 0),(5,.aO b5),(6,.aO b6),(8,.ptr b8 0),(34,.sl L.length (aM L) .none),(35,.int .i64 (L.length:Nat)),(36,.int .i64 (vi:Nat)),(128,.sl ns.length (aU ns) .none),(129,.int .i64 (ns.length:Nat)),(130,.int .i64 (k:Nat))],J4,U3⟩ (ag [] [] (by simp) (by simp) (by show nb≤_;omega) (by show tb≤_;omega) m2.ok (by simp;omega)) ?_;refine KV (N:=M+k) H T nb tb fO eS L ns vi k b2 b4 b5 b6 b8 id _ _ F4 J4 U3 _ m2 (by omega) Rx (by omega) (List.mem_cons_self ..) Cr (by omega) (by omega) (by omega) (W9 _ (aR ns k n0 Rx)) _ fun e J' F' a1 a2 a3 a4=>?_;have lH5:=a1.pJ.le;refine bz _ (aH ⟨[(0,.sl L.length (aM L) .none),(2,.ptr b2 0),(4,.ptr b4 0),(5,.aO b5),(6,.aO b6),(8,.ptr b8 0),(34,.sl L.length (aM L) .none),(35,.int .i64 (L.length:Nat)),(36,.int .i64 (vi:Nat)),(128,.sl ns.length (aU ns) .none),(129,.int .i64 (ns.length:Nat)),(130,.int .i64 (k:Nat))],J',U3⟩ (ag [] [] (by simp) (by simp) (by show nb≤_;omega) (by show tb≤_;omega) a1.ok a4) ?_);clear bz;refine au fun K hK=>?_;simp(disch:=omega) ;apply hK;clear hK K;refine⟨(k+1,J',F'),⟨by show k+1≤_;omega,a1,?_,by show J3.length≤J'.length;omega⟩,by show ns.length-(k+1)<ns.length-k;omega,?_⟩
      ·show qx F (zP id (ns.take (k+1))) F';rw[←H8 id ns k Rx];exact m3.snoc a2
      ·refine ag [] [] ?_ ?_ ?_ ?_ a1.ok ?_
       all_goals simp
       all_goals omega
     ·simp  at Rx;have pI:k=ns.length:=by omega
      subst pI;rw[List.take_length] at m3;apply aC;simp(disch:=omega) ;refine go dA _ J4 U3 E3 F4 ⟨?_,by simpa using k2.hU,k2.hE,k2.nd,k2.ft,m2.hF,m2.nd,m2.ft,m2.pJ,m2.pU,m2.ok⟩ k3 m3 ?_
      ·have hs:=m2.hJ.sub (List.sublist_cons_self _ _);refine hs.perm ?_;refine(List.Perm.cons _ (List.Perm.cons _ ?_));have:=(List.perm_append_comm (l₁:=(b6,aA.map (bL F4))::gR F4) (l₂:=(b5,aA.map (cj E3))::dD E3))
       simpa using this
      ·simp;omega
 clear aQ;rcases Nat.eq_zero_or_pos vi with h0|h0
 ·subst h0;refine aI [] [] [] al (by kernel_rfl) (by kernel_rfl) fun K hK=>?_;simp(disch:=omega) ;apply hK;clear hK K;apply aD rfl;apply ai;simp(disch:=omega) ;refine key (fun h=>absurd h (by omega)) _ ?_;simp;omega
 ·have b0:decide ((0:Int)<(vi:Int))=true:=decide_eq_true (by omega);have e6:((vi:Int)-1)=((vi-1:Nat):Int):=by omega
  have TD:=(wI (by omega)).1
  by_cases RB:dp.id=id
  ·have bd:(dp.id==id)=true:=by simpa using RB
   refine aI [] [] [] al (by kernel_rfl) (by kernel_rfl) fun K hK=>?_;simp(disch:=omega)[b0,h0,e6,TD,bD,e8,RB];apply hK;clear hK K;apply aF rfl;refine ae fun K hK=>?_;simp(disch:=omega)[e2];apply hK;clear hK K;apply az;exact bad h0 RB _ _ rfl rfl (List.getElem?_set_self l2') (q9.set iE _)
  ·have bd:(dp.id==id)=false:=by simpa using RB
   refine aI [] [] [] al (by kernel_rfl) (by kernel_rfl) fun K hK=>?_;simp(disch:=omega)[b0,h0,e6,TD,bD,e8,bd,RB];apply hK;clear hK K;apply aD rfl;apply ai;simp(disch:=omega) ;refine key (fun _=>RB) _ ?_;simp;omega
def Ma:En:=⟨(0,[]),[],0,[],0,0,0,[]⟩
def eW (e:En):Ky×AV:=(e.k,.bV e.i 0 e.n)
structure Ju (nb:Nat)(rows:List (Ky×AV))(tv:AV)(TB:List (Nat×aA)):Prop where
 h:(rows=[]∧tv=.sl 0 [] .full∧TB=[])∨∃it cap rest,tv=.bJ it rows.length cap∧TB=[(it,.cells (dQ rows++rest))]∧rest.length=(cap-rows.length)*3∧rows.length≤cap∧nb≤it∧0<rows.length
theorem oO (l:List (Ky×AV))(k:Ky)(v:AV):dQ l++[.int .i64 k.1,.str k.2,v]=dQ (l++[(k,v)]):=by simp[dQ]
theorem KX:∀(n:Nat)(l:List Nat),l.Nodup→(∀j∈l,j<n)→l.length≤n:=by
 intro n
 induction n with
 |zero=>
  intro l _ h
  cases l with
  |nil=>exact Nat.le_refl _
  |cons a r=>exact absurd (h a (by simp)) (Nat.not_lt_zero _)
 |succ n ih=>
  intro l hn h;have h1:=ih (l.erase n) (hn.erase n) fun j hj=>by
   have:=(hn.mem_erase_iff).1 hj;have:=h j this.2;omega
  by_cases hm:n∈l
  ·rw[List.length_erase_of_mem hm] at h1;omega
  ·rw[List.erase_of_not_mem hm] at h1;omega
theorem DJ {n:Nat}{l:List Nat}(h1:l.Nodup)(h2:∀a∈l,a<n)(h3:∀a,a<n→a∈l):l.Perm (List.range n):=
 (List.perm_ext_iff_of_nodup h1 List.nodup_range).2 fun a=>⟨fun h=>List.mem_range.2 (h2 a h),fun h=>h3 a (List.mem_range.1 h)⟩
attribute [-simp] List.getD_eq_getElem?_getD in
theorem Dl (H:List aA)(T:ar)(nb tb N M:Nat)(fO:nb≤H.length)(eS:tb≤T.length)(b2 b4 b5 b6 td:Nat)(ids:List Int)(E:List En)(F:List Ef)(J:List aA)(U:ar)
  (hB:DI H T b2 b4 b5 b6 td N M J U ids E F) (ZI:E.length≤1099511627776) (CH:H.length≤b4) (Q:Exit→St→Prop)
  (go:∀(e:Env) (J':List aA) (rows:List (Ky×AV)) (tv:AV) (TB:List (Nat×aA)),rows.Perm (E.map eW)→Ju H.length rows tv TB→Has J' ((b4,.cells [.sl ids.length (ints ids) (.own td),tv,.sl 0 [] .full])::(TB++(b2,.cells [.sl 0 [] .full,.sl 0 [] .full,.sl 0 [] .full])::(b6,.map (bL F))::(b5,.map (cj E))::(gR F++dD E)))→eT H J'→bC J' U→bt J'.length U.length e [(2,.ptr b2 0),(4,.ptr b4 0),(5,.aO b5),(6,.aO b6)]→Q .normal ⟨e,J',U⟩) :
  AW ⟨Tryz.prog,192,152,nb,tb,[100104,100147,100166]⟩ (du [1,1,1,1,1,1,1,1,1,0] (Tryz.f13.body.getD .skip)) Q ⟨[(2,.ptr b2 0),(4,.ptr b4 0),(5,.aO b5),(6,.aO b6)],J,U⟩:=by
 conv=>arg 2;whnf
 have lH:=hB.pJ.le;have lT:=hB.pU.le;obtain⟨q1,q2,q3,q4,q5,q6,q7,q8,q9,YX,WN⟩:=hB;have e5:=aV (q1.get (i:=b5) (b:=.map (cj E)) (by simp));have l5:=q1.lt (i:=b5) (b:=.map (cj E)) (by simp);have yi:(cj E).length=E.length:=by simp[cj]
 refine ae fun K hK=>?_;simp(disch:=omega)[tR,e5,yi];apply hK;clear hK K;have q1':=(q1.new (.kK b5 E.length [])).perm (List.perm_append_singleton _ _).symm;have q9':=q9.app [aA.kK b5 E.length []];have pH:bC (J++[.kK b5 E.length []]) U:=WN.Nr;obtain⟨bm,My⟩:∃i,i=J.length:=⟨_,rfl⟩
 rw[←My] at q1';simp only[←My];have aaJ:H.length≤bm:=by omega
 clear e5 l5 q1 q9 WN My;generalize J++[aA.kK b5 E.length []]=J1 at *;have lH1:=q9'.le;have q1:Has J1 ((bm,.kK b5 E.length ([]))::(b4,.cells [.sl ids.length (ints ids) (.own td),.sl 0 [] .full,.sl 0 [] .full])::([]++(b2,.cells [.sl 0 [] .full,.sl 0 [] .full,.sl 0 [] .full])::(b6,.map (bL F))::(b5,.map (cj E))::(gR F++dD E))):=by
  refine q1'.perm ?_;refine List.Perm.cons _ ?_;refine List.Perm.trans (List.Perm.swap _ _ _) (List.Perm.cons _ (List.Perm.cons _ ?_));refine List.Perm.cons _ ?_;exact List.perm_middle.symm
 have l2:=q1.lt (i:=b2) (b:=.cells [.sl 0 [] .full,.sl 0 [] .full,.sl 0 [] .full]) (by simp);have l4:=q1.lt (i:=b4) (b:=.cells [.sl ids.length (ints ids) (.own td),.sl 0 [] .full,.sl 0 [] .full]) (by simp);have l5:=q1.lt (i:=b5) (b:=.map (cj E)) (by simp);have l6:=q1.lt (i:=b6) (b:=.map (bL F)) (by simp);have lm:=q1.lt (i:=bm) (b:=.kK b5 E.length []) (by simp);apply ah;refine aG (X:=List Nat×List aA×AV×List (Nat×aA)) (fun x=>⟨[(2,.ptr b2 0),(4,.ptr b4 0),(5,.aO b5),(6,.aO b6),(151,.ptr bm 0)],x.2.1,U⟩)
  (fun x=>x.1.Nodup∧(∀j∈x.1,j<E.length)∧Ju H.length (x.1.map fun j=>eW (E.getD j Ma)) x.2.2.1 x.2.2.2∧Has x.2.1 ((bm,.kK b5 E.length (x.1))::(b4,.cells [.sl ids.length (ints ids) (.own td),x.2.2.1,.sl 0 [] .full])::(x.2.2.2++(b2,.cells [.sl 0 [] .full,.sl 0 [] .full,.sl 0 [] .full])::(b6,.map (bL F))::(b5,.map (cj E))::(gR F++dD E)))∧eT H x.2.1∧bC x.2.1 U∧J1.length≤x.2.1.length) (fun x=>E.length-x.1.length) ([],J1,.sl 0 [] .full,[]) ?_ ?_ ?_
 ·exact⟨List.nodup_nil,fun j hj=>by simp at hj,⟨.inl ⟨rfl,rfl,rfl⟩⟩,q1,q9',pH,Nat.le_refl _⟩
 ·refine ag [] [] ?_ ?_ ?_ ?_ pH ?_
  all_goals simp
  all_goals omega
 ·rintro⟨seen,J2,tv,TB⟩ ⟨k1,k2,k3,k4,k5,k6,k7⟩;simp only at k1 k2 k3 k4 k5 k6 k7;have em:=aV (k4.get (i:=bm) (b:=.kK b5 E.length seen) (by simp));have e5:=aV (k4.get (i:=b5) (b:=.map (cj E)) (by simp));have lm2:bm<J2.length:=by omega
  have l52:b5<J2.length:=by omega
  have Rg:b4<J2.length:=by omega
  have Iv:=k5.le;refine ae fun K hK=>?_;simp(disch:=omega)[em,e5];unfold ES;refine⟨yi.symm,fun fj=>?_,fun j kk v hj Rl=>?_⟩
  ·simp(disch:=omega) ;apply hK;clear hK K;refine af fun K2 aW=>?_;apply aD rfl;apply aC;simp(disch:=omega) ;refine go _ J2 _ tv TB ?_ k3 (k4.sub (List.sublist_cons_self _ _)) k5 k6 ?_
   ·have hp:=(DJ k1 k2 fj).map fun j=>eW (E.getD j Ma);refine hp.trans (List.Perm.of_eq ?_);apply List.ext_getElem
    ·simp
    ·intro i h1 h2;simp only[List.getElem_map,List.getElem_range];rw[List.getD_eq_getElem?_getD,List.getElem?_eq_getElem (by simpa using h2)];rfl
   ·simp;omega
  ·have hja:=aV hj;obtain⟨W6,en,Rz,rfl,rfl⟩:∃(W6:j<E.length) (en:En),E.getD j Ma=en∧kk=lA en.k∧v=.bJ en.i en.n en.cap:=by
    rw[cj,List.getElem?_map,Option.map_eq_some_iff] at hj;obtain⟨en,h1,h2⟩:=hj;rw[Prod.mk.injEq] at h2;exact⟨(List.getElem?_eq_some_iff.1 h1).1,en,by rw[List.getD_eq_getElem?_getD,h1];rfl,h2.1.symm,h2.2.symm⟩
   have hle:seen.length<E.length:=by
    have:=KX E.length (seen++[j]) (by rw[List.nodup_append];exact⟨k1,by simp,fun a ha b hb=>by simp at hb;rw[hb];exact fun e=>Rl (by rw[←e];exact ha)⟩) (fun a ha=>by
     rcases List.mem_append.1 ha with ha|ha
     ·exact k2 a ha
     ·simp at ha;rw[ha];exact W6)
    simp at this;omega
   have k1':(seen++[j]).Nodup:=by
    rw[List.nodup_append];exact⟨k1,by simp,fun a ha b hb=>by simp at hb;rw[hb];exact fun e=>Rl (by rw[←e];exact ha)⟩
   have Sd:∀a∈seen++[j],a<E.length:=fun a ha=>by
    rcases List.mem_append.1 ha with ha|ha
    ·exact k2 a ha
    ·simp at ha;rw[ha];exact W6
   have Ew:en.i<J2.length:=by
    have:en∈E:=by rw[←Rz];exact aR E j Ma W6
    exact k4.lt (i:=en.i) (b:=en.nf) (by
     have:(en.i,en.nf)∈dD E:=List.mem_map.2 ⟨en,this,rfl⟩;simp[this])
   have zt:=Has.set (A:=[]) (B:=(b4,.cells [.sl ids.length (ints ids) (.own td),tv,.sl 0 [] .full])::(TB++(b2,.cells [.sl 0 [] .full,.sl 0 [] .full,.sl 0 [] .full])::(b6,.map (bL F))::(b5,.map (cj E))::(gR F++dD E))) (b:=.kK b5 E.length seen) k4 (.kK b5 E.length (seen++[j]));have OE:=k5.set aaJ (.kK b5 E.length (seen++[j]));have SS:bC (J2.set bm (.kK b5 E.length (seen++[j]))) U:=k6.QC;have Rs:(J2.set bm (.kK b5 E.length (seen++[j]))).length=J2.length:=by simp
   generalize J2.set bm (.kK b5 E.length (seen++[j]))=J3 at *;have em:=aV (zt.get (i:=bm) (b:=.kK b5 E.length (seen++[j])) (by simp));have e5:=aV (zt.get (i:=b5) (b:=.map (cj E)) (by simp));have lm3:bm<J3.length:=by omega
   have Za:b5<J3.length:=by omega
   have WS:b4<J3.length:=by omega
   clear lm2 l52 Rg k4;simp(disch:=omega)[lA];apply hK;clear hK K;refine af fun K2 aW=>?_;apply aF rfl;apply ai;simp(disch:=omega) ;apply aW;clear aW;apply ah;have ph:j<(cj E).length:=by omega
   refine ae fun K hK=>?_;simp(disch:=omega)[em,e5,hja,yi,List.getLast?_append,lA];apply hK;clear hK K;have Sv:bC (J3++[.cells [.int .i64 en.k.1,.str en.k.2]]) U:=SS.snoc (by simp);have CI:=(zt.new (.cells [.int .i64 en.k.1,.str en.k.2])).perm (List.perm_append_singleton _ _).symm;have II:=OE.app [aA.cells [.int .i64 en.k.1,.str en.k.2]];have Rr:(J3++[aA.cells [.int .i64 en.k.1,.str en.k.2]]).length=J3.length+1:=by simp
   obtain⟨vP,OG⟩:∃i,i=J3.length:=⟨_,rfl⟩
   rw[←OG] at CI;simp only[←OG];have aav:en.i<(J3++[aA.cells [.int .i64 en.k.1,.str en.k.2]]).length:=by omega
   clear em e5 zt;generalize J3++[aA.cells [.int .i64 en.k.1,.str en.k.2]]=J4 at *;have PJ:=aV (CI.get (i:=vP) (b:=.cells [.int .i64 en.k.1,.str en.k.2]) (by simp));have e4:=aV (CI.get (i:=b4) (b:=.cells [.sl ids.length (ints ids) (.own td),tv,.sl 0 [] .full]) (by simp));have l17:vP<J4.length:=by omega
   have l4:b4<J4.length:=by omega
   have l6':=CI.lt (i:=b6) (b:=.map (bL F)) (by simp);have l2':=CI.lt (i:=b2) (b:=.cells [.sl 0 [] .full,.sl 0 [] .full,.sl 0 [] .full]) (by simp);have l5':=CI.lt (i:=b5) (b:=.map (cj E)) (by simp);have lm':=CI.lt (i:=bm) (b:=.kK b5 E.length (seen++[j])) (by simp);have lH4:=II.le;have acb:td<U.length:=q2.lt (b:=(ids.length,1)) (by simp);have rE:(seen++[j]).map (fun j=>eW (E.getD j Ma))=seen.map (fun j=>eW (E.getD j Ma))++[(en.k,.bV en.i 0 en.n)]:=by
    rw[List.map_append,List.map_singleton,Rz];rfl
   have Cp:(seen.map fun j=>eW (E.getD j Ma)).length=seen.length:=by simp
   generalize abY:seen.map (fun j=>eW (E.getD j Ma))=rows at *;have fin:∀(e:Env) (J5:List aA) (wC:AV) (Tf:List (Nat×aA)),Ju H.length (rows++[(en.k,.bV en.i 0 en.n)]) wC Tf→Has J5 ((vP,.cells [.int .i64 en.k.1,.str en.k.2])::(bm,.kK b5 E.length (seen++[j]))::(b4,.cells [.sl ids.length (ints ids) (.own td),wC,.sl 0 [] .full])::(Tf++(b2,.cells [.sl 0 [] .full,.sl 0 [] .full,.sl 0 [] .full])::(b6,.map (bL F))::(b5,.map (cj E))::(gR F++dD E)))→eT H J5→bC J5 U→J4.length≤J5.length→
     bt J5.length U.length e [(2,.ptr b2 0),(4,.ptr b4 0),(5,.aO b5),(6,.aO b6),(151,.ptr bm 0)]→∃x':List Nat×List aA×AV×List (Nat×aA),(x'.1.Nodup∧(∀j∈x'.1,j<E.length)∧Ju H.length (x'.1.map fun j=>eW (E.getD j Ma)) x'.2.2.1 x'.2.2.2∧Has x'.2.1 ((bm,.kK b5 E.length (x'.1))::(b4,.cells [.sl ids.length (ints ids) (.own td),x'.2.2.1,.sl 0 [] .full])::(x'.2.2.2++(b2,.cells [.sl 0 [] .full,.sl 0 [] .full,.sl 0 [] .full])::(b6,.map (bL F))::(b5,.map (cj E))::(gR F++dD E)))∧eT H x'.2.1∧bC x'.2.1 U∧J1.length≤x'.2.1.length)∧E.length-x'.1.length<E.length-seen.length∧
      uu ⟨Tryz.prog,192,152,nb,tb,[100104,100147,100166]⟩ ⟨e,J5,U⟩ ⟨[(2,.ptr b2 0),(4,.ptr b4 0),(5,.aO b5),(6,.aO b6),(151,.ptr bm 0)],x'.2.1,U⟩:=by
    intro e J5 wC Tf t1 t2 t3 t4 t5 t6;refine⟨(seen++[j],J5,wC,Tf),⟨k1',Sd,?_,t2.sub (List.sublist_cons_self _ _),t3,t4,by show J1.length≤J5.length;omega⟩,?_,?_⟩
    ·show Ju H.length ((seen++[j]).map fun j=>eW (E.getD j Ma)) wC Tf;rw[rE];exact t1
    ·show E.length-(seen++[j]).length<_;rw[List.length_append,List.length_singleton];omega
    ·exact ag [] [] (by simp) (by simp) (by show nb≤J5.length;have:=t3.le;omega) (by show tb≤_;omega) t4 t6
   rcases k3.h with⟨Es,rfl,rfl⟩|⟨it,cap,rest,rfl,rfl,g1,g2,g3,g4⟩
   ·refine au fun K hK=>?_;simp(disch:=omega)[PJ,e4,List.getElem?_append_left];intro nc kT;apply hK;clear hK K;rw[←List.set_append_left _ _ l4];have hRB:aJ (J4.length+1) U.length (.int .i64 en.k.1::.str en.k.2::.bV en.i 0 en.n::List.replicate ((nc-1)*3) .top):=by
     simp;omega
    have MC:=(CI.new (.cells (.int .i64 en.k.1::.str en.k.2::.bV en.i 0 en.n::List.replicate ((nc-1)*3) .top)))
    have MB:bC (J4++[.cells (.int .i64 en.k.1::.str en.k.2::.bV en.i 0 en.n::List.replicate ((nc-1)*3) .top)]) U:=Sv.snoc hRB;have SR:=II.app [aA.cells (.int .i64 en.k.1::.str en.k.2::.bV en.i 0 en.n::List.replicate ((nc-1)*3) .top)];have Zt:(J4++[aA.cells (.int .i64 en.k.1::.str en.k.2::.bV en.i 0 en.n::List.replicate ((nc-1)*3) .top)]).length=J4.length+1:=by simp
    obtain⟨it,wH⟩:∃i,i=J4.length:=⟨_,rfl⟩
    rw[←wH] at MC;simp only[←wH];generalize J4++[aA.cells (.int .i64 en.k.1::.str en.k.2::.bV en.i 0 en.n::List.replicate ((nc-1)*3) .top)]=J5 at *;have SY:=Has.set (A:=[(vP,.cells [.int .i64 en.k.1,.str en.k.2]),(bm,.kK b5 E.length (seen++[j]))]) (B:=((b2,.cells [.sl 0 [] .full,.sl 0 [] .full,.sl 0 [] .full])::(b6,.map (bL F))::(b5,.map (cj E))::(gR F++dD E))++[(it,.cells (.int .i64 en.k.1::.str en.k.2::.bV en.i 0 en.n::List.replicate ((nc-1)*3) .top))]) (b:=.cells [.sl ids.length (ints ids) (.own td),.sl 0 [] .full,.sl 0 [] .full]) (by simpa using MC) (.cells [.sl ids.length (ints ids) (.own td),.bJ it 1 nc,.sl 0 [] .full]);refine fin _ _ (.bJ it 1 nc) [(it,.cells (.int .i64 en.k.1::.str en.k.2::.bV en.i 0 en.n::List.replicate ((nc-1)*3) .top))] ⟨.inr ⟨it,nc,List.replicate ((nc-1)*3) .top,by rw[Es];rfl,by rw[Es];rfl,by rw[Es];simp,by rw[Es];simpa using kT,by omega,by simp⟩⟩ ?_ (SR.set CH _) (MB.set (by simp;omega)) (by simp;omega) ?_
    ·refine SY.perm ?_;refine List.Perm.cons _ (List.Perm.cons _ (List.Perm.cons _ ?_));exact(List.perm_append_singleton _ _).symm
    ·simp;omega
   ·have gi:=CI.get (i:=it) (b:=.cells (dQ rows++rest)) (by simp);have lit:=(List.getElem?_eq_some_iff.1 gi).1;have sr:(dQ rows++rest).length=rows.length*3+rest.length:=by rw[List.length_append,qU]
    have eN:(dQ rows++rest).take (rows.length*3)=dQ rows:=List.take_left' (by rw[qU]);have oH:(dQ rows++rest).drop ((rows.length+1)*3)=rest.drop 3:=by
     rw[List.drop_append,List.drop_of_length_le (by rw[qU];omega),List.nil_append,qU]
     congr 1;omega
    have we:(rows++[(en.k,AV.bV en.i 0 en.n)]).length=rows.length+1:=by simp
    refine au fun K hK=>?_;simp(disch:=omega)[PJ,e4];refine⟨117,_,[.int .i64 en.k.1,.str en.k.2,.bV en.i 0 en.n],1,by kernel_rfl,gi,by rw[sr,vg];omega,by simp,by simp;omega,by omega,by kernel_rfl,by simp,fun hle=>?_,fun nc aZ kT=>?_⟩
    ·simp only[vg,eN,oH];rw[show aA.cells (dQ rows++[.int .i64 en.k.1,.str en.k.2,.bV en.i 0 en.n]++rest.drop 3)=.cells (dQ (rows++[(en.k,.bV en.i 0 en.n)])++rest.drop 3) by rw[oO]];have MC:=Has.set (A:=[(vP,.cells [.int .i64 en.k.1,.str en.k.2]),(bm,.kK b5 E.length (seen++[j])),(b4,.cells [.sl ids.length (ints ids) (.own td),.bJ it rows.length cap,.sl 0 [] .full])]) (B:=(b2,.cells [.sl 0 [] .full,.sl 0 [] .full,.sl 0 [] .full])::(b6,.map (bL F))::(b5,.map (cj E))::(gR F++dD E)) (b:=.cells (dQ rows++rest)) (by simpa using CI) (.cells (dQ (rows++[(en.k,.bV en.i 0 en.n)])++rest.drop 3));have SR:=II.set g3 (.cells (dQ (rows++[(en.k,.bV en.i 0 en.n)])++rest.drop 3));have MB:bC (J4.set it (.cells (dQ (rows++[(en.k,.bV en.i 0 en.n)])++rest.drop 3))) U:=by
      refine Sv.set ?_;have:=Sv it (.cells (dQ rows++rest)) gi;simp only[aA.yl] at this;intro v hv;rcases List.mem_append.1 hv with hv|hv
      ·rw[←oO] at hv;rcases List.mem_append.1 hv with hv|hv
       ·exact this v (List.mem_append_left _ hv)
       ·simp at hv;rcases hv with rfl|rfl|rfl
        ·exact .int _ _
        ·exact .str _
        ·exact .bV _ _ _ aav
      ·exact this v (List.mem_append_right _ (List.mem_of_mem_drop hv))
     have Zt:(J4.set it (.cells (dQ (rows++[(en.k,.bV en.i 0 en.n)])++rest.drop 3))).length=J4.length:=by simp
     generalize J4.set it (.cells (dQ (rows++[(en.k,.bV en.i 0 en.n)])++rest.drop 3))=J5 at *;have e4:=aV (MC.get (i:=b4) (b:=.cells [.sl ids.length (ints ids) (.own td),.bJ it rows.length cap,.sl 0 [] .full]) (by simp));have l4:b4<J5.length:=by omega
     simp(disch:=omega)[e4];apply hK;clear hK K;have SY:=Has.set (A:=[(vP,.cells [.int .i64 en.k.1,.str en.k.2]),(bm,.kK b5 E.length (seen++[j]))]) (B:=(it,.cells (dQ (rows++[(en.k,.bV en.i 0 en.n)])++rest.drop 3))::(b2,.cells [.sl 0 [] .full,.sl 0 [] .full,.sl 0 [] .full])::(b6,.map (bL F))::(b5,.map (cj E))::(gR F++dD E)) (b:=.cells [.sl ids.length (ints ids) (.own td),.bJ it rows.length cap,.sl 0 [] .full]) (by simpa using MC) (.cells [.sl ids.length (ints ids) (.own td),.bJ it (rows.length+1) cap,.sl 0 [] .full]);refine fin _ _ (.bJ it (rows.length+1) cap) [(it,.cells (dQ (rows++[(en.k,.bV en.i 0 en.n)])++rest.drop 3))] ⟨.inr ⟨it,cap,rest.drop 3,by rw[we],rfl,by rw[we,List.length_drop];omega,by rw[we];exact hle,g3,by rw[we];omega⟩⟩ (by simpa using SY) (SR.set CH _) (MB.set (by simp;omega)) (by simp;omega) ?_;simp;omega
    ·simp only[vg,eN];obtain⟨r2,mN⟩:∃r2,r2=List.replicate ((nc-(rows.length+1))*3) AV.top:=⟨_,rfl⟩
     have Jc:r2.length=(nc-(rows.length+1))*3:=by rw[mN];simp
     have Qb:aJ (J4.length+1) U.length r2:=by rw[mN];simp
     rw[←mN];rw[show aA.cells (dQ rows++[.int .i64 en.k.1,.str en.k.2,.bV en.i 0 en.n]++r2)=.cells (dQ (rows++[(en.k,.bV en.i 0 en.n)])++r2) by rw[oO]];have MC:=(CI.sub (S':=(vP,.cells [.int .i64 en.k.1,.str en.k.2])::(bm,.kK b5 E.length (seen++[j]))::(b4,.cells [.sl ids.length (ints ids) (.own td),.bJ it rows.length cap,.sl 0 [] .full])::(b2,.cells [.sl 0 [] .full,.sl 0 [] .full,.sl 0 [] .full])::(b6,.map (bL F))::(b5,.map (cj E))::(gR F++dD E)) (.cons_cons _ (.cons_cons _ (.cons_cons _ (List.sublist_cons_self _ _))))).new (.cells (dQ (rows++[(en.k,.bV en.i 0 en.n)])++r2));have SR:=II.app [aA.cells (dQ (rows++[(en.k,.bV en.i 0 en.n)])++r2)];have MB:bC (J4++[.cells (dQ (rows++[(en.k,.bV en.i 0 en.n)])++r2)]) U:=by
      refine Sv.snoc ?_;have:=Sv it (.cells (dQ rows++rest)) gi;simp only[aA.yl] at this;intro v hv;rcases List.mem_append.1 hv with hv|hv
      ·rw[←oO] at hv;rcases List.mem_append.1 hv with hv|hv
       ·exact(this v (List.mem_append_left _ hv)).more (Nat.le_succ _) (Nat.le_refl _)
       ·simp at hv;rcases hv with rfl|rfl|rfl
        ·exact .int _ _
        ·exact .str _
        ·exact .bV _ _ _ (by omega)
      ·exact Qb v hv
     have Zt:(J4++[aA.cells (dQ (rows++[(en.k,.bV en.i 0 en.n)])++r2)]).length=J4.length+1:=by simp
     obtain⟨i2,dY⟩:∃i,i=J4.length:=⟨_,rfl⟩
     rw[←dY] at MC;simp only[←dY];generalize J4++[aA.cells (dQ (rows++[(en.k,.bV en.i 0 en.n)])++r2)]=J5 at *;have e4:=aV (MC.get (i:=b4) (b:=.cells [.sl ids.length (ints ids) (.own td),.bJ it rows.length cap,.sl 0 [] .full]) (by simp));have l4:b4<J5.length:=by omega
     simp(disch:=omega)[e4];apply hK;clear hK K;have SY:=Has.set (A:=[(vP,.cells [.int .i64 en.k.1,.str en.k.2]),(bm,.kK b5 E.length (seen++[j]))]) (B:=((b2,.cells [.sl 0 [] .full,.sl 0 [] .full,.sl 0 [] .full])::(b6,.map (bL F))::(b5,.map (cj E))::(gR F++dD E))++[(i2,.cells (dQ (rows++[(en.k,.bV en.i 0 en.n)])++r2))]) (b:=.cells [.sl ids.length (ints ids) (.own td),.bJ it rows.length cap,.sl 0 [] .full]) (by simpa using MC) (.cells [.sl ids.length (ints ids) (.own td),.bJ i2 (rows.length+1) nc,.sl 0 [] .full]);refine fin _ _ (.bJ i2 (rows.length+1) nc) [(i2,.cells (dQ (rows++[(en.k,.bV en.i 0 en.n)])++r2))] ⟨.inr ⟨i2,nc,r2,by rw[we],rfl,by rw[we];exact Jc,by rw[we];exact kT,by omega,by rw[we];omega⟩⟩ ?_ (SR.set CH _) (MB.set (by simp;omega)) (by simp;omega) ?_
     ·refine SY.perm ?_;refine List.Perm.cons _ (List.Perm.cons _ (List.Perm.cons _ ?_));exact(List.perm_append_singleton _ _).symm
     ·simp;omega
abbrev ZX (e:Ef):List AV:=[.int .i64 e.f,.bV e.i 0 e.x.length]
def tC (l:List Ef):List AV:=l.flatMap fun e=>[.int .i64 e.f,.bV e.i 0 e.x.length]
theorem Fs:eC ZX 2:=fun _=>rfl
theorem Bq (l:List Ef):(tC l).length=l.length*2:=b9 Fs l
def qn (e:Ef):Ef:={ e with x:=nP e.x }
theorem xa (l:List Nm):(nP l).length=l.length:=List.length_mergeSort _
def eL (m:Int)(F:List Ef):List Ef:=F.map fun e=>if 5≤e.f∧e.f<m then qn e else e
theorem Dq (F:List Ef):eL 5 F=F:=by
 simp only[eL]
 conv=>rhs;rw[←List.map_id F]
 refine List.map_congr_left fun e _=>?_;rw[if_neg (by omega)];rfl
theorem GH {F1 F2:List Ef}{e:Ef}(h:((F1++e::F2).map (·.f)).Nodup)(h5:5≤e.f):eL (e.f+1) (F1++e::F2)=eL e.f F1++qn e::eL e.f F2∧eL e.f (F1++e::F2)=eL e.f F1++e::eL e.f F2:=by
 have h1:∀x,x∈F1∨x∈F2→x.f≠e.f:=by
  rw[List.map_append,List.map_cons,List.nodup_append,List.nodup_cons] at h;rintro x (hx|hx)
  ·exact h.2.2 x.f (List.mem_map.2 ⟨x,hx,rfl⟩) e.f (by simp)
  ·exact fun ee=>h.2.1.1 (ee▸List.mem_map.2 ⟨x,hx,rfl⟩)
 have h2:∀l:List Ef,(∀x∈l,x.f≠e.f)→eL (e.f+1) l=eL e.f l:=fun l hl=>by
  refine List.map_congr_left fun x hx=>?_;have:=hl x hx
  by_cases hh:5≤x.f∧x.f<e.f
  ·rw[if_pos hh,if_pos (by omega)]
  ·rw[if_neg hh,if_neg (by omega)]
 constructor
 ·rw[←h2 F1 (fun x hx=>h1 x (.inl hx)),←h2 F2 (fun x hx=>h1 x (.inr hx))];simp only[eL,List.map_append,List.map_cons];rw[if_pos (by omega:5≤e.f∧e.f<e.f+1)]
 ·simp only[eL,List.map_append,List.map_cons];rw[if_neg (by omega:¬(5≤e.f∧e.f<e.f))]
theorem Kq {F:List Ef}{m:Int}(h:m∉F.map (·.f)):eL (m+1) F=eL m F:=by
 refine List.map_congr_left fun x hx=>?_;have:x.f≠m:=fun ee=>h (ee▸List.mem_map.2 ⟨x,hx,rfl⟩)
 by_cases hh:5≤x.f∧x.f<m
 ·rw[if_pos hh,if_pos (by omega)]
 ·rw[if_neg hh,if_neg (by omega)]
def ie (F:List Ef):Nat→List Ef
 |0=>[]
 |g+1=>match F.find? (fun e=>e.f==(5+g:Int)) with
  |some e=>ie F g++[qn e]
  |none=>ie F g
def CV (T U:ar)(aw:List Ef)(cv:AV):Prop:=(aw=[]∧cv=.sl 0 [] .full)∨∃tc,cv=.sl aw.length (tC aw) (.own tc)∧U[tc]?=some (aw.length*2,2)∧T.length≤tc
attribute [-simp] List.getD_eq_getElem?_getD in
theorem Ie (H:List aA)(T:ar)(nb tb N:Nat)(fO:nb≤H.length)(eS:tb≤T.length)(b2 b4 b6:Nat)(dv tv:AV)(F:List Ef)(J:List aA)(U:ar)(R:List (Nat×aA))
  (hJ:Has J ((b4,.cells [dv,tv,.sl 0 [] .full])::(b6,.map (bL F))::(gR F++R))) (hF:∀e∈F,M9 H.length N e) (hN:N≤1099511627776) (lr:(F.map (·.f)).Nodup) (kL:cW Tryz.prog 3 (bL F)=true) (hP:eT H J) (wJ:eT T U) (hO:bC J U) (CH:H.length≤b4) (iD:b2<J.length)
  (IV:Below J.length U.length tv) (zB:Below J.length U.length dv) (Q:Exit→St→Prop)
  (go:∀(e:Env)(J':List aA)(U':ar)(cv:AV),CV T U' (ie F 3) cv→Has J' ((b4,.cells [dv,tv,cv])::(b6,.map (bL F))::(gR (eL 8 F)++R))→eT H J'→eT T U'→bC J' U'→J.length≤J'.length→bt J'.length U'.length e [(2,.ptr b2 0),(4,.ptr b4 0),(6,.aO b6)]→Q .normal ⟨e,J',U'⟩) :
  AW ⟨Tryz.prog,192,152,nb,tb,[100104,100147,100166]⟩ (du [1,1,1,1,1,1,1,1,1,1,1,0] (Tryz.f13.body.getD .skip)) Q ⟨[(2,.ptr b2 0),(4,.ptr b4 0),(6,.aO b6)],J,U⟩:=by
 conv=>arg 2;whnf
 have lH:=hP.le;have lT:=wJ.le;have l4:=hJ.lt (i:=b4) (b:=.cells [dv,tv,.sl 0 [] .full]) (by simp);have l6:=hJ.lt (i:=b6) (b:=.map (bL F)) (by simp);apply ae;intro K h;simp(disch:=omega);apply h;clear h K;apply ah;refine aG (X:=Nat×List aA×ar×AV) (fun x=>⟨[(2,.ptr b2 0),(4,.ptr b4 0),(6,.aO b6),(19,.int .i64 (5+x.1:Int))],x.2.1,x.2.2.1⟩)
  (fun x=>x.1≤3∧CV T x.2.2.1 (ie F x.1) x.2.2.2∧Has x.2.1 ((b4,.cells [dv,tv,x.2.2.2])::(b6,.map (bL F))::(gR (eL (5+x.1:Int) F)++R))∧eT H x.2.1∧eT T x.2.2.1∧bC x.2.1 x.2.2.1∧J.length≤x.2.1.length∧U.length≤x.2.2.1.length) (fun x=>3-x.1) (0,J,U,.sl 0 [] .full) ?_ ?_ ?_
 ·refine⟨by omega,.inl ⟨rfl,rfl⟩,?_,hP,wJ,hO,Nat.le_refl _,Nat.le_refl _⟩;have:=Dq F;simp only[Int.add_zero,Int.natCast_zero];show Has J ((b4,.cells [dv,tv,.sl 0 [] .full])::(b6,.map (bL F))::(gR (eL 5 F)++R));rw[this];exact hJ
 ·refine ag [] [] ?_ ?_ ?_ ?_ hO ?_
  all_goals simp
  all_goals omega
 ·rintro⟨g,J2,U2,cv⟩ ⟨k1,k2,k3,k4,k5,k6,k7,k8⟩;simp only at k1 k2 k3 k4 k5 k6 k7 k8;have Iv:=k4.le;have LX:=k5.le;have l62:=k3.lt (i:=b6) (b:=.map (bL F)) (by simp);have Rg:b4<J2.length:=by omega
  have e6:=aV (k3.get (i:=b6) (b:=.map (bL F)) (by simp));have e4:=aV (k3.get (i:=b4) (b:=.cells [dv,tv,cv]) (by simp));refine af fun K2 aW=>?_
  by_cases hg:g<3
  rotate_left
  ·have bg:decide ((5:Int)+g≤7)=false:=decide_eq_false (by omega);have ng:¬(5:Int)+g≤7:=by omega
   refine ae fun K hK=>?_;simp(disch:=omega)[bg,ng];apply hK;clear hK K;apply aD rfl;apply aC;simp(disch:=omega) ;have SI:g=3:=by omega
   subst SI;refine go _ J2 U2 cv k2 k3 k4 k5 k6 (by omega) ?_;simp;omega
  ·have bg:decide ((5:Int)+g≤7)=true:=decide_eq_true (by omega);have ng:(5:Int)+g≤7:=by omega
   have nD:(5+((g+1:Nat):Int))=5+(g:Int)+1:=by omega
   have vX:=Gd (5+g) (by omega);have jK:jI (5+g)=.one (.int .i64 (5+g)):=rfl;rw[jK] at vX;refine ae fun K hK=>?_;simp(disch:=omega)[bg,ng];apply hK;clear hK K;apply aF rfl;apply ai;simp(disch:=omega) ;apply aW;clear aW;refine af fun K3 bz=>?_;apply ah;have fin:∀(e:Env)(J3:List aA)(U3:ar)(I2:AV),CV T U3 (ie F (g+1)) I2→Has J3 ((b4,.cells [dv,tv,I2])::(b6,.map (bL F))::(gR (eL (5+g+1:Int) F)++R))→eT H J3→eT T U3→bC J3 U3→J.length≤J3.length→U.length≤U3.length→bt J3.length U3.length e [(2,.ptr b2 0),(4,.ptr b4 0),(6,.aO b6),(19,.int .i64 (5+g:Int))]→K3 ⟨e,J3,U3⟩:=by
    intro e J3 U3 I2 t1 t2 t3 t4 t5 t6 t7 t8;have FE:=t3.le;have FD:=t4.le;have l63:=t2.lt (i:=b6) (b:=.map (bL F)) (by simp);have WS:=t2.lt (i:=b4) (b:=.cells [dv,tv,I2]) (by simp);refine bz _ (aH ⟨[(2,.ptr b2 0),(4,.ptr b4 0),(6,.aO b6),(19,.int .i64 (5+g:Int))],J3,U3⟩ (ag [] [] (by simp) (by simp) (by show nb≤J3.length;omega) (by show tb≤U3.length;omega) t5 t8) ?_);refine au fun K hK=>?_;simp(disch:=omega) ;apply hK;clear hK K;refine⟨(g+1,J3,U3,I2),⟨by show g+1≤3;omega,t1,by simp only[nD];exact t2,t3,t4,t5,t6,t7⟩,by show 3-(g+1)<3-g;omega,?_⟩;refine ag [] [] ?_ ?_ ?_ ?_ t5 ?_
    all_goals simp
    all_goals omega
   clear bz
   by_cases hex:(5+g:Int)∈F.map (·.f)
   rotate_left
   ·have dH:gS (bL F) (.one (.int .i64 (5+g))) (.sl 0 [] .full) false=.sl 0 [] .full:=by
     unfold gS;rw[←jK,oW (se hex)];rfl
    have SK:F.find? (fun e=>e.f==(5+g:Int))=none:=by
     rw[List.find?_eq_none];intro x hx;have:x.f≠5+g:=fun ee=>hex (List.mem_map.2 ⟨x,hx,ee⟩);simpa using this
    refine ae fun K hK=>?_;simp(disch:=omega)[tQ,qR,vX,kL,e6,dH];apply hK;clear hK K;apply ae;intro K h;simp(disch:=omega);apply h;clear h K;apply aD rfl;apply ai;simp(disch:=omega) ;refine fin _ J2 U2 cv ?_ ?_ k4 k5 k6 (by omega) (by omega) ?_
    ·unfold ie;rw[SK];exact k2
    ·rw[Kq hex];exact k3
    ·simp;omega
   ·obtain⟨e,IY,ry⟩:=List.mem_map.1 hex;obtain⟨F1,F2,rfl⟩:=List.append_of_mem IY;have iG:=hF _ IY;obtain⟨m1,m2⟩:=GH lr (by omega);have kb:=Bc lr;rw[ry] at m1 m2 kb;have hfd:(F1++e::F2).find? (fun x=>x.f==(5+g:Int))=some e:=by rw[l0 lr,if_pos ry.symm]
    have wh:ie (F1++e::F2) (g+1)=ie (F1++e::F2) g++[qn e]:=by
     rw[ie,hfd]
    have dH:gS (bL (F1++e::F2)) (.one (.int .i64 (5+g))) (.sl 0 [] .full) false=.bJ e.i e.x.length e.cap:=by
     unfold gS;rw[←jK,kb];rfl
    obtain⟨p1,p2,p3,p4,p5⟩:=iG;have bl:decide ((0:Int)<(e.x.length:Int))=true:=decide_eq_true (by omega);have k3b:Has J2 ((b4,.cells [dv,tv,cv])::(b6,.map (bL (F1++e::F2)))::(gR (eL (5+g) F1)++(e.i,.cells (aU e.x++e.rest))::(gR (eL (5+g) F2)++R))):=by
     rw[m2] at k3;simpa[gR,Ef.nf] using k3
    have gi:=k3b.get (i:=e.i) (b:=.cells (aU e.x++e.rest)) (by simp);have li:=(List.getElem?_eq_some_iff.1 gi).1;have cs:=fun U=>GO e.x e.rest e.i e.cap (by omega) J2 U gi;have zt:=Has.set (A:=(b4,.cells [dv,tv,cv])::(b6,.map (bL (F1++e::F2)))::gR (eL (5+g) F1)) (B:=gR (eL (5+g) F2)++R) (b:=.cells (aU e.x++e.rest)) (by simpa using k3b) (.cells (aU (nP e.x)++e.rest));have Jn:Has (J2.set e.i (.cells (aU (nP e.x)++e.rest))) ((b4,.cells [dv,tv,cv])::(b6,.map (bL (F1++e::F2)))::(gR (eL (5+g+1) (F1++e::F2))++R)):=by
     rw[m1];simpa[gR,Ef.nf,qn] using zt
    have OE:=k4.set p4 (.cells (aU (nP e.x)++e.rest));have Rs:(J2.set e.i (.cells (aU (nP e.x)++e.rest))).length=J2.length:=by simp
    generalize hFF:F1++e::F2=FF at *;refine ae fun K hK=>?_;simp(disch:=omega)[tQ,qR,vX,kL,e6,dH];apply hK;clear hK K;refine ae fun K hK=>?_;simp(disch:=omega)[bl,p5];apply hK;clear hK K;apply aF rfl;refine ae fun K hK=>?_;simp(disch:=omega) ;refine ak (cs _) ?_;simp(disch:=omega) ;apply hK;clear hK K;have SS:bC (J2.set e.i (.cells (aU (nP e.x)++e.rest))) U2:=by
     refine k6.set ?_;have:=k6 e.i (.cells (aU e.x++e.rest)) gi;simp only[aA.yl] at this;intro v hv;rcases List.mem_append.1 hv with hv|hv
     ·exact ri _ _ _ v hv
     ·exact this v (List.mem_append_right _ hv)
    clear e4 e6 gi;generalize J2.set e.i (.cells (aU (nP e.x)++e.rest))=J3 at *;have e4:=aV (Jn.get (i:=b4) (b:=.cells [dv,tv,cv]) (by simp));have WS:b4<J3.length:=by omega
    have tJ:e.i<J3.length:=by omega
    have hBe:∀U':ar,True:=fun _=>trivial;have l63:=Jn.lt (i:=b6) (b:=.map (bL FF)) (by simp);rcases k2 with⟨nE,rfl⟩|⟨tc,rfl,WY,Tr⟩
    ·refine au fun K hK=>?_;simp(disch:=omega)[e4];apply hK;clear hK K;have CI:=Has.set (A:=[]) (B:=(b6,.map (bL FF))::(gR (eL (5+g+1) FF)++R)) (b:=.cells [dv,tv,.sl 0 [] .full]) (by simpa using Jn) (.cells [dv,tv,.sl 1 [.int .i64 (5+g),.bV e.i 0 e.x.length] (.own U2.length)]);refine fin _ _ _ (.sl 1 [.int .i64 (5+g),.bV e.i 0 e.x.length] (.own U2.length)) ?_ CI (OE.set CH _) (k5.app _) ?_ (by simp;omega) (by simp;omega) ?_
     ·refine .inr ⟨U2.length,?_,by rw[wh,nE];simp,by omega⟩;rw[wh,nE];simp[tC,qn,xa,ry]
     ·refine(SS.fQ (by simp)).set ?_;have h1:=IV.more (n':=J3.length) (t':=(U2++[(2,2)]).length) (by omega) (by simp;omega);have h2:=zB.more (n':=J3.length) (t':=(U2++[(2,2)]).length) (by omega) (by simp;omega);simp[h1,h2,tJ];exact⟨by simpa using h2,by simpa using h1⟩
     ·simp;omega
    ·have ltc:=(List.getElem?_eq_some_iff.1 WY).1;have eU:=aV WY;have fK:=Bq (ie FF g);have acp:(ie FF g).length≤3:=by
      have:∀k,(ie FF k).length≤k:=by
       intro k
       induction k with
       |zero=>exact Nat.le_refl _
       |succ k ih=>
        unfold ie
        split
        ·simp;omega
        ·omega
      have:=this g;omega
     refine au fun K hK=>?_;simp(disch:=omega)[e4,eU,fK];apply hK;clear hK K;have CI:=Has.set (A:=[]) (B:=(b6,.map (bL FF))::(gR (eL (5+g+1) FF)++R)) (b:=.cells [dv,tv,.sl (ie FF g).length (tC (ie FF g)) (.own tc)]) (by simpa using Jn) (.cells [dv,tv,.sl ((ie FF g).length+1) (tC (ie FF g)++[.int .i64 (5+g),.bV e.i 0 e.x.length]) (.own tc)]);refine fin _ _ _ (AV.sl ((ie FF g).length+1) (tC (ie FF g)++[AV.int .i64 (5+g),AV.bV e.i 0 e.x.length]) (.own tc)) ?_ CI (OE.set CH _) (k5.set Tr _) ?_ (by simp;omega) (by simp;omega) ?_
     ·refine .inr ⟨tc,?_,?_,Tr⟩
      ·rw[wh];simp[tC,qn,xa,ry]
      ·rw[wh,List.getElem?_set_self ltc];simp
       try omega
     ·refine(SS.fQ (by simp)).set ?_;have h0:=SS b4 _ (Jn.get (i:=b4) (b:=.cells [dv,tv,.sl (ie FF g).length (tC (ie FF g)) (.own tc)]) (by simp));simp only[aA.yl,List.mem_cons,List.not_mem_nil,or_false,forall_eq_or_imp,forall_eq] at h0;obtain⟨h1,h2,h3⟩:=h0;simp at h3;simp[h1,h2,h3.1,h3.2,tJ]
     ·simp;omega
inductive qw:List Dc→List En→List Ef→Prop
 |nil:qw [] [] []
 |snoc {l:List Dc} {d:Dc} {E E':List En} {F F':List Ef} (h:qw l E F) (h1:mr d.id E (et d.zs) E') (h2:qx F (zP d.id d.ns) F'):qw (l++[d]) E' F'
def jG (l:List Dc):Nat:=(l.map fun d=>(et d.zs).length).sum
def lx (l:List Dc):Nat:=(l.map fun d=>d.ns.length).sum
theorem Gn (l:List Dc)(i:Nat)(h:i<l.length):jG (l.take i)+(et (l.getD i d0).zs).length=jG (l.take (i+1)):=by
 rw[bf l i d0 h];simp[jG]
theorem Hq (l:List Dc)(i:Nat)(h:i<l.length):lx (l.take i)+(l.getD i d0).ns.length=lx (l.take (i+1)):=by
 rw[bf l i d0 h];simp[lx]
theorem Aj (a b:List Dc):jG (a++b)=jG a+jG b:=by simp[jG]
theorem Nh (l:List Dc)(i:Nat):jG (l.take i)≤jG l:=by
 have:jG l=jG (l.take i)+jG (l.drop i):=by rw[←Aj,List.take_append_drop]
 omega
theorem KW (a b:List Dc):lx (a++b)=lx a+lx b:=by simp[lx]
theorem NJ (l:List Dc)(i:Nat):lx (l.take i)≤lx l:=by
 have:lx l=lx (l.take i)+lx (l.drop i):=by rw[←KW,List.take_append_drop]
 omega
attribute [-simp] List.getD_eq_getElem?_getD in
theorem H6 (H:List aA)(T:ar)(nb tb:Nat)(fO:nb≤H.length)(eS:tb≤T.length)(L:List Dc)(b2 b4 b5 b6 td:Nat)(J:List aA)(U:ar)
  (hB:DI H T b2 b4 b5 b6 td 0 0 J U [] [] []) (hL:L.length≤1000) (hW:jG L≤1099511627776) (hM:lx L≤1099511627776) (hz:∀d∈L,d.zs.length≤1099511627776) (hg:∀d∈L,JK d)
  (iE:H.length≤b2) (CH:H.length≤b4) (FL:H.length≤b5) (Cr:H.length≤b6) (Ri:T.length≤td) (Q:Exit→St→Prop)
  (bad:∀i,0<i→i<L.length→(L.getD (i-1) d0).id=(L.getD i d0).id→∀(e:Env)(J':List aA)(U':ar),bF e 2=.ptr b2 0→bF e 3=.int .i64 10→J'[b2]?=some (.cells [.sl 0 [] .full,.sl 0 [] .full,.sl 0 [] .full])→eT H J'→eT T U'→Q .ret ⟨e,J',U'⟩)
  (go:(∀i,0<i→i<L.length→(L.getD (i-1) d0).id≠(L.getD i d0).id)→∀(e:Env)(J':List aA)(U':ar)(E:List En)(F:List Ef),DI H T b2 b4 b5 b6 td (jG L) (lx L) J' U' (L.map (·.id)) E F→qw L E F→bt J'.length U'.length e [(0,.sl L.length (aM L) .none),(2,.ptr b2 0),(4,.ptr b4 0),(5,.aO b5),(6,.aO b6)]→Q .normal ⟨e,J',U'⟩) :
  AW ⟨Tryz.prog,192,152,nb,tb,[100104,100147,100166]⟩ (du [1,1,1,1,1,1,1,1,0] (Tryz.f13.body.getD .skip)) Q ⟨[(0,.sl L.length (aM L) .none),(2,.ptr b2 0),(4,.ptr b4 0),(5,.aO b5),(6,.aO b6)],J,U⟩:=by
 conv=>arg 2;whnf
 have lH:=hB.pJ.le;have lT:=hB.pU.le;have Y2:∀{N M:Nat} {J':List aA} {U':ar} {ids:List Int} {E:List En} {F:List Ef},DI H T b2 b4 b5 b6 td N M J' U' ids E F→b2<J'.length∧b4<J'.length∧b5<J'.length∧b6<J'.length:=by
  intro N M J' U' ids E F h;exact⟨h.hJ.lt (i:=b2) (b:=.cells [.sl 0 [] .full,.sl 0 [] .full,.sl 0 [] .full]) (by simp),h.hJ.lt (i:=b4) (b:=.cells [.sl ids.length (ints ids) (.own td),.sl 0 [] .full,.sl 0 [] .full]) (by simp),h.hJ.lt (i:=b5) (b:=.map (cj E)) (by simp),h.hJ.lt (i:=b6) (b:=.map (bL F)) (by simp)⟩
 obtain⟨l2,l4,l5,l6⟩:=Y2 hB;apply ae;intro K h;simp(disch:=omega);apply h;clear h K;apply ah;refine aG (X:=Nat×List aA×ar×List En×List Ef) (fun x=>⟨[(0,.sl L.length (aM L) .none),(2,.ptr b2 0),(4,.ptr b4 0),(5,.aO b5),(6,.aO b6),(34,.sl L.length (aM L) .none),(35,.int .i64 (L.length:Nat)),(36,.int .i64 (x.1:Nat))],x.2.1,x.2.2.1⟩)
  (fun x=>x.1≤L.length∧DI H T b2 b4 b5 b6 td (jG (L.take x.1)) (lx (L.take x.1)) x.2.1 x.2.2.1 ((L.take x.1).map (·.id)) x.2.2.2.1 x.2.2.2.2∧qw (L.take x.1) x.2.2.2.1 x.2.2.2.2∧∀i,0<i→i<x.1→(L.getD (i-1) d0).id≠(L.getD i d0).id) (fun x=>L.length-x.1) (0,J,U,[],[]) ?_ ?_ ?_
 ·exact⟨Nat.zero_le _,hB,.nil,fun i h1 h2=>by omega⟩
 ·refine ag [] [] ?_ ?_ ?_ ?_ hB.ok ?_
  all_goals simp
  all_goals omega
 ·rintro⟨i,J2,U2,E,F⟩ ⟨k1,k2,k3,k4⟩;simp only at k1 k2 k3 k4;have Iv:=k2.pJ.le;have LX:=k2.pU.le;obtain⟨Zb,Rg,l52,l62⟩:=Y2 k2;apply ae;intro K h;simp(disch:=omega);apply h;clear h K;refine af fun K2 aW=>?_;refine aN rfl (fun hk=>?_) (fun hk=>?_)
  ·simp  at hk;have Er:=Gn L i hk;have Eu:=Hq L i hk;have ua:=Nh L (i+1);have zA:=NJ L (i+1);have hdm:=aR L i d0 hk;apply ai;simp(disch:=omega) ;apply aW;clear aW;refine af fun K3 bz=>?_;apply ah;refine aH ⟨[(0,.sl L.length (aM L) .none),(2,.ptr b2 0),(4,.ptr b4 0),(5,.aO b5),(6,.aO b6),(34,.sl L.length (aM L) .none),(35,.int .i64 (L.length:Nat)),(36,.int .i64 (i:Nat))],J2,U2⟩ (ag [] [] (by simp) (by simp) (by show nb≤J2.length;omega) (by show tb≤U2.length;omega) k2.ok (by simp;omega)) ?_;refine Lz (N:=jG (L.take i)) (M:=lx (L.take i)) H T nb tb fO eS L i b2 b4 b5 b6 td _ E F J2 U2 k2 hk hL (by simp;omega) (by omega) (by omega) (hz _ hdm) (hg _ hdm) iE CH FL Cr Ri _ (fun h1 h2 e J' g1 g2 g3 g4=>?_) fun dA e J' U' E' F' a1 a2 a3 a4=>?_
   ·exact bad i h1 hk h2 e J' U2 g1 g2 g3 g4 k2.pU
   ·rw[Er,Eu] at a1;have jM:(L.take i).map (·.id)++[(L.getD i d0).id]=(L.take (i+1)).map (·.id):=by rw[bf L i d0 hk];simp
    rw[jM] at a1;have FE:=a1.pJ.le;have FD:=a1.pU.le;obtain⟨l23,WS,Za,l63⟩:=Y2 a1;refine bz _ (aH ⟨[(0,.sl L.length (aM L) .none),(2,.ptr b2 0),(4,.ptr b4 0),(5,.aO b5),(6,.aO b6),(34,.sl L.length (aM L) .none),(35,.int .i64 (L.length:Nat)),(36,.int .i64 (i:Nat))],J',U'⟩ (ag [] [] (by simp) (by simp) (by show nb≤J'.length;omega) (by show tb≤U'.length;omega) a1.ok a4) ?_);clear bz;refine au fun K hK=>?_;simp(disch:=omega) ;apply hK;clear hK K;refine⟨(i+1,J',U',E',F'),⟨by show i+1≤_;omega,a1,?_,fun j h1 h2=>?_⟩,by show L.length-(i+1)<L.length-i;omega,?_⟩
    ·show qw (L.take (i+1)) E' F';rw[bf L i d0 hk];exact k3.snoc a2 a3
    ·rcases Nat.lt_or_ge j i with h|h
     ·exact k4 j h1 h
     ·have:j=i:=by simp only at h2;omega
      subst this;exact dA h1
    ·refine ag [] [] ?_ ?_ ?_ ?_ a1.ok ?_
     all_goals simp
     all_goals omega
  ·simp  at hk;have s8:i=L.length:=by omega
   subst s8;rw[List.take_length] at k2 k3;apply aC;simp(disch:=omega) ;refine go k4 _ J2 U2 E F k2 k3 ?_;simp;omega
end Go.Proofs.YtneohapkboaplaaGreat
