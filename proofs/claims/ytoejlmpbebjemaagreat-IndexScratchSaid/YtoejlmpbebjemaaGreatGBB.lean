/- segment.Build (layer 39): one document. segment.Build (layer 39): the terms out of the map, in any order. segment.Build (layer 39): the columns. segment.Build (layer 39): the documents, one after another.
  Conditions: lengths below 400 or 1000, as each theorem says. -/
import Derived.Test.YtoejlmpbebjemaaGreatGBA
set_option linter.all false
set_option maxRecDepth 100000
set_option maxHeartbeats 16000000
namespace eN
open Go Go.Am
theorem oL.nd {id:Int}{E E':List En}{l:List (Ky×Int)}(h:oL id E l E')(hn:(E.map (·.k)).Nodup):(E'.map (·.k)).Nodup:=by
 cases h with
 |nil=>exact hn
 |snoc _ h2=>exact h2.nd
end eN
namespace Go.Proofs.YtoejlmpbebjemaaGreat
open Go.Proofs.Tryz(prog)
open Go Go.Am ie eN
inductive sY:List Ef->List (Int×Nm)->List Ef->Prop
 |nil (E:List Ef):sY E [] E
 |snoc {E E1 E2:List Ef} {l:List (Int×Nm)} {k:Int} {p:Nm} (h:sY E l E1) (h2:tn E1 k p E2):sY E (l++[(k,p)]) E2
theorem sY.trans {E E1 E2:List Ef}{l m:List (Int×Nm)}(h:sY E l E1)(k:sY E1 m E2):sY E (l++m) E2:=by
 induction k with
 |nil=>simpa using h
 |snoc _ h2 ih=>rw[<-List.append_assoc];exact ih.snoc h2
theorem sY.nd {E E':List Ef}{l:List (Int×Nm)}(h:sY E l E')(hn:(E.map (·.f)).Nodup):(E'.map (·.f)).Nodup:=by
 cases h with
 |nil=>exact hn
 |snoc _ h2=>exact h2.nd
def Dq (id:Int)(ns:List Nm):List (Int×Nm):=ns.map λx=>(x.1,(x.2,id))
def MD (id:Int)(ns:List Nm)(k:Nat)(h:k<ns.length):Dq id (ns.take k)++[((ns.getD k n0).1,((ns.getD k n0).2,id))]=Dq id (ns.take (k+1)):=by
 rw[aX ns k n0 h];simp[Dq]
structure DI (H:List aA)(T:au)(b2 b4 b5 b6 td N M:Nat)(J:List aA)(U:au)(ids:List Int)(E:List En)(F:List Ef):Prop where
 hJ:Has J ((b2,.cells [.sl 0 [] .full,.sl 0 [] .full,.sl 0 [] .full])::(b4,.cells [.sl ids.length (ints ids) (.own td),.sl 0 [] .full,.sl 0 [] .full])::(b6,.map (bT F))::(jt F++(b5,.map (cO E))::ep E))
 hU:Has U ((td,(ids.length,1))::kK E)
 hE:∀e∈E,GW H.length T.length N e
 ndE:(E.map (·.k)).Nodup
 ftE:dz prog 193 (cO E)=true
 hF:∀e∈F,SD H.length M e
 ndF:(F.map (·.f)).Nodup
 ftF:dz prog 3 (bT F)=true
 pJ:gW H J
 pU:gW T U
 ok:bM J U
structure Ox (d:Dc):Prop where
 z:∀z∈d.zs,(-9223372036854775808<=z.f/\z.f<=9223372036854775807)/\∀w∈z.ws,w.1.length<=maxLen
 n:∀x∈d.ns,-9223372036854775808<=x.1/\x.1<=9223372036854775807
attribute [-simp] List.getD_eq_getElem?_getD in
def Qz (H:List aA)(T:au)(nb tb N M:Nat)(gL:nb<=H.length)(fZ:tb<=T.length)(L:List Dc)(vi b2 b4 b5 b6 td:Nat)(ids:List Int)(E:List En)(F:List Ef)(J:List aA)(U:au)
  (hB:DI H T b2 b4 b5 b6 td N M J U ids E F) (hi:vi<L.length) (hL:L.length<=1000) (Nz:ids.length<=1000) (hN:N+(eW (L.getD vi d0).zs).length<=1099511627776) (hM:M+(L.getD vi d0).ns.length<=1099511627776) (yY:(L.getD vi d0).zs.length<=1099511627776)
  (hg:Ox (L.getD vi d0)) (j8:H.length<=b2) (GB:H.length<=b4) (JZ:H.length<=b5) (Gi:H.length<=b6) (Nw:T.length<=td) (Q:Exit->St->Prop)
  (bad:0<vi->(L.getD (vi-1) d0).id=(L.getD vi d0).id->∀(e:Env)(J':List aA),bO e 2=.ptr b2 0->bO e 3=.int .i64 10->J'[b2]?=some (.cells [.sl 0 [] .full,.sl 0 [] .full,.sl 0 [] .full])->gW H J'->Q .ret ⟨e,J',U⟩)
  (go:(0<vi->(L.getD (vi-1) d0).id≠(L.getD vi d0).id)->∀(e:Env)(J':List aA)(U':au)(E':List En)(F':List Ef),DI H T b2 b4 b5 b6 td (N+(eW (L.getD vi d0).zs).length) (M+(L.getD vi d0).ns.length) J' U' (ids++[(L.getD vi d0).id]) E' F'->
   oL (L.getD vi d0).id E (eW (L.getD vi d0).zs) E'->sY F (Dq (L.getD vi d0).id (L.getD vi d0).ns) F'->bA J'.length U'.length e [(0,.sl L.length (aM L) .none),(2,.ptr b2 0),(4,.ptr b4 0),(5,.aP b5),(6,.aP b6),(34,.sl L.length (aM L) .none),(35,.int .i64 (L.length:Nat)),(36,.int .i64 (vi:Nat))]->Q .normal ⟨e,J',U'⟩) :
  AW ⟨prog,192,152,nb,tb,[100104,100147,100166]⟩ (dZ [1,1,1,1,1,1,1,1,0,1,0,0,1,1,0,0] (Tryz.f68.body.getD .skip)) Q ⟨[(0,.sl L.length (aM L) .none),(2,.ptr b2 0),(4,.ptr b4 0),(5,.aP b5),(6,.aP b6),(34,.sl L.length (aM L) .none),(35,.int .i64 (L.length:Nat)),(36,.int .i64 (vi:Nat))],J,U⟩:=by
 conv=>arg 2;whnf
 have lH:=hB.pJ.le;have lT:=hB.pU.le;have bB:=iw L vi hi;have zW:=λh=>kF L (vi-1) h;generalize hdd:L.getD vi d0=d at *;generalize XD:L.getD (vi-1) d0=dp at *;obtain⟨id,zs,ns⟩:=d;simp only at bB hN hM yY bad go;obtain⟨q1,q2,q3,q4,q5,q6,q7,q8,q9,q10,q11⟩:=hB;obtain⟨Uz,XP⟩:=hg;simp only at Uz XP;have l2:=q1.lt (i:=b2) (b:=.cells [.sl 0 [] .full,.sl 0 [] .full,.sl 0 [] .full]) (by simp);have l4:=q1.lt (i:=b4) (b:=.cells [.sl ids.length (ints ids) (.own td),.sl 0 [] .full,.sl 0 [] .full]) (by simp);have l5:=q1.lt (i:=b5) (b:=.map (cO E)) (by simp);have l6:=q1.lt (i:=b6) (b:=.map (bT F)) (by simp);refine aK λK hK=>?_;simp(disch:=omega)[bB,bI];apply hK;have rV:bM (J++[.cells (dY ⟨id,zs,ns⟩)]) U:=q11.snoc (by simp);have q1:=(q1.new (.cells (dY ⟨id,zs,ns⟩))).perm (aik _ _).symm;have q9:=q9.app [aA.cells (dY ⟨id,zs,ns⟩)];have CT:(J++[aA.cells (dY ⟨id,zs,ns⟩)]).length=J.length+1:=by simp
 obtain⟨b8,h8⟩:∃i,i=J.length:=⟨_,rfl⟩
 rw[<-h8] at q1;simp only[<-h8];have hsh:aA.cells [.int .i64 id,.sl zs.length (fy zs) .none,.sl ns.length (bG ns) .none]=.cells (dY ⟨id,zs,ns⟩):=rfl;rw[hsh];generalize J++[aA.cells (dY ⟨id,zs,ns⟩)]=J1 at *;have g8:=q1.get (i:=b8) (b:=.cells (dY ⟨id,zs,ns⟩)) (by simp);have g4:=q1.get (i:=b4) (b:=.cells [.sl ids.length (ints ids) (.own td),.sl 0 [] .full,.sl 0 [] .full]) (by simp);have g2:=q1.get (i:=b2) (b:=.cells [.sl 0 [] .full,.sl 0 [] .full,.sl 0 [] .full]) (by simp);have e8:=aZ g8;have e4:=aZ g4;have l8:=(aht.1 g8).1;have gU:=q2.get (i:=td) (b:=(ids.length,1)) (by simp);have lU:=(aht.1 gU).1;have eU:=aZ gU;refine aF ⟨[(7,.int .i64 (vi:Nat)),(0,.sl L.length (aM L) .none),(2,.ptr b2 0),(4,.ptr b4 0),(5,.aP b5),(6,.aP b6),(8,.ptr b8 0),(34,.sl L.length (aM L) .none),(35,.int .i64 (L.length:Nat)),(36,.int .i64 (vi:Nat))],J1,U⟩ (ak [] [] (by simp) (by simp) (by show nb<=_;omega) (by show tb<=_;omega) rV (by simp;omega)) ?_;have e2:=aZ g2;have l2':b2<J1.length:=by omega
 have l4':b4<J1.length:=by omega
 refine ae λK1 aN=>?_;have key:(0<vi->dp.id≠id)->∀e,bA J1.length U.length e [(0,.sl L.length (aM L) .none),(2,.ptr b2 0),(4,.ptr b4 0),(5,.aP b5),(6,.aP b6),(8,.ptr b8 0),(34,.sl L.length (aM L) .none),(35,.int .i64 (L.length:Nat)),(36,.int .i64 (vi:Nat))]->K1 ⟨e,J1,U⟩:=by
  intro dM e he;refine aN _ (aF ⟨[(0,.sl L.length (aM L) .none),(2,.ptr b2 0),(4,.ptr b4 0),(5,.aP b5),(6,.aP b6),(8,.ptr b8 0),(34,.sl L.length (aM L) .none),(35,.int .i64 (L.length:Nat)),(36,.int .i64 (vi:Nat))],J1,U⟩ (ak [] [] (by simp) (by simp) (by show nb<=_;omega) (by show tb<=_;omega) rV he) ?_);clear aN;refine aK λK hK=>?_;simp(disch:=omega)[e8,e4,eU];apply hK;refine dE λeG=>?_;simp only at eG;have jg:=Has.set (A:=[(b8,.cells (dY ⟨id,zs,ns⟩)),(b2,.cells [.sl 0 [] .full,.sl 0 [] .full,.sl 0 [] .full])]) (B:=(b6,.map (bT F))::(jt F++(b5,.map (cO E))::ep E)) (b:=.cells [.sl ids.length (ints ids) (.own td),.sl 0 [] .full,.sl 0 [] .full]) (by simpa using q1) (.cells [.sl (ids.length+1) (ints ids++[.int .i64 id]) (.own td),.sl 0 [] .full,.sl 0 [] .full]);have CZ:=Has.set (A:=[]) (B:=kK E) (b:=(ids.length,1)) (by simpa using q2) (ids.length+1,1);have sL:=q9.set GB (.cells [.sl (ids.length+1) (ints ids++[.int .i64 id]) (.own td),.sl 0 [] .full,.sl 0 [] .full]);have ZG:=q10.set Nw (ids.length+1,1);have jT:(J1.set b4 (.cells [.sl (ids.length+1) (ints ids++[.int .i64 id]) (.own td),.sl 0 [] .full,.sl 0 [] .full])).length=J1.length:=by simp
  have hlU:(U.set td (ids.length+1,1)).length=U.length:=by simp
  rw[cJ] at jg eG sL jT ⊢;have eM:ids.length+1=(ids++[id]).length:=by simp
  rw[eM] at jg CZ eG sL ZG jT hlU ⊢;generalize J1.set b4 (.cells [.sl (ids++[id]).length (ints (ids++[id])) (.own td),.sl 0 [] .full,.sl 0 [] .full])=J2 at *;generalize U.set td ((ids++[id]).length,1)=U2 at *;generalize lP:ids++[id]=uu at *;have hBI:BI H T ((b8,.cells (dY ⟨id,zs,ns⟩))::(b2,.cells [.sl 0 [] .full,.sl 0 [] .full,.sl 0 [] .full])::(b4,.cells [.sl uu.length (ints uu) (.own td),.sl 0 [] .full,.sl 0 [] .full])::(b6,.map (bT F))::jt F) [(td,(uu.length,1))] b5 N J2 U2 E:=
   ⟨by simpa using jg,by simpa using CZ,q3,q4,q5,sL,ZG,eG⟩
  have e8:=aZ (jg.get (i:=b8) (b:=.cells (dY ⟨id,zs,ns⟩)) (by simp));have l8:b8<J2.length:=by omega
  clear e4 eU g8 g4 g2 e2;refine ae λK1 aN=>?_;refine aK λK hK=>?_;simp(disch:=omega)[e8];apply hK;apply ag;refine aG (X:=Nat×List aA×au×List En) (λx=>⟨[(0,.sl L.length (aM L) .none),(2,.ptr b2 0),(4,.ptr b4 0),(5,.aP b5),(6,.aP b6),(8,.ptr b8 0),(34,.sl L.length (aM L) .none),(35,.int .i64 (L.length:Nat)),(36,.int .i64 (vi:Nat)),(63,.sl zs.length (fy zs) .none),(64,.int .i64 (zs.length:Nat)),(65,.int .i64 (x.1:Nat))],x.2.1,x.2.2.1⟩)
   (λx=>x.1<=zs.length/\BI H T ((b8,.cells (dY ⟨id,zs,ns⟩))::(b2,.cells [.sl 0 [] .full,.sl 0 [] .full,.sl 0 [] .full])::(b4,.cells [.sl uu.length (ints uu) (.own td),.sl 0 [] .full,.sl 0 [] .full])::(b6,.map (bT F))::jt F) [(td,(uu.length,1))] b5 (N+(eW (zs.take x.1)).length) x.2.1 x.2.2.1 x.2.2.2/\oL id E (eW (zs.take x.1)) x.2.2.2/\J2.length<=x.2.1.length) (λx=>zs.length-x.1) (0,J2,U2,E) ?_ ?_ ?_
  ·exact⟨ahE _,hBI,.nil E,ahv _⟩
  ·refine ak [] [] ?_ ?_ ?_ ?_ eG ?_
   all_goals simp
   all_goals omega
  ·rintro⟨j,J3,U3,E3⟩ ⟨k1,k2,k3,k4⟩;simp only at k1 k2 k3 k4;have JT:=k2.pJ.le;have JS:=k2.pU.le;have l53:=k2.hJ.lt (i:=b5) (b:=.map (cO E3)) (by simp);apply aK;intro K Z;simp(disch:=omega);apply Z;refine ae λK2 ba=>?_;refine aV rfl (λgN=>?_) (λgN=>?_)
   ·simp  at gN;have XQ:=MA zs j gN;have kW:(eW (zs.take j)).length+(zs.getD j z0).ws.length=(eW (zs.take (j+1))).length:=by rw[<-XQ];simp[pw]
    have ahj:(eW (zs.take (j+1))).length<=(eW zs).length:=by
     have:eW zs=eW (zs.take (j+1))++eW (zs.drop (j+1)):=by rw[eW,eW,eW,<-List.flatMap_append,ah1]
     rw[this];simp
    apply aj;simp(disch:=omega) ;apply ba;clear ba;refine ae λK3 bH=>?_;apply ag;refine aF ⟨[(0,.sl L.length (aM L) .none),(2,.ptr b2 0),(4,.ptr b4 0),(5,.aP b5),(6,.aP b6),(8,.ptr b8 0),(34,.sl L.length (aM L) .none),(35,.int .i64 (L.length:Nat)),(36,.int .i64 (vi:Nat)),(63,.sl zs.length (fy zs) .none),(64,.int .i64 (zs.length:Nat)),(65,.int .i64 (j:Nat))],J3,U3⟩ (ak [] [] (by simp) (by simp) (by show nb<=_;omega) (by show tb<=_;omega) k2.ok (by simp;omega)) ?_;refine KE (N:=N+(eW (zs.take j)).length) H T nb tb gL fZ L zs vi j b2 b4 b5 b6 b8 id _ _ E3 J3 U3 _ _ k2 gN (by omega) (List.mem_cons_self ..) JZ (by omega) (by omega) (by omega) (Uz _ (aQ zs j z0 gN)).1 (Uz _ (aQ zs j z0 gN)).2 _ λe J' U' E' a1 a2 a3 a4=>?_;have lH4:=a1.pJ.le;have lT4:=a1.pU.le;rw[Nat.add_assoc,kW] at a1;refine bH _ (aF ⟨[(0,.sl L.length (aM L) .none),(2,.ptr b2 0),(4,.ptr b4 0),(5,.aP b5),(6,.aP b6),(8,.ptr b8 0),(34,.sl L.length (aM L) .none),(35,.int .i64 (L.length:Nat)),(36,.int .i64 (vi:Nat)),(63,.sl zs.length (fy zs) .none),(64,.int .i64 (zs.length:Nat)),(65,.int .i64 (j:Nat))],J',U'⟩ (ak [] [] (by simp) (by simp) (by show nb<=_;omega) (by show tb<=_;omega) a1.ok a4) ?_);clear bH;refine br λK hK=>?_;simp(disch:=omega) ;apply hK;refine⟨(j+1,J',U',E'),⟨by show j+1<=_;omega,a1,?_,by show J2.length<=J'.length;omega⟩,by show zs.length-(j+1)<zs.length-j;omega,?_⟩
    ·show oL id E (eW (zs.take (j+1))) E';rw[<-XQ];exact k3.trans a2
    ·refine ak [] [] ?_ ?_ ?_ ?_ a1.ok ?_
     all_goals simp
     all_goals omega
   ·simp  at gN;have YD:j=zs.length:=by omega
    subst YD;rw[ahO] at k2 k3;apply aD;simp(disch:=omega) ;apply aN;clear aN;have l53:=k2.hJ.lt (i:=b5) (b:=.map (cO E3)) (by simp);have e8:=aZ (k2.hJ.get (i:=b8) (b:=.cells (dY ⟨id,zs,ns⟩)) (by simp));have l8:b8<J3.length:=by omega
    have YW:BF H T ((b8,.cells (dY ⟨id,zs,ns⟩))::(b2,.cells [.sl 0 [] .full,.sl 0 [] .full,.sl 0 [] .full])::(b4,.cells [.sl uu.length (ints uu) (.own td),.sl 0 [] .full,.sl 0 [] .full])::(b5,.map (cO E3))::ep E3) b6 M J3 U3 F:=by
     refine⟨k2.hJ.perm ?_,q6,q7,q8,k2.pJ,k2.pU,k2.ok⟩;simp only[ajI];refine(((List.Perm.cons _ (List.Perm.cons _ (List.Perm.cons _ ?_)))));have:=(List.perm_append_comm (l₁:=(b5,aA.map (cO E3))::ep E3) (l₂:=(b6,aA.map (bT F))::jt F))
     simpa using this
    refine aK λK hK=>?_;simp(disch:=omega)[e8];apply hK;apply ag;refine aG (X:=Nat×List aA×List Ef) (λx=>⟨[(0,.sl L.length (aM L) .none),(2,.ptr b2 0),(4,.ptr b4 0),(5,.aP b5),(6,.aP b6),(8,.ptr b8 0),(34,.sl L.length (aM L) .none),(35,.int .i64 (L.length:Nat)),(36,.int .i64 (vi:Nat)),(128,.sl ns.length (bG ns) .none),(129,.int .i64 (ns.length:Nat)),(130,.int .i64 (x.1:Nat))],x.2.1,U3⟩)
     (λx=>x.1<=ns.length/\BF H T ((b8,.cells (dY ⟨id,zs,ns⟩))::(b2,.cells [.sl 0 [] .full,.sl 0 [] .full,.sl 0 [] .full])::(b4,.cells [.sl uu.length (ints uu) (.own td),.sl 0 [] .full,.sl 0 [] .full])::(b5,.map (cO E3))::ep E3) b6 (M+x.1) x.2.1 U3 x.2.2/\sY F (Dq id (ns.take x.1)) x.2.2/\J3.length<=x.2.1.length) (λx=>ns.length-x.1) (0,J3,F) ?_ ?_ ?_
    ·exact⟨ahE _,YW,.nil F,ahv _⟩
    ·refine ak [] [] ?_ ?_ ?_ ?_ k2.ok ?_
     all_goals simp
     all_goals omega
    ·rintro⟨k,J4,F4⟩ ⟨m1,m2,m3,m4⟩;simp only at m1 m2 m3 m4;have lH4:=m2.pJ.le;apply aK;intro K Z;simp(disch:=omega);apply Z;refine ae λK2 ba=>?_;refine aV rfl (λXM=>?_) (λXM=>?_)
     ·simp  at XM;apply aj;simp(disch:=omega) ;apply ba;clear ba;refine ae λK3 bH=>?_;apply ag;refine aF ⟨[(0,.sl L.length (aM L) .none),(2,.ptr b2 0),(4,.ptr b4 0),(5,.aP b5),(6,.aP b6),(8,.ptr b8 0),(34,.sl L.length (aM L) .none),(35,.int .i64 (L.length:Nat)),(36,.int .i64 (vi:Nat)),(128,.sl ns.length (bG ns) .none),(129,.int .i64 (ns.length:Nat)),(130,.int .i64 (k:Nat))],J4,U3⟩ (ak [] [] (by simp) (by simp) (by show nb<=_;omega) (by show tb<=_;omega) m2.ok (by simp;omega)) ?_;refine P2 (N:=M+k) H T nb tb gL fZ L ns vi k b2 b4 b5 b6 b8 id _ _ F4 J4 U3 _ m2 (by omega) XM (by omega) (List.mem_cons_self ..) Gi (by omega) (by omega) (by omega) (XP _ (aQ ns k n0 XM)) _ λe J' F' a1 a2 a3 a4=>?_;have lH5:=a1.pJ.le;refine bH _ (aF ⟨[(0,.sl L.length (aM L) .none),(2,.ptr b2 0),(4,.ptr b4 0),(5,.aP b5),(6,.aP b6),(8,.ptr b8 0),(34,.sl L.length (aM L) .none),(35,.int .i64 (L.length:Nat)),(36,.int .i64 (vi:Nat)),(128,.sl ns.length (bG ns) .none),(129,.int .i64 (ns.length:Nat)),(130,.int .i64 (k:Nat))],J',U3⟩ (ak [] [] (by simp) (by simp) (by show nb<=_;omega) (by show tb<=_;omega) a1.ok a4) ?_);clear bH;refine br λK hK=>?_;simp(disch:=omega) ;apply hK;refine⟨(k+1,J',F'),⟨by show k+1<=_;omega,a1,?_,by show J3.length<=J'.length;omega⟩,by show ns.length-(k+1)<ns.length-k;omega,?_⟩
      ·show sY F (Dq id (ns.take (k+1))) F';rw[<-MD id ns k XM];exact m3.snoc a2
      ·refine ak [] [] ?_ ?_ ?_ ?_ a1.ok ?_
       all_goals simp
       all_goals omega
     ·simp  at XM;have pD:k=ns.length:=by omega
      subst pD;rw[ahO] at m3;apply aD;simp(disch:=omega) ;refine go dM _ J4 U3 E3 F4 ⟨?_,by simpa using k2.hU,k2.hE,k2.nd,k2.ft,m2.hF,m2.nd,m2.ft,m2.pJ,m2.pU,m2.ok⟩ k3 m3 ?_
      ·have hs:=m2.hJ.sub (aiw _ _);refine hs.perm ?_;refine(List.Perm.cons _ (List.Perm.cons _ ?_));have:=(List.perm_append_comm (l₁:=(b6,aA.map (bT F4))::jt F4) (l₂:=(b5,aA.map (cO E3))::ep E3))
       simpa using this
      ·simp;omega
 clear aN;rcases ah0 vi with h0|h0
 ·subst h0;refine cQ [] [] [] aO (by kernel_rfl) (by kernel_rfl) λK hK=>?_;simp(disch:=omega) ;apply hK;apply aB rfl;apply aj;simp(disch:=omega) ;refine key (λh=>absurd h (by omega)) _ ?_;simp;omega
 ·have b0:decide ((0:Int)<(vi:Int))=true:=ahx (by omega);have e6:((vi:Int)-1)=((vi-1:Nat):Int):=by omega
  have ZB:=(zW (by omega)).1
  by_cases XR:dp.id=id
  ·have bd:(dp.id==id)=true:=by simpa using XR
   refine cQ [] [] [] aO (by kernel_rfl) (by kernel_rfl) λK hK=>?_;simp(disch:=omega)[b0,h0,e6,ZB,bI,e8,XR];apply hK;apply aC rfl;refine aK λK hK=>?_;simp(disch:=omega)[e2];apply hK;apply bu;exact bad h0 XR _ _ rfl rfl (ahZ l2') (q9.set j8 _)
  ·have bd:(dp.id==id)=false:=by simpa using XR
   refine cQ [] [] [] aO (by kernel_rfl) (by kernel_rfl) λK hK=>?_;simp(disch:=omega)[b0,h0,e6,ZB,bI,e8,bd,XR];apply hK;apply aB rfl;apply aj;simp(disch:=omega) ;refine key (λ_=>XR) _ ?_;simp;omega
def Rq:En:=⟨(0,[]),[],0,[],0,0,0,[]⟩
def gh (e:En):Ky×AV:=(e.k,.cV e.i 0 e.n)
structure N8 (nb:Nat)(rows:List (Ky×AV))(tv:AV)(TB:List (Nat×aA)):Prop where
 h:(rows=[]/\tv=.sl 0 [] .full/\TB=[])\/∃it cap rest,tv=.bQ it rows.length cap/\TB=[(it,.cells (eK rows++rest))]/\rest.length=(cap-rows.length)*3/\rows.length<=cap/\nb<=it/\0<rows.length
def qM (l:List (Ky×AV))(k:Ky)(v:AV):eK l++[.int .i64 k.1,.str k.2,v]=eK (l++[(k,v)]):=by simp[eK]
theorem P4:∀(n:Nat)(l:List Nat),l.Nodup->(∀j∈l,j<n)->l.length<=n:=by
 intro n
 induction n with
 |zero=>
  intro l _ h
  cases l with
  |nil=>exact ahv _
  |cons a r=>exact absurd (h a zS) (ahT _)
 |succ n ih=>
  intro l hn h;have h1:=ih (l.erase n) (hn.erase n) λj hj=>by
   have:=(hn.mem_erase_iff).1 hj;have:=h j this.2;omega
  by_cases hm:n∈l
  ·rw[List.length_erase_of_mem hm] at h1;omega
  ·rw[List.erase_of_not_mem hm] at h1;omega
def HT {n:Nat}{l:List Nat}(h1:l.Nodup)(h2:∀a∈l,a<n)(h3:∀a,a<n->a∈l):l.Perm (List.range n):=
 (List.perm_ext_iff_of_nodup h1 List.nodup_range).2 λa=>⟨λh=>ahV.2 (h2 a h),λh=>h3 a (ahV.1 h)⟩
attribute [-simp] List.getD_eq_getElem?_getD in
def Hw (H:List aA)(T:au)(nb tb N M:Nat)(gL:nb<=H.length)(fZ:tb<=T.length)(b2 b4 b5 b6 td:Nat)(ids:List Int)(E:List En)(F:List Ef)(J:List aA)(U:au)
  (hB:DI H T b2 b4 b5 b6 td N M J U ids E F) (YS:E.length<=1099511627776) (GB:H.length<=b4) (Q:Exit->St->Prop)
  (go:∀(e:Env) (J':List aA) (rows:List (Ky×AV)) (tv:AV) (TB:List (Nat×aA)),rows.Perm (E.map gh)->N8 H.length rows tv TB->Has J' ((b4,.cells [.sl ids.length (ints ids) (.own td),tv,.sl 0 [] .full])::(TB++(b2,.cells [.sl 0 [] .full,.sl 0 [] .full,.sl 0 [] .full])::(b6,.map (bT F))::(b5,.map (cO E))::(jt F++ep E)))->gW H J'->bM J' U->bA J'.length U.length e [(2,.ptr b2 0),(4,.ptr b4 0),(5,.aP b5),(6,.aP b6)]->Q .normal ⟨e,J',U⟩) :
  AW ⟨prog,192,152,nb,tb,[100104,100147,100166]⟩ (dZ [1,1,1,1,1,1,1,1,1,0] (Tryz.f68.body.getD .skip)) Q ⟨[(2,.ptr b2 0),(4,.ptr b4 0),(5,.aP b5),(6,.aP b6)],J,U⟩:=by
 conv=>arg 2;whnf
 have lH:=hB.pJ.le;have lT:=hB.pU.le;obtain⟨q1,q2,q3,q4,q5,q6,q7,q8,q9,q10,q11⟩:=hB;have e5:=aZ (q1.get (i:=b5) (b:=.map (cO E)) (by simp));have l5:=q1.lt (i:=b5) (b:=.map (cO E)) (by simp);have CU:(cO E).length=E.length:=by simp[cO]
 refine aK λK hK=>?_;simp(disch:=omega)[wJ,e5,CU];apply hK;have q1':=(q1.new (.mX b5 E.length [])).perm (aik _ _).symm;have q9':=q9.app [aA.mX b5 E.length []];have rV:bM (J++[.mX b5 E.length []]) U:=q11.S0;obtain⟨bm,Ng⟩:∃i,i=J.length:=⟨_,rfl⟩
 rw[<-Ng] at q1';simp only[<-Ng];have aft:H.length<=bm:=by omega
 clear e5 l5 q1 q9 q11 Ng;generalize J++[aA.mX b5 E.length []]=J1 at *;have lH1:=q9'.le;have q1:Has J1 ((bm,.mX b5 E.length ([]))::(b4,.cells [.sl ids.length (ints ids) (.own td),.sl 0 [] .full,.sl 0 [] .full])::([]++(b2,.cells [.sl 0 [] .full,.sl 0 [] .full,.sl 0 [] .full])::(b6,.map (bT F))::(b5,.map (cO E))::(jt F++ep E))):=by
  refine q1'.perm ?_;refine List.Perm.cons _ ?_;refine List.Perm.trans (List.Perm.swap _ _ _) (List.Perm.cons _ (List.Perm.cons _ ?_));refine List.Perm.cons _ ?_;exact ajO.symm
 have l2:=q1.lt (i:=b2) (b:=.cells [.sl 0 [] .full,.sl 0 [] .full,.sl 0 [] .full]) (by simp);have l4:=q1.lt (i:=b4) (b:=.cells [.sl ids.length (ints ids) (.own td),.sl 0 [] .full,.sl 0 [] .full]) (by simp);have l5:=q1.lt (i:=b5) (b:=.map (cO E)) (by simp);have l6:=q1.lt (i:=b6) (b:=.map (bT F)) (by simp);have lm:=q1.lt (i:=bm) (b:=.mX b5 E.length []) (by simp);apply ag;refine aG (X:=List Nat×List aA×AV×List (Nat×aA)) (λx=>⟨[(2,.ptr b2 0),(4,.ptr b4 0),(5,.aP b5),(6,.aP b6),(151,.ptr bm 0)],x.2.1,U⟩)
  (λx=>x.1.Nodup/\(∀j∈x.1,j<E.length)/\N8 H.length (x.1.map λj=>gh (E.getD j Rq)) x.2.2.1 x.2.2.2/\Has x.2.1 ((bm,.mX b5 E.length (x.1))::(b4,.cells [.sl ids.length (ints ids) (.own td),x.2.2.1,.sl 0 [] .full])::(x.2.2.2++(b2,.cells [.sl 0 [] .full,.sl 0 [] .full,.sl 0 [] .full])::(b6,.map (bT F))::(b5,.map (cO E))::(jt F++ep E)))/\gW H x.2.1/\bM x.2.1 U/\J1.length<=x.2.1.length) (λx=>E.length-x.1.length) ([],J1,.sl 0 [] .full,[]) ?_ ?_ ?_
 ·exact⟨List.nodup_nil,λj hj=>by simp at hj,⟨.inl ⟨rfl,rfl,rfl⟩⟩,q1,q9',rV,ahv _⟩
 ·refine ak [] [] ?_ ?_ ?_ ?_ rV ?_
  all_goals simp
  all_goals omega
 ·rintro⟨seen,J2,tv,TB⟩ ⟨k1,k2,k3,k4,k5,k6,k7⟩;simp only at k1 k2 k3 k4 k5 k6 k7;have em:=aZ (k4.get (i:=bm) (b:=.mX b5 E.length seen) (by simp));have e5:=aZ (k4.get (i:=b5) (b:=.map (cO E)) (by simp));have lm2:bm<J2.length:=by omega
  have l52:b5<J2.length:=by omega
  have XB:b4<J2.length:=by omega
  have M9:=k5.le;refine aK λK hK=>?_;simp(disch:=omega)[em,e5];unfold I5;refine⟨CU.symm,λfC=>?_,λj kk v hj XG=>?_⟩
  ·simp(disch:=omega) ;apply hK;refine ae λK2 ba=>?_;apply aB rfl;apply aD;simp(disch:=omega) ;refine go _ J2 _ tv TB ?_ k3 (k4.sub (aiw _ _)) k5 k6 ?_
   ·have hp:=(HT k1 k2 fC).map λj=>gh (E.getD j Rq);refine hp.trans (List.Perm.of_eq ?_);apply ajq
    ·simp
    ·intro i h1 h2;simp only[aip,aj0];rw[ahs,ahu (by simpa using h2)];rfl
   ·simp;omega
  ·have hja:=aZ hj;obtain⟨hjw,en,hen,rfl,rfl⟩:∃(hjw:j<E.length) (en:En),E.getD j Rq=en/\kk=nH en.k/\v=.bQ en.i en.n en.cap:=by
    rw[cO,aiD,aji] at hj;obtain⟨en,h1,h2⟩:=hj;rw[Prod.mk.injEq] at h2;exact⟨(aht.1 h1).1,en,by rw[ahs,h1];rfl,h2.1.symm,h2.2.symm⟩
   have hle:seen.length<E.length:=by
    have:=P4 E.length (seen++[j]) (by rw[aif];exact⟨k1,by simp,λa ha b hb=>by simp at hb;rw[hb];exact λe=>XG (by rw[<-e];exact ha)⟩) (λa ha=>by
     rcases ahI.1 ha with ha|ha
     ·exact k2 a ha
     ·simp at ha;rw[ha];exact hjw)
    simp at this;omega
   have k1':(seen++[j]).Nodup:=by
    rw[aif];exact⟨k1,by simp,λa ha b hb=>by simp at hb;rw[hb];exact λe=>XG (by rw[<-e];exact ha)⟩
   have Yk:∀a∈seen++[j],a<E.length:=λa ha=>by
    rcases ahI.1 ha with ha|ha
    ·exact k2 a ha
    ·simp at ha;rw[ha];exact hjw
   have um:en.i<J2.length:=by
    have:en∈E:=by rw[<-hen];exact aQ E j Rq hjw
    exact k4.lt (i:=en.i) (b:=en.pq) (by
     have:(en.i,en.pq)∈ep E:=ahz.2 ⟨en,this,rfl⟩;simp[this])
   have zX:=Has.set (A:=[]) (B:=(b4,.cells [.sl ids.length (ints ids) (.own td),tv,.sl 0 [] .full])::(TB++(b2,.cells [.sl 0 [] .full,.sl 0 [] .full,.sl 0 [] .full])::(b6,.map (bT F))::(b5,.map (cO E))::(jt F++ep E))) (b:=.mX b5 E.length seen) k4 (.mX b5 E.length (seen++[j]));have hP3:=k5.set aft (.mX b5 E.length (seen++[j]));have YP:bM (J2.set bm (.mX b5 E.length (seen++[j]))) U:=k6.WS;have hl3:(J2.set bm (.mX b5 E.length (seen++[j]))).length=J2.length:=by simp
   generalize J2.set bm (.mX b5 E.length (seen++[j]))=J3 at *;have em:=aZ (zX.get (i:=bm) (b:=.mX b5 E.length (seen++[j])) (by simp));have e5:=aZ (zX.get (i:=b5) (b:=.map (cO E)) (by simp));have lm3:bm<J3.length:=by omega
   have l53:b5<J3.length:=by omega
   have l43:b4<J3.length:=by omega
   clear lm2 l52 XB k4;simp(disch:=omega)[nH];apply hK;refine ae λK2 ba=>?_;apply aC rfl;apply aj;simp(disch:=omega) ;apply ba;clear ba;apply ag;have ru:j<(cO E).length:=by omega
   refine aK λK hK=>?_;simp(disch:=omega)[em,e5,hja,CU,List.getLast?_append,nH];apply hK;have Yw:bM (J3++[.cells [.int .i64 en.k.1,.str en.k.2]]) U:=YP.snoc (by simp);have GD:=(zX.new (.cells [.int .i64 en.k.1,.str en.k.2])).perm (aik _ _).symm;have hP4:=hP3.app [aA.cells [.int .i64 en.k.1,.str en.k.2]];have XK:(J3++[aA.cells [.int .i64 en.k.1,.str en.k.2]]).length=J3.length+1:=by simp
   obtain⟨yX,UC⟩:∃i,i=J3.length:=⟨_,rfl⟩
   rw[<-UC] at GD;simp only[<-UC];have afi:en.i<(J3++[aA.cells [.int .i64 en.k.1,.str en.k.2]]).length:=by omega
   clear em e5 zX;generalize J3++[aA.cells [.int .i64 en.k.1,.str en.k.2]]=J4 at *;have VW:=aZ (GD.get (i:=yX) (b:=.cells [.int .i64 en.k.1,.str en.k.2]) (by simp));have e4:=aZ (GD.get (i:=b4) (b:=.cells [.sl ids.length (ints ids) (.own td),tv,.sl 0 [] .full]) (by simp));have l17:yX<J4.length:=by omega
   have l4:b4<J4.length:=by omega
   have l6':=GD.lt (i:=b6) (b:=.map (bT F)) (by simp);have l2':=GD.lt (i:=b2) (b:=.cells [.sl 0 [] .full,.sl 0 [] .full,.sl 0 [] .full]) (by simp);have l5':=GD.lt (i:=b5) (b:=.map (cO E)) (by simp);have lm':=GD.lt (i:=bm) (b:=.mX b5 E.length (seen++[j])) (by simp);have lH4:=hP4.le;have ahb:td<U.length:=q2.lt (b:=(ids.length,1)) (by simp);have uv:(seen++[j]).map (λj=>gh (E.getD j Rq))=seen.map (λj=>gh (E.getD j Rq))++[(en.k,.cV en.i 0 en.n)]:=by
    rw[ahJ,List.map_singleton,hen];rfl
   have zJ:(seen.map λj=>gh (E.getD j Rq)).length=seen.length:=by simp
   generalize agO:seen.map (λj=>gh (E.getD j Rq))=rows at *;have fin:∀(e:Env) (J5:List aA) (zB:AV) (Y8:List (Nat×aA)),N8 H.length (rows++[(en.k,.cV en.i 0 en.n)]) zB Y8->Has J5 ((yX,.cells [.int .i64 en.k.1,.str en.k.2])::(bm,.mX b5 E.length (seen++[j]))::(b4,.cells [.sl ids.length (ints ids) (.own td),zB,.sl 0 [] .full])::(Y8++(b2,.cells [.sl 0 [] .full,.sl 0 [] .full,.sl 0 [] .full])::(b6,.map (bT F))::(b5,.map (cO E))::(jt F++ep E)))->gW H J5->bM J5 U->J4.length<=J5.length->
     bA J5.length U.length e [(2,.ptr b2 0),(4,.ptr b4 0),(5,.aP b5),(6,.aP b6),(151,.ptr bm 0)]->∃x':List Nat×List aA×AV×List (Nat×aA),(x'.1.Nodup/\(∀j∈x'.1,j<E.length)/\N8 H.length (x'.1.map λj=>gh (E.getD j Rq)) x'.2.2.1 x'.2.2.2/\Has x'.2.1 ((bm,.mX b5 E.length (x'.1))::(b4,.cells [.sl ids.length (ints ids) (.own td),x'.2.2.1,.sl 0 [] .full])::(x'.2.2.2++(b2,.cells [.sl 0 [] .full,.sl 0 [] .full,.sl 0 [] .full])::(b6,.map (bT F))::(b5,.map (cO E))::(jt F++ep E)))/\gW H x'.2.1/\bM x'.2.1 U/\J1.length<=x'.2.1.length)/\E.length-x'.1.length<E.length-seen.length/\
      sW ⟨prog,192,152,nb,tb,[100104,100147,100166]⟩ ⟨e,J5,U⟩ ⟨[(2,.ptr b2 0),(4,.ptr b4 0),(5,.aP b5),(6,.aP b6),(151,.ptr bm 0)],x'.2.1,U⟩:=by
    intro e J5 zB Y8 t1 t2 t3 t4 t5 t6;refine⟨(seen++[j],J5,zB,Y8),⟨k1',Yk,?_,t2.sub (aiw _ _),t3,t4,by show J1.length<=J5.length;omega⟩,?_,?_⟩
    ·show N8 H.length ((seen++[j]).map λj=>gh (E.getD j Rq)) zB Y8;rw[uv];exact t1
    ·show E.length-(seen++[j]).length<_;rw[ahw,ain];omega
    ·exact ak [] [] (by simp) (by simp) (by show nb<=J5.length;have:=t3.le;omega) (by show tb<=_;omega) t4 t6
   rcases k3.h with⟨zL,rfl,rfl⟩|⟨it,cap,rest,rfl,rfl,g1,g2,g3,g4⟩
   ·refine br λK hK=>?_;simp(disch:=omega)[VW,e4,ahB];intro nc lY;apply hK;rw[<-List.set_append_left _ _ l4];have hRB:aL (J4.length+1) U.length (.int .i64 en.k.1::.str en.k.2::.cV en.i 0 en.n::List.replicate ((nc-1)*3) .top):=by
     simp;omega
    have RX:=(GD.new (.cells (.int .i64 en.k.1::.str en.k.2::.cV en.i 0 en.n::List.replicate ((nc-1)*3) .top)))
    have YO:bM (J4++[.cells (.int .i64 en.k.1::.str en.k.2::.cV en.i 0 en.n::List.replicate ((nc-1)*3) .top)]) U:=Yw.snoc hRB;have YN:=hP4.app [aA.cells (.int .i64 en.k.1::.str en.k.2::.cV en.i 0 en.n::List.replicate ((nc-1)*3) .top)];have hl5:(J4++[aA.cells (.int .i64 en.k.1::.str en.k.2::.cV en.i 0 en.n::List.replicate ((nc-1)*3) .top)]).length=J4.length+1:=by simp
    obtain⟨it,zP⟩:∃i,i=J4.length:=⟨_,rfl⟩
    rw[<-zP] at RX;simp only[<-zP];generalize J4++[aA.cells (.int .i64 en.k.1::.str en.k.2::.cV en.i 0 en.n::List.replicate ((nc-1)*3) .top)]=J5 at *;have YQ:=Has.set (A:=[(yX,.cells [.int .i64 en.k.1,.str en.k.2]),(bm,.mX b5 E.length (seen++[j]))]) (B:=((b2,.cells [.sl 0 [] .full,.sl 0 [] .full,.sl 0 [] .full])::(b6,.map (bT F))::(b5,.map (cO E))::(jt F++ep E))++[(it,.cells (.int .i64 en.k.1::.str en.k.2::.cV en.i 0 en.n::List.replicate ((nc-1)*3) .top))]) (b:=.cells [.sl ids.length (ints ids) (.own td),.sl 0 [] .full,.sl 0 [] .full]) (by simpa using RX) (.cells [.sl ids.length (ints ids) (.own td),.bQ it 1 nc,.sl 0 [] .full]);refine fin _ _ (.bQ it 1 nc) [(it,.cells (.int .i64 en.k.1::.str en.k.2::.cV en.i 0 en.n::List.replicate ((nc-1)*3) .top))] ⟨.inr ⟨it,nc,List.replicate ((nc-1)*3) .top,by rw[zL];rfl,by rw[zL];rfl,by rw[zL];simp,by rw[zL];simpa using lY,by omega,by simp⟩⟩ ?_ (YN.set GB _) (YO.set (by simp;omega)) (by simp;omega) ?_
    ·refine YQ.perm ?_;refine List.Perm.cons _ (List.Perm.cons _ (List.Perm.cons _ ?_));exact(aik _ _).symm
    ·simp;omega
   ·have gi:=GD.get (i:=it) (b:=.cells (eK rows++rest)) (by simp);have lit:=(aht.1 gi).1;have vw:(eK rows++rest).length=rows.length*3+rest.length:=by rw[ahw,tG]
    have gV:(eK rows++rest).take (rows.length*3)=eK rows:=aiy (by rw[tG]);have qE:(eK rows++rest).drop ((rows.length+1)*3)=rest.drop 3:=by
     rw[List.drop_append,ajN (by rw[tG];omega),ai3,tG]
     congr 1;omega
    have za:(rows++[(en.k,AV.cV en.i 0 en.n)]).length=rows.length+1:=by simp
    refine br λK hK=>?_;simp(disch:=omega)[VW,e4];refine⟨171,_,[.int .i64 en.k.1,.str en.k.2,.cV en.i 0 en.n],1,by kernel_rfl,gi,by rw[vw,yh];omega,by simp,by simp;omega,by omega,by kernel_rfl,by simp,λhle=>?_,λnc bp lY=>?_⟩
    ·simp only[yh,gV,qE];rw[show aA.cells (eK rows++[.int .i64 en.k.1,.str en.k.2,.cV en.i 0 en.n]++rest.drop 3)=.cells (eK (rows++[(en.k,.cV en.i 0 en.n)])++rest.drop 3) by rw[qM]];have RX:=Has.set (A:=[(yX,.cells [.int .i64 en.k.1,.str en.k.2]),(bm,.mX b5 E.length (seen++[j])),(b4,.cells [.sl ids.length (ints ids) (.own td),.bQ it rows.length cap,.sl 0 [] .full])]) (B:=(b2,.cells [.sl 0 [] .full,.sl 0 [] .full,.sl 0 [] .full])::(b6,.map (bT F))::(b5,.map (cO E))::(jt F++ep E)) (b:=.cells (eK rows++rest)) (by simpa using GD) (.cells (eK (rows++[(en.k,.cV en.i 0 en.n)])++rest.drop 3));have YN:=hP4.set g3 (.cells (eK (rows++[(en.k,.cV en.i 0 en.n)])++rest.drop 3));have YO:bM (J4.set it (.cells (eK (rows++[(en.k,.cV en.i 0 en.n)])++rest.drop 3))) U:=by
      refine Yw.set ?_;have:=Yw it (.cells (eK rows++rest)) gi;simp only[aA.Bx] at this;intro v hv;rcases ahI.1 hv with hv|hv
      ·rw[<-qM] at hv;rcases ahI.1 hv with hv|hv
       ·exact this v (ahR _ hv)
       ·simp at hv;rcases hv with rfl|rfl|rfl
        ·exact .int _ _
        ·exact .str _
        ·exact .cV _ _ _ afi
      ·exact this v (ajo _ (List.mem_of_mem_drop hv))
     have hl5:(J4.set it (.cells (eK (rows++[(en.k,.cV en.i 0 en.n)])++rest.drop 3))).length=J4.length:=by simp
     generalize J4.set it (.cells (eK (rows++[(en.k,.cV en.i 0 en.n)])++rest.drop 3))=J5 at *;have e4:=aZ (RX.get (i:=b4) (b:=.cells [.sl ids.length (ints ids) (.own td),.bQ it rows.length cap,.sl 0 [] .full]) (by simp));have l4:b4<J5.length:=by omega
     simp(disch:=omega)[e4];apply hK;have YQ:=Has.set (A:=[(yX,.cells [.int .i64 en.k.1,.str en.k.2]),(bm,.mX b5 E.length (seen++[j]))]) (B:=(it,.cells (eK (rows++[(en.k,.cV en.i 0 en.n)])++rest.drop 3))::(b2,.cells [.sl 0 [] .full,.sl 0 [] .full,.sl 0 [] .full])::(b6,.map (bT F))::(b5,.map (cO E))::(jt F++ep E)) (b:=.cells [.sl ids.length (ints ids) (.own td),.bQ it rows.length cap,.sl 0 [] .full]) (by simpa using RX) (.cells [.sl ids.length (ints ids) (.own td),.bQ it (rows.length+1) cap,.sl 0 [] .full]);refine fin _ _ (.bQ it (rows.length+1) cap) [(it,.cells (eK (rows++[(en.k,.cV en.i 0 en.n)])++rest.drop 3))] ⟨.inr ⟨it,cap,rest.drop 3,by rw[za],rfl,by rw[za,aii];omega,by rw[za];exact hle,g3,by rw[za];omega⟩⟩ (by simpa using YQ) (YN.set GB _) (YO.set (by simp;omega)) (by simp;omega) ?_;simp;omega
    ·simp only[yh,gV];obtain⟨r2,o9⟩:∃r2,r2=List.replicate ((nc-(rows.length+1))*3) AV.top:=⟨_,rfl⟩
     have NS:r2.length=(nc-(rows.length+1))*3:=by rw[o9];simp
     have Wk:aL (J4.length+1) U.length r2:=by rw[o9];simp
     rw[<-o9];rw[show aA.cells (eK rows++[.int .i64 en.k.1,.str en.k.2,.cV en.i 0 en.n]++r2)=.cells (eK (rows++[(en.k,.cV en.i 0 en.n)])++r2) by rw[qM]];have RX:=(GD.sub (S':=(yX,.cells [.int .i64 en.k.1,.str en.k.2])::(bm,.mX b5 E.length (seen++[j]))::(b4,.cells [.sl ids.length (ints ids) (.own td),.bQ it rows.length cap,.sl 0 [] .full])::(b2,.cells [.sl 0 [] .full,.sl 0 [] .full,.sl 0 [] .full])::(b6,.map (bT F))::(b5,.map (cO E))::(jt F++ep E)) (.cons_cons _ (.cons_cons _ (.cons_cons _ (aiw _ _))))).new (.cells (eK (rows++[(en.k,.cV en.i 0 en.n)])++r2));have YN:=hP4.app [aA.cells (eK (rows++[(en.k,.cV en.i 0 en.n)])++r2)];have YO:bM (J4++[.cells (eK (rows++[(en.k,.cV en.i 0 en.n)])++r2)]) U:=by
      refine Yw.snoc ?_;have:=Yw it (.cells (eK rows++rest)) gi;simp only[aA.Bx] at this;intro v hv;rcases ahI.1 hv with hv|hv
      ·rw[<-qM] at hv;rcases ahI.1 hv with hv|hv
       ·exact(this v (ahR _ hv)).more (air _) (ahv _)
       ·simp at hv;rcases hv with rfl|rfl|rfl
        ·exact .int _ _
        ·exact .str _
        ·exact .cV _ _ _ (by omega)
      ·exact Wk v hv
     have hl5:(J4++[aA.cells (eK (rows++[(en.k,.cV en.i 0 en.n)])++r2)]).length=J4.length+1:=by simp
     obtain⟨i2,zR⟩:∃i,i=J4.length:=⟨_,rfl⟩
     rw[<-zR] at RX;simp only[<-zR];generalize J4++[aA.cells (eK (rows++[(en.k,.cV en.i 0 en.n)])++r2)]=J5 at *;have e4:=aZ (RX.get (i:=b4) (b:=.cells [.sl ids.length (ints ids) (.own td),.bQ it rows.length cap,.sl 0 [] .full]) (by simp));have l4:b4<J5.length:=by omega
     simp(disch:=omega)[e4];apply hK;have YQ:=Has.set (A:=[(yX,.cells [.int .i64 en.k.1,.str en.k.2]),(bm,.mX b5 E.length (seen++[j]))]) (B:=((b2,.cells [.sl 0 [] .full,.sl 0 [] .full,.sl 0 [] .full])::(b6,.map (bT F))::(b5,.map (cO E))::(jt F++ep E))++[(i2,.cells (eK (rows++[(en.k,.cV en.i 0 en.n)])++r2))]) (b:=.cells [.sl ids.length (ints ids) (.own td),.bQ it rows.length cap,.sl 0 [] .full]) (by simpa using RX) (.cells [.sl ids.length (ints ids) (.own td),.bQ i2 (rows.length+1) nc,.sl 0 [] .full]);refine fin _ _ (.bQ i2 (rows.length+1) nc) [(i2,.cells (eK (rows++[(en.k,.cV en.i 0 en.n)])++r2))] ⟨.inr ⟨i2,nc,r2,by rw[za],rfl,by rw[za];exact NS,by rw[za];exact lY,by omega,by rw[za];omega⟩⟩ ?_ (YN.set GB _) (YO.set (by simp;omega)) (by simp;omega) ?_
     ·refine YQ.perm ?_;refine List.Perm.cons _ (List.Perm.cons _ (List.Perm.cons _ ?_));exact(aik _ _).symm
     ·simp;omega
abbrev ccC (e:Ef):List AV:=[.int .i64 e.f,.cV e.i 0 e.x.length]
def wo (l:List Ef):List AV:=l.flatMap λe=>[.int .i64 e.f,.cV e.i 0 e.x.length]
def JG:eE ccC 2:=λ_=>rfl
def Fj (l:List Ef):(wo l).length=l.length*2:=cj JG l
def sO (e:Ef):Ef:={ e with x:=pT e.x }
def Ay (l:List Nm):(pT l).length=l.length:=ajE _
def fR (m:Int)(F:List Ef):List Ef:=F.map λe=>if 5<=e.f/\e.f<m then sO e else e
def HA (F:List Ef):fR 5 F=F:=by
 simp only[fR]
 conv=>rhs;rw[<-List.map_id F]
 refine aib λe _=>?_;rw[ahC zO];rfl
def Lf {F1 F2:List Ef}{e:Ef}(h:((F1++e::F2).map (·.f)).Nodup)(h5:5<=e.f):fR (e.f+1) (F1++e::F2)=fR e.f F1++sO e::fR e.f F2/\fR e.f (F1++e::F2)=fR e.f F1++e::fR e.f F2:=by
 have h1:∀x,x∈F1\/x∈F2->x.f≠e.f:=by
  rw[ahJ,aih,aif,ajM] at h;rintro x (hx|hx)
  ·exact h.2.2 x.f (ahz.2 ⟨x,hx,rfl⟩) e.f zS
  ·exact λee=>h.2.1.1 (ee▸ahz.2 ⟨x,hx,rfl⟩)
 have h2:∀l:List Ef,(∀x∈l,x.f≠e.f)->fR (e.f+1) l=fR e.f l:=λl hl=>by
  refine aib λx hx=>?_;have:=hl x hx
  by_cases hh:5<=x.f/\x.f<e.f
  ·rw[ahF hh,ahF zO]
  ·rw[ahC hh,ahC zO]
 constructor
 ·rw[<-h2 F1 (λx hx=>h1 x (.inl hx)),<-h2 F2 (λx hx=>h1 x (.inr hx))];simp only[fR,ahJ,aih];rw[ahF (by omega:5<=e.f/\e.f<e.f+1)]
 ·simp only[fR,ahJ,aih];rw[ahC (by omega:¬(5<=e.f/\e.f<e.f))]
def Pj {F:List Ef}{m:Int}(h:m∉F.map (·.f)):fR (m+1) F=fR m F:=by
 refine aib λx hx=>?_;have:x.f≠m:=λee=>h (ee▸ahz.2 ⟨x,hx,rfl⟩)
 by_cases hh:5<=x.f/\x.f<m
 ·rw[ahF hh,ahF zO]
 ·rw[ahC hh,ahC zO]
def jK (F:List Ef):Nat->List Ef
 |0=>[]
 |g+1=>match F.find? (λe=>e.f==(5+g:Int)) with
  |some e=>jK F g++[sO e]
  |none=>jK F g
def CV (T U:au)(aH:List Ef)(cv:AV):Prop:=(aH=[]/\cv=.sl 0 [] .full)\/∃tc,cv=.sl aH.length (wo aH) (.own tc)/\U[tc]?=some (aH.length*2,2)/\T.length<=tc
attribute [-simp] List.getD_eq_getElem?_getD in
theorem MN (H:List aA)(T:au)(nb tb N:Nat)(gL:nb<=H.length)(fZ:tb<=T.length)(b2 b4 b6:Nat)(dv tv:AV)(F:List Ef)(J:List aA)(U:au)(R:List (Nat×aA))
  (hJ:Has J ((b4,.cells [dv,tv,.sl 0 [] .full])::(b6,.map (bT F))::(jt F++R))) (hF:∀e∈F,SD H.length N e) (hN:N<=1099511627776) (nU:(F.map (·.f)).Nodup) (mY:dz prog 3 (bT F)=true) (hP:gW H J) (Gj:gW T U) (hO:bM J U) (GB:H.length<=b4) (jT:b2<J.length)
  (Nv:Below J.length U.length tv) (CX:Below J.length U.length dv) (Q:Exit->St->Prop)
  (go:∀(e:Env)(J':List aA)(U':au)(cv:AV),CV T U' (jK F 3) cv->Has J' ((b4,.cells [dv,tv,cv])::(b6,.map (bT F))::(jt (fR 8 F)++R))->gW H J'->gW T U'->bM J' U'->J.length<=J'.length->bA J'.length U'.length e [(2,.ptr b2 0),(4,.ptr b4 0),(6,.aP b6)]->Q .normal ⟨e,J',U'⟩) :
  AW ⟨prog,192,152,nb,tb,[100104,100147,100166]⟩ (dZ [1,1,1,1,1,1,1,1,1,1,1,0] (Tryz.f68.body.getD .skip)) Q ⟨[(2,.ptr b2 0),(4,.ptr b4 0),(6,.aP b6)],J,U⟩:=by
 conv=>arg 2;whnf
 have lH:=hP.le;have lT:=Gj.le;have l4:=hJ.lt (i:=b4) (b:=.cells [dv,tv,.sl 0 [] .full]) (by simp);have l6:=hJ.lt (i:=b6) (b:=.map (bT F)) (by simp);apply aK;intro K Z;simp(disch:=omega);apply Z;apply ag;refine aG (X:=Nat×List aA×au×AV) (λx=>⟨[(2,.ptr b2 0),(4,.ptr b4 0),(6,.aP b6),(19,.int .i64 (5+x.1:Int))],x.2.1,x.2.2.1⟩)
  (λx=>x.1<=3/\CV T x.2.2.1 (jK F x.1) x.2.2.2/\Has x.2.1 ((b4,.cells [dv,tv,x.2.2.2])::(b6,.map (bT F))::(jt (fR (5+x.1:Int) F)++R))/\gW H x.2.1/\gW T x.2.2.1/\bM x.2.1 x.2.2.1/\J.length<=x.2.1.length/\U.length<=x.2.2.1.length) (λx=>3-x.1) (0,J,U,.sl 0 [] .full) ?_ ?_ ?_
 ·refine⟨by omega,.inl ⟨rfl,rfl⟩,?_,hP,Gj,hO,ahv _,ahv _⟩;have:=HA F;simp only[Int.add_zero,Int.natCast_zero];show Has J ((b4,.cells [dv,tv,.sl 0 [] .full])::(b6,.map (bT F))::(jt (fR 5 F)++R));rw[this];exact hJ
 ·refine ak [] [] ?_ ?_ ?_ ?_ hO ?_
  all_goals simp
  all_goals omega
 ·rintro⟨g,J2,U2,cv⟩ ⟨k1,k2,k3,k4,k5,k6,k7,k8⟩;simp only at k1 k2 k3 k4 k5 k6 k7 k8;have M9:=k4.le;have Q4:=k5.le;have l62:=k3.lt (i:=b6) (b:=.map (bT F)) (by simp);have XB:b4<J2.length:=by omega
  have e6:=aZ (k3.get (i:=b6) (b:=.map (bT F)) (by simp));have e4:=aZ (k3.get (i:=b4) (b:=.cells [dv,tv,cv]) (by simp));refine ae λK2 ba=>?_
  by_cases hg:g<3
  rotate_left
  ·have bg:decide ((5:Int)+g<=7)=false:=ahy (by omega);have ng:¬(5:Int)+g<=7:=by omega
   refine aK λK hK=>?_;simp(disch:=omega)[bg,ng];apply hK;apply aB rfl;apply aD;simp(disch:=omega) ;have hg3:g=3:=by omega
   subst hg3;refine go _ J2 U2 cv k2 k3 k4 k5 k6 (by omega) ?_;simp;omega
  ·have bg:decide ((5:Int)+g<=7)=true:=ahx (by omega);have ng:(5:Int)+g<=7:=by omega
   have IJ:(5+((g+1:Nat):Int))=5+(g:Int)+1:=by omega
   have y6:=Ku (5+g) (by omega);have lO:lL (5+g)=.one (.int .i64 (5+g)):=rfl;rw[lO] at y6;refine aK λK hK=>?_;simp(disch:=omega)[bg,ng];apply hK;apply aC rfl;apply aj;simp(disch:=omega) ;apply ba;clear ba;refine ae λK3 bH=>?_;apply ag;have fin:∀(e:Env)(J3:List aA)(U3:au)(NI:AV),CV T U3 (jK F (g+1)) NI->Has J3 ((b4,.cells [dv,tv,NI])::(b6,.map (bT F))::(jt (fR (5+g+1:Int) F)++R))->gW H J3->gW T U3->bM J3 U3->J.length<=J3.length->U.length<=U3.length->bA J3.length U3.length e [(2,.ptr b2 0),(4,.ptr b4 0),(6,.aP b6),(19,.int .i64 (5+g:Int))]->K3 ⟨e,J3,U3⟩:=by
    intro e J3 U3 NI t1 t2 t3 t4 t5 t6 t7 t8;have JT:=t3.le;have JS:=t4.le;have l63:=t2.lt (i:=b6) (b:=.map (bT F)) (by simp);have l43:=t2.lt (i:=b4) (b:=.cells [dv,tv,NI]) (by simp);refine bH _ (aF ⟨[(2,.ptr b2 0),(4,.ptr b4 0),(6,.aP b6),(19,.int .i64 (5+g:Int))],J3,U3⟩ (ak [] [] (by simp) (by simp) (by show nb<=J3.length;omega) (by show tb<=U3.length;omega) t5 t8) ?_);refine br λK hK=>?_;simp(disch:=omega) ;apply hK;refine⟨(g+1,J3,U3,NI),⟨by show g+1<=3;omega,t1,by simp only[IJ];exact t2,t3,t4,t5,t6,t7⟩,by show 3-(g+1)<3-g;omega,?_⟩;refine ak [] [] ?_ ?_ ?_ ?_ t5 ?_
    all_goals simp
    all_goals omega
   clear bH
   by_cases hex:(5+g:Int)∈F.map (·.f)
   rotate_left
   ·have eI:ju (bT F) (.one (.int .i64 (5+g))) (.sl 0 [] .full) false=.sl 0 [] .full:=by
     unfold ju;rw[<-lO,qU (u6 hex)];rfl
    have YE:F.find? (λe=>e.f==(5+g:Int))=none:=by
     rw[aiJ];intro x hx;have:x.f≠5+g:=λee=>hex (ahz.2 ⟨x,hx,ee⟩);simpa using this
    refine aK λK hK=>?_;simp(disch:=omega)[wK,tD,y6,mY,e6,eI];apply hK;apply aK;intro K Z;simp(disch:=omega);apply Z;apply aB rfl;apply aj;simp(disch:=omega) ;refine fin _ J2 U2 cv ?_ ?_ k4 k5 k6 (by omega) (by omega) ?_
    ·unfold jK;rw[YE];exact k2
    ·rw[Pj hex];exact k3
    ·simp;omega
   ·obtain⟨e,NB,zV⟩:=ahz.1 hex;obtain⟨F1,F2,rfl⟩:=ajS NB;have je:=hF _ NB;obtain⟨m1,m2⟩:=Lf nU (by omega);have wg:=EY nU;rw[zV] at m1 m2 wg;have hfd:(F1++e::F2).find? (λx=>x.f==(5+g:Int))=some e:=by rw[oz nU,ahF zV.symm]
    have Kq:jK (F1++e::F2) (g+1)=jK (F1++e::F2) g++[sO e]:=by
     rw[jK,hfd]
    have eI:ju (bT (F1++e::F2)) (.one (.int .i64 (5+g))) (.sl 0 [] .full) false=.bQ e.i e.x.length e.cap:=by
     unfold ju;rw[<-lO,wg];rfl
    obtain⟨p1,p2,p3,p4,p5⟩:=je;have bl:decide ((0:Int)<(e.x.length:Int))=true:=ahx (by omega);have k3b:Has J2 ((b4,.cells [dv,tv,cv])::(b6,.map (bT (F1++e::F2)))::(jt (fR (5+g) F1)++(e.i,.cells (bG e.x++e.rest))::(jt (fR (5+g) F2)++R))):=by
     rw[m2] at k3;simpa[jt,Ef.pq] using k3
    have gi:=k3b.get (i:=e.i) (b:=.cells (bG e.x++e.rest)) (by simp);have li:=(aht.1 gi).1;have cs:=λU=>Lm e.x e.rest e.i e.cap (by omega) J2 U gi;have zX:=Has.set (A:=(b4,.cells [dv,tv,cv])::(b6,.map (bT (F1++e::F2)))::jt (fR (5+g) F1)) (B:=jt (fR (5+g) F2)++R) (b:=.cells (bG e.x++e.rest)) (by simpa using k3b) (.cells (bG (pT e.x)++e.rest));have NZ:Has (J2.set e.i (.cells (bG (pT e.x)++e.rest))) ((b4,.cells [dv,tv,cv])::(b6,.map (bT (F1++e::F2)))::(jt (fR (5+g+1) (F1++e::F2))++R)):=by
     rw[m1];simpa[jt,Ef.pq,sO] using zX
    have hP3:=k4.set p4 (.cells (bG (pT e.x)++e.rest));have hl3:(J2.set e.i (.cells (bG (pT e.x)++e.rest))).length=J2.length:=by simp
    generalize hFF:F1++e::F2=FF at *;refine aK λK hK=>?_;simp(disch:=omega)[wK,tD,y6,mY,e6,eI];apply hK;refine aK λK hK=>?_;simp(disch:=omega)[bl,p5];apply hK;apply aC rfl;refine aK λK hK=>?_;simp(disch:=omega) ;refine ai (cs _) ?_;simp(disch:=omega) ;apply hK;have YP:bM (J2.set e.i (.cells (bG (pT e.x)++e.rest))) U2:=by
     refine k6.set ?_;have:=k6 e.i (.cells (bG e.x++e.rest)) gi;simp only[aA.Bx] at this;intro v hv;rcases ahI.1 hv with hv|hv
     ·exact yl _ _ _ v hv
     ·exact this v (ajo _ hv)
    clear e4 e6 gi;generalize J2.set e.i (.cells (bG (pT e.x)++e.rest))=J3 at *;have e4:=aZ (NZ.get (i:=b4) (b:=.cells [dv,tv,cv]) (by simp));have l43:b4<J3.length:=by omega
    have yV:e.i<J3.length:=by omega
    have hBe:∀U':au,True:=λ_=>trivial;have l63:=NZ.lt (i:=b6) (b:=.map (bT FF)) (by simp);rcases k2 with⟨mZ,rfl⟩|⟨tc,rfl,htc,Zk⟩
    ·refine br λK hK=>?_;simp(disch:=omega)[e4];apply hK;have GD:=Has.set (A:=[]) (B:=(b6,.map (bT FF))::(jt (fR (5+g+1) FF)++R)) (b:=.cells [dv,tv,.sl 0 [] .full]) (by simpa using NZ) (.cells [dv,tv,.sl 1 [.int .i64 (5+g),.cV e.i 0 e.x.length] (.own U2.length)]);refine fin _ _ _ (.sl 1 [.int .i64 (5+g),.cV e.i 0 e.x.length] (.own U2.length)) ?_ GD (hP3.set GB _) (k5.app _) ?_ (by simp;omega) (by simp;omega) ?_
     ·refine .inr ⟨U2.length,?_,by rw[Kq,mZ];simp,by omega⟩;rw[Kq,mZ];simp[wo,sO,Ay,zV]
     ·refine(YP.fS (by simp)).set ?_;have h1:=Nv.more (n':=J3.length) (t':=(U2++[(2,2)]).length) (by omega) (by simp;omega);have h2:=CX.more (n':=J3.length) (t':=(U2++[(2,2)]).length) (by omega) (by simp;omega);simp[h1,h2,yV];exact⟨by simpa using h2,by simpa using h1⟩
     ·simp;omega
    ·have ltc:=(aht.1 htc).1;have eU:=aZ htc;have gg:=Fj (jK FF g);have ahn:(jK FF g).length<=3:=by
      have:∀k,(jK FF k).length<=k:=by
       intro k
       induction k with
       |zero=>exact ahv _
       |succ k ih=>
        unfold jK
        split
        ·simp;omega
        ·omega
      have:=this g;omega
     refine br λK hK=>?_;simp(disch:=omega)[e4,eU,gg];apply hK;have GD:=Has.set (A:=[]) (B:=(b6,.map (bT FF))::(jt (fR (5+g+1) FF)++R)) (b:=.cells [dv,tv,.sl (jK FF g).length (wo (jK FF g)) (.own tc)]) (by simpa using NZ) (.cells [dv,tv,.sl ((jK FF g).length+1) (wo (jK FF g)++[.int .i64 (5+g),.cV e.i 0 e.x.length]) (.own tc)]);refine fin _ _ _ (AV.sl ((jK FF g).length+1) (wo (jK FF g)++[AV.int .i64 (5+g),AV.cV e.i 0 e.x.length]) (.own tc)) ?_ GD (hP3.set GB _) (k5.set Zk _) ?_ (by simp;omega) (by simp;omega) ?_
     ·refine .inr ⟨tc,?_,?_,Zk⟩
      ·rw[Kq];simp[wo,sO,Ay,zV]
      ·rw[Kq,ahZ ltc];simp
       try omega
     ·refine(YP.fS (by simp)).set ?_;have h0:=YP b4 _ (NZ.get (i:=b4) (b:=.cells [dv,tv,.sl (jK FF g).length (wo (jK FF g)) (.own tc)]) (by simp));simp only[aA.Bx,ah4,List.not_mem_nil,or_false,forall_eq_or_imp,forall_eq] at h0;obtain⟨h1,h2,h3⟩:=h0;simp at h3;simp[h1,h2,h3.1,h3.2,yV]
     ·simp;omega
inductive sX:List Dc->List En->List Ef->Prop
 |nil:sX [] [] []
 |snoc {l:List Dc} {d:Dc} {E E':List En} {F F':List Ef} (h:sX l E F) (h1:oL d.id E (eW d.zs) E') (h2:sY F (Dq d.id d.ns) F'):sX (l++[d]) E' F'
def lG (l:List Dc):Nat:=(l.map λd=>(eW d.zs).length).sum
def nF (l:List Dc):Nat:=(l.map λd=>d.ns.length).sum
def KF (l:List Dc)(i:Nat)(h:i<l.length):lG (l.take i)+(eW (l.getD i d0).zs).length=lG (l.take (i+1)):=by
 rw[aX l i d0 h];simp[lG]
def LU (l:List Dc)(i:Nat)(h:i<l.length):nF (l.take i)+(l.getD i d0).ns.length=nF (l.take (i+1)):=by
 rw[aX l i d0 h];simp[nF]
def DV (a b:List Dc):lG (a++b)=lG a+lG b:=by simp[lG]
def SR (l:List Dc)(i:Nat):lG (l.take i)<=lG l:=by
 have:lG l=lG (l.take i)+lG (l.drop i):=by rw[<-DV,ah1]
 omega
def P3 (a b:List Dc):nF (a++b)=nF a+nF b:=by simp[nF]
def Ts (l:List Dc)(i:Nat):nF (l.take i)<=nF l:=by
 have:nF l=nF (l.take i)+nF (l.drop i):=by rw[<-P3,ah1]
 omega
attribute [-simp] List.getD_eq_getElem?_getD in
def MB (H:List aA)(T:au)(nb tb:Nat)(gL:nb<=H.length)(fZ:tb<=T.length)(L:List Dc)(b2 b4 b5 b6 td:Nat)(J:List aA)(U:au)
  (hB:DI H T b2 b4 b5 b6 td 0 0 J U [] [] []) (hL:L.length<=1000) (hW:lG L<=1099511627776) (hM:nF L<=1099511627776) (hz:∀d∈L,d.zs.length<=1099511627776) (hg:∀d∈L,Ox d)
  (j8:H.length<=b2) (GB:H.length<=b4) (JZ:H.length<=b5) (Gi:H.length<=b6) (Nw:T.length<=td) (Q:Exit->St->Prop)
  (bad:∀i,0<i->i<L.length->(L.getD (i-1) d0).id=(L.getD i d0).id->∀(e:Env)(J':List aA)(U':au),bO e 2=.ptr b2 0->bO e 3=.int .i64 10->J'[b2]?=some (.cells [.sl 0 [] .full,.sl 0 [] .full,.sl 0 [] .full])->gW H J'->gW T U'->Q .ret ⟨e,J',U'⟩)
  (go:(∀i,0<i->i<L.length->(L.getD (i-1) d0).id≠(L.getD i d0).id)->∀(e:Env)(J':List aA)(U':au)(E:List En)(F:List Ef),DI H T b2 b4 b5 b6 td (lG L) (nF L) J' U' (L.map (·.id)) E F->sX L E F->bA J'.length U'.length e [(0,.sl L.length (aM L) .none),(2,.ptr b2 0),(4,.ptr b4 0),(5,.aP b5),(6,.aP b6)]->Q .normal ⟨e,J',U'⟩) :
  AW ⟨prog,192,152,nb,tb,[100104,100147,100166]⟩ (dZ [1,1,1,1,1,1,1,1,0] (Tryz.f68.body.getD .skip)) Q ⟨[(0,.sl L.length (aM L) .none),(2,.ptr b2 0),(4,.ptr b4 0),(5,.aP b5),(6,.aP b6)],J,U⟩:=by
 conv=>arg 2;whnf
 have lH:=hB.pJ.le;have lT:=hB.pU.le;have lts:∀{N M:Nat} {J':List aA} {U':au} {ids:List Int} {E:List En} {F:List Ef},DI H T b2 b4 b5 b6 td N M J' U' ids E F->b2<J'.length/\b4<J'.length/\b5<J'.length/\b6<J'.length:=by
  intro N M J' U' ids E F h;exact⟨h.hJ.lt (i:=b2) (b:=.cells [.sl 0 [] .full,.sl 0 [] .full,.sl 0 [] .full]) (by simp),h.hJ.lt (i:=b4) (b:=.cells [.sl ids.length (ints ids) (.own td),.sl 0 [] .full,.sl 0 [] .full]) (by simp),h.hJ.lt (i:=b5) (b:=.map (cO E)) (by simp),h.hJ.lt (i:=b6) (b:=.map (bT F)) (by simp)⟩
 obtain⟨l2,l4,l5,l6⟩:=lts hB;apply aK;intro K Z;simp(disch:=omega);apply Z;apply ag;refine aG (X:=Nat×List aA×au×List En×List Ef) (λx=>⟨[(0,.sl L.length (aM L) .none),(2,.ptr b2 0),(4,.ptr b4 0),(5,.aP b5),(6,.aP b6),(34,.sl L.length (aM L) .none),(35,.int .i64 (L.length:Nat)),(36,.int .i64 (x.1:Nat))],x.2.1,x.2.2.1⟩)
  (λx=>x.1<=L.length/\DI H T b2 b4 b5 b6 td (lG (L.take x.1)) (nF (L.take x.1)) x.2.1 x.2.2.1 ((L.take x.1).map (·.id)) x.2.2.2.1 x.2.2.2.2/\sX (L.take x.1) x.2.2.2.1 x.2.2.2.2/\∀i,0<i->i<x.1->(L.getD (i-1) d0).id≠(L.getD i d0).id) (λx=>L.length-x.1) (0,J,U,[],[]) ?_ ?_ ?_
 ·exact⟨ahE _,hB,.nil,λi h1 h2=>by omega⟩
 ·refine ak [] [] ?_ ?_ ?_ ?_ hB.ok ?_
  all_goals simp
  all_goals omega
 ·rintro⟨i,J2,U2,E,F⟩ ⟨k1,k2,k3,k4⟩;simp only at k1 k2 k3 k4;have M9:=k2.pJ.le;have Q4:=k2.pU.le;obtain⟨l22,XB,l52,l62⟩:=lts k2;apply aK;intro K Z;simp(disch:=omega);apply Z;refine ae λK2 ba=>?_;refine aV rfl (λhk=>?_) (λhk=>?_)
  ·simp  at hk;have CO:=KF L i hk;have Uu:=LU L i hk;have qC:=SR L (i+1);have RK:=Ts L (i+1);have hdm:=aQ L i d0 hk;apply aj;simp(disch:=omega) ;apply ba;clear ba;refine ae λK3 bH=>?_;apply ag;refine aF ⟨[(0,.sl L.length (aM L) .none),(2,.ptr b2 0),(4,.ptr b4 0),(5,.aP b5),(6,.aP b6),(34,.sl L.length (aM L) .none),(35,.int .i64 (L.length:Nat)),(36,.int .i64 (i:Nat))],J2,U2⟩ (ak [] [] (by simp) (by simp) (by show nb<=J2.length;omega) (by show tb<=U2.length;omega) k2.ok (by simp;omega)) ?_;refine Qz (N:=lG (L.take i)) (M:=nF (L.take i)) H T nb tb gL fZ L i b2 b4 b5 b6 td _ E F J2 U2 k2 hk hL (by simp;omega) (by omega) (by omega) (hz _ hdm) (hg _ hdm) j8 GB JZ Gi Nw _ (λh1 h2 e J' g1 g2 g3 g4=>?_) λdM e J' U' E' F' a1 a2 a3 a4=>?_
   ·exact bad i h1 hk h2 e J' U2 g1 g2 g3 g4 k2.pU
   ·rw[CO,Uu] at a1;have lP:(L.take i).map (·.id)++[(L.getD i d0).id]=(L.take (i+1)).map (·.id):=by rw[aX L i d0 hk];simp
    rw[lP] at a1;have JT:=a1.pJ.le;have JS:=a1.pU.le;obtain⟨l23,l43,l53,l63⟩:=lts a1;refine bH _ (aF ⟨[(0,.sl L.length (aM L) .none),(2,.ptr b2 0),(4,.ptr b4 0),(5,.aP b5),(6,.aP b6),(34,.sl L.length (aM L) .none),(35,.int .i64 (L.length:Nat)),(36,.int .i64 (i:Nat))],J',U'⟩ (ak [] [] (by simp) (by simp) (by show nb<=J'.length;omega) (by show tb<=U'.length;omega) a1.ok a4) ?_);clear bH;refine br λK hK=>?_;simp(disch:=omega) ;apply hK;refine⟨(i+1,J',U',E',F'),⟨by show i+1<=_;omega,a1,?_,λj h1 h2=>?_⟩,by show L.length-(i+1)<L.length-i;omega,?_⟩
    ·show sX (L.take (i+1)) E' F';rw[aX L i d0 hk];exact k3.snoc a2 a3
    ·rcases ahD j i with h|h
     ·exact k4 j h1 h
     ·have:j=i:=by simp only at h2;omega
      subst this;exact dM h1
    ·refine ak [] [] ?_ ?_ ?_ ?_ a1.ok ?_
     all_goals simp
     all_goals omega
  ·simp  at hk;have Bt:i=L.length:=by omega
   subst Bt;rw[ahO] at k2 k3;apply aD;simp(disch:=omega) ;refine go k4 _ J2 U2 E F k2 k3 ?_;simp;omega
end Go.Proofs.YtoejlmpbebjemaaGreat
