/- segment.Build (layer 39): one document. segment.Build (layer 39): the terms out of the map, in any order. segment.Build (layer 39): the columns. segment.Build (layer 39): the documents, one after another.
  Conditions: lengths below 400 or 1000, as each theorem says. -/
import Derived.Test.YtoejlmpbebjemaaGreatGBA
set_option linter.all false
set_option maxRecDepth 100000
set_option maxHeartbeats 16000000
namespace eN
open Go Go.Am
theorem om.nd {id:Int}{E E':List En}{l:List (Ky×Int)}(h:om id E l E')(hn:(E.map (·.k)).Nodup):(E'.map (·.k)).Nodup:=by
 cases h with
 |nil=>exact hn
 |snoc _ h2=>exact h2.nd
end eN
namespace Go.Proofs.YtoejlmpbebjemaaGreat
open Go.Proofs.Tryz(prog)
open Go Go.Am ia eN
inductive sv:List Ef->List (Int×Nm)->List Ef->Prop
 |nil (E:List Ef):sv E [] E
 |snoc {E E1 E2:List Ef} {l:List (Int×Nm)} {k:Int} {p:Nm} (h:sv E l E1) (h2:sI E1 k p E2):sv E (l++[(k,p)]) E2
theorem sv.trans {E E1 E2:List Ef}{l m:List (Int×Nm)}(h:sv E l E1)(k:sv E1 m E2):sv E (l++m) E2:=by
 induction k with
 |nil=>simpa using h
 |snoc _ h2 ih=>rw[<-List.append_assoc];exact ih.snoc h2
theorem sv.nd {E E':List Ef}{l:List (Int×Nm)}(h:sv E l E')(hn:(E.map (·.f)).Nodup):(E'.map (·.f)).Nodup:=by
 cases h with
 |nil=>exact hn
 |snoc _ h2=>exact h2.nd
def CN (id:Int)(ns:List Nm):List (Int×Nm):=ns.map λx=>(x.1,(x.2,id))
def LV (id:Int)(ns:List Nm)(k:Nat)(h:k<ns.length):CN id (ns.take k)++[((ns.getD k n0).1,((ns.getD k n0).2,id))]=CN id (ns.take (k+1)):=by
 rw[aV ns k n0 h];simp[CN]
structure DI (H:List aA)(T:au)(b2 b4 b5 b6 td N M:Nat)(J:List aA)(U:au)(ids:List Int)(E:List En)(F:List Ef):Prop where
 hJ:Has J ((b2,.cells [.sl 0 [] .full,.sl 0 [] .full,.sl 0 [] .full])::(b4,.cells [.sl ids.length (ints ids) (.own td),.sl 0 [] .full,.sl 0 [] .full])::(b6,.map (bP F))::(iY F++(b5,.map (cG E))::dU E))
 hU:Has U ((td,(ids.length,1))::j5 E)
 hE:∀e∈E,Gj H.length T.length N e
 ndE:(E.map (·.k)).Nodup
 ftE:dn prog 193 (cG E)=true
 hF:∀e∈F,RJ H.length M e
 ndF:(F.map (·.f)).Nodup
 ftF:dn prog 3 (bP F)=true
 pJ:gG H J
 pU:gG T U
 ok:bN J U
structure NM (d:Dc):Prop where
 z:∀z∈d.zs,(-9223372036854775808<=z.f/\z.f<=9223372036854775807)/\∀w∈z.ws,w.1.length<=maxLen
 n:∀x∈d.ns,-9223372036854775808<=x.1/\x.1<=9223372036854775807
attribute [-simp] List.getD_eq_getElem?_getD in
def PV (H:List aA)(T:au)(nb tb N M:Nat)(gw:nb<=H.length)(fQ:tb<=T.length)(L:List Dc)(vi b2 b4 b5 b6 td:Nat)(ids:List Int)(E:List En)(F:List Ef)(J:List aA)(U:au)
  (hB:DI H T b2 b4 b5 b6 td N M J U ids E F) (hi:vi<L.length) (hL:L.length<=1000) (FG:ids.length<=1000) (hN:N+(eP (L.getD vi d0).zs).length<=1099511627776) (hM:M+(L.getD vi d0).ns.length<=1099511627776) (tH:(L.getD vi d0).zs.length<=1099511627776)
  (hg:NM (L.getD vi d0)) (kK:H.length<=b2) (FY:H.length<=b4) (Jr:H.length<=b5) (FH:H.length<=b6) (MO:T.length<=td) (Q:Exit->St->Prop)
  (bad:0<vi->(L.getD (vi-1) d0).id=(L.getD vi d0).id->∀(e:Env)(J':List aA),bH e 2=.ptr b2 0->bH e 3=.int .i64 10->J'[b2]?=some (.cells [.sl 0 [] .full,.sl 0 [] .full,.sl 0 [] .full])->gG H J'->Q .ret ⟨e,J',U⟩)
  (go:(0<vi->(L.getD (vi-1) d0).id≠(L.getD vi d0).id)->∀(e:Env)(J':List aA)(U':au)(E':List En)(F':List Ef),DI H T b2 b4 b5 b6 td (N+(eP (L.getD vi d0).zs).length) (M+(L.getD vi d0).ns.length) J' U' (ids++[(L.getD vi d0).id]) E' F'->
   om (L.getD vi d0).id E (eP (L.getD vi d0).zs) E'->sv F (CN (L.getD vi d0).id (L.getD vi d0).ns) F'->bC J'.length U'.length e [(0,.sl L.length (aN L) .none),(2,.ptr b2 0),(4,.ptr b4 0),(5,.aQ b5),(6,.aQ b6),(34,.sl L.length (aN L) .none),(35,.int .i64 (L.length:Nat)),(36,.int .i64 (vi:Nat))]->Q .normal ⟨e,J',U'⟩) :
  AW ⟨prog,192,152,nb,tb,[100104,100147,100166]⟩ (dX [1,1,1,1,1,1,1,1,0,1,0,0,1,1,0,0] (Tryz.f68.body.getD .skip)) Q ⟨[(0,.sl L.length (aN L) .none),(2,.ptr b2 0),(4,.ptr b4 0),(5,.aQ b5),(6,.aQ b6),(34,.sl L.length (aN L) .none),(35,.int .i64 (L.length:Nat)),(36,.int .i64 (vi:Nat))],J,U⟩:=by
 conv=>arg 2;whnf
 have lH:=hB.pJ.le;have lT:=hB.pU.le;have bu:=fC L vi hi;have FW:=λh=>iO L (vi-1) h;generalize hdd:L.getD vi d0=d at *;generalize hpp:L.getD (vi-1) d0=dp at *;obtain⟨id,zs,ns⟩:=d;simp only at bu hN hM tH bad go;obtain⟨q1,q2,q3,q4,q5,q6,q7,q8,q9,q10,q11⟩:=hB;obtain⟨TP,WZ⟩:=hg;simp only at TP WZ;have l2:=q1.lt (i:=b2) (b:=.cells [.sl 0 [] .full,.sl 0 [] .full,.sl 0 [] .full]) (by simp);have l4:=q1.lt (i:=b4) (b:=.cells [.sl ids.length (ints ids) (.own td),.sl 0 [] .full,.sl 0 [] .full]) (by simp);have l5:=q1.lt (i:=b5) (b:=.map (cG E)) (by simp);have l6:=q1.lt (i:=b6) (b:=.map (bP F)) (by simp);refine ae λK hK=>?_;simp(disch:=omega)[bu,bf];apply hK;have rn:bN (J++[.cells (dO ⟨id,zs,ns⟩)]) U:=q11.snoc (by simp);have q1:=(q1.new (.cells (dO ⟨id,zs,ns⟩))).perm (ahr _ _).symm;have q9:=q9.app [aA.cells (dO ⟨id,zs,ns⟩)];have Cv:(J++[aA.cells (dO ⟨id,zs,ns⟩)]).length=J.length+1:=by simp
 obtain⟨b8,h8⟩:∃i,i=J.length:=⟨_,rfl⟩
 rw[<-h8] at q1;simp only[<-h8];have hsh:aA.cells [.int .i64 id,.sl zs.length (fg zs) .none,.sl ns.length (bA ns) .none]=.cells (dO ⟨id,zs,ns⟩):=rfl;rw[hsh];generalize J++[aA.cells (dO ⟨id,zs,ns⟩)]=J1 at *;have g8:=q1.get (i:=b8) (b:=.cells (dO ⟨id,zs,ns⟩)) (by simp);have g4:=q1.get (i:=b4) (b:=.cells [.sl ids.length (ints ids) (.own td),.sl 0 [] .full,.sl 0 [] .full]) (by simp);have g2:=q1.get (i:=b2) (b:=.cells [.sl 0 [] .full,.sl 0 [] .full,.sl 0 [] .full]) (by simp);have e8:=aX g8;have e4:=aX g4;have l8:=(agC.1 g8).1;have gU:=q2.get (i:=td) (b:=(ids.length,1)) (by simp);have lU:=(agC.1 gU).1;have eU:=aX gU;refine aI ⟨[(7,.int .i64 (vi:Nat)),(0,.sl L.length (aN L) .none),(2,.ptr b2 0),(4,.ptr b4 0),(5,.aQ b5),(6,.aQ b6),(8,.ptr b8 0),(34,.sl L.length (aN L) .none),(35,.int .i64 (L.length:Nat)),(36,.int .i64 (vi:Nat))],J1,U⟩ (ag [] [] (by simp) (by simp) (by show nb<=_;omega) (by show tb<=_;omega) rn (by simp;omega)) ?_;have e2:=aX g2;have l2':b2<J1.length:=by omega
 have l4':b4<J1.length:=by omega
 refine af λK1 aP=>?_;have key:(0<vi->dp.id≠id)->∀e,bC J1.length U.length e [(0,.sl L.length (aN L) .none),(2,.ptr b2 0),(4,.ptr b4 0),(5,.aQ b5),(6,.aQ b6),(8,.ptr b8 0),(34,.sl L.length (aN L) .none),(35,.int .i64 (L.length:Nat)),(36,.int .i64 (vi:Nat))]->K1 ⟨e,J1,U⟩:=by
  intro dN e he;refine aP _ (aI ⟨[(0,.sl L.length (aN L) .none),(2,.ptr b2 0),(4,.ptr b4 0),(5,.aQ b5),(6,.aQ b6),(8,.ptr b8 0),(34,.sl L.length (aN L) .none),(35,.int .i64 (L.length:Nat)),(36,.int .i64 (vi:Nat))],J1,U⟩ (ag [] [] (by simp) (by simp) (by show nb<=_;omega) (by show tb<=_;omega) rn he) ?_);clear aP;refine ae λK hK=>?_;simp(disch:=omega)[e8,e4,eU];apply hK;refine dy λfj=>?_;simp only at fj;have iQ:=Has.set (A:=[(b8,.cells (dO ⟨id,zs,ns⟩)),(b2,.cells [.sl 0 [] .full,.sl 0 [] .full,.sl 0 [] .full])]) (B:=(b6,.map (bP F))::(iY F++(b5,.map (cG E))::dU E)) (b:=.cells [.sl ids.length (ints ids) (.own td),.sl 0 [] .full,.sl 0 [] .full]) (by simpa using q1) (.cells [.sl (ids.length+1) (ints ids++[.int .i64 id]) (.own td),.sl 0 [] .full,.sl 0 [] .full]);have Ck:=Has.set (A:=[]) (B:=j5 E) (b:=(ids.length,1)) (by simpa using q2) (ids.length+1,1);have se:=q9.set FY (.cells [.sl (ids.length+1) (ints ids++[.int .i64 id]) (.own td),.sl 0 [] .full,.sl 0 [] .full]);have YS:=q10.set MO (ids.length+1,1);have jy:(J1.set b4 (.cells [.sl (ids.length+1) (ints ids++[.int .i64 id]) (.own td),.sl 0 [] .full,.sl 0 [] .full])).length=J1.length:=by simp
  have hlU:(U.set td (ids.length+1,1)).length=U.length:=by simp
  rw[eE] at iQ fj se jy ⊢;have eH:ids.length+1=(ids++[id]).length:=by simp
  rw[eH] at iQ Ck fj se YS jy hlU ⊢;generalize J1.set b4 (.cells [.sl (ids++[id]).length (ints (ids++[id])) (.own td),.sl 0 [] .full,.sl 0 [] .full])=J2 at *;generalize U.set td ((ids++[id]).length,1)=U2 at *;generalize kU:ids++[id]=tN at *;have hBI:BI H T ((b8,.cells (dO ⟨id,zs,ns⟩))::(b2,.cells [.sl 0 [] .full,.sl 0 [] .full,.sl 0 [] .full])::(b4,.cells [.sl tN.length (ints tN) (.own td),.sl 0 [] .full,.sl 0 [] .full])::(b6,.map (bP F))::iY F) [(td,(tN.length,1))] b5 N J2 U2 E:=
   ⟨by simpa using iQ,by simpa using Ck,q3,q4,q5,se,YS,fj⟩
  have e8:=aX (iQ.get (i:=b8) (b:=.cells (dO ⟨id,zs,ns⟩)) (by simp));have l8:b8<J2.length:=by omega
  clear e4 eU g8 g4 g2 e2;refine af λK1 aP=>?_;refine ae λK hK=>?_;simp(disch:=omega)[e8];apply hK;apply aj;refine aJ (X:=Nat×List aA×au×List En) (λx=>⟨[(0,.sl L.length (aN L) .none),(2,.ptr b2 0),(4,.ptr b4 0),(5,.aQ b5),(6,.aQ b6),(8,.ptr b8 0),(34,.sl L.length (aN L) .none),(35,.int .i64 (L.length:Nat)),(36,.int .i64 (vi:Nat)),(63,.sl zs.length (fg zs) .none),(64,.int .i64 (zs.length:Nat)),(65,.int .i64 (x.1:Nat))],x.2.1,x.2.2.1⟩)
   (λx=>x.1<=zs.length/\BI H T ((b8,.cells (dO ⟨id,zs,ns⟩))::(b2,.cells [.sl 0 [] .full,.sl 0 [] .full,.sl 0 [] .full])::(b4,.cells [.sl tN.length (ints tN) (.own td),.sl 0 [] .full,.sl 0 [] .full])::(b6,.map (bP F))::iY F) [(td,(tN.length,1))] b5 (N+(eP (zs.take x.1)).length) x.2.1 x.2.2.1 x.2.2.2/\om id E (eP (zs.take x.1)) x.2.2.2/\J2.length<=x.2.1.length) (λx=>zs.length-x.1) (0,J2,U2,E) ?_ ?_ ?_
  ·exact⟨agP _,hBI,.nil E,agE _⟩
  ·refine ag [] [] ?_ ?_ ?_ ?_ fj ?_
   all_goals simp
   all_goals omega
  ·rintro⟨j,J3,U3,E3⟩ ⟨k1,k2,k3,k4⟩;simp only at k1 k2 k3 k4;have Jm:=k2.pJ.le;have Jl:=k2.pU.le;have l53:=k2.hJ.lt (i:=b5) (b:=.map (cG E3)) (by simp);apply ae;intro K Z;simp(disch:=omega);apply Z;refine af λK2 bp=>?_;refine aU rfl (λgB=>?_) (λgB=>?_)
   ·simp  at gB;have W0:=LS zs j gB;have mN:(eP (zs.take j)).length+(zs.getD j z0).ws.length=(eP (zs.take (j+1))).length:=by rw[<-W0];simp[oZ]
    have agr:(eP (zs.take (j+1))).length<=(eP zs).length:=by
     have:eP zs=eP (zs.take (j+1))++eP (zs.drop (j+1)):=by rw[eP,eP,eP,<-List.flatMap_append,ag7]
     rw[this];simp
    apply aq;simp(disch:=omega) ;apply bp;clear bp;refine af λK3 bG=>?_;apply aj;refine aI ⟨[(0,.sl L.length (aN L) .none),(2,.ptr b2 0),(4,.ptr b4 0),(5,.aQ b5),(6,.aQ b6),(8,.ptr b8 0),(34,.sl L.length (aN L) .none),(35,.int .i64 (L.length:Nat)),(36,.int .i64 (vi:Nat)),(63,.sl zs.length (fg zs) .none),(64,.int .i64 (zs.length:Nat)),(65,.int .i64 (j:Nat))],J3,U3⟩ (ag [] [] (by simp) (by simp) (by show nb<=_;omega) (by show tb<=_;omega) k2.ok (by simp;omega)) ?_;refine JS (N:=N+(eP (zs.take j)).length) H T nb tb gw fQ L zs vi j b2 b4 b5 b6 b8 id _ _ E3 J3 U3 _ _ k2 gB (by omega) (List.mem_cons_self ..) Jr (by omega) (by omega) (by omega) (TP _ (aT zs j z0 gB)).1 (TP _ (aT zs j z0 gB)).2 _ λe J' U' E' a1 a2 a3 a4=>?_;have lH4:=a1.pJ.le;have lT4:=a1.pU.le;rw[Nat.add_assoc,mN] at a1;refine bG _ (aI ⟨[(0,.sl L.length (aN L) .none),(2,.ptr b2 0),(4,.ptr b4 0),(5,.aQ b5),(6,.aQ b6),(8,.ptr b8 0),(34,.sl L.length (aN L) .none),(35,.int .i64 (L.length:Nat)),(36,.int .i64 (vi:Nat)),(63,.sl zs.length (fg zs) .none),(64,.int .i64 (zs.length:Nat)),(65,.int .i64 (j:Nat))],J',U'⟩ (ag [] [] (by simp) (by simp) (by show nb<=_;omega) (by show tb<=_;omega) a1.ok a4) ?_);clear bG;refine aC λK hK=>?_;simp(disch:=omega) ;apply hK;refine⟨(j+1,J',U',E'),⟨by show j+1<=_;omega,a1,?_,by show J2.length<=J'.length;omega⟩,by show zs.length-(j+1)<zs.length-j;omega,?_⟩
    ·show om id E (eP (zs.take (j+1))) E';rw[<-W0];exact k3.trans a2
    ·refine ag [] [] ?_ ?_ ?_ ?_ a1.ok ?_
     all_goals simp
     all_goals omega
   ·simp  at gB;have XP:j=zs.length:=by omega
    subst XP;rw[agZ] at k2 k3;apply aG;simp(disch:=omega) ;apply aP;clear aP;have l53:=k2.hJ.lt (i:=b5) (b:=.map (cG E3)) (by simp);have e8:=aX (k2.hJ.get (i:=b8) (b:=.cells (dO ⟨id,zs,ns⟩)) (by simp));have l8:b8<J3.length:=by omega
    have X9:BF H T ((b8,.cells (dO ⟨id,zs,ns⟩))::(b2,.cells [.sl 0 [] .full,.sl 0 [] .full,.sl 0 [] .full])::(b4,.cells [.sl tN.length (ints tN) (.own td),.sl 0 [] .full,.sl 0 [] .full])::(b5,.map (cG E3))::dU E3) b6 M J3 U3 F:=by
     refine⟨k2.hJ.perm ?_,q6,q7,q8,k2.pJ,k2.pU,k2.ok⟩;simp only[aiQ];refine(((List.Perm.cons _ (List.Perm.cons _ (List.Perm.cons _ ?_)))));have:=(List.perm_append_comm (l₁:=(b5,aA.map (cG E3))::dU E3) (l₂:=(b6,aA.map (bP F))::iY F))
     simpa using this
    refine ae λK hK=>?_;simp(disch:=omega)[e8];apply hK;apply aj;refine aJ (X:=Nat×List aA×List Ef) (λx=>⟨[(0,.sl L.length (aN L) .none),(2,.ptr b2 0),(4,.ptr b4 0),(5,.aQ b5),(6,.aQ b6),(8,.ptr b8 0),(34,.sl L.length (aN L) .none),(35,.int .i64 (L.length:Nat)),(36,.int .i64 (vi:Nat)),(128,.sl ns.length (bA ns) .none),(129,.int .i64 (ns.length:Nat)),(130,.int .i64 (x.1:Nat))],x.2.1,U3⟩)
     (λx=>x.1<=ns.length/\BF H T ((b8,.cells (dO ⟨id,zs,ns⟩))::(b2,.cells [.sl 0 [] .full,.sl 0 [] .full,.sl 0 [] .full])::(b4,.cells [.sl tN.length (ints tN) (.own td),.sl 0 [] .full,.sl 0 [] .full])::(b5,.map (cG E3))::dU E3) b6 (M+x.1) x.2.1 U3 x.2.2/\sv F (CN id (ns.take x.1)) x.2.2/\J3.length<=x.2.1.length) (λx=>ns.length-x.1) (0,J3,F) ?_ ?_ ?_
    ·exact⟨agP _,X9,.nil F,agE _⟩
    ·refine ag [] [] ?_ ?_ ?_ ?_ k2.ok ?_
     all_goals simp
     all_goals omega
    ·rintro⟨k,J4,F4⟩ ⟨m1,m2,m3,m4⟩;simp only at m1 m2 m3 m4;have lH4:=m2.pJ.le;apply ae;intro K Z;simp(disch:=omega);apply Z;refine af λK2 bp=>?_;refine aU rfl (λWW=>?_) (λWW=>?_)
     ·simp  at WW;apply aq;simp(disch:=omega) ;apply bp;clear bp;refine af λK3 bG=>?_;apply aj;refine aI ⟨[(0,.sl L.length (aN L) .none),(2,.ptr b2 0),(4,.ptr b4 0),(5,.aQ b5),(6,.aQ b6),(8,.ptr b8 0),(34,.sl L.length (aN L) .none),(35,.int .i64 (L.length:Nat)),(36,.int .i64 (vi:Nat)),(128,.sl ns.length (bA ns) .none),(129,.int .i64 (ns.length:Nat)),(130,.int .i64 (k:Nat))],J4,U3⟩ (ag [] [] (by simp) (by simp) (by show nb<=_;omega) (by show tb<=_;omega) m2.ok (by simp;omega)) ?_;refine Pm (N:=M+k) H T nb tb gw fQ L ns vi k b2 b4 b5 b6 b8 id _ _ F4 J4 U3 _ m2 (by omega) WW (by omega) (List.mem_cons_self ..) FH (by omega) (by omega) (by omega) (WZ _ (aT ns k n0 WW)) _ λe J' F' a1 a2 a3 a4=>?_;have lH5:=a1.pJ.le;refine bG _ (aI ⟨[(0,.sl L.length (aN L) .none),(2,.ptr b2 0),(4,.ptr b4 0),(5,.aQ b5),(6,.aQ b6),(8,.ptr b8 0),(34,.sl L.length (aN L) .none),(35,.int .i64 (L.length:Nat)),(36,.int .i64 (vi:Nat)),(128,.sl ns.length (bA ns) .none),(129,.int .i64 (ns.length:Nat)),(130,.int .i64 (k:Nat))],J',U3⟩ (ag [] [] (by simp) (by simp) (by show nb<=_;omega) (by show tb<=_;omega) a1.ok a4) ?_);clear bG;refine aC λK hK=>?_;simp(disch:=omega) ;apply hK;refine⟨(k+1,J',F'),⟨by show k+1<=_;omega,a1,?_,by show J3.length<=J'.length;omega⟩,by show ns.length-(k+1)<ns.length-k;omega,?_⟩
      ·show sv F (CN id (ns.take (k+1))) F';rw[<-LV id ns k WW];exact m3.snoc a2
      ·refine ag [] [] ?_ ?_ ?_ ?_ a1.ok ?_
       all_goals simp
       all_goals omega
     ·simp  at WW;have qa:k=ns.length:=by omega
      subst qa;rw[agZ] at m3;apply aG;simp(disch:=omega) ;refine go dN _ J4 U3 E3 F4 ⟨?_,by simpa using k2.hU,k2.hE,k2.nd,k2.ft,m2.hF,m2.nd,m2.ft,m2.pJ,m2.pU,m2.ok⟩ k3 m3 ?_
      ·have hs:=m2.hJ.sub (ahB _ _);refine hs.perm ?_;refine(List.Perm.cons _ (List.Perm.cons _ ?_));have:=(List.perm_append_comm (l₁:=(b6,aA.map (bP F4))::iY F4) (l₂:=(b5,aA.map (cG E3))::dU E3))
       simpa using this
      ·simp;omega
 clear aP;rcases ahc vi with h0|h0
 ·subst h0;refine aK [] [] [] aw (by kernel_rfl) (by kernel_rfl) λK hK=>?_;simp(disch:=omega) ;apply hK;apply aF rfl;apply aq;simp(disch:=omega) ;refine key (λh=>absurd h (by omega)) _ ?_;simp;omega
 ·have b0:decide ((0:Int)<(vi:Int))=true:=agH (by omega);have e6:((vi:Int)-1)=((vi-1:Nat):Int):=by omega
  have YM:=(FW (by omega)).1
  by_cases W1:dp.id=id
  ·have bd:(dp.id==id)=true:=by simpa using W1
   refine aK [] [] [] aw (by kernel_rfl) (by kernel_rfl) λK hK=>?_;simp(disch:=omega)[b0,h0,e6,YM,bf,e8,W1];apply hK;apply aH rfl;refine ae λK hK=>?_;simp(disch:=omega)[e2];apply hK;apply az;exact bad h0 W1 _ _ rfl rfl (ag4 l2') (q9.set kK _)
  ·have bd:(dp.id==id)=false:=by simpa using W1
   refine aK [] [] [] aw (by kernel_rfl) (by kernel_rfl) λK hK=>?_;simp(disch:=omega)[b0,h0,e6,YM,bf,e8,bd,W1];apply hK;apply aF rfl;apply aq;simp(disch:=omega) ;refine key (λ_=>W1) _ ?_;simp;omega
def QF:En:=⟨(0,[]),[],0,[],0,0,0,[]⟩
def fR (e:En):Ky×AV:=(e.k,.cN e.i 0 e.n)
structure Nq (nb:Nat)(rows:List (Ky×AV))(tv:AV)(TB:List (Nat×aA)):Prop where
 h:(rows=[]/\tv=.sl 0 [] .full/\TB=[])\/∃it cap rest,tv=.bJ it rows.length cap/\TB=[(it,.cells (eG rows++rest))]/\rest.length=(cap-rows.length)*3/\rows.length<=cap/\nb<=it/\0<rows.length
def qk (l:List (Ky×AV))(k:Ky)(v:AV):eG l++[.int .i64 k.1,.str k.2,v]=eG (l++[(k,v)]):=by simp[eG]
theorem Po:∀(n:Nat)(l:List Nat),l.Nodup->(∀j∈l,j<n)->l.length<=n:=by
 intro n
 induction n with
 |zero=>
  intro l _ h
  cases l with
  |nil=>exact agE _
  |cons a r=>exact absurd (h a (by simp)) (ag9 _)
 |succ n ih=>
  intro l hn h;have h1:=ih (l.erase n) (hn.erase n) λj hj=>by
   have:=(hn.mem_erase_iff).1 hj;have:=h j this.2;omega
  by_cases hm:n∈l
  ·rw[List.length_erase_of_mem hm] at h1;omega
  ·rw[List.erase_of_not_mem hm] at h1;omega
def Hf {n:Nat}{l:List Nat}(h1:l.Nodup)(h2:∀a∈l,a<n)(h3:∀a,a<n->a∈l):l.Perm (List.range n):=
 (List.perm_ext_iff_of_nodup h1 List.nodup_range).2 λa=>⟨λh=>ag3.2 (h2 a h),λh=>h3 a (ag3.1 h)⟩
attribute [-simp] List.getD_eq_getElem?_getD in
def GN (H:List aA)(T:au)(nb tb N M:Nat)(gw:nb<=H.length)(fQ:tb<=T.length)(b2 b4 b5 b6 td:Nat)(ids:List Int)(E:List En)(F:List Ef)(J:List aA)(U:au)
  (hB:DI H T b2 b4 b5 b6 td N M J U ids E F) (X5:E.length<=1099511627776) (FY:H.length<=b4) (Q:Exit->St->Prop)
  (go:∀(e:Env) (J':List aA) (rows:List (Ky×AV)) (tv:AV) (TB:List (Nat×aA)),rows.Perm (E.map fR)->Nq H.length rows tv TB->Has J' ((b4,.cells [.sl ids.length (ints ids) (.own td),tv,.sl 0 [] .full])::(TB++(b2,.cells [.sl 0 [] .full,.sl 0 [] .full,.sl 0 [] .full])::(b6,.map (bP F))::(b5,.map (cG E))::(iY F++dU E)))->gG H J'->bN J' U->bC J'.length U.length e [(2,.ptr b2 0),(4,.ptr b4 0),(5,.aQ b5),(6,.aQ b6)]->Q .normal ⟨e,J',U⟩) :
  AW ⟨prog,192,152,nb,tb,[100104,100147,100166]⟩ (dX [1,1,1,1,1,1,1,1,1,0] (Tryz.f68.body.getD .skip)) Q ⟨[(2,.ptr b2 0),(4,.ptr b4 0),(5,.aQ b5),(6,.aQ b6)],J,U⟩:=by
 conv=>arg 2;whnf
 have lH:=hB.pJ.le;have lT:=hB.pU.le;obtain⟨q1,q2,q3,q4,q5,q6,q7,q8,q9,q10,q11⟩:=hB;have e5:=aX (q1.get (i:=b5) (b:=.map (cG E)) (by simp));have l5:=q1.lt (i:=b5) (b:=.map (cG E)) (by simp);have Ch:(cG E).length=E.length:=by simp[cG]
 refine ae λK hK=>?_;simp(disch:=omega)[wa,e5,Ch];apply hK;have q1':=(q1.new (.mv b5 E.length [])).perm (ahr _ _).symm;have q9':=q9.app [aA.mv b5 E.length []];have rn:bN (J++[.mv b5 E.length []]) U:=q11.R9;obtain⟨bm,My⟩:∃i,i=J.length:=⟨_,rfl⟩
 rw[<-My] at q1';simp only[<-My];have aeF:H.length<=bm:=by omega
 clear e5 l5 q1 q9 q11 My;generalize J++[aA.mv b5 E.length []]=J1 at *;have lH1:=q9'.le;have q1:Has J1 ((bm,.mv b5 E.length ([]))::(b4,.cells [.sl ids.length (ints ids) (.own td),.sl 0 [] .full,.sl 0 [] .full])::([]++(b2,.cells [.sl 0 [] .full,.sl 0 [] .full,.sl 0 [] .full])::(b6,.map (bP F))::(b5,.map (cG E))::(iY F++dU E))):=by
  refine q1'.perm ?_;refine List.Perm.cons _ ?_;refine List.Perm.trans (List.Perm.swap _ _ _) (List.Perm.cons _ (List.Perm.cons _ ?_));refine List.Perm.cons _ ?_;exact aiX.symm
 have l2:=q1.lt (i:=b2) (b:=.cells [.sl 0 [] .full,.sl 0 [] .full,.sl 0 [] .full]) (by simp);have l4:=q1.lt (i:=b4) (b:=.cells [.sl ids.length (ints ids) (.own td),.sl 0 [] .full,.sl 0 [] .full]) (by simp);have l5:=q1.lt (i:=b5) (b:=.map (cG E)) (by simp);have l6:=q1.lt (i:=b6) (b:=.map (bP F)) (by simp);have lm:=q1.lt (i:=bm) (b:=.mv b5 E.length []) (by simp);apply aj;refine aJ (X:=List Nat×List aA×AV×List (Nat×aA)) (λx=>⟨[(2,.ptr b2 0),(4,.ptr b4 0),(5,.aQ b5),(6,.aQ b6),(151,.ptr bm 0)],x.2.1,U⟩)
  (λx=>x.1.Nodup/\(∀j∈x.1,j<E.length)/\Nq H.length (x.1.map λj=>fR (E.getD j QF)) x.2.2.1 x.2.2.2/\Has x.2.1 ((bm,.mv b5 E.length (x.1))::(b4,.cells [.sl ids.length (ints ids) (.own td),x.2.2.1,.sl 0 [] .full])::(x.2.2.2++(b2,.cells [.sl 0 [] .full,.sl 0 [] .full,.sl 0 [] .full])::(b6,.map (bP F))::(b5,.map (cG E))::(iY F++dU E)))/\gG H x.2.1/\bN x.2.1 U/\J1.length<=x.2.1.length) (λx=>E.length-x.1.length) ([],J1,.sl 0 [] .full,[]) ?_ ?_ ?_
 ·exact⟨List.nodup_nil,λj hj=>by simp at hj,⟨.inl ⟨rfl,rfl,rfl⟩⟩,q1,q9',rn,agE _⟩
 ·refine ag [] [] ?_ ?_ ?_ ?_ rn ?_
  all_goals simp
  all_goals omega
 ·rintro⟨seen,J2,tv,TB⟩ ⟨k1,k2,k3,k4,k5,k6,k7⟩;simp only at k1 k2 k3 k4 k5 k6 k7;have em:=aX (k4.get (i:=bm) (b:=.mv b5 E.length seen) (by simp));have e5:=aX (k4.get (i:=b5) (b:=.map (cG E)) (by simp));have lm2:bm<J2.length:=by omega
  have l52:b5<J2.length:=by omega
  have WL:b4<J2.length:=by omega
  have Mr:=k5.le;refine ae λK hK=>?_;simp(disch:=omega)[em,e5];unfold Iv;refine⟨Ch.symm,λfh=>?_,λj kk v hj WQ=>?_⟩
  ·simp(disch:=omega) ;apply hK;refine af λK2 bp=>?_;apply aF rfl;apply aG;simp(disch:=omega) ;refine go _ J2 _ tv TB ?_ k3 (k4.sub (ahB _ _)) k5 k6 ?_
   ·have hp:=(Hf k1 k2 fh).map λj=>fR (E.getD j QF);refine hp.trans (List.Perm.of_eq ?_);apply aiy
    ·simp
    ·intro i h1 h2;simp only[ahv,ai9];rw[agB,agD (by simpa using h2)];rfl
   ·simp;omega
  ·have hja:=aX hj;obtain⟨hjw,en,hen,rfl,rfl⟩:∃(hjw:j<E.length) (en:En),E.getD j QF=en/\kk=mS en.k/\v=.bJ en.i en.n en.cap:=by
    rw[cG,ahJ,air] at hj;obtain⟨en,h1,h2⟩:=hj;rw[Prod.mk.injEq] at h2;exact⟨(agC.1 h1).1,en,by rw[agB,h1];rfl,h2.1.symm,h2.2.symm⟩
   have hle:seen.length<E.length:=by
    have:=Po E.length (seen++[j]) (by rw[ahn];exact⟨k1,by simp,λa ha b hb=>by simp at hb;rw[hb];exact λe=>WQ (by rw[<-e];exact ha)⟩) (λa ha=>by
     rcases agR.1 ha with ha|ha
     ·exact k2 a ha
     ·simp at ha;rw[ha];exact hjw)
    simp at this;omega
   have k1':(seen++[j]).Nodup:=by
    rw[ahn];exact⟨k1,by simp,λa ha b hb=>by simp at hb;rw[hb];exact λe=>WQ (by rw[<-e];exact ha)⟩
   have Xx:∀a∈seen++[j],a<E.length:=λa ha=>by
    rcases agR.1 ha with ha|ha
    ·exact k2 a ha
    ·simp at ha;rw[ha];exact hjw
   have tL:en.i<J2.length:=by
    have:en∈E:=by rw[<-hen];exact aT E j QF hjw
    exact k4.lt (i:=en.i) (b:=en.oW) (by
     have:(en.i,en.oW)∈dU E:=agG.2 ⟨en,this,rfl⟩;simp[this])
   have zk:=Has.set (A:=[]) (B:=(b4,.cells [.sl ids.length (ints ids) (.own td),tv,.sl 0 [] .full])::(TB++(b2,.cells [.sl 0 [] .full,.sl 0 [] .full,.sl 0 [] .full])::(b6,.map (bP F))::(b5,.map (cG E))::(iY F++dU E))) (b:=.mv b5 E.length seen) k4 (.mv b5 E.length (seen++[j]));have hP3:=k5.set aeF (.mv b5 E.length (seen++[j]));have X2:bN (J2.set bm (.mv b5 E.length (seen++[j]))) U:=k6.V3;have hl3:(J2.set bm (.mv b5 E.length (seen++[j]))).length=J2.length:=by simp
   generalize J2.set bm (.mv b5 E.length (seen++[j]))=J3 at *;have em:=aX (zk.get (i:=bm) (b:=.mv b5 E.length (seen++[j])) (by simp));have e5:=aX (zk.get (i:=b5) (b:=.map (cG E)) (by simp));have lm3:bm<J3.length:=by omega
   have l53:b5<J3.length:=by omega
   have l43:b4<J3.length:=by omega
   clear lm2 l52 WL k4;simp(disch:=omega)[mS];apply hK;refine af λK2 bp=>?_;apply aH rfl;apply aq;simp(disch:=omega) ;apply bp;clear bp;apply aj;have qJ:j<(cG E).length:=by omega
   refine ae λK hK=>?_;simp(disch:=omega)[em,e5,hja,Ch,List.getLast?_append,mS];apply hK;have XJ:bN (J3++[.cells [.int .i64 en.k.1,.str en.k.2]]) U:=X2.snoc (by simp);have F0:=(zk.new (.cells [.int .i64 en.k.1,.str en.k.2])).perm (ahr _ _).symm;have hP4:=hP3.app [aA.cells [.int .i64 en.k.1,.str en.k.2]];have WT:(J3++[aA.cells [.int .i64 en.k.1,.str en.k.2]]).length=J3.length+1:=by simp
   obtain⟨yq,TV⟩:∃i,i=J3.length:=⟨_,rfl⟩
   rw[<-TV] at F0;simp only[<-TV];have aet:en.i<(J3++[aA.cells [.int .i64 en.k.1,.str en.k.2]]).length:=by omega
   clear em e5 zk;generalize J3++[aA.cells [.int .i64 en.k.1,.str en.k.2]]=J4 at *;have U9:=aX (F0.get (i:=yq) (b:=.cells [.int .i64 en.k.1,.str en.k.2]) (by simp));have e4:=aX (F0.get (i:=b4) (b:=.cells [.sl ids.length (ints ids) (.own td),tv,.sl 0 [] .full]) (by simp));have l17:yq<J4.length:=by omega
   have l4:b4<J4.length:=by omega
   have l6':=F0.lt (i:=b6) (b:=.map (bP F)) (by simp);have l2':=F0.lt (i:=b2) (b:=.cells [.sl 0 [] .full,.sl 0 [] .full,.sl 0 [] .full]) (by simp);have l5':=F0.lt (i:=b5) (b:=.map (cG E)) (by simp);have lm':=F0.lt (i:=bm) (b:=.mv b5 E.length (seen++[j])) (by simp);have lH4:=hP4.le;have agi:td<U.length:=q2.lt (b:=(ids.length,1)) (by simp);have tO:(seen++[j]).map (λj=>fR (E.getD j QF))=seen.map (λj=>fR (E.getD j QF))++[(en.k,.cN en.i 0 en.n)]:=by
    rw[agS,List.map_singleton,hen];rfl
   have y9:(seen.map λj=>fR (E.getD j QF)).length=seen.length:=by simp
   generalize af1:seen.map (λj=>fR (E.getD j QF))=rows at *;have fin:∀(e:Env) (J5:List aA) (yY:AV) (Yl:List (Nat×aA)),Nq H.length (rows++[(en.k,.cN en.i 0 en.n)]) yY Yl->Has J5 ((yq,.cells [.int .i64 en.k.1,.str en.k.2])::(bm,.mv b5 E.length (seen++[j]))::(b4,.cells [.sl ids.length (ints ids) (.own td),yY,.sl 0 [] .full])::(Yl++(b2,.cells [.sl 0 [] .full,.sl 0 [] .full,.sl 0 [] .full])::(b6,.map (bP F))::(b5,.map (cG E))::(iY F++dU E)))->gG H J5->bN J5 U->J4.length<=J5.length->
     bC J5.length U.length e [(2,.ptr b2 0),(4,.ptr b4 0),(5,.aQ b5),(6,.aQ b6),(151,.ptr bm 0)]->∃x':List Nat×List aA×AV×List (Nat×aA),(x'.1.Nodup/\(∀j∈x'.1,j<E.length)/\Nq H.length (x'.1.map λj=>fR (E.getD j QF)) x'.2.2.1 x'.2.2.2/\Has x'.2.1 ((bm,.mv b5 E.length (x'.1))::(b4,.cells [.sl ids.length (ints ids) (.own td),x'.2.2.1,.sl 0 [] .full])::(x'.2.2.2++(b2,.cells [.sl 0 [] .full,.sl 0 [] .full,.sl 0 [] .full])::(b6,.map (bP F))::(b5,.map (cG E))::(iY F++dU E)))/\gG H x'.2.1/\bN x'.2.1 U/\J1.length<=x'.2.1.length)/\E.length-x'.1.length<E.length-seen.length/\
      tX ⟨prog,192,152,nb,tb,[100104,100147,100166]⟩ ⟨e,J5,U⟩ ⟨[(2,.ptr b2 0),(4,.ptr b4 0),(5,.aQ b5),(6,.aQ b6),(151,.ptr bm 0)],x'.2.1,U⟩:=by
    intro e J5 yY Yl t1 t2 t3 t4 t5 t6;refine⟨(seen++[j],J5,yY,Yl),⟨k1',Xx,?_,t2.sub (ahB _ _),t3,t4,by show J1.length<=J5.length;omega⟩,?_,?_⟩
    ·show Nq H.length ((seen++[j]).map λj=>fR (E.getD j QF)) yY Yl;rw[tO];exact t1
    ·show E.length-(seen++[j]).length<_;rw[agF,ahw];omega
    ·exact ag [] [] (by simp) (by simp) (by show nb<=J5.length;have:=t3.le;omega) (by show tb<=_;omega) t4 t6
   rcases k3.h with⟨za,rfl,rfl⟩|⟨it,cap,rest,rfl,rfl,g1,g2,g3,g4⟩
   ·refine aC λK hK=>?_;simp(disch:=omega)[U9,e4,agK];intro nc ll;apply hK;rw[<-List.set_append_left _ _ l4];have hRB:aM (J4.length+1) U.length (.int .i64 en.k.1::.str en.k.2::.cN en.i 0 en.n::List.replicate ((nc-1)*3) .top):=by
     simp;omega
    have Q5:=(F0.new (.cells (.int .i64 en.k.1::.str en.k.2::.cN en.i 0 en.n::List.replicate ((nc-1)*3) .top)))
    have X1:bN (J4++[.cells (.int .i64 en.k.1::.str en.k.2::.cN en.i 0 en.n::List.replicate ((nc-1)*3) .top)]) U:=XJ.snoc hRB;have X0:=hP4.app [aA.cells (.int .i64 en.k.1::.str en.k.2::.cN en.i 0 en.n::List.replicate ((nc-1)*3) .top)];have hl5:(J4++[aA.cells (.int .i64 en.k.1::.str en.k.2::.cN en.i 0 en.n::List.replicate ((nc-1)*3) .top)]).length=J4.length+1:=by simp
    obtain⟨it,zg⟩:∃i,i=J4.length:=⟨_,rfl⟩
    rw[<-zg] at Q5;simp only[<-zg];generalize J4++[aA.cells (.int .i64 en.k.1::.str en.k.2::.cN en.i 0 en.n::List.replicate ((nc-1)*3) .top)]=J5 at *;have X3:=Has.set (A:=[(yq,.cells [.int .i64 en.k.1,.str en.k.2]),(bm,.mv b5 E.length (seen++[j]))]) (B:=((b2,.cells [.sl 0 [] .full,.sl 0 [] .full,.sl 0 [] .full])::(b6,.map (bP F))::(b5,.map (cG E))::(iY F++dU E))++[(it,.cells (.int .i64 en.k.1::.str en.k.2::.cN en.i 0 en.n::List.replicate ((nc-1)*3) .top))]) (b:=.cells [.sl ids.length (ints ids) (.own td),.sl 0 [] .full,.sl 0 [] .full]) (by simpa using Q5) (.cells [.sl ids.length (ints ids) (.own td),.bJ it 1 nc,.sl 0 [] .full]);refine fin _ _ (.bJ it 1 nc) [(it,.cells (.int .i64 en.k.1::.str en.k.2::.cN en.i 0 en.n::List.replicate ((nc-1)*3) .top))] ⟨.inr ⟨it,nc,List.replicate ((nc-1)*3) .top,by rw[za];rfl,by rw[za];rfl,by rw[za];simp,by rw[za];simpa using ll,by omega,by simp⟩⟩ ?_ (X0.set FY _) (X1.set (by simp;omega)) (by simp;omega) ?_
    ·refine X3.perm ?_;refine List.Perm.cons _ (List.Perm.cons _ (List.Perm.cons _ ?_));exact(ahr _ _).symm
    ·simp;omega
   ·have gi:=F0.get (i:=it) (b:=.cells (eG rows++rest)) (by simp);have lit:=(agC.1 gi).1;have vF:(eG rows++rest).length=rows.length*3+rest.length:=by rw[agF,sU]
    have iz:(eG rows++rest).take (rows.length*3)=eG rows:=ahD (by rw[sU]);have qc:(eG rows++rest).drop ((rows.length+1)*3)=rest.drop 3:=by
     rw[List.drop_append,aiW (by rw[sU];omega),aic,sU]
     congr 1;omega
    have yH:(rows++[(en.k,AV.cN en.i 0 en.n)]).length=rows.length+1:=by simp
    refine aC λK hK=>?_;simp(disch:=omega)[U9,e4];refine⟨171,_,[.int .i64 en.k.1,.str en.k.2,.cN en.i 0 en.n],1,by kernel_rfl,gi,by rw[vF,xL];omega,by simp,by simp;omega,by omega,by kernel_rfl,by simp,λhle=>?_,λnc aZ ll=>?_⟩
    ·simp only[xL,iz,qc];rw[show aA.cells (eG rows++[.int .i64 en.k.1,.str en.k.2,.cN en.i 0 en.n]++rest.drop 3)=.cells (eG (rows++[(en.k,.cN en.i 0 en.n)])++rest.drop 3) by rw[qk]];have Q5:=Has.set (A:=[(yq,.cells [.int .i64 en.k.1,.str en.k.2]),(bm,.mv b5 E.length (seen++[j])),(b4,.cells [.sl ids.length (ints ids) (.own td),.bJ it rows.length cap,.sl 0 [] .full])]) (B:=(b2,.cells [.sl 0 [] .full,.sl 0 [] .full,.sl 0 [] .full])::(b6,.map (bP F))::(b5,.map (cG E))::(iY F++dU E)) (b:=.cells (eG rows++rest)) (by simpa using F0) (.cells (eG (rows++[(en.k,.cN en.i 0 en.n)])++rest.drop 3));have X0:=hP4.set g3 (.cells (eG (rows++[(en.k,.cN en.i 0 en.n)])++rest.drop 3));have X1:bN (J4.set it (.cells (eG (rows++[(en.k,.cN en.i 0 en.n)])++rest.drop 3))) U:=by
      refine XJ.set ?_;have:=XJ it (.cells (eG rows++rest)) gi;simp only[aA.AY] at this;intro v hv;rcases agR.1 hv with hv|hv
      ·rw[<-qk] at hv;rcases agR.1 hv with hv|hv
       ·exact this v (ag1 _ hv)
       ·simp at hv;rcases hv with rfl|rfl|rfl
        ·exact .int _ _
        ·exact .str _
        ·exact .cN _ _ _ aet
      ·exact this v (aiN _ (List.mem_of_mem_drop hv))
     have hl5:(J4.set it (.cells (eG (rows++[(en.k,.cN en.i 0 en.n)])++rest.drop 3))).length=J4.length:=by simp
     generalize J4.set it (.cells (eG (rows++[(en.k,.cN en.i 0 en.n)])++rest.drop 3))=J5 at *;have e4:=aX (Q5.get (i:=b4) (b:=.cells [.sl ids.length (ints ids) (.own td),.bJ it rows.length cap,.sl 0 [] .full]) (by simp));have l4:b4<J5.length:=by omega
     simp(disch:=omega)[e4];apply hK;have X3:=Has.set (A:=[(yq,.cells [.int .i64 en.k.1,.str en.k.2]),(bm,.mv b5 E.length (seen++[j]))]) (B:=(it,.cells (eG (rows++[(en.k,.cN en.i 0 en.n)])++rest.drop 3))::(b2,.cells [.sl 0 [] .full,.sl 0 [] .full,.sl 0 [] .full])::(b6,.map (bP F))::(b5,.map (cG E))::(iY F++dU E)) (b:=.cells [.sl ids.length (ints ids) (.own td),.bJ it rows.length cap,.sl 0 [] .full]) (by simpa using Q5) (.cells [.sl ids.length (ints ids) (.own td),.bJ it (rows.length+1) cap,.sl 0 [] .full]);refine fin _ _ (.bJ it (rows.length+1) cap) [(it,.cells (eG (rows++[(en.k,.cN en.i 0 en.n)])++rest.drop 3))] ⟨.inr ⟨it,cap,rest.drop 3,by rw[yH],rfl,by rw[yH,ahp];omega,by rw[yH];exact hle,g3,by rw[yH];omega⟩⟩ (by simpa using X3) (X0.set FY _) (X1.set (by simp;omega)) (by simp;omega) ?_;simp;omega
    ·simp only[xL,iz];obtain⟨r2,oO⟩:∃r2,r2=List.replicate ((nc-(rows.length+1))*3) AV.top:=⟨_,rfl⟩
     have M9:r2.length=(nc-(rows.length+1))*3:=by rw[oO];simp
     have Vt:aM (J4.length+1) U.length r2:=by rw[oO];simp
     rw[<-oO];rw[show aA.cells (eG rows++[.int .i64 en.k.1,.str en.k.2,.cN en.i 0 en.n]++r2)=.cells (eG (rows++[(en.k,.cN en.i 0 en.n)])++r2) by rw[qk]];have Q5:=(F0.sub (S':=(yq,.cells [.int .i64 en.k.1,.str en.k.2])::(bm,.mv b5 E.length (seen++[j]))::(b4,.cells [.sl ids.length (ints ids) (.own td),.bJ it rows.length cap,.sl 0 [] .full])::(b2,.cells [.sl 0 [] .full,.sl 0 [] .full,.sl 0 [] .full])::(b6,.map (bP F))::(b5,.map (cG E))::(iY F++dU E)) (.cons_cons _ (.cons_cons _ (.cons_cons _ (ahB _ _))))).new (.cells (eG (rows++[(en.k,.cN en.i 0 en.n)])++r2));have X0:=hP4.app [aA.cells (eG (rows++[(en.k,.cN en.i 0 en.n)])++r2)];have X1:bN (J4++[.cells (eG (rows++[(en.k,.cN en.i 0 en.n)])++r2)]) U:=by
      refine XJ.snoc ?_;have:=XJ it (.cells (eG rows++rest)) gi;simp only[aA.AY] at this;intro v hv;rcases agR.1 hv with hv|hv
      ·rw[<-qk] at hv;rcases agR.1 hv with hv|hv
       ·exact(this v (ag1 _ hv)).more (ahy _) (agE _)
       ·simp at hv;rcases hv with rfl|rfl|rfl
        ·exact .int _ _
        ·exact .str _
        ·exact .cN _ _ _ (by omega)
      ·exact Vt v hv
     have hl5:(J4++[aA.cells (eG (rows++[(en.k,.cN en.i 0 en.n)])++r2)]).length=J4.length+1:=by simp
     obtain⟨i2,zh⟩:∃i,i=J4.length:=⟨_,rfl⟩
     rw[<-zh] at Q5;simp only[<-zh];generalize J4++[aA.cells (eG (rows++[(en.k,.cN en.i 0 en.n)])++r2)]=J5 at *;have e4:=aX (Q5.get (i:=b4) (b:=.cells [.sl ids.length (ints ids) (.own td),.bJ it rows.length cap,.sl 0 [] .full]) (by simp));have l4:b4<J5.length:=by omega
     simp(disch:=omega)[e4];apply hK;have X3:=Has.set (A:=[(yq,.cells [.int .i64 en.k.1,.str en.k.2]),(bm,.mv b5 E.length (seen++[j]))]) (B:=((b2,.cells [.sl 0 [] .full,.sl 0 [] .full,.sl 0 [] .full])::(b6,.map (bP F))::(b5,.map (cG E))::(iY F++dU E))++[(i2,.cells (eG (rows++[(en.k,.cN en.i 0 en.n)])++r2))]) (b:=.cells [.sl ids.length (ints ids) (.own td),.bJ it rows.length cap,.sl 0 [] .full]) (by simpa using Q5) (.cells [.sl ids.length (ints ids) (.own td),.bJ i2 (rows.length+1) nc,.sl 0 [] .full]);refine fin _ _ (.bJ i2 (rows.length+1) nc) [(i2,.cells (eG (rows++[(en.k,.cN en.i 0 en.n)])++r2))] ⟨.inr ⟨i2,nc,r2,by rw[yH],rfl,by rw[yH];exact M9,by rw[yH];exact ll,by omega,by rw[yH];omega⟩⟩ ?_ (X0.set FY _) (X1.set (by simp;omega)) (by simp;omega) ?_
     ·refine X3.perm ?_;refine List.Perm.cons _ (List.Perm.cons _ (List.Perm.cons _ ?_));exact(ahr _ _).symm
     ·simp;omega
abbrev ccC (e:Ef):List AV:=[.int .i64 e.f,.cN e.i 0 e.x.length]
def vR (l:List Ef):List AV:=l.flatMap λe=>[.int .i64 e.f,.cN e.i 0 e.x.length]
def I9:ep ccC 2:=λ_=>rfl
def Ez (l:List Ef):(vR l).length=l.length*2:=bY I9 l
def sg (e:Ef):Ef:={ e with x:=pt e.x }
def zR (l:List Nm):(pt l).length=l.length:=aiL _
def fJ (m:Int)(F:List Ef):List Ef:=F.map λe=>if 5<=e.f/\e.f<m then sg e else e
def GQ (F:List Ef):fJ 5 F=F:=by
 simp only[fJ]
 conv=>rhs;rw[<-List.map_id F]
 refine ahh λe _=>?_;rw[agL (by omega)];rfl
def Ku {F1 F2:List Ef}{e:Ef}(h:((F1++e::F2).map (·.f)).Nodup)(h5:5<=e.f):fJ (e.f+1) (F1++e::F2)=fJ e.f F1++sg e::fJ e.f F2/\fJ e.f (F1++e::F2)=fJ e.f F1++e::fJ e.f F2:=by
 have h1:∀x,x∈F1\/x∈F2->x.f≠e.f:=by
  rw[agS,ahi,ahn,aiU] at h;rintro x (hx|hx)
  ·exact h.2.2 x.f (agG.2 ⟨x,hx,rfl⟩) e.f (by simp)
  ·exact λee=>h.2.1.1 (ee▸agG.2 ⟨x,hx,rfl⟩)
 have h2:∀l:List Ef,(∀x∈l,x.f≠e.f)->fJ (e.f+1) l=fJ e.f l:=λl hl=>by
  refine ahh λx hx=>?_;have:=hl x hx
  by_cases hh:5<=x.f/\x.f<e.f
  ·rw[agN hh,agN (by omega)]
  ·rw[agL hh,agL (by omega)]
 constructor
 ·rw[<-h2 F1 (λx hx=>h1 x (.inl hx)),<-h2 F2 (λx hx=>h1 x (.inr hx))];simp only[fJ,agS,ahi];rw[agN (by omega:5<=e.f/\e.f<e.f+1)]
 ·simp only[fJ,agS,ahi];rw[agL (by omega:¬(5<=e.f/\e.f<e.f))]
def OG {F:List Ef}{m:Int}(h:m∉F.map (·.f)):fJ (m+1) F=fJ m F:=by
 refine ahh λx hx=>?_;have:x.f≠m:=λee=>h (ee▸agG.2 ⟨x,hx,rfl⟩)
 by_cases hh:5<=x.f/\x.f<m
 ·rw[agN hh,agN (by omega)]
 ·rw[agL hh,agL (by omega)]
def jo (F:List Ef):Nat->List Ef
 |0=>[]
 |g+1=>match F.find? (λe=>e.f==(5+g:Int)) with
  |some e=>jo F g++[sg e]
  |none=>jo F g
def CV (T U:au)(aO:List Ef)(cv:AV):Prop:=(aO=[]/\cv=.sl 0 [] .full)\/∃tc,cv=.sl aO.length (vR aO) (.own tc)/\U[tc]?=some (aO.length*2,2)/\T.length<=tc
attribute [-simp] List.getD_eq_getElem?_getD in
theorem L5 (H:List aA)(T:au)(nb tb N:Nat)(gw:nb<=H.length)(fQ:tb<=T.length)(b2 b4 b6:Nat)(dv tv:AV)(F:List Ef)(J:List aA)(U:au)(R:List (Nat×aA))
  (hJ:Has J ((b4,.cells [dv,tv,.sl 0 [] .full])::(b6,.map (bP F))::(iY F++R))) (hF:∀e∈F,RJ H.length N e) (hN:N<=1099511627776) (mM:(F.map (·.f)).Nodup) (np:dn prog 3 (bP F)=true) (hP:gG H J) (FI:gG T U) (hO:bN J U) (FY:H.length<=b4) (jy:b2<J.length)
  (MN:Below J.length U.length tv) (TU:Below J.length U.length dv) (Q:Exit->St->Prop)
  (go:∀(e:Env)(J':List aA)(U':au)(cv:AV),CV T U' (jo F 3) cv->Has J' ((b4,.cells [dv,tv,cv])::(b6,.map (bP F))::(iY (fJ 8 F)++R))->gG H J'->gG T U'->bN J' U'->J.length<=J'.length->bC J'.length U'.length e [(2,.ptr b2 0),(4,.ptr b4 0),(6,.aQ b6)]->Q .normal ⟨e,J',U'⟩) :
  AW ⟨prog,192,152,nb,tb,[100104,100147,100166]⟩ (dX [1,1,1,1,1,1,1,1,1,1,1,0] (Tryz.f68.body.getD .skip)) Q ⟨[(2,.ptr b2 0),(4,.ptr b4 0),(6,.aQ b6)],J,U⟩:=by
 conv=>arg 2;whnf
 have lH:=hP.le;have lT:=FI.le;have l4:=hJ.lt (i:=b4) (b:=.cells [dv,tv,.sl 0 [] .full]) (by simp);have l6:=hJ.lt (i:=b6) (b:=.map (bP F)) (by simp);apply ae;intro K Z;simp(disch:=omega);apply Z;apply aj;refine aJ (X:=Nat×List aA×au×AV) (λx=>⟨[(2,.ptr b2 0),(4,.ptr b4 0),(6,.aQ b6),(19,.int .i64 (5+x.1:Int))],x.2.1,x.2.2.1⟩)
  (λx=>x.1<=3/\CV T x.2.2.1 (jo F x.1) x.2.2.2/\Has x.2.1 ((b4,.cells [dv,tv,x.2.2.2])::(b6,.map (bP F))::(iY (fJ (5+x.1:Int) F)++R))/\gG H x.2.1/\gG T x.2.2.1/\bN x.2.1 x.2.2.1/\J.length<=x.2.1.length/\U.length<=x.2.2.1.length) (λx=>3-x.1) (0,J,U,.sl 0 [] .full) ?_ ?_ ?_
 ·refine⟨by omega,.inl ⟨rfl,rfl⟩,?_,hP,FI,hO,agE _,agE _⟩;have:=GQ F;simp only[Int.add_zero,Int.natCast_zero];show Has J ((b4,.cells [dv,tv,.sl 0 [] .full])::(b6,.map (bP F))::(iY (fJ 5 F)++R));rw[this];exact hJ
 ·refine ag [] [] ?_ ?_ ?_ ?_ hO ?_
  all_goals simp
  all_goals omega
 ·rintro⟨g,J2,U2,cv⟩ ⟨k1,k2,k3,k4,k5,k6,k7,k8⟩;simp only at k1 k2 k3 k4 k5 k6 k7 k8;have Mr:=k4.le;have Qm:=k5.le;have l62:=k3.lt (i:=b6) (b:=.map (bP F)) (by simp);have WL:b4<J2.length:=by omega
  have e6:=aX (k3.get (i:=b6) (b:=.map (bP F)) (by simp));have e4:=aX (k3.get (i:=b4) (b:=.cells [dv,tv,cv]) (by simp));refine af λK2 bp=>?_
  by_cases hg:g<3
  rotate_left
  ·have bg:decide ((5:Int)+g<=7)=false:=agI (by omega);have ng:¬(5:Int)+g<=7:=by omega
   refine ae λK hK=>?_;simp(disch:=omega)[bg,ng];apply hK;apply aF rfl;apply aG;simp(disch:=omega) ;have hg3:g=3:=by omega
   subst hg3;refine go _ J2 U2 cv k2 k3 k4 k5 k6 (by omega) ?_;simp;omega
  ·have bg:decide ((5:Int)+g<=7)=true:=agH (by omega);have ng:(5:Int)+g<=7:=by omega
   have Ia:(5+((g+1:Nat):Int))=5+(g:Int)+1:=by omega
   have yz:=JL (5+g) (by omega);have kT:kP (5+g)=.one (.int .i64 (5+g)):=rfl;rw[kT] at yz;refine ae λK hK=>?_;simp(disch:=omega)[bg,ng];apply hK;apply aH rfl;apply aq;simp(disch:=omega) ;apply bp;clear bp;refine af λK3 bG=>?_;apply aj;have fin:∀(e:Env)(J3:List aA)(U3:au)(MY:AV),CV T U3 (jo F (g+1)) MY->Has J3 ((b4,.cells [dv,tv,MY])::(b6,.map (bP F))::(iY (fJ (5+g+1:Int) F)++R))->gG H J3->gG T U3->bN J3 U3->J.length<=J3.length->U.length<=U3.length->bC J3.length U3.length e [(2,.ptr b2 0),(4,.ptr b4 0),(6,.aQ b6),(19,.int .i64 (5+g:Int))]->K3 ⟨e,J3,U3⟩:=by
    intro e J3 U3 MY t1 t2 t3 t4 t5 t6 t7 t8;have Jm:=t3.le;have Jl:=t4.le;have l63:=t2.lt (i:=b6) (b:=.map (bP F)) (by simp);have l43:=t2.lt (i:=b4) (b:=.cells [dv,tv,MY]) (by simp);refine bG _ (aI ⟨[(2,.ptr b2 0),(4,.ptr b4 0),(6,.aQ b6),(19,.int .i64 (5+g:Int))],J3,U3⟩ (ag [] [] (by simp) (by simp) (by show nb<=J3.length;omega) (by show tb<=U3.length;omega) t5 t8) ?_);refine aC λK hK=>?_;simp(disch:=omega) ;apply hK;refine⟨(g+1,J3,U3,MY),⟨by show g+1<=3;omega,t1,by simp only[Ia];exact t2,t3,t4,t5,t6,t7⟩,by show 3-(g+1)<3-g;omega,?_⟩;refine ag [] [] ?_ ?_ ?_ ?_ t5 ?_
    all_goals simp
    all_goals omega
   clear bG
   by_cases hex:(5+g:Int)∈F.map (·.f)
   rotate_left
   ·have eB:iZ (bP F) (.one (.int .i64 (5+g))) (.sl 0 [] .full) false=.sl 0 [] .full:=by
     unfold iZ;rw[<-kT,qs (uH hex)];rfl
    have XR:F.find? (λe=>e.f==(5+g:Int))=none:=by
     rw[ahT];intro x hx;have:x.f≠5+g:=λee=>hex (agG.2 ⟨x,hx,ee⟩);simpa using this
    refine ae λK hK=>?_;simp(disch:=omega)[wb,sR,yz,np,e6,eB];apply hK;apply ae;intro K Z;simp(disch:=omega);apply Z;apply aF rfl;apply aq;simp(disch:=omega) ;refine fin _ J2 U2 cv ?_ ?_ k4 k5 k6 (by omega) (by omega) ?_
    ·unfold jo;rw[XR];exact k2
    ·rw[OG hex];exact k3
    ·simp;omega
   ·obtain⟨e,MU,zj⟩:=agG.1 hex;obtain⟨F1,F2,rfl⟩:=aiZ MU;have jC:=hF _ MU;obtain⟨m1,m2⟩:=Ku mM (by omega);have vO:=Eg mM;rw[zj] at m1 m2 vO;have hfd:(F1++e::F2).find? (λx=>x.f==(5+g:Int))=some e:=by rw[nW mM,agN zj.symm]
    have JH:jo (F1++e::F2) (g+1)=jo (F1++e::F2) g++[sg e]:=by
     rw[jo,hfd]
    have eB:iZ (bP (F1++e::F2)) (.one (.int .i64 (5+g))) (.sl 0 [] .full) false=.bJ e.i e.x.length e.cap:=by
     unfold iZ;rw[<-kT,vO];rfl
    obtain⟨p1,p2,p3,p4,p5⟩:=jC;have bl:decide ((0:Int)<(e.x.length:Int))=true:=agH (by omega);have k3b:Has J2 ((b4,.cells [dv,tv,cv])::(b6,.map (bP (F1++e::F2)))::(iY (fJ (5+g) F1)++(e.i,.cells (bA e.x++e.rest))::(iY (fJ (5+g) F2)++R))):=by
     rw[m2] at k3;simpa[iY,Ef.oW] using k3
    have gi:=k3b.get (i:=e.i) (b:=.cells (bA e.x++e.rest)) (by simp);have li:=(agC.1 gi).1;have cs:=λU=>KD e.x e.rest e.i e.cap (by omega) J2 U gi;have zk:=Has.set (A:=(b4,.cells [dv,tv,cv])::(b6,.map (bP (F1++e::F2)))::iY (fJ (5+g) F1)) (B:=iY (fJ (5+g) F2)++R) (b:=.cells (bA e.x++e.rest)) (by simpa using k3b) (.cells (bA (pt e.x)++e.rest));have Nh:Has (J2.set e.i (.cells (bA (pt e.x)++e.rest))) ((b4,.cells [dv,tv,cv])::(b6,.map (bP (F1++e::F2)))::(iY (fJ (5+g+1) (F1++e::F2))++R)):=by
     rw[m1];simpa[iY,Ef.oW,sg] using zk
    have hP3:=k4.set p4 (.cells (bA (pt e.x)++e.rest));have hl3:(J2.set e.i (.cells (bA (pt e.x)++e.rest))).length=J2.length:=by simp
    generalize hFF:F1++e::F2=FF at *;refine ae λK hK=>?_;simp(disch:=omega)[wb,sR,yz,np,e6,eB];apply hK;refine ae λK hK=>?_;simp(disch:=omega)[bl,p5];apply hK;apply aH rfl;refine ae λK hK=>?_;simp(disch:=omega) ;refine ak (cs _) ?_;simp(disch:=omega) ;apply hK;have X2:bN (J2.set e.i (.cells (bA (pt e.x)++e.rest))) U2:=by
     refine k6.set ?_;have:=k6 e.i (.cells (bA e.x++e.rest)) gi;simp only[aA.AY] at this;intro v hv;rcases agR.1 hv with hv|hv
     ·exact xP _ _ _ v hv
     ·exact this v (aiN _ hv)
    clear e4 e6 gi;generalize J2.set e.i (.cells (bA (pt e.x)++e.rest))=J3 at *;have e4:=aX (Nh.get (i:=b4) (b:=.cells [dv,tv,cv]) (by simp));have l43:b4<J3.length:=by omega
    have Cg:e.i<J3.length:=by omega
    have hBe:∀U':au,True:=λ_=>trivial;have l63:=Nh.lt (i:=b6) (b:=.map (bP FF)) (by simp);rcases k2 with⟨mw,rfl⟩|⟨tc,rfl,htc,Yy⟩
    ·refine aC λK hK=>?_;simp(disch:=omega)[e4];apply hK;have F0:=Has.set (A:=[]) (B:=(b6,.map (bP FF))::(iY (fJ (5+g+1) FF)++R)) (b:=.cells [dv,tv,.sl 0 [] .full]) (by simpa using Nh) (.cells [dv,tv,.sl 1 [.int .i64 (5+g),.cN e.i 0 e.x.length] (.own U2.length)]);refine fin _ _ _ (.sl 1 [.int .i64 (5+g),.cN e.i 0 e.x.length] (.own U2.length)) ?_ F0 (hP3.set FY _) (k5.app _) ?_ (by simp;omega) (by simp;omega) ?_
     ·refine .inr ⟨U2.length,?_,by rw[JH,mw];simp,by omega⟩;rw[JH,mw];simp[vR,sg,zR,zj]
     ·refine(X2.ko (by simp)).set ?_;have h1:=MN.more (n':=J3.length) (t':=(U2++[(2,2)]).length) (by omega) (by simp;omega);have h2:=TU.more (n':=J3.length) (t':=(U2++[(2,2)]).length) (by omega) (by simp;omega);simp[h1,h2,Cg];exact⟨by simpa using h2,by simpa using h1⟩
     ·simp;omega
    ·have ltc:=(agC.1 htc).1;have eU:=aX htc;have gC:=Ez (jo FF g);have agv:(jo FF g).length<=3:=by
      have:∀k,(jo FF k).length<=k:=by
       intro k
       induction k with
       |zero=>exact agE _
       |succ k ih=>
        unfold jo
        split
        ·simp;omega
        ·omega
      have:=this g;omega
     refine aC λK hK=>?_;simp(disch:=omega)[e4,eU,gC];apply hK;have F0:=Has.set (A:=[]) (B:=(b6,.map (bP FF))::(iY (fJ (5+g+1) FF)++R)) (b:=.cells [dv,tv,.sl (jo FF g).length (vR (jo FF g)) (.own tc)]) (by simpa using Nh) (.cells [dv,tv,.sl ((jo FF g).length+1) (vR (jo FF g)++[.int .i64 (5+g),.cN e.i 0 e.x.length]) (.own tc)]);refine fin _ _ _ (AV.sl ((jo FF g).length+1) (vR (jo FF g)++[AV.int .i64 (5+g),AV.cN e.i 0 e.x.length]) (.own tc)) ?_ F0 (hP3.set FY _) (k5.set Yy _) ?_ (by simp;omega) (by simp;omega) ?_
     ·refine .inr ⟨tc,?_,?_,Yy⟩
      ·rw[JH];simp[vR,sg,zR,zj]
      ·rw[JH,ag4 ltc];simp
       try omega
     ·refine(X2.ko (by simp)).set ?_;have h0:=X2 b4 _ (Nh.get (i:=b4) (b:=.cells [dv,tv,.sl (jo FF g).length (vR (jo FF g)) (.own tc)]) (by simp));simp only[aA.AY,ag6,List.not_mem_nil,ajn,forall_eq_or_imp,forall_eq] at h0;obtain⟨h1,h2,h3⟩:=h0;simp at h3;simp[h1,h2,h3.1,h3.2,Cg]
     ·simp;omega
inductive su:List Dc->List En->List Ef->Prop
 |nil:su [] [] []
 |snoc {l:List Dc} {d:Dc} {E E':List En} {F F':List Ef} (h:su l E F) (h1:om d.id E (eP d.zs) E') (h2:sv F (CN d.id d.ns) F'):su (l++[d]) E' F'
def kM (l:List Dc):Nat:=(l.map λd=>(eP d.zs).length).sum
def mQ (l:List Dc):Nat:=(l.map λd=>d.ns.length).sum
def JT (l:List Dc)(i:Nat)(h:i<l.length):kM (l.take i)+(eP (l.getD i d0).zs).length=kM (l.take (i+1)):=by
 rw[aV l i d0 h];simp[kM]
def Lh (l:List Dc)(i:Nat)(h:i<l.length):mQ (l.take i)+(l.getD i d0).ns.length=mQ (l.take (i+1)):=by
 rw[aV l i d0 h];simp[mQ]
def Dd (a b:List Dc):kM (a++b)=kM a+kM b:=by simp[kM]
def RX (l:List Dc)(i:Nat):kM (l.take i)<=kM l:=by
 have:kM l=kM (l.take i)+kM (l.drop i):=by rw[<-Dd,ag7]
 omega
def Pn (a b:List Dc):mQ (a++b)=mQ a+mQ b:=by simp[mQ]
def Sy (l:List Dc)(i:Nat):mQ (l.take i)<=mQ l:=by
 have:mQ l=mQ (l.take i)+mQ (l.drop i):=by rw[<-Pn,ag7]
 omega
attribute [-simp] List.getD_eq_getElem?_getD in
def LU (H:List aA)(T:au)(nb tb:Nat)(gw:nb<=H.length)(fQ:tb<=T.length)(L:List Dc)(b2 b4 b5 b6 td:Nat)(J:List aA)(U:au)
  (hB:DI H T b2 b4 b5 b6 td 0 0 J U [] [] []) (hL:L.length<=1000) (hW:kM L<=1099511627776) (hM:mQ L<=1099511627776) (hz:∀d∈L,d.zs.length<=1099511627776) (hg:∀d∈L,NM d)
  (kK:H.length<=b2) (FY:H.length<=b4) (Jr:H.length<=b5) (FH:H.length<=b6) (MO:T.length<=td) (Q:Exit->St->Prop)
  (bad:∀i,0<i->i<L.length->(L.getD (i-1) d0).id=(L.getD i d0).id->∀(e:Env)(J':List aA)(U':au),bH e 2=.ptr b2 0->bH e 3=.int .i64 10->J'[b2]?=some (.cells [.sl 0 [] .full,.sl 0 [] .full,.sl 0 [] .full])->gG H J'->gG T U'->Q .ret ⟨e,J',U'⟩)
  (go:(∀i,0<i->i<L.length->(L.getD (i-1) d0).id≠(L.getD i d0).id)->∀(e:Env)(J':List aA)(U':au)(E:List En)(F:List Ef),DI H T b2 b4 b5 b6 td (kM L) (mQ L) J' U' (L.map (·.id)) E F->su L E F->bC J'.length U'.length e [(0,.sl L.length (aN L) .none),(2,.ptr b2 0),(4,.ptr b4 0),(5,.aQ b5),(6,.aQ b6)]->Q .normal ⟨e,J',U'⟩) :
  AW ⟨prog,192,152,nb,tb,[100104,100147,100166]⟩ (dX [1,1,1,1,1,1,1,1,0] (Tryz.f68.body.getD .skip)) Q ⟨[(0,.sl L.length (aN L) .none),(2,.ptr b2 0),(4,.ptr b4 0),(5,.aQ b5),(6,.aQ b6)],J,U⟩:=by
 conv=>arg 2;whnf
 have lH:=hB.pJ.le;have lT:=hB.pU.le;have lts:∀{N M:Nat} {J':List aA} {U':au} {ids:List Int} {E:List En} {F:List Ef},DI H T b2 b4 b5 b6 td N M J' U' ids E F->b2<J'.length/\b4<J'.length/\b5<J'.length/\b6<J'.length:=by
  intro N M J' U' ids E F h;exact⟨h.hJ.lt (i:=b2) (b:=.cells [.sl 0 [] .full,.sl 0 [] .full,.sl 0 [] .full]) (by simp),h.hJ.lt (i:=b4) (b:=.cells [.sl ids.length (ints ids) (.own td),.sl 0 [] .full,.sl 0 [] .full]) (by simp),h.hJ.lt (i:=b5) (b:=.map (cG E)) (by simp),h.hJ.lt (i:=b6) (b:=.map (bP F)) (by simp)⟩
 obtain⟨l2,l4,l5,l6⟩:=lts hB;apply ae;intro K Z;simp(disch:=omega);apply Z;apply aj;refine aJ (X:=Nat×List aA×au×List En×List Ef) (λx=>⟨[(0,.sl L.length (aN L) .none),(2,.ptr b2 0),(4,.ptr b4 0),(5,.aQ b5),(6,.aQ b6),(34,.sl L.length (aN L) .none),(35,.int .i64 (L.length:Nat)),(36,.int .i64 (x.1:Nat))],x.2.1,x.2.2.1⟩)
  (λx=>x.1<=L.length/\DI H T b2 b4 b5 b6 td (kM (L.take x.1)) (mQ (L.take x.1)) x.2.1 x.2.2.1 ((L.take x.1).map (·.id)) x.2.2.2.1 x.2.2.2.2/\su (L.take x.1) x.2.2.2.1 x.2.2.2.2/\∀i,0<i->i<x.1->(L.getD (i-1) d0).id≠(L.getD i d0).id) (λx=>L.length-x.1) (0,J,U,[],[]) ?_ ?_ ?_
 ·exact⟨agP _,hB,.nil,λi h1 h2=>by omega⟩
 ·refine ag [] [] ?_ ?_ ?_ ?_ hB.ok ?_
  all_goals simp
  all_goals omega
 ·rintro⟨i,J2,U2,E,F⟩ ⟨k1,k2,k3,k4⟩;simp only at k1 k2 k3 k4;have Mr:=k2.pJ.le;have Qm:=k2.pU.le;obtain⟨l22,WL,l52,l62⟩:=lts k2;apply ae;intro K Z;simp(disch:=omega);apply Z;refine af λK2 bp=>?_;refine aU rfl (λhk=>?_) (λhk=>?_)
  ·simp  at hk;have Cd:=JT L i hk;have TI:=Lh L i hk;have sa:=RX L (i+1);have QU:=Sy L (i+1);have hdm:=aT L i d0 hk;apply aq;simp(disch:=omega) ;apply bp;clear bp;refine af λK3 bG=>?_;apply aj;refine aI ⟨[(0,.sl L.length (aN L) .none),(2,.ptr b2 0),(4,.ptr b4 0),(5,.aQ b5),(6,.aQ b6),(34,.sl L.length (aN L) .none),(35,.int .i64 (L.length:Nat)),(36,.int .i64 (i:Nat))],J2,U2⟩ (ag [] [] (by simp) (by simp) (by show nb<=J2.length;omega) (by show tb<=U2.length;omega) k2.ok (by simp;omega)) ?_;refine PV (N:=kM (L.take i)) (M:=mQ (L.take i)) H T nb tb gw fQ L i b2 b4 b5 b6 td _ E F J2 U2 k2 hk hL (by simp;omega) (by omega) (by omega) (hz _ hdm) (hg _ hdm) kK FY Jr FH MO _ (λh1 h2 e J' g1 g2 g3 g4=>?_) λdN e J' U' E' F' a1 a2 a3 a4=>?_
   ·exact bad i h1 hk h2 e J' U2 g1 g2 g3 g4 k2.pU
   ·rw[Cd,TI] at a1;have kU:(L.take i).map (·.id)++[(L.getD i d0).id]=(L.take (i+1)).map (·.id):=by rw[aV L i d0 hk];simp
    rw[kU] at a1;have Jm:=a1.pJ.le;have Jl:=a1.pU.le;obtain⟨l23,l43,l53,l63⟩:=lts a1;refine bG _ (aI ⟨[(0,.sl L.length (aN L) .none),(2,.ptr b2 0),(4,.ptr b4 0),(5,.aQ b5),(6,.aQ b6),(34,.sl L.length (aN L) .none),(35,.int .i64 (L.length:Nat)),(36,.int .i64 (i:Nat))],J',U'⟩ (ag [] [] (by simp) (by simp) (by show nb<=J'.length;omega) (by show tb<=U'.length;omega) a1.ok a4) ?_);clear bG;refine aC λK hK=>?_;simp(disch:=omega) ;apply hK;refine⟨(i+1,J',U',E',F'),⟨by show i+1<=_;omega,a1,?_,λj h1 h2=>?_⟩,by show L.length-(i+1)<L.length-i;omega,?_⟩
    ·show su (L.take (i+1)) E' F';rw[aV L i d0 hk];exact k3.snoc a2 a3
    ·rcases agM j i with h|h
     ·exact k4 j h1 h
     ·have:j=i:=by simp only at h2;omega
      subst this;exact dN h1
    ·refine ag [] [] ?_ ?_ ?_ ?_ a1.ok ?_
     all_goals simp
     all_goals omega
  ·simp  at hk;have AR:i=L.length:=by omega
   subst AR;rw[agZ] at k2 k3;apply aG;simp(disch:=omega) ;refine go k4 _ J2 U2 E F k2 k3 ?_;simp;omega
end Go.Proofs.YtoejlmpbebjemaaGreat
