/- segment.Build (layer 39): one document. segment.Build (layer 39): the terms out of the map, in any order. segment.Build (layer 39): the columns. segment.Build (layer 39): the documents, one after another.
  Conditions: lengths below 400 or 1000, as each theorem says. -/
import Derived.Test.YtoejlmpbebjemaaGreatGBA
set_option linter.all false
set_option maxRecDepth 100000
set_option maxHeartbeats 16000000
namespace eT
open Go Go.Am
theorem ou.nd {id:Int}{E E':List En}{l:List (Ky×Int)}(h:ou id E l E')(hn:(E.map (·.k)).Nodup):(E'.map (·.k)).Nodup:=by
 cases h with
 |nil=>exact hn
 |snoc _ h2=>exact h2.nd
end eT
namespace Go.Proofs.YtoejlmpbebjemaaGreat
open Go.Proofs.Tryz(prog)
open Go Go.Am im eT
inductive sI:List Ef->List (Int×Nm)->List Ef->Prop
 |nil (E:List Ef):sI E [] E
 |snoc {E E1 E2:List Ef} {l:List (Int×Nm)} {k:Int} {p:Nm} (h:sI E l E1) (h2:sT E1 k p E2):sI E (l++[(k,p)]) E2
theorem sI.trans {E E1 E2:List Ef}{l m:List (Int×Nm)}(h:sI E l E1)(k:sI E1 m E2):sI E (l++m) E2:=by
 induction k with
 |nil=>simpa using h
 |snoc _ h2 ih=>rw[<-List.append_assoc];exact ih.snoc h2
theorem sI.nd {E E':List Ef}{l:List (Int×Nm)}(h:sI E l E')(hn:(E.map (·.f)).Nodup):(E'.map (·.f)).Nodup:=by
 cases h with
 |nil=>exact hn
 |snoc _ h2=>exact h2.nd
def Dg (id:Int)(ns:List Nm):List (Int×Nm):=ns.map λx=>(x.1,(x.2,id))
def MM (id:Int)(ns:List Nm)(k:Nat)(h:k<ns.length):Dg id (ns.take k)++[((ns.getD k n0).1,((ns.getD k n0).2,id))]=Dg id (ns.take (k+1)):=by
 rw[aU ns k n0 h];simp[Dg]
structure DI (H:List az)(T:au)(b2 b4 b5 b6 td N M:Nat)(J:List az)(U:au)(ids:List Int)(E:List En)(F:List Ef):Prop where
 hJ:Has J ((b2,.cells [.sl 0 [] .full,.sl 0 [] .full,.sl 0 [] .full])::(b4,.cells [.sl ids.length (ints ids) (.own td),.sl 0 [] .full,.sl 0 [] .full])::(b6,.map (bM F))::(jf F++(b5,.map (cz E))::dV E))
 hU:Has U ((td,(ids.length,1))::ka E)
 hE:∀e∈E,GL H.length T.length N e
 ndE:(E.map (·.k)).Nodup
 ftE:dq prog 193 (cz E)=true
 hF:∀e∈F,SG H.length M e
 ndF:(F.map (·.f)).Nodup
 ftF:dq prog 3 (bM F)=true
 pJ:gM H J
 pU:gM T U
 ok:bJ J U
structure OG (d:Dc):Prop where
 z:∀z∈d.zs,(-9223372036854775808<=z.f/\z.f<=9223372036854775807)/\∀w∈z.ws,w.1.length<=maxLen
 n:∀x∈d.ns,-9223372036854775808<=x.1/\x.1<=9223372036854775807
attribute [-simp] List.getD_eq_getElem?_getD in
def QM (H:List az)(T:au)(nb tb N M:Nat)(gG:nb<=H.length)(fY:tb<=T.length)(L:List Dc)(vi b2 b4 b5 b6 td:Nat)(ids:List Int)(E:List En)(F:List Ef)(J:List az)(U:au)
  (hB:DI H T b2 b4 b5 b6 td N M J U ids E F) (hi:vi<L.length) (hL:L.length<=1000) (Gb:ids.length<=1000) (hN:N+(eW (L.getD vi d0).zs).length<=1099511627776) (hM:M+(L.getD vi d0).ns.length<=1099511627776) (tU:(L.getD vi d0).zs.length<=1099511627776)
  (hg:OG (L.getD vi d0)) (kP:H.length<=b2) (Gs:H.length<=b4) (Kh:H.length<=b5) (Gc:H.length<=b6) (NF:T.length<=td) (Q:Exit->St->Prop)
  (bad:0<vi->(L.getD (vi-1) d0).id=(L.getD vi d0).id->∀(e:Env)(J':List az),bE e 2=.ptr b2 0->bE e 3=.int .i64 10->J'[b2]?=some (.cells [.sl 0 [] .full,.sl 0 [] .full,.sl 0 [] .full])->gM H J'->Q .ret ⟨e,J',U⟩)
  (go:(0<vi->(L.getD (vi-1) d0).id≠(L.getD vi d0).id)->∀(e:Env)(J':List az)(U':au)(E':List En)(F':List Ef),DI H T b2 b4 b5 b6 td (N+(eW (L.getD vi d0).zs).length) (M+(L.getD vi d0).ns.length) J' U' (ids++[(L.getD vi d0).id]) E' F'->
   ou (L.getD vi d0).id E (eW (L.getD vi d0).zs) E'->sI F (Dg (L.getD vi d0).id (L.getD vi d0).ns) F'->bu J'.length U'.length e [(0,.sl L.length (aM L) .none),(2,.ptr b2 0),(4,.ptr b4 0),(5,.aP b5),(6,.aP b6),(34,.sl L.length (aM L) .none),(35,.int .i64 (L.length:Nat)),(36,.int .i64 (vi:Nat))]->Q .normal ⟨e,J',U'⟩) :
  AW ⟨prog,192,152,nb,tb,[100104,100147,100166]⟩ (dY [1,1,1,1,1,1,1,1,0,1,0,0,1,1,0,0] (Tryz.f68.body.getD .skip)) Q ⟨[(0,.sl L.length (aM L) .none),(2,.ptr b2 0),(4,.ptr b4 0),(5,.aP b5),(6,.aP b6),(34,.sl L.length (aM L) .none),(35,.int .i64 (L.length:Nat)),(36,.int .i64 (vi:Nat))],J,U⟩:=by
 conv=>arg 2;whnf
 have lH:=hB.pJ.le;have lT:=hB.pU.le;have hcut:=fJ L vi hi;have Gq:=λh=>iU L (vi-1) h;generalize hdd:L.getD vi d0=d at *;generalize hpp:L.getD (vi-1) d0=dp at *;obtain⟨id,zs,ns⟩:=d;simp only at hcut hN hM tU bad go;obtain⟨q1,q2,q3,q4,q5,q6,q7,q8,q9,q10,q11⟩:=hB;obtain⟨UN,XM⟩:=hg;simp only at UN XM;have l2:=q1.lt (i:=b2) (b:=.cells [.sl 0 [] .full,.sl 0 [] .full,.sl 0 [] .full]) (by simp);have l4:=q1.lt (i:=b4) (b:=.cells [.sl ids.length (ints ids) (.own td),.sl 0 [] .full,.sl 0 [] .full]) (by simp);have l5:=q1.lt (i:=b5) (b:=.map (cz E)) (by simp);have l6:=q1.lt (i:=b6) (b:=.map (bM F)) (by simp);refine ae λK hK=>?_;simp(disch:=omega)[hcut,ba];apply hK;have rv:bJ (J++[.cells (dP ⟨id,zs,ns⟩)]) U:=q11.snoc (by simp);have q1:=(q1.new (.cells (dP ⟨id,zs,ns⟩))).perm (ah6 _ _).symm;have q9:=q9.app [az.cells (dP ⟨id,zs,ns⟩)];have CT:(J++[az.cells (dP ⟨id,zs,ns⟩)]).length=J.length+1:=by simp
 obtain⟨b8,h8⟩:∃i,i=J.length:=⟨_,rfl⟩
 rw[<-h8] at q1;simp only[<-h8];have hsh:az.cells [.int .i64 id,.sl zs.length (fu zs) .none,.sl ns.length (br ns) .none]=.cells (dP ⟨id,zs,ns⟩):=rfl;rw[hsh];generalize J++[az.cells (dP ⟨id,zs,ns⟩)]=J1 at *;have g8:=q1.get (i:=b8) (b:=.cells (dP ⟨id,zs,ns⟩)) (by simp);have g4:=q1.get (i:=b4) (b:=.cells [.sl ids.length (ints ids) (.own td),.sl 0 [] .full,.sl 0 [] .full]) (by simp);have g2:=q1.get (i:=b2) (b:=.cells [.sl 0 [] .full,.sl 0 [] .full,.sl 0 [] .full]) (by simp);have e8:=aW g8;have e4:=aW g4;have l8:=(ahh.1 g8).1;have gU:=q2.get (i:=td) (b:=(ids.length,1)) (by simp);have lU:=(ahh.1 gU).1;have eU:=aW gU;refine aH ⟨[(7,.int .i64 (vi:Nat)),(0,.sl L.length (aM L) .none),(2,.ptr b2 0),(4,.ptr b4 0),(5,.aP b5),(6,.aP b6),(8,.ptr b8 0),(34,.sl L.length (aM L) .none),(35,.int .i64 (L.length:Nat)),(36,.int .i64 (vi:Nat))],J1,U⟩ (ag [] [] (by simp) (by simp) (by show nb<=_;omega) (by show tb<=_;omega) rv (by simp;omega)) ?_;have e2:=aW g2;have l2':b2<J1.length:=by omega
 have l4':b4<J1.length:=by omega
 refine af λK1 aO=>?_;have key:(0<vi->dp.id≠id)->∀e,bu J1.length U.length e [(0,.sl L.length (aM L) .none),(2,.ptr b2 0),(4,.ptr b4 0),(5,.aP b5),(6,.aP b6),(8,.ptr b8 0),(34,.sl L.length (aM L) .none),(35,.int .i64 (L.length:Nat)),(36,.int .i64 (vi:Nat))]->K1 ⟨e,J1,U⟩:=by
  intro hne e he;refine aO _ (aH ⟨[(0,.sl L.length (aM L) .none),(2,.ptr b2 0),(4,.ptr b4 0),(5,.aP b5),(6,.aP b6),(8,.ptr b8 0),(34,.sl L.length (aM L) .none),(35,.int .i64 (L.length:Nat)),(36,.int .i64 (vi:Nat))],J1,U⟩ (ag [] [] (by simp) (by simp) (by show nb<=_;omega) (by show tb<=_;omega) rv he) ?_);clear aO;refine ae λK hK=>?_;simp(disch:=omega)[e8,e4,eU];apply hK;refine dA λfx=>?_;simp only at fx;have iW:=Has.set (A:=[(b8,.cells (dP ⟨id,zs,ns⟩)),(b2,.cells [.sl 0 [] .full,.sl 0 [] .full,.sl 0 [] .full])]) (B:=(b6,.map (bM F))::(jf F++(b5,.map (cz E))::dV E)) (b:=.cells [.sl ids.length (ints ids) (.own td),.sl 0 [] .full,.sl 0 [] .full]) (by simpa using q1) (.cells [.sl (ids.length+1) (ints ids++[.int .i64 id]) (.own td),.sl 0 [] .full,.sl 0 [] .full]);have CJ:=Has.set (A:=[]) (B:=ka E) (b:=(ids.length,1)) (by simpa using q2) (ids.length+1,1);have sv:=q9.set Gs (.cells [.sl (ids.length+1) (ints ids++[.int .i64 id]) (.own td),.sl 0 [] .full,.sl 0 [] .full]);have ZC:=q10.set NF (ids.length+1,1);have jH:(J1.set b4 (.cells [.sl (ids.length+1) (ints ids++[.int .i64 id]) (.own td),.sl 0 [] .full,.sl 0 [] .full])).length=J1.length:=by simp
  have hlU:(U.set td (ids.length+1,1)).length=U.length:=by simp
  rw[eG] at iW fx sv jH ⊢;have eN:ids.length+1=(ids++[id]).length:=by simp
  rw[eN] at iW CJ fx sv ZC jH hlU ⊢;generalize J1.set b4 (.cells [.sl (ids++[id]).length (ints (ids++[id])) (.own td),.sl 0 [] .full,.sl 0 [] .full])=J2 at *;generalize U.set td ((ids++[id]).length,1)=U2 at *;generalize kZ:ids++[id]=tZ at *;have hBI:BI H T ((b8,.cells (dP ⟨id,zs,ns⟩))::(b2,.cells [.sl 0 [] .full,.sl 0 [] .full,.sl 0 [] .full])::(b4,.cells [.sl tZ.length (ints tZ) (.own td),.sl 0 [] .full,.sl 0 [] .full])::(b6,.map (bM F))::jf F) [(td,(tZ.length,1))] b5 N J2 U2 E:=
   ⟨by simpa using iW,by simpa using CJ,q3,q4,q5,sv,ZC,fx⟩
  have e8:=aW (iW.get (i:=b8) (b:=.cells (dP ⟨id,zs,ns⟩)) (by simp));have l8:b8<J2.length:=by omega
  clear e4 eU g8 g4 g2 e2;refine af λK1 aO=>?_;refine ae λK hK=>?_;simp(disch:=omega)[e8];apply hK;apply aj;refine aI (X:=Nat×List az×au×List En) (λx=>⟨[(0,.sl L.length (aM L) .none),(2,.ptr b2 0),(4,.ptr b4 0),(5,.aP b5),(6,.aP b6),(8,.ptr b8 0),(34,.sl L.length (aM L) .none),(35,.int .i64 (L.length:Nat)),(36,.int .i64 (vi:Nat)),(63,.sl zs.length (fu zs) .none),(64,.int .i64 (zs.length:Nat)),(65,.int .i64 (x.1:Nat))],x.2.1,x.2.2.1⟩)
   (λx=>x.1<=zs.length/\BI H T ((b8,.cells (dP ⟨id,zs,ns⟩))::(b2,.cells [.sl 0 [] .full,.sl 0 [] .full,.sl 0 [] .full])::(b4,.cells [.sl tZ.length (ints tZ) (.own td),.sl 0 [] .full,.sl 0 [] .full])::(b6,.map (bM F))::jf F) [(td,(tZ.length,1))] b5 (N+(eW (zs.take x.1)).length) x.2.1 x.2.2.1 x.2.2.2/\ou id E (eW (zs.take x.1)) x.2.2.2/\J2.length<=x.2.1.length) (λx=>zs.length-x.1) (0,J2,U2,E) ?_ ?_ ?_
  ·exact⟨ahu _,hBI,.nil E,ahj _⟩
  ·refine ag [] [] ?_ ?_ ?_ ?_ fx ?_
   all_goals simp
   all_goals omega
  ·rintro⟨j,J3,U3,E3⟩ ⟨k1,k2,k3,k4⟩;simp only at k1 k2 k3 k4;have Kf:=k2.pJ.le;have Ke:=k2.pU.le;have l53:=k2.hJ.lt (i:=b5) (b:=.map (cz E3)) (by simp);apply ae;intro K Z;simp(disch:=omega);apply Z;refine af λK2 bc=>?_;refine aT rfl (λgI=>?_) (λgI=>?_)
   ·simp  at gI;have XN:=MK zs j gI;have hdl:(eW (zs.take j)).length+(zs.getD j z0).ws.length=(eW (zs.take (j+1))).length:=by rw[<-XN];simp[o6]
    have ag6:(eW (zs.take (j+1))).length<=(eW zs).length:=by
     have:eW zs=eW (zs.take (j+1))++eW (zs.drop (j+1)):=by rw[eW,eW,eW,<-List.flatMap_append,ahM]
     rw[this];simp
    apply aq;simp(disch:=omega) ;apply bc;clear bc;refine af λK3 bD=>?_;apply aj;refine aH ⟨[(0,.sl L.length (aM L) .none),(2,.ptr b2 0),(4,.ptr b4 0),(5,.aP b5),(6,.aP b6),(8,.ptr b8 0),(34,.sl L.length (aM L) .none),(35,.int .i64 (L.length:Nat)),(36,.int .i64 (vi:Nat)),(63,.sl zs.length (fu zs) .none),(64,.int .i64 (zs.length:Nat)),(65,.int .i64 (j:Nat))],J3,U3⟩ (ag [] [] (by simp) (by simp) (by show nb<=_;omega) (by show tb<=_;omega) k2.ok (by simp;omega)) ?_;refine KM (N:=N+(eW (zs.take j)).length) H T nb tb gG fY L zs vi j b2 b4 b5 b6 b8 id _ _ E3 J3 U3 _ _ k2 gI (by omega) (List.mem_cons_self ..) Kh (by omega) (by omega) (by omega) (UN _ (aS zs j z0 gI)).1 (UN _ (aS zs j z0 gI)).2 _ λe J' U' E' a1 a2 a3 a4=>?_;have lH4:=a1.pJ.le;have lT4:=a1.pU.le;rw[Nat.add_assoc,hdl] at a1;refine bD _ (aH ⟨[(0,.sl L.length (aM L) .none),(2,.ptr b2 0),(4,.ptr b4 0),(5,.aP b5),(6,.aP b6),(8,.ptr b8 0),(34,.sl L.length (aM L) .none),(35,.int .i64 (L.length:Nat)),(36,.int .i64 (vi:Nat)),(63,.sl zs.length (fu zs) .none),(64,.int .i64 (zs.length:Nat)),(65,.int .i64 (j:Nat))],J',U'⟩ (ag [] [] (by simp) (by simp) (by show nb<=_;omega) (by show tb<=_;omega) a1.ok a4) ?_);clear bD;refine aB λK hK=>?_;simp(disch:=omega) ;apply hK;refine⟨(j+1,J',U',E'),⟨by show j+1<=_;omega,a1,?_,by show J2.length<=J'.length;omega⟩,by show zs.length-(j+1)<zs.length-j;omega,?_⟩
    ·show ou id E (eW (zs.take (j+1))) E';rw[<-XN];exact k3.trans a2
    ·refine ag [] [] ?_ ?_ ?_ ?_ a1.ok ?_
     all_goals simp
     all_goals omega
   ·simp  at gI;have hjj:j=zs.length:=by omega
    subst hjj;rw[ahE] at k2 k3;apply aF;simp(disch:=omega) ;apply aO;clear aO;have l53:=k2.hJ.lt (i:=b5) (b:=.map (cz E3)) (by simp);have e8:=aW (k2.hJ.get (i:=b8) (b:=.cells (dP ⟨id,zs,ns⟩)) (by simp));have l8:b8<J3.length:=by omega
    have YQ:BF H T ((b8,.cells (dP ⟨id,zs,ns⟩))::(b2,.cells [.sl 0 [] .full,.sl 0 [] .full,.sl 0 [] .full])::(b4,.cells [.sl tZ.length (ints tZ) (.own td),.sl 0 [] .full,.sl 0 [] .full])::(b5,.map (cz E3))::dV E3) b6 M J3 U3 F:=by
     refine⟨k2.hJ.perm ?_,q6,q7,q8,k2.pJ,k2.pU,k2.ok⟩;simp only[ajv];refine(((List.Perm.cons _ (List.Perm.cons _ (List.Perm.cons _ ?_)))));have:=(List.perm_append_comm (l₁:=(b5,az.map (cz E3))::dV E3) (l₂:=(b6,az.map (bM F))::jf F))
     simpa using this
    refine ae λK hK=>?_;simp(disch:=omega)[e8];apply hK;apply aj;refine aI (X:=Nat×List az×List Ef) (λx=>⟨[(0,.sl L.length (aM L) .none),(2,.ptr b2 0),(4,.ptr b4 0),(5,.aP b5),(6,.aP b6),(8,.ptr b8 0),(34,.sl L.length (aM L) .none),(35,.int .i64 (L.length:Nat)),(36,.int .i64 (vi:Nat)),(128,.sl ns.length (br ns) .none),(129,.int .i64 (ns.length:Nat)),(130,.int .i64 (x.1:Nat))],x.2.1,U3⟩)
     (λx=>x.1<=ns.length/\BF H T ((b8,.cells (dP ⟨id,zs,ns⟩))::(b2,.cells [.sl 0 [] .full,.sl 0 [] .full,.sl 0 [] .full])::(b4,.cells [.sl tZ.length (ints tZ) (.own td),.sl 0 [] .full,.sl 0 [] .full])::(b5,.map (cz E3))::dV E3) b6 (M+x.1) x.2.1 U3 x.2.2/\sI F (Dg id (ns.take x.1)) x.2.2/\J3.length<=x.2.1.length) (λx=>ns.length-x.1) (0,J3,F) ?_ ?_ ?_
    ·exact⟨ahu _,YQ,.nil F,ahj _⟩
    ·refine ag [] [] ?_ ?_ ?_ ?_ k2.ok ?_
     all_goals simp
     all_goals omega
    ·rintro⟨k,J4,F4⟩ ⟨m1,m2,m3,m4⟩;simp only at m1 m2 m3 m4;have lH4:=m2.pJ.le;apply ae;intro K Z;simp(disch:=omega);apply Z;refine af λK2 bc=>?_;refine aT rfl (λXK=>?_) (λXK=>?_)
     ·simp  at XK;apply aq;simp(disch:=omega) ;apply bc;clear bc;refine af λK3 bD=>?_;apply aj;refine aH ⟨[(0,.sl L.length (aM L) .none),(2,.ptr b2 0),(4,.ptr b4 0),(5,.aP b5),(6,.aP b6),(8,.ptr b8 0),(34,.sl L.length (aM L) .none),(35,.int .i64 (L.length:Nat)),(36,.int .i64 (vi:Nat)),(128,.sl ns.length (br ns) .none),(129,.int .i64 (ns.length:Nat)),(130,.int .i64 (k:Nat))],J4,U3⟩ (ag [] [] (by simp) (by simp) (by show nb<=_;omega) (by show tb<=_;omega) m2.ok (by simp;omega)) ?_;refine Qg (N:=M+k) H T nb tb gG fY L ns vi k b2 b4 b5 b6 b8 id _ _ F4 J4 U3 _ m2 (by omega) XK (by omega) (List.mem_cons_self ..) Gc (by omega) (by omega) (by omega) (XM _ (aS ns k n0 XK)) _ λe J' F' a1 a2 a3 a4=>?_;have lH5:=a1.pJ.le;refine bD _ (aH ⟨[(0,.sl L.length (aM L) .none),(2,.ptr b2 0),(4,.ptr b4 0),(5,.aP b5),(6,.aP b6),(8,.ptr b8 0),(34,.sl L.length (aM L) .none),(35,.int .i64 (L.length:Nat)),(36,.int .i64 (vi:Nat)),(128,.sl ns.length (br ns) .none),(129,.int .i64 (ns.length:Nat)),(130,.int .i64 (k:Nat))],J',U3⟩ (ag [] [] (by simp) (by simp) (by show nb<=_;omega) (by show tb<=_;omega) a1.ok a4) ?_);clear bD;refine aB λK hK=>?_;simp(disch:=omega) ;apply hK;refine⟨(k+1,J',F'),⟨by show k+1<=_;omega,a1,?_,by show J3.length<=J'.length;omega⟩,by show ns.length-(k+1)<ns.length-k;omega,?_⟩
      ·show sI F (Dg id (ns.take (k+1))) F';rw[<-MM id ns k XK];exact m3.snoc a2
      ·refine ag [] [] ?_ ?_ ?_ ?_ a1.ok ?_
       all_goals simp
       all_goals omega
     ·simp  at XK;have hkk:k=ns.length:=by omega
      subst hkk;rw[ahE] at m3;apply aF;simp(disch:=omega) ;refine go hne _ J4 U3 E3 F4 ⟨?_,by simpa using k2.hU,k2.hE,k2.nd,k2.ft,m2.hF,m2.nd,m2.ft,m2.pJ,m2.pU,m2.ok⟩ k3 m3 ?_
      ·have hs:=m2.hJ.sub (aih _ _);refine hs.perm ?_;refine(List.Perm.cons _ (List.Perm.cons _ ?_));have:=(List.perm_append_comm (l₁:=(b6,az.map (bM F4))::jf F4) (l₂:=(b5,az.map (cz E3))::dV E3))
       simpa using this
      ·simp;omega
 clear aO;rcases ahR vi with h0|h0
 ·subst h0;refine aJ [] [] [] aw (by kernel_rfl) (by kernel_rfl) λK hK=>?_;simp(disch:=omega) ;apply hK;apply aD rfl;apply aq;simp(disch:=omega) ;refine key (λh=>absurd h (by omega)) _ ?_;simp;omega
 ·have b0:decide ((0:Int)<(vi:Int))=true:=ahm (by omega);have e6:((vi:Int)-1)=((vi-1:Nat):Int):=by omega
  have Zw:=(Gq (by omega)).1
  by_cases hdp:dp.id=id
  ·have bd:(dp.id==id)=true:=by simpa using hdp
   refine aJ [] [] [] aw (by kernel_rfl) (by kernel_rfl) λK hK=>?_;simp(disch:=omega)[b0,h0,e6,Zw,ba,e8,hdp];apply hK;apply aG rfl;refine ae λK hK=>?_;simp(disch:=omega)[e2];apply hK;apply ay;exact bad h0 hdp _ _ rfl rfl (ahK l2') (q9.set kP _)
  ·have bd:(dp.id==id)=false:=by simpa using hdp
   refine aJ [] [] [] aw (by kernel_rfl) (by kernel_rfl) λK hK=>?_;simp(disch:=omega)[b0,h0,e6,Zw,ba,e8,bd,hdp];apply hK;apply aD rfl;apply aq;simp(disch:=omega) ;refine key (λ_=>hdp) _ ?_;simp;omega
def Ry:En:=⟨(0,[]),[],0,[],0,0,0,[]⟩
def fZ (e:En):Ky×AV:=(e.k,.cK e.i 0 e.n)
structure Oh (nb:Nat)(rows:List (Ky×AV))(tv:AV)(TB:List (Nat×az)):Prop where
 h:(rows=[]/\tv=.sl 0 [] .full/\TB=[])\/∃it cap rest,tv=.bG it rows.length cap/\TB=[(it,.cells (eM rows++rest))]/\rest.length=(cap-rows.length)*3/\rows.length<=cap/\nb<=it/\0<rows.length
def qo (l:List (Ky×AV))(k:Ky)(v:AV):eM l++[.int .i64 k.1,.str k.2,v]=eM (l++[(k,v)]):=by simp[eM]
theorem Qi:∀(n:Nat)(l:List Nat),l.Nodup->(∀j∈l,j<n)->l.length<=n:=by
 intro n
 induction n with
 |zero=>
  intro l _ h
  cases l with
  |nil=>exact ahj _
  |cons a r=>exact absurd (h a (by simp)) (ahO _)
 |succ n ih=>
  intro l hn h;have h1:=ih (l.erase n) (hn.erase n) λj hj=>by
   have:=(hn.mem_erase_iff).1 hj;have:=h j this.2;omega
  by_cases hm:n∈l
  ·rw[List.length_erase_of_mem hm] at h1;omega
  ·rw[List.erase_of_not_mem hm] at h1;omega
def H3 {n:Nat}{l:List Nat}(h1:l.Nodup)(h2:∀a∈l,a<n)(h3:∀a,a<n->a∈l):l.Perm (List.range n):=
 (List.perm_ext_iff_of_nodup h1 List.nodup_range).2 λa=>⟨λh=>ahI.2 (h2 a h),λh=>h3 a (ahI.1 h)⟩
attribute [-simp] List.getD_eq_getElem?_getD in
def Hp (H:List az)(T:au)(nb tb N M:Nat)(gG:nb<=H.length)(fY:tb<=T.length)(b2 b4 b5 b6 td:Nat)(ids:List Int)(E:List En)(F:List Ef)(J:List az)(U:au)
  (hB:DI H T b2 b4 b5 b6 td N M J U ids E F) (YM:E.length<=1099511627776) (Gs:H.length<=b4) (Q:Exit->St->Prop)
  (go:∀(e:Env) (J':List az) (rows:List (Ky×AV)) (tv:AV) (TB:List (Nat×az)),rows.Perm (E.map fZ)->Oh H.length rows tv TB->Has J' ((b4,.cells [.sl ids.length (ints ids) (.own td),tv,.sl 0 [] .full])::(TB++(b2,.cells [.sl 0 [] .full,.sl 0 [] .full,.sl 0 [] .full])::(b6,.map (bM F))::(b5,.map (cz E))::(jf F++dV E)))->gM H J'->bJ J' U->bu J'.length U.length e [(2,.ptr b2 0),(4,.ptr b4 0),(5,.aP b5),(6,.aP b6)]->Q .normal ⟨e,J',U⟩) :
  AW ⟨prog,192,152,nb,tb,[100104,100147,100166]⟩ (dY [1,1,1,1,1,1,1,1,1,0] (Tryz.f68.body.getD .skip)) Q ⟨[(2,.ptr b2 0),(4,.ptr b4 0),(5,.aP b5),(6,.aP b6)],J,U⟩:=by
 conv=>arg 2;whnf
 have lH:=hB.pJ.le;have lT:=hB.pU.le;obtain⟨q1,q2,q3,q4,q5,q6,q7,q8,q9,q10,q11⟩:=hB;have e5:=aW (q1.get (i:=b5) (b:=.map (cz E)) (by simp));have l5:=q1.lt (i:=b5) (b:=.map (cz E)) (by simp);have CF:(cz E).length=E.length:=by simp[cz]
 refine ae λK hK=>?_;simp(disch:=omega)[wu,e5,CF];apply hK;have q1':=(q1.new (.mF b5 E.length [])).perm (ah6 _ _).symm;have q9':=q9.app [az.mF b5 E.length []];have rv:bJ (J++[.mF b5 E.length []]) U:=q11.Tg;obtain⟨bm,Nq⟩:∃i,i=J.length:=⟨_,rfl⟩
 rw[<-Nq] at q1';simp only[<-Nq];have afn:H.length<=bm:=by omega
 clear e5 l5 q1 q9 q11 Nq;generalize J++[az.mF b5 E.length []]=J1 at *;have lH1:=q9'.le;have q1:Has J1 ((bm,.mF b5 E.length ([]))::(b4,.cells [.sl ids.length (ints ids) (.own td),.sl 0 [] .full,.sl 0 [] .full])::([]++(b2,.cells [.sl 0 [] .full,.sl 0 [] .full,.sl 0 [] .full])::(b6,.map (bM F))::(b5,.map (cz E))::(jf F++dV E))):=by
  refine q1'.perm ?_;refine List.Perm.cons _ ?_;refine List.Perm.trans (List.Perm.swap _ _ _) (List.Perm.cons _ (List.Perm.cons _ ?_));refine List.Perm.cons _ ?_;exact ajC.symm
 have l2:=q1.lt (i:=b2) (b:=.cells [.sl 0 [] .full,.sl 0 [] .full,.sl 0 [] .full]) (by simp);have l4:=q1.lt (i:=b4) (b:=.cells [.sl ids.length (ints ids) (.own td),.sl 0 [] .full,.sl 0 [] .full]) (by simp);have l5:=q1.lt (i:=b5) (b:=.map (cz E)) (by simp);have l6:=q1.lt (i:=b6) (b:=.map (bM F)) (by simp);have lm:=q1.lt (i:=bm) (b:=.mF b5 E.length []) (by simp);apply aj;refine aI (X:=List Nat×List az×AV×List (Nat×az)) (λx=>⟨[(2,.ptr b2 0),(4,.ptr b4 0),(5,.aP b5),(6,.aP b6),(151,.ptr bm 0)],x.2.1,U⟩)
  (λx=>x.1.Nodup/\(∀j∈x.1,j<E.length)/\Oh H.length (x.1.map λj=>fZ (E.getD j Ry)) x.2.2.1 x.2.2.2/\Has x.2.1 ((bm,.mF b5 E.length (x.1))::(b4,.cells [.sl ids.length (ints ids) (.own td),x.2.2.1,.sl 0 [] .full])::(x.2.2.2++(b2,.cells [.sl 0 [] .full,.sl 0 [] .full,.sl 0 [] .full])::(b6,.map (bM F))::(b5,.map (cz E))::(jf F++dV E)))/\gM H x.2.1/\bJ x.2.1 U/\J1.length<=x.2.1.length) (λx=>E.length-x.1.length) ([],J1,.sl 0 [] .full,[]) ?_ ?_ ?_
 ·exact⟨List.nodup_nil,λj hj=>by simp at hj,⟨.inl ⟨rfl,rfl,rfl⟩⟩,q1,q9',rv,ahj _⟩
 ·refine ag [] [] ?_ ?_ ?_ ?_ rv ?_
  all_goals simp
  all_goals omega
 ·rintro⟨seen,J2,tv,TB⟩ ⟨k1,k2,k3,k4,k5,k6,k7⟩;simp only at k1 k2 k3 k4 k5 k6 k7;have em:=aW (k4.get (i:=bm) (b:=.mF b5 E.length seen) (by simp));have e5:=aW (k4.get (i:=b5) (b:=.map (cz E)) (by simp));have lm2:bm<J2.length:=by omega
  have l52:b5<J2.length:=by omega
  have XB:b4<J2.length:=by omega
  have Ni:=k5.le;refine ae λK hK=>?_;simp(disch:=omega)[em,e5];unfold Jk;refine⟨CF.symm,λhall=>?_,λj kk v hj XF=>?_⟩
  ·simp(disch:=omega) ;apply hK;refine af λK2 bc=>?_;apply aD rfl;apply aF;simp(disch:=omega) ;refine go _ J2 _ tv TB ?_ k3 (k4.sub (aih _ _)) k5 k6 ?_
   ·have hp:=(H3 k1 k2 hall).map λj=>fZ (E.getD j Ry);refine hp.trans (List.Perm.of_eq ?_);apply ajd
    ·simp
    ·intro i h1 h2;simp only[aia,ajO];rw[ahg,ahi (by simpa using h2)];rfl
   ·simp;omega
  ·have hja:=aW hj;obtain⟨hjw,en,hen,rfl,rfl⟩:∃(hjw:j<E.length) (en:En),E.getD j Ry=en/\kk=mZ en.k/\v=.bG en.i en.n en.cap:=by
    rw[cz,aip,ai6] at hj;obtain⟨en,h1,h2⟩:=hj;rw[Prod.mk.injEq] at h2;exact⟨(ahh.1 h1).1,en,by rw[ahg,h1];rfl,h2.1.symm,h2.2.symm⟩
   have hle:seen.length<E.length:=by
    have:=Qi E.length (seen++[j]) (by rw[ah2];exact⟨k1,by simp,λa ha b hb=>by simp at hb;rw[hb];exact λe=>XF (by rw[<-e];exact ha)⟩) (λa ha=>by
     rcases ahw.1 ha with ha|ha
     ·exact k2 a ha
     ·simp at ha;rw[ha];exact hjw)
    simp at this;omega
   have k1':(seen++[j]).Nodup:=by
    rw[ah2];exact⟨k1,by simp,λa ha b hb=>by simp at hb;rw[hb];exact λe=>XF (by rw[<-e];exact ha)⟩
   have Yi:∀a∈seen++[j],a<E.length:=λa ha=>by
    rcases ahw.1 ha with ha|ha
    ·exact k2 a ha
    ·simp at ha;rw[ha];exact hjw
   have tY:en.i<J2.length:=by
    have:en∈E:=by rw[<-hen];exact aS E j Ry hjw
    exact k4.lt (i:=en.i) (b:=en.blk) (by
     have:(en.i,en.blk)∈dV E:=ahl.2 ⟨en,this,rfl⟩;simp[this])
   have zy:=Has.set (A:=[]) (B:=(b4,.cells [.sl ids.length (ints ids) (.own td),tv,.sl 0 [] .full])::(TB++(b2,.cells [.sl 0 [] .full,.sl 0 [] .full,.sl 0 [] .full])::(b6,.map (bM F))::(b5,.map (cz E))::(jf F++dV E))) (b:=.mF b5 E.length seen) k4 (.mF b5 E.length (seen++[j]));have hP3:=k5.set afn (.mF b5 E.length (seen++[j]));have YJ:bJ (J2.set bm (.mF b5 E.length (seen++[j]))) U:=k6.WV;have hl3:(J2.set bm (.mF b5 E.length (seen++[j]))).length=J2.length:=by simp
   generalize J2.set bm (.mF b5 E.length (seen++[j]))=J3 at *;have em:=aW (zy.get (i:=bm) (b:=.mF b5 E.length (seen++[j])) (by simp));have e5:=aW (zy.get (i:=b5) (b:=.map (cz E)) (by simp));have lm3:bm<J3.length:=by omega
   have l53:b5<J3.length:=by omega
   have l43:b4<J3.length:=by omega
   clear lm2 l52 XB k4;simp(disch:=omega)[mZ];apply hK;refine af λK2 bc=>?_;apply aG rfl;apply aq;simp(disch:=omega) ;apply bc;clear bc;apply aj;have qN:j<(cz E).length:=by omega
   refine ae λK hK=>?_;simp(disch:=omega)[em,e5,hja,CF,List.getLast?_append,mZ];apply hK;have Yu:bJ (J3++[.cells [.int .i64 en.k.1,.str en.k.2]]) U:=YJ.snoc (by simp);have Gu:=(zy.new (.cells [.int .i64 en.k.1,.str en.k.2])).perm (ah6 _ _).symm;have hP4:=hP3.app [az.cells [.int .i64 en.k.1,.str en.k.2]];have XI:(J3++[az.cells [.int .i64 en.k.1,.str en.k.2]]).length=J3.length+1:=by simp
   obtain⟨yI,UR⟩:∃i,i=J3.length:=⟨_,rfl⟩
   rw[<-UR] at Gu;simp only[<-UR];have afd:en.i<(J3++[az.cells [.int .i64 en.k.1,.str en.k.2]]).length:=by omega
   clear em e5 zy;generalize J3++[az.cells [.int .i64 en.k.1,.str en.k.2]]=J4 at *;have VZ:=aW (Gu.get (i:=yI) (b:=.cells [.int .i64 en.k.1,.str en.k.2]) (by simp));have e4:=aW (Gu.get (i:=b4) (b:=.cells [.sl ids.length (ints ids) (.own td),tv,.sl 0 [] .full]) (by simp));have l17:yI<J4.length:=by omega
   have l4:b4<J4.length:=by omega
   have l6':=Gu.lt (i:=b6) (b:=.map (bM F)) (by simp);have l2':=Gu.lt (i:=b2) (b:=.cells [.sl 0 [] .full,.sl 0 [] .full,.sl 0 [] .full]) (by simp);have l5':=Gu.lt (i:=b5) (b:=.map (cz E)) (by simp);have lm':=Gu.lt (i:=bm) (b:=.mF b5 E.length (seen++[j])) (by simp);have lH4:=hP4.le;have ag0:td<U.length:=q2.lt (b:=(ids.length,1)) (by simp);have ua:(seen++[j]).map (λj=>fZ (E.getD j Ry))=seen.map (λj=>fZ (E.getD j Ry))++[(en.k,.cK en.i 0 en.n)]:=by
    rw[ahx,List.map_singleton,hen];rfl
   have zp:(seen.map λj=>fZ (E.getD j Ry)).length=seen.length:=by simp
   generalize agK:seen.map (λj=>fZ (E.getD j Ry))=rows at *;have fin:∀(e:Env) (J5:List az) (zh:AV) (Y4:List (Nat×az)),Oh H.length (rows++[(en.k,.cK en.i 0 en.n)]) zh Y4->Has J5 ((yI,.cells [.int .i64 en.k.1,.str en.k.2])::(bm,.mF b5 E.length (seen++[j]))::(b4,.cells [.sl ids.length (ints ids) (.own td),zh,.sl 0 [] .full])::(Y4++(b2,.cells [.sl 0 [] .full,.sl 0 [] .full,.sl 0 [] .full])::(b6,.map (bM F))::(b5,.map (cz E))::(jf F++dV E)))->gM H J5->bJ J5 U->J4.length<=J5.length->
     bu J5.length U.length e [(2,.ptr b2 0),(4,.ptr b4 0),(5,.aP b5),(6,.aP b6),(151,.ptr bm 0)]->∃x':List Nat×List az×AV×List (Nat×az),(x'.1.Nodup/\(∀j∈x'.1,j<E.length)/\Oh H.length (x'.1.map λj=>fZ (E.getD j Ry)) x'.2.2.1 x'.2.2.2/\Has x'.2.1 ((bm,.mF b5 E.length (x'.1))::(b4,.cells [.sl ids.length (ints ids) (.own td),x'.2.2.1,.sl 0 [] .full])::(x'.2.2.2++(b2,.cells [.sl 0 [] .full,.sl 0 [] .full,.sl 0 [] .full])::(b6,.map (bM F))::(b5,.map (cz E))::(jf F++dV E)))/\gM H x'.2.1/\bJ x'.2.1 U/\J1.length<=x'.2.1.length)/\E.length-x'.1.length<E.length-seen.length/\
      ui ⟨prog,192,152,nb,tb,[100104,100147,100166]⟩ ⟨e,J5,U⟩ ⟨[(2,.ptr b2 0),(4,.ptr b4 0),(5,.aP b5),(6,.aP b6),(151,.ptr bm 0)],x'.2.1,U⟩:=by
    intro e J5 zh Y4 t1 t2 t3 t4 t5 t6;refine⟨(seen++[j],J5,zh,Y4),⟨k1',Yi,?_,t2.sub (aih _ _),t3,t4,by show J1.length<=J5.length;omega⟩,?_,?_⟩
    ·show Oh H.length ((seen++[j]).map λj=>fZ (E.getD j Ry)) zh Y4;rw[ua];exact t1
    ·show E.length-(seen++[j]).length<_;rw[ahk,aib];omega
    ·exact ag [] [] (by simp) (by simp) (by show nb<=J5.length;have:=t3.le;omega) (by show tb<=_;omega) t4 t6
   rcases k3.h with⟨zq,rfl,rfl⟩|⟨it,cap,rest,rfl,rfl,g1,g2,g3,g4⟩
   ·refine aB λK hK=>?_;simp(disch:=omega)[VZ,e4,ahp];intro nc lC;apply hK;rw[<-List.set_append_left _ _ l4];have hRB:aK (J4.length+1) U.length (.int .i64 en.k.1::.str en.k.2::.cK en.i 0 en.n::List.replicate ((nc-1)*3) .top):=by
     simp;omega
    have RY:=(Gu.new (.cells (.int .i64 en.k.1::.str en.k.2::.cK en.i 0 en.n::List.replicate ((nc-1)*3) .top)))
    have YI:bJ (J4++[.cells (.int .i64 en.k.1::.str en.k.2::.cK en.i 0 en.n::List.replicate ((nc-1)*3) .top)]) U:=Yu.snoc hRB;have YH:=hP4.app [az.cells (.int .i64 en.k.1::.str en.k.2::.cK en.i 0 en.n::List.replicate ((nc-1)*3) .top)];have hl5:(J4++[az.cells (.int .i64 en.k.1::.str en.k.2::.cK en.i 0 en.n::List.replicate ((nc-1)*3) .top)]).length=J4.length+1:=by simp
    obtain⟨it,hit⟩:∃i,i=J4.length:=⟨_,rfl⟩
    rw[<-hit] at RY;simp only[<-hit];generalize J4++[az.cells (.int .i64 en.k.1::.str en.k.2::.cK en.i 0 en.n::List.replicate ((nc-1)*3) .top)]=J5 at *;have YK:=Has.set (A:=[(yI,.cells [.int .i64 en.k.1,.str en.k.2]),(bm,.mF b5 E.length (seen++[j]))]) (B:=((b2,.cells [.sl 0 [] .full,.sl 0 [] .full,.sl 0 [] .full])::(b6,.map (bM F))::(b5,.map (cz E))::(jf F++dV E))++[(it,.cells (.int .i64 en.k.1::.str en.k.2::.cK en.i 0 en.n::List.replicate ((nc-1)*3) .top))]) (b:=.cells [.sl ids.length (ints ids) (.own td),.sl 0 [] .full,.sl 0 [] .full]) (by simpa using RY) (.cells [.sl ids.length (ints ids) (.own td),.bG it 1 nc,.sl 0 [] .full]);refine fin _ _ (.bG it 1 nc) [(it,.cells (.int .i64 en.k.1::.str en.k.2::.cK en.i 0 en.n::List.replicate ((nc-1)*3) .top))] ⟨.inr ⟨it,nc,List.replicate ((nc-1)*3) .top,by rw[zq];rfl,by rw[zq];rfl,by rw[zq];simp,by rw[zq];simpa using lC,by omega,by simp⟩⟩ ?_ (YH.set Gs _) (YI.set (by simp;omega)) (by simp;omega) ?_
    ·refine YK.perm ?_;refine List.Perm.cons _ (List.Perm.cons _ (List.Perm.cons _ ?_));exact(ah6 _ _).symm
    ·simp;omega
   ·have gi:=Gu.get (i:=it) (b:=.cells (eM rows++rest)) (by simp);have lit:=(ahh.1 gi).1;have vO:(eM rows++rest).length=rows.length*3+rest.length:=by rw[ahk,tq]
    have iH:(eM rows++rest).take (rows.length*3)=eM rows:=aij (by rw[tq]);have hdr:(eM rows++rest).drop ((rows.length+1)*3)=rest.drop 3:=by
     rw[List.drop_append,ajB (by rw[tq];omega),aiQ,tq]
     congr 1;omega
    have yS:(rows++[(en.k,AV.cK en.i 0 en.n)]).length=rows.length+1:=by simp
    refine aB λK hK=>?_;simp(disch:=omega)[VZ,e4];refine⟨171,_,[.int .i64 en.k.1,.str en.k.2,.cK en.i 0 en.n],1,by kernel_rfl,gi,by rw[vO,xZ];omega,by simp,by simp;omega,by omega,by kernel_rfl,by simp,λhle=>?_,λnc hlt lC=>?_⟩
    ·simp only[xZ,iH,hdr];rw[show az.cells (eM rows++[.int .i64 en.k.1,.str en.k.2,.cK en.i 0 en.n]++rest.drop 3)=.cells (eM (rows++[(en.k,.cK en.i 0 en.n)])++rest.drop 3) by rw[qo]];have RY:=Has.set (A:=[(yI,.cells [.int .i64 en.k.1,.str en.k.2]),(bm,.mF b5 E.length (seen++[j])),(b4,.cells [.sl ids.length (ints ids) (.own td),.bG it rows.length cap,.sl 0 [] .full])]) (B:=(b2,.cells [.sl 0 [] .full,.sl 0 [] .full,.sl 0 [] .full])::(b6,.map (bM F))::(b5,.map (cz E))::(jf F++dV E)) (b:=.cells (eM rows++rest)) (by simpa using Gu) (.cells (eM (rows++[(en.k,.cK en.i 0 en.n)])++rest.drop 3));have YH:=hP4.set g3 (.cells (eM (rows++[(en.k,.cK en.i 0 en.n)])++rest.drop 3));have YI:bJ (J4.set it (.cells (eM (rows++[(en.k,.cK en.i 0 en.n)])++rest.drop 3))) U:=by
      refine Yu.set ?_;have:=Yu it (.cells (eM rows++rest)) gi;simp only[az.Be] at this;intro v hv;rcases ahw.1 hv with hv|hv
      ·rw[<-qo] at hv;rcases ahw.1 hv with hv|hv
       ·exact this v (ahG _ hv)
       ·simp at hv;rcases hv with rfl|rfl|rfl
        ·exact .int _ _
        ·exact .str _
        ·exact .cK _ _ _ afd
      ·exact this v (ajp _ (List.mem_of_mem_drop hv))
     have hl5:(J4.set it (.cells (eM (rows++[(en.k,.cK en.i 0 en.n)])++rest.drop 3))).length=J4.length:=by simp
     generalize J4.set it (.cells (eM (rows++[(en.k,.cK en.i 0 en.n)])++rest.drop 3))=J5 at *;have e4:=aW (RY.get (i:=b4) (b:=.cells [.sl ids.length (ints ids) (.own td),.bG it rows.length cap,.sl 0 [] .full]) (by simp));have l4:b4<J5.length:=by omega
     simp(disch:=omega)[e4];apply hK;have YK:=Has.set (A:=[(yI,.cells [.int .i64 en.k.1,.str en.k.2]),(bm,.mF b5 E.length (seen++[j]))]) (B:=(it,.cells (eM (rows++[(en.k,.cK en.i 0 en.n)])++rest.drop 3))::(b2,.cells [.sl 0 [] .full,.sl 0 [] .full,.sl 0 [] .full])::(b6,.map (bM F))::(b5,.map (cz E))::(jf F++dV E)) (b:=.cells [.sl ids.length (ints ids) (.own td),.bG it rows.length cap,.sl 0 [] .full]) (by simpa using RY) (.cells [.sl ids.length (ints ids) (.own td),.bG it (rows.length+1) cap,.sl 0 [] .full]);refine fin _ _ (.bG it (rows.length+1) cap) [(it,.cells (eM (rows++[(en.k,.cK en.i 0 en.n)])++rest.drop 3))] ⟨.inr ⟨it,cap,rest.drop 3,by rw[yS],rfl,by rw[yS,ah4];omega,by rw[yS];exact hle,g3,by rw[yS];omega⟩⟩ (by simpa using YK) (YH.set Gs _) (YI.set (by simp;omega)) (by simp;omega) ?_;simp;omega
    ·simp only[xZ,iH];obtain⟨r2,oS⟩:∃r2,r2=List.replicate ((nc-(rows.length+1))*3) AV.top:=⟨_,rfl⟩
     have NX:r2.length=(nc-(rows.length+1))*3:=by rw[oS];simp
     have Wm:aK (J4.length+1) U.length r2:=by rw[oS];simp
     rw[<-oS];rw[show az.cells (eM rows++[.int .i64 en.k.1,.str en.k.2,.cK en.i 0 en.n]++r2)=.cells (eM (rows++[(en.k,.cK en.i 0 en.n)])++r2) by rw[qo]];have RY:=(Gu.sub (S':=(yI,.cells [.int .i64 en.k.1,.str en.k.2])::(bm,.mF b5 E.length (seen++[j]))::(b4,.cells [.sl ids.length (ints ids) (.own td),.bG it rows.length cap,.sl 0 [] .full])::(b2,.cells [.sl 0 [] .full,.sl 0 [] .full,.sl 0 [] .full])::(b6,.map (bM F))::(b5,.map (cz E))::(jf F++dV E)) (.cons_cons _ (.cons_cons _ (.cons_cons _ (aih _ _))))).new (.cells (eM (rows++[(en.k,.cK en.i 0 en.n)])++r2));have YH:=hP4.app [az.cells (eM (rows++[(en.k,.cK en.i 0 en.n)])++r2)];have YI:bJ (J4++[.cells (eM (rows++[(en.k,.cK en.i 0 en.n)])++r2)]) U:=by
      refine Yu.snoc ?_;have:=Yu it (.cells (eM rows++rest)) gi;simp only[az.Be] at this;intro v hv;rcases ahw.1 hv with hv|hv
      ·rw[<-qo] at hv;rcases ahw.1 hv with hv|hv
       ·exact(this v (ahG _ hv)).more (aid _) (ahj _)
       ·simp at hv;rcases hv with rfl|rfl|rfl
        ·exact .int _ _
        ·exact .str _
        ·exact .cK _ _ _ (by omega)
      ·exact Wm v hv
     have hl5:(J4++[az.cells (eM (rows++[(en.k,.cK en.i 0 en.n)])++r2)]).length=J4.length+1:=by simp
     obtain⟨i2,hi2⟩:∃i,i=J4.length:=⟨_,rfl⟩
     rw[<-hi2] at RY;simp only[<-hi2];generalize J4++[az.cells (eM (rows++[(en.k,.cK en.i 0 en.n)])++r2)]=J5 at *;have e4:=aW (RY.get (i:=b4) (b:=.cells [.sl ids.length (ints ids) (.own td),.bG it rows.length cap,.sl 0 [] .full]) (by simp));have l4:b4<J5.length:=by omega
     simp(disch:=omega)[e4];apply hK;have YK:=Has.set (A:=[(yI,.cells [.int .i64 en.k.1,.str en.k.2]),(bm,.mF b5 E.length (seen++[j]))]) (B:=((b2,.cells [.sl 0 [] .full,.sl 0 [] .full,.sl 0 [] .full])::(b6,.map (bM F))::(b5,.map (cz E))::(jf F++dV E))++[(i2,.cells (eM (rows++[(en.k,.cK en.i 0 en.n)])++r2))]) (b:=.cells [.sl ids.length (ints ids) (.own td),.bG it rows.length cap,.sl 0 [] .full]) (by simpa using RY) (.cells [.sl ids.length (ints ids) (.own td),.bG i2 (rows.length+1) nc,.sl 0 [] .full]);refine fin _ _ (.bG i2 (rows.length+1) nc) [(i2,.cells (eM (rows++[(en.k,.cK en.i 0 en.n)])++r2))] ⟨.inr ⟨i2,nc,r2,by rw[yS],rfl,by rw[yS];exact NX,by rw[yS];exact lC,by omega,by rw[yS];omega⟩⟩ ?_ (YH.set Gs _) (YI.set (by simp;omega)) (by simp;omega) ?_
     ·refine YK.perm ?_;refine List.Perm.cons _ (List.Perm.cons _ (List.Perm.cons _ ?_));exact(ah6 _ _).symm
     ·simp;omega
abbrev ccC (e:Ef):List AV:=[.int .i64 e.f,.cK e.i 0 e.x.length]
def v7 (l:List Ef):List AV:=l.flatMap λe=>[.int .i64 e.f,.cK e.i 0 e.x.length]
def JV:eu ccC 2:=λ_=>rfl
def E4 (l:List Ef):(v7 l).length=l.length*2:=bU JV l
def sA (e:Ef):Ef:={ e with x:=pB e.x }
def z7 (l:List Nm):(pB l).length=l.length:=ajq _
def fQ (m:Int)(F:List Ef):List Ef:=F.map λe=>if 5<=e.f/\e.f<m then sA e else e
def Hs (F:List Ef):fQ 5 F=F:=by
 simp only[fQ]
 conv=>rhs;rw[<-List.map_id F]
 refine ahW λe _=>?_;rw[ahq (by omega)];rfl
def Lo {F1 F2:List Ef}{e:Ef}(h:((F1++e::F2).map (·.f)).Nodup)(h5:5<=e.f):fQ (e.f+1) (F1++e::F2)=fQ e.f F1++sA e::fQ e.f F2/\fQ e.f (F1++e::F2)=fQ e.f F1++e::fQ e.f F2:=by
 have h1:∀x,x∈F1\/x∈F2->x.f≠e.f:=by
  rw[ahx,ahX,ah2,ajz] at h;rintro x (hx|hx)
  ·exact h.2.2 x.f (ahl.2 ⟨x,hx,rfl⟩) e.f (by simp)
  ·exact λee=>h.2.1.1 (ee▸ahl.2 ⟨x,hx,rfl⟩)
 have h2:∀l:List Ef,(∀x∈l,x.f≠e.f)->fQ (e.f+1) l=fQ e.f l:=λl hl=>by
  refine ahW λx hx=>?_;have:=hl x hx
  by_cases hh:5<=x.f/\x.f<e.f
  ·rw[ahs hh,ahs (by omega)]
  ·rw[ahq hh,ahq (by omega)]
 constructor
 ·rw[<-h2 F1 (λx hx=>h1 x (.inl hx)),<-h2 F2 (λx hx=>h1 x (.inr hx))];simp only[fQ,ahx,ahX];rw[ahs (by omega:5<=e.f/\e.f<e.f+1)]
 ·simp only[fQ,ahx,ahX];rw[ahq (by omega:¬(5<=e.f/\e.f<e.f))]
def Py {F:List Ef}{m:Int}(h:m∉F.map (·.f)):fQ (m+1) F=fQ m F:=by
 refine ahW λx hx=>?_;have:x.f≠m:=λee=>h (ee▸ahl.2 ⟨x,hx,rfl⟩)
 by_cases hh:5<=x.f/\x.f<m
 ·rw[ahs hh,ahs (by omega)]
 ·rw[ahq hh,ahq (by omega)]
def jy (F:List Ef):Nat->List Ef
 |0=>[]
 |g+1=>match F.find? (λe=>e.f==(5+g:Int)) with
  |some e=>jy F g++[sA e]
  |none=>jy F g
def CV (T U:au)(aN:List Ef)(cv:AV):Prop:=(aN=[]/\cv=.sl 0 [] .full)\/∃tc,cv=.sl aN.length (v7 aN) (.own tc)/\U[tc]?=some (aN.length*2,2)/\T.length<=tc
attribute [-simp] List.getD_eq_getElem?_getD in
theorem MU (H:List az)(T:au)(nb tb N:Nat)(gG:nb<=H.length)(fY:tb<=T.length)(b2 b4 b6:Nat)(dv tv:AV)(F:List Ef)(J:List az)(U:au)(R:List (Nat×az))
  (hJ:Has J ((b4,.cells [dv,tv,.sl 0 [] .full])::(b6,.map (bM F))::(jf F++R))) (hF:∀e∈F,SG H.length N e) (hN:N<=1099511627776) (mU:(F.map (·.f)).Nodup) (nu:dq prog 3 (bM F)=true) (hP:gM H J) (Gd:gM T U) (hO:bJ J U) (Gs:H.length<=b4) (jH:b2<J.length)
  (ND:Below J.length U.length tv) (UQ:Below J.length U.length dv) (Q:Exit->St->Prop)
  (go:∀(e:Env)(J':List az)(U':au)(cv:AV),CV T U' (jy F 3) cv->Has J' ((b4,.cells [dv,tv,cv])::(b6,.map (bM F))::(jf (fQ 8 F)++R))->gM H J'->gM T U'->bJ J' U'->J.length<=J'.length->bu J'.length U'.length e [(2,.ptr b2 0),(4,.ptr b4 0),(6,.aP b6)]->Q .normal ⟨e,J',U'⟩) :
  AW ⟨prog,192,152,nb,tb,[100104,100147,100166]⟩ (dY [1,1,1,1,1,1,1,1,1,1,1,0] (Tryz.f68.body.getD .skip)) Q ⟨[(2,.ptr b2 0),(4,.ptr b4 0),(6,.aP b6)],J,U⟩:=by
 conv=>arg 2;whnf
 have lH:=hP.le;have lT:=Gd.le;have l4:=hJ.lt (i:=b4) (b:=.cells [dv,tv,.sl 0 [] .full]) (by simp);have l6:=hJ.lt (i:=b6) (b:=.map (bM F)) (by simp);apply ae;intro K Z;simp(disch:=omega);apply Z;apply aj;refine aI (X:=Nat×List az×au×AV) (λx=>⟨[(2,.ptr b2 0),(4,.ptr b4 0),(6,.aP b6),(19,.int .i64 (5+x.1:Int))],x.2.1,x.2.2.1⟩)
  (λx=>x.1<=3/\CV T x.2.2.1 (jy F x.1) x.2.2.2/\Has x.2.1 ((b4,.cells [dv,tv,x.2.2.2])::(b6,.map (bM F))::(jf (fQ (5+x.1:Int) F)++R))/\gM H x.2.1/\gM T x.2.2.1/\bJ x.2.1 x.2.2.1/\J.length<=x.2.1.length/\U.length<=x.2.2.1.length) (λx=>3-x.1) (0,J,U,.sl 0 [] .full) ?_ ?_ ?_
 ·refine⟨by omega,.inl ⟨rfl,rfl⟩,?_,hP,Gd,hO,ahj _,ahj _⟩;have:=Hs F;simp only[Int.add_zero,Int.natCast_zero];show Has J ((b4,.cells [dv,tv,.sl 0 [] .full])::(b6,.map (bM F))::(jf (fQ 5 F)++R));rw[this];exact hJ
 ·refine ag [] [] ?_ ?_ ?_ ?_ hO ?_
  all_goals simp
  all_goals omega
 ·rintro⟨g,J2,U2,cv⟩ ⟨k1,k2,k3,k4,k5,k6,k7,k8⟩;simp only at k1 k2 k3 k4 k5 k6 k7 k8;have Ni:=k4.le;have Rf:=k5.le;have l62:=k3.lt (i:=b6) (b:=.map (bM F)) (by simp);have XB:b4<J2.length:=by omega
  have e6:=aW (k3.get (i:=b6) (b:=.map (bM F)) (by simp));have e4:=aW (k3.get (i:=b4) (b:=.cells [dv,tv,cv]) (by simp));refine af λK2 bc=>?_
  by_cases hg:g<3
  rotate_left
  ·have bg:decide ((5:Int)+g<=7)=false:=ahn (by omega);have ng:¬(5:Int)+g<=7:=by omega
   refine ae λK hK=>?_;simp(disch:=omega)[bg,ng];apply hK;apply aD rfl;apply aF;simp(disch:=omega) ;have hg3:g=3:=by omega
   subst hg3;refine go _ J2 U2 cv k2 k3 k4 k5 k6 (by omega) ?_;simp;omega
  ·have bg:decide ((5:Int)+g<=7)=true:=ahm (by omega);have ng:(5:Int)+g<=7:=by omega
   have hc1:(5+((g+1:Nat):Int))=5+(g:Int)+1:=by omega
   have yL:=KD (5+g) (by omega);have kY:kU (5+g)=.one (.int .i64 (5+g)):=rfl;rw[kY] at yL;refine ae λK hK=>?_;simp(disch:=omega)[bg,ng];apply hK;apply aG rfl;apply aq;simp(disch:=omega) ;apply bc;clear bc;refine af λK3 bD=>?_;apply aj;have fin:∀(e:Env)(J3:List az)(U3:au)(NN:AV),CV T U3 (jy F (g+1)) NN->Has J3 ((b4,.cells [dv,tv,NN])::(b6,.map (bM F))::(jf (fQ (5+g+1:Int) F)++R))->gM H J3->gM T U3->bJ J3 U3->J.length<=J3.length->U.length<=U3.length->bu J3.length U3.length e [(2,.ptr b2 0),(4,.ptr b4 0),(6,.aP b6),(19,.int .i64 (5+g:Int))]->K3 ⟨e,J3,U3⟩:=by
    intro e J3 U3 NN t1 t2 t3 t4 t5 t6 t7 t8;have Kf:=t3.le;have Ke:=t4.le;have l63:=t2.lt (i:=b6) (b:=.map (bM F)) (by simp);have l43:=t2.lt (i:=b4) (b:=.cells [dv,tv,NN]) (by simp);refine bD _ (aH ⟨[(2,.ptr b2 0),(4,.ptr b4 0),(6,.aP b6),(19,.int .i64 (5+g:Int))],J3,U3⟩ (ag [] [] (by simp) (by simp) (by show nb<=J3.length;omega) (by show tb<=U3.length;omega) t5 t8) ?_);refine aB λK hK=>?_;simp(disch:=omega) ;apply hK;refine⟨(g+1,J3,U3,NN),⟨by show g+1<=3;omega,t1,by simp only[hc1];exact t2,t3,t4,t5,t6,t7⟩,by show 3-(g+1)<3-g;omega,?_⟩;refine ag [] [] ?_ ?_ ?_ ?_ t5 ?_
    all_goals simp
    all_goals omega
   clear bD
   by_cases hex:(5+g:Int)∈F.map (·.f)
   rotate_left
   ·have eE:jg (bM F) (.one (.int .i64 (5+g))) (.sl 0 [] .full) false=.sl 0 [] .full:=by
     unfold jg;rw[<-kY,qw (uS hex)];rfl
    have Yz:F.find? (λe=>e.f==(5+g:Int))=none:=by
     rw[aiy];intro x hx;have:x.f≠5+g:=λee=>hex (ahl.2 ⟨x,hx,ee⟩);simpa using this
    refine ae λK hK=>?_;simp(disch:=omega)[wy,tj,yL,nu,e6,eE];apply hK;apply ae;intro K Z;simp(disch:=omega);apply Z;apply aD rfl;apply aq;simp(disch:=omega) ;refine fin _ J2 U2 cv ?_ ?_ k4 k5 k6 (by omega) (by omega) ?_
    ·unfold jy;rw[Yz];exact k2
    ·rw[Py hex];exact k3
    ·simp;omega
   ·obtain⟨e,NJ,zx⟩:=ahl.1 hex;obtain⟨F1,F2,rfl⟩:=ajF NJ;have jK:=hF _ NJ;obtain⟨m1,m2⟩:=Lo mU (by omega);have vX:=EK mU;rw[zx] at m1 m2 vX;have hfd:(F1++e::F2).find? (λx=>x.f==(5+g:Int))=some e:=by rw[n9 mU,ahs zx.symm]
    have Kx:jy (F1++e::F2) (g+1)=jy (F1++e::F2) g++[sA e]:=by
     rw[jy,hfd]
    have eE:jg (bM (F1++e::F2)) (.one (.int .i64 (5+g))) (.sl 0 [] .full) false=.bG e.i e.x.length e.cap:=by
     unfold jg;rw[<-kY,vX];rfl
    obtain⟨p1,p2,p3,p4,p5⟩:=jK;have bl:decide ((0:Int)<(e.x.length:Int))=true:=ahm (by omega);have k3b:Has J2 ((b4,.cells [dv,tv,cv])::(b6,.map (bM (F1++e::F2)))::(jf (fQ (5+g) F1)++(e.i,.cells (br e.x++e.rest))::(jf (fQ (5+g) F2)++R))):=by
     rw[m2] at k3;simpa[jf,Ef.blk] using k3
    have gi:=k3b.get (i:=e.i) (b:=.cells (br e.x++e.rest)) (by simp);have li:=(ahh.1 gi).1;have cs:=λU=>Lv e.x e.rest e.i e.cap (by omega) J2 U gi;have zy:=Has.set (A:=(b4,.cells [dv,tv,cv])::(b6,.map (bM (F1++e::F2)))::jf (fQ (5+g) F1)) (B:=jf (fQ (5+g) F2)++R) (b:=.cells (br e.x++e.rest)) (by simpa using k3b) (.cells (br (pB e.x)++e.rest));have N7:Has (J2.set e.i (.cells (br (pB e.x)++e.rest))) ((b4,.cells [dv,tv,cv])::(b6,.map (bM (F1++e::F2)))::(jf (fQ (5+g+1) (F1++e::F2))++R)):=by
     rw[m1];simpa[jf,Ef.blk,sA] using zy
    have hP3:=k4.set p4 (.cells (br (pB e.x)++e.rest));have hl3:(J2.set e.i (.cells (br (pB e.x)++e.rest))).length=J2.length:=by simp
    generalize hFF:F1++e::F2=FF at *;refine ae λK hK=>?_;simp(disch:=omega)[wy,tj,yL,nu,e6,eE];apply hK;refine ae λK hK=>?_;simp(disch:=omega)[bl,p5];apply hK;apply aG rfl;refine ae λK hK=>?_;simp(disch:=omega) ;refine ak (cs _) ?_;simp(disch:=omega) ;apply hK;have YJ:bJ (J2.set e.i (.cells (br (pB e.x)++e.rest))) U2:=by
     refine k6.set ?_;have:=k6 e.i (.cells (br e.x++e.rest)) gi;simp only[az.Be] at this;intro v hv;rcases ahw.1 hv with hv|hv
     ·exact x8 _ _ _ v hv
     ·exact this v (ajp _ hv)
    clear e4 e6 gi;generalize J2.set e.i (.cells (br (pB e.x)++e.rest))=J3 at *;have e4:=aW (N7.get (i:=b4) (b:=.cells [dv,tv,cv]) (by simp));have l43:b4<J3.length:=by omega
    have CE:e.i<J3.length:=by omega
    have hBe:∀U':au,True:=λ_=>trivial;have l63:=N7.lt (i:=b6) (b:=.map (bM FF)) (by simp);rcases k2 with⟨mG,rfl⟩|⟨tc,rfl,htc,Zh⟩
    ·refine aB λK hK=>?_;simp(disch:=omega)[e4];apply hK;have Gu:=Has.set (A:=[]) (B:=(b6,.map (bM FF))::(jf (fQ (5+g+1) FF)++R)) (b:=.cells [dv,tv,.sl 0 [] .full]) (by simpa using N7) (.cells [dv,tv,.sl 1 [.int .i64 (5+g),.cK e.i 0 e.x.length] (.own U2.length)]);refine fin _ _ _ (.sl 1 [.int .i64 (5+g),.cK e.i 0 e.x.length] (.own U2.length)) ?_ Gu (hP3.set Gs _) (k5.app _) ?_ (by simp;omega) (by simp;omega) ?_
     ·refine .inr ⟨U2.length,?_,by rw[Kx,mG];simp,by omega⟩;rw[Kx,mG];simp[v7,sA,z7,zx]
     ·refine(YJ.kC (by simp)).set ?_;have h1:=ND.more (n':=J3.length) (t':=(U2++[(2,2)]).length) (by omega) (by simp;omega);have h2:=UQ.more (n':=J3.length) (t':=(U2++[(2,2)]).length) (by omega) (by simp;omega);simp[h1,h2,CE];exact⟨by simpa using h2,by simpa using h1⟩
     ·simp;omega
    ·have ltc:=(ahh.1 htc).1;have eU:=aW htc;have hcl:=E4 (jy FF g);have aha:(jy FF g).length<=3:=by
      have:∀k,(jy FF k).length<=k:=by
       intro k
       induction k with
       |zero=>exact ahj _
       |succ k ih=>
        unfold jy
        split
        ·simp;omega
        ·omega
      have:=this g;omega
     refine aB λK hK=>?_;simp(disch:=omega)[e4,eU,hcl];apply hK;have Gu:=Has.set (A:=[]) (B:=(b6,.map (bM FF))::(jf (fQ (5+g+1) FF)++R)) (b:=.cells [dv,tv,.sl (jy FF g).length (v7 (jy FF g)) (.own tc)]) (by simpa using N7) (.cells [dv,tv,.sl ((jy FF g).length+1) (v7 (jy FF g)++[.int .i64 (5+g),.cK e.i 0 e.x.length]) (.own tc)]);refine fin _ _ _ (AV.sl ((jy FF g).length+1) (v7 (jy FF g)++[AV.int .i64 (5+g),AV.cK e.i 0 e.x.length]) (.own tc)) ?_ Gu (hP3.set Gs _) (k5.set Zh _) ?_ (by simp;omega) (by simp;omega) ?_
     ·refine .inr ⟨tc,?_,?_,Zh⟩
      ·rw[Kx];simp[v7,sA,z7,zx]
      ·rw[Kx,ahK ltc];simp
       try omega
     ·refine(YJ.kC (by simp)).set ?_;have h0:=YJ b4 _ (N7.get (i:=b4) (b:=.cells [dv,tv,.sl (jy FF g).length (v7 (jy FF g)) (.own tc)]) (by simp));simp only[az.Be,ahL,List.not_mem_nil,aj2,forall_eq_or_imp,forall_eq] at h0;obtain⟨h1,h2,h3⟩:=h0;simp at h3;simp[h1,h2,h3.1,h3.2,CE]
     ·simp;omega
inductive sH:List Dc->List En->List Ef->Prop
 |nil:sH [] [] []
 |snoc {l:List Dc} {d:Dc} {E E':List En} {F F':List Ef} (h:sH l E F) (h1:ou d.id E (eW d.zs) E') (h2:sI F (Dg d.id d.ns) F'):sH (l++[d]) E' F'
def kR (l:List Dc):Nat:=(l.map λd=>(eW d.zs).length).sum
def mX (l:List Dc):Nat:=(l.map λd=>d.ns.length).sum
def KN (l:List Dc)(i:Nat)(h:i<l.length):kR (l.take i)+(eW (l.getD i d0).zs).length=kR (l.take (i+1)):=by
 rw[aU l i d0 h];simp[kR]
def L7 (l:List Dc)(i:Nat)(h:i<l.length):mX (l.take i)+(l.getD i d0).ns.length=mX (l.take (i+1)):=by
 rw[aU l i d0 h];simp[mX]
def DF (a b:List Dc):kR (a++b)=kR a+kR b:=by simp[kR]
def SZ (l:List Dc)(i:Nat):kR (l.take i)<=kR l:=by
 have:kR l=kR (l.take i)+kR (l.drop i):=by rw[<-DF,ahM]
 omega
def Qh (a b:List Dc):mX (a++b)=mX a+mX b:=by simp[mX]
def TD (l:List Dc)(i:Nat):mX (l.take i)<=mX l:=by
 have:mX l=mX (l.take i)+mX (l.drop i):=by rw[<-Qh,ahM]
 omega
attribute [-simp] List.getD_eq_getElem?_getD in
def ML (H:List az)(T:au)(nb tb:Nat)(gG:nb<=H.length)(fY:tb<=T.length)(L:List Dc)(b2 b4 b5 b6 td:Nat)(J:List az)(U:au)
  (hB:DI H T b2 b4 b5 b6 td 0 0 J U [] [] []) (hL:L.length<=1000) (hW:kR L<=1099511627776) (hM:mX L<=1099511627776) (hz:∀d∈L,d.zs.length<=1099511627776) (hg:∀d∈L,OG d)
  (kP:H.length<=b2) (Gs:H.length<=b4) (Kh:H.length<=b5) (Gc:H.length<=b6) (NF:T.length<=td) (Q:Exit->St->Prop)
  (bad:∀i,0<i->i<L.length->(L.getD (i-1) d0).id=(L.getD i d0).id->∀(e:Env)(J':List az)(U':au),bE e 2=.ptr b2 0->bE e 3=.int .i64 10->J'[b2]?=some (.cells [.sl 0 [] .full,.sl 0 [] .full,.sl 0 [] .full])->gM H J'->gM T U'->Q .ret ⟨e,J',U'⟩)
  (go:(∀i,0<i->i<L.length->(L.getD (i-1) d0).id≠(L.getD i d0).id)->∀(e:Env)(J':List az)(U':au)(E:List En)(F:List Ef),DI H T b2 b4 b5 b6 td (kR L) (mX L) J' U' (L.map (·.id)) E F->sH L E F->bu J'.length U'.length e [(0,.sl L.length (aM L) .none),(2,.ptr b2 0),(4,.ptr b4 0),(5,.aP b5),(6,.aP b6)]->Q .normal ⟨e,J',U'⟩) :
  AW ⟨prog,192,152,nb,tb,[100104,100147,100166]⟩ (dY [1,1,1,1,1,1,1,1,0] (Tryz.f68.body.getD .skip)) Q ⟨[(0,.sl L.length (aM L) .none),(2,.ptr b2 0),(4,.ptr b4 0),(5,.aP b5),(6,.aP b6)],J,U⟩:=by
 conv=>arg 2;whnf
 have lH:=hB.pJ.le;have lT:=hB.pU.le;have lts:∀{N M:Nat} {J':List az} {U':au} {ids:List Int} {E:List En} {F:List Ef},DI H T b2 b4 b5 b6 td N M J' U' ids E F->b2<J'.length/\b4<J'.length/\b5<J'.length/\b6<J'.length:=by
  intro N M J' U' ids E F h;exact⟨h.hJ.lt (i:=b2) (b:=.cells [.sl 0 [] .full,.sl 0 [] .full,.sl 0 [] .full]) (by simp),h.hJ.lt (i:=b4) (b:=.cells [.sl ids.length (ints ids) (.own td),.sl 0 [] .full,.sl 0 [] .full]) (by simp),h.hJ.lt (i:=b5) (b:=.map (cz E)) (by simp),h.hJ.lt (i:=b6) (b:=.map (bM F)) (by simp)⟩
 obtain⟨l2,l4,l5,l6⟩:=lts hB;apply ae;intro K Z;simp(disch:=omega);apply Z;apply aj;refine aI (X:=Nat×List az×au×List En×List Ef) (λx=>⟨[(0,.sl L.length (aM L) .none),(2,.ptr b2 0),(4,.ptr b4 0),(5,.aP b5),(6,.aP b6),(34,.sl L.length (aM L) .none),(35,.int .i64 (L.length:Nat)),(36,.int .i64 (x.1:Nat))],x.2.1,x.2.2.1⟩)
  (λx=>x.1<=L.length/\DI H T b2 b4 b5 b6 td (kR (L.take x.1)) (mX (L.take x.1)) x.2.1 x.2.2.1 ((L.take x.1).map (·.id)) x.2.2.2.1 x.2.2.2.2/\sH (L.take x.1) x.2.2.2.1 x.2.2.2.2/\∀i,0<i->i<x.1->(L.getD (i-1) d0).id≠(L.getD i d0).id) (λx=>L.length-x.1) (0,J,U,[],[]) ?_ ?_ ?_
 ·exact⟨ahu _,hB,.nil,λi h1 h2=>by omega⟩
 ·refine ag [] [] ?_ ?_ ?_ ?_ hB.ok ?_
  all_goals simp
  all_goals omega
 ·rintro⟨i,J2,U2,E,F⟩ ⟨k1,k2,k3,k4⟩;simp only at k1 k2 k3 k4;have Ni:=k2.pJ.le;have Rf:=k2.pU.le;obtain⟨l22,XB,l52,l62⟩:=lts k2;apply ae;intro K Z;simp(disch:=omega);apply Z;refine af λK2 bc=>?_;refine aT rfl (λhk=>?_) (λhk=>?_)
  ·simp  at hk;have CB:=KN L i hk;have UJ:=L7 L i hk;have sr:=SZ L (i+1);have RO:=TD L (i+1);have hdm:=aS L i d0 hk;apply aq;simp(disch:=omega) ;apply bc;clear bc;refine af λK3 bD=>?_;apply aj;refine aH ⟨[(0,.sl L.length (aM L) .none),(2,.ptr b2 0),(4,.ptr b4 0),(5,.aP b5),(6,.aP b6),(34,.sl L.length (aM L) .none),(35,.int .i64 (L.length:Nat)),(36,.int .i64 (i:Nat))],J2,U2⟩ (ag [] [] (by simp) (by simp) (by show nb<=J2.length;omega) (by show tb<=U2.length;omega) k2.ok (by simp;omega)) ?_;refine QM (N:=kR (L.take i)) (M:=mX (L.take i)) H T nb tb gG fY L i b2 b4 b5 b6 td _ E F J2 U2 k2 hk hL (by simp;omega) (by omega) (by omega) (hz _ hdm) (hg _ hdm) kP Gs Kh Gc NF _ (λh1 h2 e J' g1 g2 g3 g4=>?_) λhne e J' U' E' F' a1 a2 a3 a4=>?_
   ·exact bad i h1 hk h2 e J' U2 g1 g2 g3 g4 k2.pU
   ·rw[CB,UJ] at a1;have kZ:(L.take i).map (·.id)++[(L.getD i d0).id]=(L.take (i+1)).map (·.id):=by rw[aU L i d0 hk];simp
    rw[kZ] at a1;have Kf:=a1.pJ.le;have Ke:=a1.pU.le;obtain⟨l23,l43,l53,l63⟩:=lts a1;refine bD _ (aH ⟨[(0,.sl L.length (aM L) .none),(2,.ptr b2 0),(4,.ptr b4 0),(5,.aP b5),(6,.aP b6),(34,.sl L.length (aM L) .none),(35,.int .i64 (L.length:Nat)),(36,.int .i64 (i:Nat))],J',U'⟩ (ag [] [] (by simp) (by simp) (by show nb<=J'.length;omega) (by show tb<=U'.length;omega) a1.ok a4) ?_);clear bD;refine aB λK hK=>?_;simp(disch:=omega) ;apply hK;refine⟨(i+1,J',U',E',F'),⟨by show i+1<=_;omega,a1,?_,λj h1 h2=>?_⟩,by show L.length-(i+1)<L.length-i;omega,?_⟩
    ·show sH (L.take (i+1)) E' F';rw[aU L i d0 hk];exact k3.snoc a2 a3
    ·rcases ahr j i with h|h
     ·exact k4 j h1 h
     ·have:j=i:=by simp only at h2;omega
      subst this;exact hne h1
    ·refine ag [] [] ?_ ?_ ?_ ?_ a1.ok ?_
     all_goals simp
     all_goals omega
  ·simp  at hk;have hii:i=L.length:=by omega
   subst hii;rw[ahE] at k2 k3;apply aF;simp(disch:=omega) ;refine go k4 _ J2 U2 E F k2 k3 ?_;simp;omega
end Go.Proofs.YtoejlmpbebjemaaGreat
