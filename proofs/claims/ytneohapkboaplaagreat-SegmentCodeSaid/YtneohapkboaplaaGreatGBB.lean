/- segment.Build (layer 39): one document. segment.Build (layer 39): the terms out of the map, in any order. segment.Build (layer 39): the columns. segment.Build (layer 39): the documents, one after another.
  Conditions: lengths below 400 or 1000, as each theorem says. -/
import Derived.Test.YtneohapkboaplaaGreatGBA
set_option linter.all false
set_option maxRecDepth 100000
set_option maxHeartbeats 16000000
namespace eB
open Go Go.Am
theorem mh.nd {id:Int}{E E':List En}{l:List (Ky×Int)}(h:mh id E l E')(hn:(E.map (·.k)).Nodup):(E'.map (·.k)).Nodup:=by
 cases h with
 |nil=>exact hn
 |snoc _ h2=>exact h2.nd
end eB
namespace Go.Proofs.YtneohapkboaplaaGreat
open Go Go.Am gH eB
inductive pX:List Ef→List (Int×Nm)→List Ef→Prop
 |nil (E:List Ef):pX E [] E
 |snoc {E E1 E2:List Ef} {l:List (Int×Nm)} {k:Int} {p:Nm} (h:pX E l E1) (h2:qc E1 k p E2):pX E (l++[(k,p)]) E2
theorem pX.trans {E E1 E2:List Ef}{l m:List (Int×Nm)}(h:pX E l E1)(k:pX E1 m E2):pX E (l++m) E2:=by
 induction k with
 |nil=>simpa using h
 |snoc _ h2 ih=>rw[←List.append_assoc];exact ih.snoc h2
theorem pX.nd {E E':List Ef}{l:List (Int×Nm)}(h:pX E l E')(hn:(E.map (·.f)).Nodup):(E'.map (·.f)).Nodup:=by
 cases h with
 |nil=>exact hn
 |snoc _ h2=>exact h2.nd
def yQ (id:Int)(ns:List Nm):List (Int×Nm):=ns.map fun x=>(x.1,(x.2,id))
theorem Hg (id:Int)(ns:List Nm)(k:Nat)(h:k<ns.length):yQ id (ns.take k)++[((ns.getD k n0).1,((ns.getD k n0).2,id))]=yQ id (ns.take (k+1)):=by
 rw[dx ns k n0 h];simp[yQ]
structure DI (H:List aG)(T:ay)(b2 b4 b5 b6 td N M:Nat)(J:List aG)(U:ay)(ids:List Int)(E:List En)(F:List Ef):Prop where
 hJ:Has J ((b2,.cells [.sl 0 [] .full,.sl 0 [] .full,.sl 0 [] .full])::(b4,.cells [.sl ids.length (ints ids) (.own td),.sl 0 [] .full,.sl 0 [] .full])::(b6,.map (bE F))::(gG F++(b5,.map (bR E))::dH E))
 hU:Has U ((td,(ids.length,1))::iO E)
 hE:∀e∈E,Cj H.length T.length N e
 ndE:(E.map (·.k)).Nodup
 ftE:dw Tryz.prog 111 (bR E)=true
 hF:∀e∈F,Mu H.length M e
 ndF:(F.map (·.f)).Nodup
 ftF:dw Tryz.prog 3 (bE F)=true
 pJ:gP H J
 pU:gP T U
 ok:bM J U
structure IY (d:Dc):Prop where
 z:∀z∈d.zs,(-9223372036854775808≤z.f∧z.f≤9223372036854775807)∧∀w∈z.ws,w.1.length≤maxLen
 n:∀x∈d.ns,-9223372036854775808≤x.1∧x.1≤9223372036854775807
attribute [-simp] List.getD_eq_getElem?_getD in
theorem KP (H:List aG)(T:ay)(nb tb N M:Nat)(iD:nb≤H.length)(iq:tb≤T.length)(L:List Dc)(vi b2 b4 b5 b6 td:Nat)(ids:List Int)(E:List En)(F:List Ef)(J:List aG)(U:ay)
  (hB:DI H T b2 b4 b5 b6 td N M J U ids E F) (hi:vi<L.length) (hL:L.length≤1000) (Ra:ids.length≤1000) (hN:N+(ez (L.getD vi d0).zs).length≤1099511627776) (hM:M+(L.getD vi d0).ns.length≤1099511627776) (HE:(L.getD vi d0).zs.length≤1099511627776)
  (hg:IY (L.getD vi d0)) (fW:H.length≤b2) (BY:H.length≤b4) (Fc:H.length≤b5) (Rg:H.length≤b6) (Q0:T.length≤td) (Q:Exit→St→Prop)
  (bad:0<vi→(L.getD (vi-1) d0).id=(L.getD vi d0).id→∀(e:Env)(J':List aG),bZ e 2=.ptr b2 0→bZ e 3=.int .i64 10→J'[b2]?=some (.cells [.sl 0 [] .full,.sl 0 [] .full,.sl 0 [] .full])→gP H J'→Q .ret ⟨e,J',U⟩)
  (go:(0<vi→(L.getD (vi-1) d0).id≠(L.getD vi d0).id)→∀(e:Env)(J':List aG)(U':ay)(E':List En)(F':List Ef),DI H T b2 b4 b5 b6 td (N+(ez (L.getD vi d0).zs).length) (M+(L.getD vi d0).ns.length) J' U' (ids++[(L.getD vi d0).id]) E' F'→
   mh (L.getD vi d0).id E (ez (L.getD vi d0).zs) E'→pX F (yQ (L.getD vi d0).id (L.getD vi d0).ns) F'→b9 J'.length U'.length e [(0,.sl L.length (bC L) .none),(2,.ptr b2 0),(4,.ptr b4 0),(5,.aV b5),(6,.aV b6),(34,.sl L.length (bC L) .none),(35,.int .i64 (L.length:Nat)),(36,.int .i64 (vi:Nat))]→Q .normal ⟨e,J',U'⟩) :
  AW ⟨Tryz.prog,192,152,nb,tb,[100104,100147,100166]⟩ (iN [1,1,1,1,1,1,1,1,0,1,0,0,1,1,0,0] (Tryz.f13.body.getD .skip)) Q ⟨[(0,.sl L.length (bC L) .none),(2,.ptr b2 0),(4,.ptr b4 0),(5,.aV b5),(6,.aV b6),(34,.sl L.length (bC L) .none),(35,.int .i64 (L.length:Nat)),(36,.int .i64 (vi:Nat))],J,U⟩:=by
 conv=>arg 2;whnf
 have lH:=hB.pJ.le;have lT:=hB.pU.le;have bY:=Aw L vi hi;have DP:=fun h=>Ns L (vi-1) h;generalize Xc:L.getD vi d0=d at *;generalize ZI:L.getD (vi-1) d0=dp at *;obtain⟨id,zs,ns⟩:=d;simp only at bY hN hM HE bad go;obtain⟨q1,q2,q3,q4,q5,q6,q7,q8,q9,q10,WL⟩:=hB;obtain⟨ZW,R8⟩:=hg;simp only at ZW R8;have l2:=q1.lt (i:=b2) (b:=.cells [.sl 0 [] .full,.sl 0 [] .full,.sl 0 [] .full]) (by simp);have l4:=q1.lt (i:=b4) (b:=.cells [.sl ids.length (ints ids) (.own td),.sl 0 [] .full,.sl 0 [] .full]) (by simp);have l5:=q1.lt (i:=b5) (b:=.map (bR E)) (by simp);have l6:=q1.lt (i:=b6) (b:=.map (bE F)) (by simp);refine ae fun K hK=>?_;simp(disch:=omega)[bY,kb];apply hK;clear hK K;have BG:bM (J++[.cells (nh ⟨id,zs,ns⟩)]) U:=WL.snoc (by simp);have q1:=(q1.new (.cells (nh ⟨id,zs,ns⟩))).perm (List.perm_append_singleton _ _).symm;have q9:=q9.app [aG.cells (nh ⟨id,zs,ns⟩)];have Pa:(J++[aG.cells (nh ⟨id,zs,ns⟩)]).length=J.length+1:=by simp
 obtain⟨b8,h8⟩:∃i,i=J.length:=⟨_,rfl⟩
 rw[←h8] at q1;simp only[←h8];have W1:aG.cells [.int .i64 id,.sl zs.length (fN zs) .none,.sl ns.length (br ns) .none]=.cells (nh ⟨id,zs,ns⟩):=rfl;rw[W1];generalize J++[aG.cells (nh ⟨id,zs,ns⟩)]=J1 at *;have g8:=q1.get (i:=b8) (b:=.cells (nh ⟨id,zs,ns⟩)) (by simp);have g4:=q1.get (i:=b4) (b:=.cells [.sl ids.length (ints ids) (.own td),.sl 0 [] .full,.sl 0 [] .full]) (by simp);have g2:=q1.get (i:=b2) (b:=.cells [.sl 0 [] .full,.sl 0 [] .full,.sl 0 [] .full]) (by simp);have e8:=bT g8;have e4:=bT g4;have l8:=(List.getElem?_eq_some_iff.1 g8).1;have gU:=q2.get (i:=td) (b:=(ids.length,1)) (by simp);have lU:=(List.getElem?_eq_some_iff.1 gU).1;have eU:=bT gU;refine aQ ⟨[(7,.int .i64 (vi:Nat)),(0,.sl L.length (bC L) .none),(2,.ptr b2 0),(4,.ptr b4 0),(5,.aV b5),(6,.aV b6),(8,.ptr b8 0),(34,.sl L.length (bC L) .none),(35,.int .i64 (L.length:Nat)),(36,.int .i64 (vi:Nat))],J1,U⟩ (ag [] [] (by simp) (by simp) (by show nb≤_;omega) (by show tb≤_;omega) BG (by simp;omega)) ?_;have e2:=bT g2;have l2':b2<J1.length:=by omega
 have l4':b4<J1.length:=by omega
 refine af fun K1 aO=>?_;have key:(0<vi→dp.id≠id)→∀e,b9 J1.length U.length e [(0,.sl L.length (bC L) .none),(2,.ptr b2 0),(4,.ptr b4 0),(5,.aV b5),(6,.aV b6),(8,.ptr b8 0),(34,.sl L.length (bC L) .none),(35,.int .i64 (L.length:Nat)),(36,.int .i64 (vi:Nat))]→K1 ⟨e,J1,U⟩:=by
  intro dW e he;refine aO _ (aQ ⟨[(0,.sl L.length (bC L) .none),(2,.ptr b2 0),(4,.ptr b4 0),(5,.aV b5),(6,.aV b6),(8,.ptr b8 0),(34,.sl L.length (bC L) .none),(35,.int .i64 (L.length:Nat)),(36,.int .i64 (vi:Nat))],J1,U⟩ (ag [] [] (by simp) (by simp) (by show nb≤_;omega) (by show tb≤_;omega) BG he) ?_);clear aO;refine ae fun K hK=>?_;simp(disch:=omega)[e8,e4,eU];apply hK;clear hK K;refine lg fun fD=>?_;simp only at fD;have kT:=Has.set (A:=[(b8,.cells (nh ⟨id,zs,ns⟩)),(b2,.cells [.sl 0 [] .full,.sl 0 [] .full,.sl 0 [] .full])]) (B:=(b6,.map (bE F))::(gG F++(b5,.map (bR E))::dH E)) (b:=.cells [.sl ids.length (ints ids) (.own td),.sl 0 [] .full,.sl 0 [] .full]) (by simpa using q1) (.cells [.sl (ids.length+1) (ints ids++[.int .i64 id]) (.own td),.sl 0 [] .full,.sl 0 [] .full]);have Lw:=Has.set (A:=[]) (B:=iO E) (b:=(ids.length,1)) (by simpa using q2) (ids.length+1,1);have oT:=q9.set BY (.cells [.sl (ids.length+1) (ints ids++[.int .i64 id]) (.own td),.sl 0 [] .full,.sl 0 [] .full]);have Tl:=q10.set Q0 (ids.length+1,1);have jQ:(J1.set b4 (.cells [.sl (ids.length+1) (ints ids++[.int .i64 id]) (.own td),.sl 0 [] .full,.sl 0 [] .full])).length=J1.length:=by simp
  have hlU:(U.set td (ids.length+1,1)).length=U.length:=by simp
  rw[cN] at kT fD oT jQ ⊢;have cW:ids.length+1=(ids++[id]).length:=by simp
  rw[cW] at kT Lw fD oT Tl jQ hlU ⊢;generalize J1.set b4 (.cells [.sl (ids++[id]).length (ints (ids++[id])) (.own td),.sl 0 [] .full,.sl 0 [] .full])=J2 at *;generalize U.set td ((ids++[id]).length,1)=U2 at *;generalize Im:ids++[id]=vI at *;have hBI:BI H T ((b8,.cells (nh ⟨id,zs,ns⟩))::(b2,.cells [.sl 0 [] .full,.sl 0 [] .full,.sl 0 [] .full])::(b4,.cells [.sl vI.length (ints vI) (.own td),.sl 0 [] .full,.sl 0 [] .full])::(b6,.map (bE F))::gG F) [(td,(vI.length,1))] b5 N J2 U2 E:=
   ⟨by simpa using kT,by simpa using Lw,q3,q4,q5,oT,Tl,fD⟩
  have e8:=bT (kT.get (i:=b8) (b:=.cells (nh ⟨id,zs,ns⟩)) (by simp));have l8:b8<J2.length:=by omega
  clear e4 eU g8 g4 g2 e2;refine af fun K1 aO=>?_;refine ae fun K hK=>?_;simp(disch:=omega)[e8];apply hK;clear hK K;apply ai;refine aK (X:=Nat×List aG×ay×List En) (fun x=>⟨[(0,.sl L.length (bC L) .none),(2,.ptr b2 0),(4,.ptr b4 0),(5,.aV b5),(6,.aV b6),(8,.ptr b8 0),(34,.sl L.length (bC L) .none),(35,.int .i64 (L.length:Nat)),(36,.int .i64 (vi:Nat)),(63,.sl zs.length (fN zs) .none),(64,.int .i64 (zs.length:Nat)),(65,.int .i64 (x.1:Nat))],x.2.1,x.2.2.1⟩)
   (fun x=>x.1≤zs.length∧BI H T ((b8,.cells (nh ⟨id,zs,ns⟩))::(b2,.cells [.sl 0 [] .full,.sl 0 [] .full,.sl 0 [] .full])::(b4,.cells [.sl vI.length (ints vI) (.own td),.sl 0 [] .full,.sl 0 [] .full])::(b6,.map (bE F))::gG F) [(td,(vI.length,1))] b5 (N+(ez (zs.take x.1)).length) x.2.1 x.2.2.1 x.2.2.2∧mh id E (ez (zs.take x.1)) x.2.2.2∧J2.length≤x.2.1.length) (fun x=>zs.length-x.1) (0,J2,U2,E) ?_ ?_ ?_
  ·exact⟨Nat.zero_le _,hBI,.nil E,Nat.le_refl _⟩
  ·refine ag [] [] ?_ ?_ ?_ ?_ fD ?_
   all_goals simp
   all_goals omega
  ·rintro⟨j,J3,U3,E3⟩ ⟨k1,k2,k3,k4⟩;simp only at k1 k2 k3 k4;have WR:=k2.pJ.le;have WQ:=k2.pU.le;have Zx:=k2.hJ.lt (i:=b5) (b:=.map (bR E3)) (by simp);apply ae;intro K h;simp(disch:=omega);apply h;clear h K;refine af fun K2 aY=>?_;refine aP rfl (fun tR=>?_) (fun tR=>?_)
   ·simp  at tR;have Rc:=Hd zs j tR;have n9:(ez (zs.take j)).length+(zs.getD j z0).ws.length=(ez (zs.take (j+1))).length:=by rw[←Rc];simp[nm]
    have acw:(ez (zs.take (j+1))).length≤(ez zs).length:=by
     have:ez zs=ez (zs.take (j+1))++ez (zs.drop (j+1)):=by rw[ez,ez,ez,←List.flatMap_append,List.take_append_drop]
     rw[this];simp
    apply ak;simp(disch:=omega) ;apply aY;clear aY;refine af fun K3 bA=>?_;apply ai;refine aQ ⟨[(0,.sl L.length (bC L) .none),(2,.ptr b2 0),(4,.ptr b4 0),(5,.aV b5),(6,.aV b6),(8,.ptr b8 0),(34,.sl L.length (bC L) .none),(35,.int .i64 (L.length:Nat)),(36,.int .i64 (vi:Nat)),(63,.sl zs.length (fN zs) .none),(64,.int .i64 (zs.length:Nat)),(65,.int .i64 (j:Nat))],J3,U3⟩ (ag [] [] (by simp) (by simp) (by show nb≤_;omega) (by show tb≤_;omega) k2.ok (by simp;omega)) ?_;refine FL (N:=N+(ez (zs.take j)).length) H T nb tb iD iq L zs vi j b2 b4 b5 b6 b8 id _ _ E3 J3 U3 _ _ k2 tR (by omega) (List.mem_cons_self ..) Fc (by omega) (by omega) (by omega) (ZW _ (aR zs j z0 tR)).1 (ZW _ (aR zs j z0 tR)).2 _ fun e J' U' E' a1 a2 a3 a4=>?_;have lH4:=a1.pJ.le;have lT4:=a1.pU.le;rw[Nat.add_assoc,n9] at a1;refine bA _ (aQ ⟨[(0,.sl L.length (bC L) .none),(2,.ptr b2 0),(4,.ptr b4 0),(5,.aV b5),(6,.aV b6),(8,.ptr b8 0),(34,.sl L.length (bC L) .none),(35,.int .i64 (L.length:Nat)),(36,.int .i64 (vi:Nat)),(63,.sl zs.length (fN zs) .none),(64,.int .i64 (zs.length:Nat)),(65,.int .i64 (j:Nat))],J',U'⟩ (ag [] [] (by simp) (by simp) (by show nb≤_;omega) (by show tb≤_;omega) a1.ok a4) ?_);clear bA;refine ar fun K hK=>?_;simp(disch:=omega) ;apply hK;clear hK K;refine⟨(j+1,J',U',E'),⟨by show j+1≤_;omega,a1,?_,by show J2.length≤J'.length;omega⟩,by show zs.length-(j+1)<zs.length-j;omega,?_⟩
    ·show mh id E (ez (zs.take (j+1))) E';rw[←Rc];exact k3.trans a2
    ·refine ag [] [] ?_ ?_ ?_ ?_ a1.ok ?_
     all_goals simp
     all_goals omega
   ·simp  at tR;have hjj:j=zs.length:=by omega
    subst hjj;rw[List.take_length] at k2 k3;apply aD;simp(disch:=omega) ;apply aO;clear aO;have Zx:=k2.hJ.lt (i:=b5) (b:=.map (bR E3)) (by simp);have e8:=bT (k2.hJ.get (i:=b8) (b:=.cells (nh ⟨id,zs,ns⟩)) (by simp));have l8:b8<J3.length:=by omega
    have SK:BF H T ((b8,.cells (nh ⟨id,zs,ns⟩))::(b2,.cells [.sl 0 [] .full,.sl 0 [] .full,.sl 0 [] .full])::(b4,.cells [.sl vI.length (ints vI) (.own td),.sl 0 [] .full,.sl 0 [] .full])::(b5,.map (bR E3))::dH E3) b6 M J3 U3 F:=by
     refine⟨k2.hJ.perm ?_,q6,q7,q8,k2.pJ,k2.pU,k2.ok⟩;simp only[List.cons_append];refine(((List.Perm.cons _ (List.Perm.cons _ (List.Perm.cons _ ?_)))));have:=(List.perm_append_comm (l₁:=(b5,aG.map (bR E3))::dH E3) (l₂:=(b6,aG.map (bE F))::gG F))
     simpa using this
    refine ae fun K hK=>?_;simp(disch:=omega)[e8];apply hK;clear hK K;apply ai;refine aK (X:=Nat×List aG×List Ef) (fun x=>⟨[(0,.sl L.length (bC L) .none),(2,.ptr b2 0),(4,.ptr b4 0),(5,.aV b5),(6,.aV b6),(8,.ptr b8 0),(34,.sl L.length (bC L) .none),(35,.int .i64 (L.length:Nat)),(36,.int .i64 (vi:Nat)),(128,.sl ns.length (br ns) .none),(129,.int .i64 (ns.length:Nat)),(130,.int .i64 (x.1:Nat))],x.2.1,U3⟩)
     (fun x=>x.1≤ns.length∧BF H T ((b8,.cells (nh ⟨id,zs,ns⟩))::(b2,.cells [.sl 0 [] .full,.sl 0 [] .full,.sl 0 [] .full])::(b4,.cells [.sl vI.length (ints vI) (.own td),.sl 0 [] .full,.sl 0 [] .full])::(b5,.map (bR E3))::dH E3) b6 (M+x.1) x.2.1 U3 x.2.2∧pX F (yQ id (ns.take x.1)) x.2.2∧J3.length≤x.2.1.length) (fun x=>ns.length-x.1) (0,J3,F) ?_ ?_ ?_
    ·exact⟨Nat.zero_le _,SK,.nil F,Nat.le_refl _⟩
    ·refine ag [] [] ?_ ?_ ?_ ?_ k2.ok ?_
     all_goals simp
     all_goals omega
    ·rintro⟨k,J4,F4⟩ ⟨m1,m2,m3,m4⟩;simp only at m1 m2 m3 m4;have lH4:=m2.pJ.le;apply ae;intro K h;simp(disch:=omega);apply h;clear h K;refine af fun K2 aY=>?_;refine aP rfl (fun Q6=>?_) (fun Q6=>?_)
     ·simp  at Q6;apply ak;simp(disch:=omega) ;apply aY;clear aY;refine af fun K3 bA=>?_;apply ai;refine aQ ⟨[(0,.sl L.length (bC L) .none),(2,.ptr b2 0),(4,.ptr b4 0),(5,.aV b5),(6,.aV b6),(8,.ptr b8 0),(34,.sl L.length (bC L) .none),(35,.int .i64 (L.length:Nat)),(36,.int .i64 (vi:Nat)),(128,.sl ns.length (br ns) .none),(129,.int .i64 (ns.length:Nat)),(130,.int .i64 (k:Nat))],J4,U3⟩ (ag [] [] (by simp) (by simp) (by show nb≤_;omega) (by show tb≤_;omega) m2.ok (by simp;omega)) ?_;refine Kb (N:=M+k) H T nb tb iD iq L ns vi k b2 b4 b5 b6 b8 id _ _ F4 J4 U3 _ m2 (by omega) Q6 (by omega) (List.mem_cons_self ..) Rg (by omega) (by omega) (by omega) (R8 _ (aR ns k n0 Q6)) _ fun e J' F' a1 a2 a3 a4=>?_;have lH5:=a1.pJ.le;refine bA _ (aQ ⟨[(0,.sl L.length (bC L) .none),(2,.ptr b2 0),(4,.ptr b4 0),(5,.aV b5),(6,.aV b6),(8,.ptr b8 0),(34,.sl L.length (bC L) .none),(35,.int .i64 (L.length:Nat)),(36,.int .i64 (vi:Nat)),(128,.sl ns.length (br ns) .none),(129,.int .i64 (ns.length:Nat)),(130,.int .i64 (k:Nat))],J',U3⟩ (ag [] [] (by simp) (by simp) (by show nb≤_;omega) (by show tb≤_;omega) a1.ok a4) ?_);clear bA;refine ar fun K hK=>?_;simp(disch:=omega) ;apply hK;clear hK K;refine⟨(k+1,J',F'),⟨by show k+1≤_;omega,a1,?_,by show J3.length≤J'.length;omega⟩,by show ns.length-(k+1)<ns.length-k;omega,?_⟩
      ·show pX F (yQ id (ns.take (k+1))) F';rw[←Hg id ns k Q6];exact m3.snoc a2
      ·refine ag [] [] ?_ ?_ ?_ ?_ a1.ok ?_
       all_goals simp
       all_goals omega
     ·simp  at Q6;have E4:k=ns.length:=by omega
      subst E4;rw[List.take_length] at m3;apply aD;simp(disch:=omega) ;refine go dW _ J4 U3 E3 F4 ⟨?_,by simpa using k2.hU,k2.hE,k2.nd,k2.ft,m2.hF,m2.nd,m2.ft,m2.pJ,m2.pU,m2.ok⟩ k3 m3 ?_
      ·have hs:=m2.hJ.sub (List.sublist_cons_self _ _);refine hs.perm ?_;refine(List.Perm.cons _ (List.Perm.cons _ ?_));have:=(List.perm_append_comm (l₁:=(b6,aG.map (bE F4))::gG F4) (l₂:=(b5,aG.map (bR E3))::dH E3))
       simpa using this
      ·simp;omega
 clear aO;rcases Nat.eq_zero_or_pos vi with h0|h0
 ·subst h0;refine aM [] [] [] au (by kernel_rfl) (by kernel_rfl) fun K hK=>?_;simp(disch:=omega) ;apply hK;clear hK K;apply aC rfl;apply ak;simp(disch:=omega) ;refine key (fun h=>absurd h (by omega)) _ ?_;simp;omega
 ·have b0:decide ((0:Int)<(vi:Int))=true:=decide_eq_true (by omega);have e6:((vi:Int)-1)=((vi-1:Nat):Int):=by omega
  have Ti:=(DP (by omega)).1
  by_cases Re:dp.id=id
  ·have bd:(dp.id==id)=true:=by simpa using Re
   refine aM [] [] [] au (by kernel_rfl) (by kernel_rfl) fun K hK=>?_;simp(disch:=omega)[b0,h0,e6,Ti,kb,e8,Re];apply hK;clear hK K;apply aH rfl;refine ae fun K hK=>?_;simp(disch:=omega)[e2];apply hK;clear hK K;apply an;exact bad h0 Re _ _ rfl rfl (List.getElem?_set_self l2') (q9.set fW _)
  ·have bd:(dp.id==id)=false:=by simpa using Re
   refine aM [] [] [] au (by kernel_rfl) (by kernel_rfl) fun K hK=>?_;simp(disch:=omega)[b0,h0,e6,Ti,kb,e8,bd,Re];apply hK;clear hK K;apply aC rfl;apply ak;simp(disch:=omega) ;refine key (fun _=>Re) _ ?_;simp;omega
def Lz:En:=⟨(0,[]),[],0,[],0,0,0,[]⟩
def eZ (e:En):Ky×AV:=(e.k,.cO e.i 0 e.n)
structure Iz (nb:Nat)(rows:List (Ky×AV))(tv:AV)(TB:List (Nat×aG)):Prop where
 h:(rows=[]∧tv=.sl 0 [] .full∧TB=[])∨∃it cap rest,tv=.dP it rows.length cap∧TB=[(it,.cells (dV rows++rest))]∧rest.length=(cap-rows.length)*3∧rows.length≤cap∧nb≤it∧0<rows.length
theorem og (l:List (Ky×AV))(k:Ky)(v:AV):dV l++[.int .i64 k.1,.str k.2,v]=dV (l++[(k,v)]):=by simp[dV]
theorem Kd:∀(n:Nat)(l:List Nat),l.Nodup→(∀j∈l,j<n)→l.length≤n:=by
 intro n
 induction n with
 |zero=>
  intro l _ h
  cases l with
  |nil=>exact Nat.le_refl _
  |cons a r=>exact absurd (h a (by simp)) (Nat.not_lt_zero _)
 |succ n ih=>
  intro l hn h;have h1:=ih (l.erase n) (hn.erase n) fun j hj=>by
   have:=(hn.mem_erase_iff).1 hj;have:=h j this.2;omega
  by_cases hm:n∈l
  ·rw[List.length_erase_of_mem hm] at h1;omega
  ·rw[List.erase_of_not_mem hm] at h1;omega
theorem C8 {n:Nat}{l:List Nat}(h1:l.Nodup)(h2:∀a∈l,a<n)(h3:∀a,a<n→a∈l):l.Perm (List.range n):=
 (List.perm_ext_iff_of_nodup h1 List.nodup_range).2 fun a=>⟨fun h=>List.mem_range.2 (h2 a h),fun h=>h3 a (List.mem_range.1 h)⟩
attribute [-simp] List.getD_eq_getElem?_getD in
theorem CJ (H:List aG)(T:ay)(nb tb N M:Nat)(iD:nb≤H.length)(iq:tb≤T.length)(b2 b4 b5 b6 td:Nat)(ids:List Int)(E:List En)(F:List Ef)(J:List aG)(U:ay)
  (hB:DI H T b2 b4 b5 b6 td N M J U ids E F) (hEl:E.length≤1099511627776) (BY:H.length≤b4) (Q:Exit→St→Prop)
  (go:∀(e:Env) (J':List aG) (rows:List (Ky×AV)) (tv:AV) (TB:List (Nat×aG)),rows.Perm (E.map eZ)→Iz H.length rows tv TB→Has J' ((b4,.cells [.sl ids.length (ints ids) (.own td),tv,.sl 0 [] .full])::(TB++(b2,.cells [.sl 0 [] .full,.sl 0 [] .full,.sl 0 [] .full])::(b6,.map (bE F))::(b5,.map (bR E))::(gG F++dH E)))→gP H J'→bM J' U→b9 J'.length U.length e [(2,.ptr b2 0),(4,.ptr b4 0),(5,.aV b5),(6,.aV b6)]→Q .normal ⟨e,J',U⟩) :
  AW ⟨Tryz.prog,192,152,nb,tb,[100104,100147,100166]⟩ (iN [1,1,1,1,1,1,1,1,1,0] (Tryz.f13.body.getD .skip)) Q ⟨[(2,.ptr b2 0),(4,.ptr b4 0),(5,.aV b5),(6,.aV b6)],J,U⟩:=by
 conv=>arg 2;whnf
 have lH:=hB.pJ.le;have lT:=hB.pU.le;obtain⟨q1,q2,q3,q4,q5,q6,q7,q8,q9,q10,WL⟩:=hB;have e5:=bT (q1.get (i:=b5) (b:=.map (bR E)) (by simp));have l5:=q1.lt (i:=b5) (b:=.map (bR E)) (by simp);have mZ:(bR E).length=E.length:=by simp[bR]
 refine ae fun K hK=>?_;simp(disch:=omega)[tI,e5,mZ];apply hK;clear hK K;have q1':=(q1.new (.kq b5 E.length [])).perm (List.perm_append_singleton _ _).symm;have q9':=q9.app [aG.kq b5 E.length []];have BG:bM (J++[.kq b5 E.length []]) U:=WL.ML;obtain⟨bm,Sl⟩:∃i,i=J.length:=⟨_,rfl⟩
 rw[←Sl] at q1';simp only[←Sl];have aaS:H.length≤bm:=by omega
 clear e5 l5 q1 q9 WL Sl;generalize J++[aG.kq b5 E.length []]=J1 at *;have lH1:=q9'.le;have q1:Has J1 ((bm,.kq b5 E.length ([]))::(b4,.cells [.sl ids.length (ints ids) (.own td),.sl 0 [] .full,.sl 0 [] .full])::([]++(b2,.cells [.sl 0 [] .full,.sl 0 [] .full,.sl 0 [] .full])::(b6,.map (bE F))::(b5,.map (bR E))::(gG F++dH E))):=by
  refine q1'.perm ?_;refine List.Perm.cons _ ?_;refine List.Perm.trans (List.Perm.swap _ _ _) (List.Perm.cons _ (List.Perm.cons _ ?_));refine List.Perm.cons _ ?_;exact List.perm_middle.symm
 have l2:=q1.lt (i:=b2) (b:=.cells [.sl 0 [] .full,.sl 0 [] .full,.sl 0 [] .full]) (by simp);have l4:=q1.lt (i:=b4) (b:=.cells [.sl ids.length (ints ids) (.own td),.sl 0 [] .full,.sl 0 [] .full]) (by simp);have l5:=q1.lt (i:=b5) (b:=.map (bR E)) (by simp);have l6:=q1.lt (i:=b6) (b:=.map (bE F)) (by simp);have lm:=q1.lt (i:=bm) (b:=.kq b5 E.length []) (by simp);apply ai;refine aK (X:=List Nat×List aG×AV×List (Nat×aG)) (fun x=>⟨[(2,.ptr b2 0),(4,.ptr b4 0),(5,.aV b5),(6,.aV b6),(151,.ptr bm 0)],x.2.1,U⟩)
  (fun x=>x.1.Nodup∧(∀j∈x.1,j<E.length)∧Iz H.length (x.1.map fun j=>eZ (E.getD j Lz)) x.2.2.1 x.2.2.2∧Has x.2.1 ((bm,.kq b5 E.length (x.1))::(b4,.cells [.sl ids.length (ints ids) (.own td),x.2.2.1,.sl 0 [] .full])::(x.2.2.2++(b2,.cells [.sl 0 [] .full,.sl 0 [] .full,.sl 0 [] .full])::(b6,.map (bE F))::(b5,.map (bR E))::(gG F++dH E)))∧gP H x.2.1∧bM x.2.1 U∧J1.length≤x.2.1.length) (fun x=>E.length-x.1.length) ([],J1,.sl 0 [] .full,[]) ?_ ?_ ?_
 ·exact⟨List.nodup_nil,fun j hj=>by simp at hj,⟨.inl ⟨rfl,rfl,rfl⟩⟩,q1,q9',BG,Nat.le_refl _⟩
 ·refine ag [] [] ?_ ?_ ?_ ?_ BG ?_
  all_goals simp
  all_goals omega
 ·rintro⟨seen,J2,tv,TB⟩ ⟨k1,k2,k3,k4,k5,k6,k7⟩;simp only at k1 k2 k3 k4 k5 k6 k7;have em:=bT (k4.get (i:=bm) (b:=.kq b5 E.length seen) (by simp));have e5:=bT (k4.get (i:=b5) (b:=.map (bR E)) (by simp));have lm2:bm<J2.length:=by omega
  have l52:b5<J2.length:=by omega
  have QZ:b4<J2.length:=by omega
  have WS:=k5.le;refine ae fun K hK=>?_;simp(disch:=omega)[em,e5];unfold D8;refine⟨mZ.symm,fun fy=>?_,fun j kk v hj Q1=>?_⟩
  ·simp(disch:=omega) ;apply hK;clear hK K;refine af fun K2 aY=>?_;apply aC rfl;apply aD;simp(disch:=omega) ;refine go _ J2 _ tv TB ?_ k3 (k4.sub (List.sublist_cons_self _ _)) k5 k6 ?_
   ·have hp:=(C8 k1 k2 fy).map fun j=>eZ (E.getD j Lz);refine hp.trans (List.Perm.of_eq ?_);apply List.ext_getElem
    ·simp
    ·intro i h1 h2;simp only[List.getElem_map,List.getElem_range];rw[List.getD_eq_getElem?_getD,List.getElem?_eq_getElem (by simpa using h2)];rfl
   ·simp;omega
  ·have hja:=bT hj;obtain⟨W5,en,Rb,rfl,rfl⟩:∃(W5:j<E.length) (en:En),E.getD j Lz=en∧kk=kW en.k∧v=.dP en.i en.n en.cap:=by
    rw[bR,List.getElem?_map,Option.map_eq_some_iff] at hj;obtain⟨en,h1,h2⟩:=hj;rw[Prod.mk.injEq] at h2;exact⟨(List.getElem?_eq_some_iff.1 h1).1,en,by rw[List.getD_eq_getElem?_getD,h1];rfl,h2.1.symm,h2.2.symm⟩
   have hle:seen.length<E.length:=by
    have:=Kd E.length (seen++[j]) (by rw[List.nodup_append];exact⟨k1,by simp,fun a ha b hb=>by simp at hb;rw[hb];exact fun e=>Q1 (by rw[←e];exact ha)⟩) (fun a ha=>by
     rcases List.mem_append.1 ha with ha|ha
     ·exact k2 a ha
     ·simp at ha;rw[ha];exact W5)
    simp at this;omega
   have k1':(seen++[j]).Nodup:=by
    rw[List.nodup_append];exact⟨k1,by simp,fun a ha b hb=>by simp at hb;rw[hb];exact fun e=>Q1 (by rw[←e];exact ha)⟩
   have RJ:∀a∈seen++[j],a<E.length:=fun a ha=>by
    rcases List.mem_append.1 ha with ha|ha
    ·exact k2 a ha
    ·simp at ha;rw[ha];exact W5
   have Ls:en.i<J2.length:=by
    have:en∈E:=by rw[←Rb];exact aR E j Lz W5
    exact k4.lt (i:=en.i) (b:=en.mO) (by
     have:(en.i,en.mO)∈dH E:=List.mem_map.2 ⟨en,this,rfl⟩;simp[this])
   have Fi:=Has.set (A:=[]) (B:=(b4,.cells [.sl ids.length (ints ids) (.own td),tv,.sl 0 [] .full])::(TB++(b2,.cells [.sl 0 [] .full,.sl 0 [] .full,.sl 0 [] .full])::(b6,.map (bE F))::(b5,.map (bR E))::(gG F++dH E))) (b:=.kq b5 E.length seen) k4 (.kq b5 E.length (seen++[j]));have DQ:=k5.set aaS (.kq b5 E.length (seen++[j]));have Sy:bM (J2.set bm (.kq b5 E.length (seen++[j]))) U:=k6.Qk;have W4:(J2.set bm (.kq b5 E.length (seen++[j]))).length=J2.length:=by simp
   generalize J2.set bm (.kq b5 E.length (seen++[j]))=J3 at *;have em:=bT (Fi.get (i:=bm) (b:=.kq b5 E.length (seen++[j])) (by simp));have e5:=bT (Fi.get (i:=b5) (b:=.map (bR E)) (by simp));have lm3:bm<J3.length:=by omega
   have Zx:b5<J3.length:=by omega
   have WT:b4<J3.length:=by omega
   clear lm2 l52 QZ k4;simp(disch:=omega)[kW];apply hK;clear hK K;refine af fun K2 aY=>?_;apply aH rfl;apply ak;simp(disch:=omega) ;apply aY;clear aY;apply ai;have o6:j<(bR E).length:=by omega
   refine ae fun K hK=>?_;simp(disch:=omega)[em,e5,hja,mZ,List.getLast?_append,kW];apply hK;clear hK K;have R0:bM (J3++[.cells [.int .i64 en.k.1,.str en.k.2]]) U:=Sy.snoc (by simp);have B0:=(Fi.new (.cells [.int .i64 en.k.1,.str en.k.2])).perm (List.perm_append_singleton _ _).symm;have vU:=DQ.app [aG.cells [.int .i64 en.k.1,.str en.k.2]];have Q4:(J3++[aG.cells [.int .i64 en.k.1,.str en.k.2]]).length=J3.length+1:=by simp
   obtain⟨NK,h17⟩:∃i,i=J3.length:=⟨_,rfl⟩
   rw[←h17] at B0;simp only[←h17];have aaG:en.i<(J3++[aG.cells [.int .i64 en.k.1,.str en.k.2]]).length:=by omega
   clear em e5 Fi;generalize J3++[aG.cells [.int .i64 en.k.1,.str en.k.2]]=J4 at *;have e17:=bT (B0.get (i:=NK) (b:=.cells [.int .i64 en.k.1,.str en.k.2]) (by simp));have e4:=bT (B0.get (i:=b4) (b:=.cells [.sl ids.length (ints ids) (.own td),tv,.sl 0 [] .full]) (by simp));have l17:NK<J4.length:=by omega
   have l4:b4<J4.length:=by omega
   have l6':=B0.lt (i:=b6) (b:=.map (bE F)) (by simp);have l2':=B0.lt (i:=b2) (b:=.cells [.sl 0 [] .full,.sl 0 [] .full,.sl 0 [] .full]) (by simp);have l5':=B0.lt (i:=b5) (b:=.map (bR E)) (by simp);have lm':=B0.lt (i:=bm) (b:=.kq b5 E.length (seen++[j])) (by simp);have lH4:=vU.le;have acj:td<U.length:=q2.lt (b:=(ids.length,1)) (by simp);have tW:(seen++[j]).map (fun j=>eZ (E.getD j Lz))=seen.map (fun j=>eZ (E.getD j Lz))++[(en.k,.cO en.i 0 en.n)]:=by
    rw[List.map_append,List.map_singleton,Rb];rfl
   have hrl:(seen.map fun j=>eZ (E.getD j Lz)).length=seen.length:=by simp
   generalize ab7:seen.map (fun j=>eZ (E.getD j Lz))=rows at *;have fin:∀(e:Env) (J5:List aG) (HN:AV) (SS:List (Nat×aG)),Iz H.length (rows++[(en.k,.cO en.i 0 en.n)]) HN SS→Has J5 ((NK,.cells [.int .i64 en.k.1,.str en.k.2])::(bm,.kq b5 E.length (seen++[j]))::(b4,.cells [.sl ids.length (ints ids) (.own td),HN,.sl 0 [] .full])::(SS++(b2,.cells [.sl 0 [] .full,.sl 0 [] .full,.sl 0 [] .full])::(b6,.map (bE F))::(b5,.map (bR E))::(gG F++dH E)))→gP H J5→bM J5 U→J4.length≤J5.length→
     b9 J5.length U.length e [(2,.ptr b2 0),(4,.ptr b4 0),(5,.aV b5),(6,.aV b6),(151,.ptr bm 0)]→∃x':List Nat×List aG×AV×List (Nat×aG),(x'.1.Nodup∧(∀j∈x'.1,j<E.length)∧Iz H.length (x'.1.map fun j=>eZ (E.getD j Lz)) x'.2.2.1 x'.2.2.2∧Has x'.2.1 ((bm,.kq b5 E.length (x'.1))::(b4,.cells [.sl ids.length (ints ids) (.own td),x'.2.2.1,.sl 0 [] .full])::(x'.2.2.2++(b2,.cells [.sl 0 [] .full,.sl 0 [] .full,.sl 0 [] .full])::(b6,.map (bE F))::(b5,.map (bR E))::(gG F++dH E)))∧gP H x'.2.1∧bM x'.2.1 U∧J1.length≤x'.2.1.length)∧E.length-x'.1.length<E.length-seen.length∧
      vK ⟨Tryz.prog,192,152,nb,tb,[100104,100147,100166]⟩ ⟨e,J5,U⟩ ⟨[(2,.ptr b2 0),(4,.ptr b4 0),(5,.aV b5),(6,.aV b6),(151,.ptr bm 0)],x'.2.1,U⟩:=by
    intro e J5 HN SS t1 t2 t3 t4 t5 t6;refine⟨(seen++[j],J5,HN,SS),⟨k1',RJ,?_,t2.sub (List.sublist_cons_self _ _),t3,t4,by show J1.length≤J5.length;omega⟩,?_,?_⟩
    ·show Iz H.length ((seen++[j]).map fun j=>eZ (E.getD j Lz)) HN SS;rw[tW];exact t1
    ·show E.length-(seen++[j]).length<_;rw[List.length_append,List.length_singleton];omega
    ·exact ag [] [] (by simp) (by simp) (by show nb≤J5.length;have:=t3.le;omega) (by show tb≤_;omega) t4 t6
   rcases k3.h with⟨DH,rfl,rfl⟩|⟨it,cap,rest,rfl,rfl,g1,g2,g3,g4⟩
   ·refine ar fun K hK=>?_;simp(disch:=omega)[e17,e4,List.getElem?_append_left];intro nc mK;apply hK;clear hK K;rw[←List.set_append_left _ _ l4];have hRB:aL (J4.length+1) U.length (.int .i64 en.k.1::.str en.k.2::.cO en.i 0 en.n::List.replicate ((nc-1)*3) .top):=by
     simp;omega
    have L3:=(B0.new (.cells (.int .i64 en.k.1::.str en.k.2::.cO en.i 0 en.n::List.replicate ((nc-1)*3) .top)))
    have Fh:bM (J4++[.cells (.int .i64 en.k.1::.str en.k.2::.cO en.i 0 en.n::List.replicate ((nc-1)*3) .top)]) U:=R0.snoc hRB;have LZ:=vU.app [aG.cells (.int .i64 en.k.1::.str en.k.2::.cO en.i 0 en.n::List.replicate ((nc-1)*3) .top)];have ZQ:(J4++[aG.cells (.int .i64 en.k.1::.str en.k.2::.cO en.i 0 en.n::List.replicate ((nc-1)*3) .top)]).length=J4.length+1:=by simp
    obtain⟨it,Lr⟩:∃i,i=J4.length:=⟨_,rfl⟩
    rw[←Lr] at L3;simp only[←Lr];generalize J4++[aG.cells (.int .i64 en.k.1::.str en.k.2::.cO en.i 0 en.n::List.replicate ((nc-1)*3) .top)]=J5 at *;have SC:=Has.set (A:=[(NK,.cells [.int .i64 en.k.1,.str en.k.2]),(bm,.kq b5 E.length (seen++[j]))]) (B:=((b2,.cells [.sl 0 [] .full,.sl 0 [] .full,.sl 0 [] .full])::(b6,.map (bE F))::(b5,.map (bR E))::(gG F++dH E))++[(it,.cells (.int .i64 en.k.1::.str en.k.2::.cO en.i 0 en.n::List.replicate ((nc-1)*3) .top))]) (b:=.cells [.sl ids.length (ints ids) (.own td),.sl 0 [] .full,.sl 0 [] .full]) (by simpa using L3) (.cells [.sl ids.length (ints ids) (.own td),.dP it 1 nc,.sl 0 [] .full]);refine fin _ _ (.dP it 1 nc) [(it,.cells (.int .i64 en.k.1::.str en.k.2::.cO en.i 0 en.n::List.replicate ((nc-1)*3) .top))] ⟨.inr ⟨it,nc,List.replicate ((nc-1)*3) .top,by rw[DH];rfl,by rw[DH];rfl,by rw[DH];simp,by rw[DH];simpa using mK,by omega,by simp⟩⟩ ?_ (LZ.set BY _) (Fh.set (by simp;omega)) (by simp;omega) ?_
    ·refine SC.perm ?_;refine List.Perm.cons _ (List.Perm.cons _ (List.Perm.cons _ ?_));exact(List.perm_append_singleton _ _).symm
    ·simp;omega
   ·have gi:=B0.get (i:=it) (b:=.cells (dV rows++rest)) (by simp);have lit:=(List.getElem?_eq_some_iff.1 gi).1;have o7:(dV rows++rest).length=rows.length*3+rest.length:=by rw[List.length_append,qs]
    have kS:(dV rows++rest).take (rows.length*3)=dV rows:=List.take_left' (by rw[qs]);have vv:(dV rows++rest).drop ((rows.length+1)*3)=rest.drop 3:=by
     rw[List.drop_append,List.drop_of_length_le (by rw[qs];omega),List.nil_append,qs]
     congr 1;omega
    have yK:(rows++[(en.k,AV.cO en.i 0 en.n)]).length=rows.length+1:=by simp
    refine ar fun K hK=>?_;simp(disch:=omega)[e17,e4];refine⟨117,_,[.int .i64 en.k.1,.str en.k.2,.cO en.i 0 en.n],1,by kernel_rfl,gi,by rw[o7,uX];omega,by simp,by simp;omega,by omega,by kernel_rfl,by simp,fun hle=>?_,fun nc bh mK=>?_⟩
    ·simp only[uX,kS,vv];rw[show aG.cells (dV rows++[.int .i64 en.k.1,.str en.k.2,.cO en.i 0 en.n]++rest.drop 3)=.cells (dV (rows++[(en.k,.cO en.i 0 en.n)])++rest.drop 3) by rw[og]];have L3:=Has.set (A:=[(NK,.cells [.int .i64 en.k.1,.str en.k.2]),(bm,.kq b5 E.length (seen++[j])),(b4,.cells [.sl ids.length (ints ids) (.own td),.dP it rows.length cap,.sl 0 [] .full])]) (B:=(b2,.cells [.sl 0 [] .full,.sl 0 [] .full,.sl 0 [] .full])::(b6,.map (bE F))::(b5,.map (bR E))::(gG F++dH E)) (b:=.cells (dV rows++rest)) (by simpa using B0) (.cells (dV (rows++[(en.k,.cO en.i 0 en.n)])++rest.drop 3));have LZ:=vU.set g3 (.cells (dV (rows++[(en.k,.cO en.i 0 en.n)])++rest.drop 3));have Fh:bM (J4.set it (.cells (dV (rows++[(en.k,.cO en.i 0 en.n)])++rest.drop 3))) U:=by
      refine R0.set ?_;have:=R0 it (.cells (dV rows++rest)) gi;simp only[aG.xq] at this;intro v hv;rcases List.mem_append.1 hv with hv|hv
      ·rw[←og] at hv;rcases List.mem_append.1 hv with hv|hv
       ·exact this v (List.mem_append_left _ hv)
       ·simp at hv;rcases hv with rfl|rfl|rfl
        ·exact .int _ _
        ·exact .str _
        ·exact .cO _ _ _ aaG
      ·exact this v (List.mem_append_right _ (List.mem_of_mem_drop hv))
     have ZQ:(J4.set it (.cells (dV (rows++[(en.k,.cO en.i 0 en.n)])++rest.drop 3))).length=J4.length:=by simp
     generalize J4.set it (.cells (dV (rows++[(en.k,.cO en.i 0 en.n)])++rest.drop 3))=J5 at *;have e4:=bT (L3.get (i:=b4) (b:=.cells [.sl ids.length (ints ids) (.own td),.dP it rows.length cap,.sl 0 [] .full]) (by simp));have l4:b4<J5.length:=by omega
     simp(disch:=omega)[e4];apply hK;clear hK K;have SC:=Has.set (A:=[(NK,.cells [.int .i64 en.k.1,.str en.k.2]),(bm,.kq b5 E.length (seen++[j]))]) (B:=(it,.cells (dV (rows++[(en.k,.cO en.i 0 en.n)])++rest.drop 3))::(b2,.cells [.sl 0 [] .full,.sl 0 [] .full,.sl 0 [] .full])::(b6,.map (bE F))::(b5,.map (bR E))::(gG F++dH E)) (b:=.cells [.sl ids.length (ints ids) (.own td),.dP it rows.length cap,.sl 0 [] .full]) (by simpa using L3) (.cells [.sl ids.length (ints ids) (.own td),.dP it (rows.length+1) cap,.sl 0 [] .full]);refine fin _ _ (.dP it (rows.length+1) cap) [(it,.cells (dV (rows++[(en.k,.cO en.i 0 en.n)])++rest.drop 3))] ⟨.inr ⟨it,cap,rest.drop 3,by rw[yK],rfl,by rw[yK,List.length_drop];omega,by rw[yK];exact hle,g3,by rw[yK];omega⟩⟩ (by simpa using SC) (LZ.set BY _) (Fh.set (by simp;omega)) (by simp;omega) ?_;simp;omega
    ·simp only[uX,kS];obtain⟨r2,o4⟩:∃r2,r2=List.replicate ((nc-(rows.length+1))*3) AV.top:=⟨_,rfl⟩
     have Ij:r2.length=(nc-(rows.length+1))*3:=by rw[o4];simp
     have PO:aL (J4.length+1) U.length r2:=by rw[o4];simp
     rw[←o4];rw[show aG.cells (dV rows++[.int .i64 en.k.1,.str en.k.2,.cO en.i 0 en.n]++r2)=.cells (dV (rows++[(en.k,.cO en.i 0 en.n)])++r2) by rw[og]];have L3:=(B0.sub (S':=(NK,.cells [.int .i64 en.k.1,.str en.k.2])::(bm,.kq b5 E.length (seen++[j]))::(b4,.cells [.sl ids.length (ints ids) (.own td),.dP it rows.length cap,.sl 0 [] .full])::(b2,.cells [.sl 0 [] .full,.sl 0 [] .full,.sl 0 [] .full])::(b6,.map (bE F))::(b5,.map (bR E))::(gG F++dH E)) (.cons_cons _ (.cons_cons _ (.cons_cons _ (List.sublist_cons_self _ _))))).new (.cells (dV (rows++[(en.k,.cO en.i 0 en.n)])++r2));have LZ:=vU.app [aG.cells (dV (rows++[(en.k,.cO en.i 0 en.n)])++r2)];have Fh:bM (J4++[.cells (dV (rows++[(en.k,.cO en.i 0 en.n)])++r2)]) U:=by
      refine R0.snoc ?_;have:=R0 it (.cells (dV rows++rest)) gi;simp only[aG.xq] at this;intro v hv;rcases List.mem_append.1 hv with hv|hv
      ·rw[←og] at hv;rcases List.mem_append.1 hv with hv|hv
       ·exact(this v (List.mem_append_left _ hv)).more (Nat.le_succ _) (Nat.le_refl _)
       ·simp at hv;rcases hv with rfl|rfl|rfl
        ·exact .int _ _
        ·exact .str _
        ·exact .cO _ _ _ (by omega)
      ·exact PO v hv
     have ZQ:(J4++[aG.cells (dV (rows++[(en.k,.cO en.i 0 en.n)])++r2)]).length=J4.length+1:=by simp
     obtain⟨i2,eE⟩:∃i,i=J4.length:=⟨_,rfl⟩
     rw[←eE] at L3;simp only[←eE];generalize J4++[aG.cells (dV (rows++[(en.k,.cO en.i 0 en.n)])++r2)]=J5 at *;have e4:=bT (L3.get (i:=b4) (b:=.cells [.sl ids.length (ints ids) (.own td),.dP it rows.length cap,.sl 0 [] .full]) (by simp));have l4:b4<J5.length:=by omega
     simp(disch:=omega)[e4];apply hK;clear hK K;have SC:=Has.set (A:=[(NK,.cells [.int .i64 en.k.1,.str en.k.2]),(bm,.kq b5 E.length (seen++[j]))]) (B:=((b2,.cells [.sl 0 [] .full,.sl 0 [] .full,.sl 0 [] .full])::(b6,.map (bE F))::(b5,.map (bR E))::(gG F++dH E))++[(i2,.cells (dV (rows++[(en.k,.cO en.i 0 en.n)])++r2))]) (b:=.cells [.sl ids.length (ints ids) (.own td),.dP it rows.length cap,.sl 0 [] .full]) (by simpa using L3) (.cells [.sl ids.length (ints ids) (.own td),.dP i2 (rows.length+1) nc,.sl 0 [] .full]);refine fin _ _ (.dP i2 (rows.length+1) nc) [(i2,.cells (dV (rows++[(en.k,.cO en.i 0 en.n)])++r2))] ⟨.inr ⟨i2,nc,r2,by rw[yK],rfl,by rw[yK];exact Ij,by rw[yK];exact mK,by omega,by rw[yK];omega⟩⟩ ?_ (LZ.set BY _) (Fh.set (by simp;omega)) (by simp;omega) ?_
     ·refine SC.perm ?_;refine List.Perm.cons _ (List.Perm.cons _ (List.Perm.cons _ ?_));exact(List.perm_append_singleton _ _).symm
     ·simp;omega
abbrev ccC (e:Ef):List AV:=[.int .i64 e.f,.cO e.i 0 e.x.length]
def sY (l:List Ef):List AV:=l.flatMap fun e=>[.int .i64 e.f,.cO e.i 0 e.x.length]
theorem EJ:fI ccC 2:=fun _=>rfl
theorem AE (l:List Ef):(sY l).length=l.length*2:=dm EJ l
def pP (e:Ef):Ef:={ e with x:=nz e.x }
theorem wk (l:List Nm):(nz l).length=l.length:=List.length_mergeSort _
def eH (m:Int)(F:List Ef):List Ef:=F.map fun e=>if 5≤e.f∧e.f<m then pP e else e
theorem CO (F:List Ef):eH 5 F=F:=by
 simp only[eH]
 conv=>rhs;rw[←List.map_id F]
 refine List.map_congr_left fun e _=>?_;rw[if_neg (by omega)];rfl
theorem F7 {F1 F2:List Ef}{e:Ef}(h:((F1++e::F2).map (·.f)).Nodup)(h5:5≤e.f):eH (e.f+1) (F1++e::F2)=eH e.f F1++pP e::eH e.f F2∧eH e.f (F1++e::F2)=eH e.f F1++e::eH e.f F2:=by
 have h1:∀x,x∈F1∨x∈F2→x.f≠e.f:=by
  rw[List.map_append,List.map_cons,List.nodup_append,List.nodup_cons] at h;rintro x (hx|hx)
  ·exact h.2.2 x.f (List.mem_map.2 ⟨x,hx,rfl⟩) e.f (by simp)
  ·exact fun ee=>h.2.1.1 (ee▸List.mem_map.2 ⟨x,hx,rfl⟩)
 have h2:∀l:List Ef,(∀x∈l,x.f≠e.f)→eH (e.f+1) l=eH e.f l:=fun l hl=>by
  refine List.map_congr_left fun x hx=>?_;have:=hl x hx
  by_cases hh:5≤x.f∧x.f<e.f
  ·rw[if_pos hh,if_pos (by omega)]
  ·rw[if_neg hh,if_neg (by omega)]
 constructor
 ·rw[←h2 F1 (fun x hx=>h1 x (.inl hx)),←h2 F2 (fun x hx=>h1 x (.inr hx))];simp only[eH,List.map_append,List.map_cons];rw[if_pos (by omega:5≤e.f∧e.f<e.f+1)]
 ·simp only[eH,List.map_append,List.map_cons];rw[if_neg (by omega:¬(5≤e.f∧e.f<e.f))]
theorem Js {F:List Ef}{m:Int}(h:m∉F.map (·.f)):eH (m+1) F=eH m F:=by
 refine List.map_congr_left fun x hx=>?_;have:x.f≠m:=fun ee=>h (ee▸List.mem_map.2 ⟨x,hx,rfl⟩)
 by_cases hh:5≤x.f∧x.f<m
 ·rw[if_pos hh,if_pos (by omega)]
 ·rw[if_neg hh,if_neg (by omega)]
def gV (F:List Ef):Nat→List Ef
 |0=>[]
 |g+1=>match F.find? (fun e=>e.f==(5+g:Int)) with
  |some e=>gV F g++[pP e]
  |none=>gV F g
def CV (T U:ay)(az:List Ef)(cv:AV):Prop:=(az=[]∧cv=.sl 0 [] .full)∨∃tc,cv=.sl az.length (sY az) (.own tc)∧U[tc]?=some (az.length*2,2)∧T.length≤tc
attribute [-simp] List.getD_eq_getElem?_getD in
theorem Hm (H:List aG)(T:ay)(nb tb N:Nat)(iD:nb≤H.length)(iq:tb≤T.length)(b2 b4 b6:Nat)(dv tv:AV)(F:List Ef)(J:List aG)(U:ay)(R:List (Nat×aG))
  (hJ:Has J ((b4,.cells [dv,tv,.sl 0 [] .full])::(b6,.map (bE F))::(gG F++R))) (hF:∀e∈F,Mu H.length N e) (hN:N≤1099511627776) (BK:(F.map (·.f)).Nodup) (vy:dw Tryz.prog 3 (bE F)=true) (hP:gP H J) (xo:gP T U) (hO:bM J U) (BY:H.length≤b4) (jQ:b2<J.length)
  (WY:Below J.length U.length tv) (tS:Below J.length U.length dv) (Q:Exit→St→Prop)
  (go:∀(e:Env)(J':List aG)(U':ay)(cv:AV),CV T U' (gV F 3) cv→Has J' ((b4,.cells [dv,tv,cv])::(b6,.map (bE F))::(gG (eH 8 F)++R))→gP H J'→gP T U'→bM J' U'→J.length≤J'.length→b9 J'.length U'.length e [(2,.ptr b2 0),(4,.ptr b4 0),(6,.aV b6)]→Q .normal ⟨e,J',U'⟩) :
  AW ⟨Tryz.prog,192,152,nb,tb,[100104,100147,100166]⟩ (iN [1,1,1,1,1,1,1,1,1,1,1,0] (Tryz.f13.body.getD .skip)) Q ⟨[(2,.ptr b2 0),(4,.ptr b4 0),(6,.aV b6)],J,U⟩:=by
 conv=>arg 2;whnf
 have lH:=hP.le;have lT:=xo.le;have l4:=hJ.lt (i:=b4) (b:=.cells [dv,tv,.sl 0 [] .full]) (by simp);have l6:=hJ.lt (i:=b6) (b:=.map (bE F)) (by simp);apply ae;intro K h;simp(disch:=omega);apply h;clear h K;apply ai;refine aK (X:=Nat×List aG×ay×AV) (fun x=>⟨[(2,.ptr b2 0),(4,.ptr b4 0),(6,.aV b6),(19,.int .i64 (5+x.1:Int))],x.2.1,x.2.2.1⟩)
  (fun x=>x.1≤3∧CV T x.2.2.1 (gV F x.1) x.2.2.2∧Has x.2.1 ((b4,.cells [dv,tv,x.2.2.2])::(b6,.map (bE F))::(gG (eH (5+x.1:Int) F)++R))∧gP H x.2.1∧gP T x.2.2.1∧bM x.2.1 x.2.2.1∧J.length≤x.2.1.length∧U.length≤x.2.2.1.length) (fun x=>3-x.1) (0,J,U,.sl 0 [] .full) ?_ ?_ ?_
 ·refine⟨by omega,.inl ⟨rfl,rfl⟩,?_,hP,xo,hO,Nat.le_refl _,Nat.le_refl _⟩;have:=CO F;simp only[Int.add_zero,Int.natCast_zero];show Has J ((b4,.cells [dv,tv,.sl 0 [] .full])::(b6,.map (bE F))::(gG (eH 5 F)++R));rw[this];exact hJ
 ·refine ag [] [] ?_ ?_ ?_ ?_ hO ?_
  all_goals simp
  all_goals omega
 ·rintro⟨g,J2,U2,cv⟩ ⟨k1,k2,k3,k4,k5,k6,k7,k8⟩;simp only at k1 k2 k3 k4 k5 k6 k7 k8;have WS:=k4.le;have lT2:=k5.le;have l62:=k3.lt (i:=b6) (b:=.map (bE F)) (by simp);have QZ:b4<J2.length:=by omega
  have e6:=bT (k3.get (i:=b6) (b:=.map (bE F)) (by simp));have e4:=bT (k3.get (i:=b4) (b:=.cells [dv,tv,cv]) (by simp));refine af fun K2 aY=>?_
  by_cases hg:g<3
  rotate_left
  ·have bg:decide ((5:Int)+g≤7)=false:=decide_eq_false (by omega);have ng:¬(5:Int)+g≤7:=by omega
   refine ae fun K hK=>?_;simp(disch:=omega)[bg,ng];apply hK;clear hK K;apply aC rfl;apply aD;simp(disch:=omega) ;have R9:g=3:=by omega
   subst R9;refine go _ J2 U2 cv k2 k3 k4 k5 k6 (by omega) ?_;simp;omega
  ·have bg:decide ((5:Int)+g≤7)=true:=decide_eq_true (by omega);have ng:(5:Int)+g≤7:=by omega
   have qY:(5+((g+1:Nat):Int))=5+(g:Int)+1:=by omega
   have vz:=Tq (5+g) (by omega);have mS:o8 (5+g)=.one (.int .i64 (5+g)):=rfl;rw[mS] at vz;refine ae fun K hK=>?_;simp(disch:=omega)[bg,ng];apply hK;clear hK K;apply aH rfl;apply ak;simp(disch:=omega) ;apply aY;clear aY;refine af fun K3 bA=>?_;apply ai;have fin:∀(e:Env)(J3:List aG)(U3:ay)(H6:AV),CV T U3 (gV F (g+1)) H6→Has J3 ((b4,.cells [dv,tv,H6])::(b6,.map (bE F))::(gG (eH (5+g+1:Int) F)++R))→gP H J3→gP T U3→bM J3 U3→J.length≤J3.length→U.length≤U3.length→b9 J3.length U3.length e [(2,.ptr b2 0),(4,.ptr b4 0),(6,.aV b6),(19,.int .i64 (5+g:Int))]→K3 ⟨e,J3,U3⟩:=by
    intro e J3 U3 H6 t1 t2 t3 t4 t5 t6 t7 t8;have WR:=t3.le;have WQ:=t4.le;have l63:=t2.lt (i:=b6) (b:=.map (bE F)) (by simp);have WT:=t2.lt (i:=b4) (b:=.cells [dv,tv,H6]) (by simp);refine bA _ (aQ ⟨[(2,.ptr b2 0),(4,.ptr b4 0),(6,.aV b6),(19,.int .i64 (5+g:Int))],J3,U3⟩ (ag [] [] (by simp) (by simp) (by show nb≤J3.length;omega) (by show tb≤U3.length;omega) t5 t8) ?_);refine ar fun K hK=>?_;simp(disch:=omega) ;apply hK;clear hK K;refine⟨(g+1,J3,U3,H6),⟨by show g+1≤3;omega,t1,by simp only[qY];exact t2,t3,t4,t5,t6,t7⟩,by show 3-(g+1)<3-g;omega,?_⟩;refine ag [] [] ?_ ?_ ?_ ?_ t5 ?_
    all_goals simp
    all_goals omega
   clear bA
   by_cases hex:(5+g:Int)∈F.map (·.f)
   rotate_left
   ·have fw:ir (bE F) (.one (.int .i64 (5+g))) (.sl 0 [] .full) false=.sl 0 [] .full:=by
     unfold ir;rw[←mS,oA (rW hex)];rfl
    have Sa:F.find? (fun e=>e.f==(5+g:Int))=none:=by
     rw[List.find?_eq_none];intro x hx;have:x.f≠5+g:=fun ee=>hex (List.mem_map.2 ⟨x,hx,ee⟩);simpa using this
    refine ae fun K hK=>?_;simp(disch:=omega)[tH,qq,vz,vy,e6,fw];apply hK;clear hK K;apply ae;intro K h;simp(disch:=omega);apply h;clear h K;apply aC rfl;apply ak;simp(disch:=omega) ;refine fin _ J2 U2 cv ?_ ?_ k4 k5 k6 (by omega) (by omega) ?_
    ·unfold gV;rw[Sa];exact k2
    ·rw[Js hex];exact k3
    ·simp;omega
   ·obtain⟨e,HY,qO⟩:=List.mem_map.1 hex;obtain⟨F1,F2,rfl⟩:=List.append_of_mem HY;have fC:=hF _ HY;obtain⟨m1,m2⟩:=F7 BK (by omega);have jV:=Ak BK;rw[qO] at m1 m2 jV;have hfd:(F1++e::F2).find? (fun x=>x.f==(5+g:Int))=some e:=by rw[lP BK,if_pos qO.symm]
    have pV:gV (F1++e::F2) (g+1)=gV (F1++e::F2) g++[pP e]:=by
     rw[gV,hfd]
    have fw:ir (bE (F1++e::F2)) (.one (.int .i64 (5+g))) (.sl 0 [] .full) false=.dP e.i e.x.length e.cap:=by
     unfold ir;rw[←mS,jV];rfl
    obtain⟨p1,p2,p3,p4,p5⟩:=fC;have bl:decide ((0:Int)<(e.x.length:Int))=true:=decide_eq_true (by omega);have k3b:Has J2 ((b4,.cells [dv,tv,cv])::(b6,.map (bE (F1++e::F2)))::(gG (eH (5+g) F1)++(e.i,.cells (br e.x++e.rest))::(gG (eH (5+g) F2)++R))):=by
     rw[m2] at k3;simpa[gG,Ef.mO] using k3
    have gi:=k3b.get (i:=e.i) (b:=.cells (br e.x++e.rest)) (by simp);have li:=(List.getElem?_eq_some_iff.1 gi).1;have cs:=fun U=>F9 e.x e.rest e.i e.cap (by omega) J2 U gi;have Fi:=Has.set (A:=(b4,.cells [dv,tv,cv])::(b6,.map (bE (F1++e::F2)))::gG (eH (5+g) F1)) (B:=gG (eH (5+g) F2)++R) (b:=.cells (br e.x++e.rest)) (by simpa using k3b) (.cells (br (nz e.x)++e.rest));have Iv:Has (J2.set e.i (.cells (br (nz e.x)++e.rest))) ((b4,.cells [dv,tv,cv])::(b6,.map (bE (F1++e::F2)))::(gG (eH (5+g+1) (F1++e::F2))++R)):=by
     rw[m1];simpa[gG,Ef.mO,pP] using Fi
    have DQ:=k4.set p4 (.cells (br (nz e.x)++e.rest));have W4:(J2.set e.i (.cells (br (nz e.x)++e.rest))).length=J2.length:=by simp
    generalize hFF:F1++e::F2=FF at *;refine ae fun K hK=>?_;simp(disch:=omega)[tH,qq,vz,vy,e6,fw];apply hK;clear hK K;refine ae fun K hK=>?_;simp(disch:=omega)[bl,p5];apply hK;clear hK K;apply aH rfl;refine ae fun K hK=>?_;simp(disch:=omega) ;refine ah (cs _) ?_;simp(disch:=omega) ;apply hK;clear hK K;have Sy:bM (J2.set e.i (.cells (br (nz e.x)++e.rest))) U2:=by
     refine k6.set ?_;have:=k6 e.i (.cells (br e.x++e.rest)) gi;simp only[aG.xq] at this;intro v hv;rcases List.mem_append.1 hv with hv|hv
     ·exact AG _ _ _ v hv
     ·exact this v (List.mem_append_right _ hv)
    clear e4 e6 gi;generalize J2.set e.i (.cells (br (nz e.x)++e.rest))=J3 at *;have e4:=bT (Iv.get (i:=b4) (b:=.cells [dv,tv,cv]) (by simp));have WT:b4<J3.length:=by omega
    have yx:e.i<J3.length:=by omega
    have hBe:∀U':ay,True:=fun _=>trivial;have l63:=Iv.lt (i:=b6) (b:=.map (bE FF)) (by simp);rcases k2 with⟨qQ,rfl⟩|⟨tc,rfl,htc,S7⟩
    ·refine ar fun K hK=>?_;simp(disch:=omega)[e4];apply hK;clear hK K;have B0:=Has.set (A:=[]) (B:=(b6,.map (bE FF))::(gG (eH (5+g+1) FF)++R)) (b:=.cells [dv,tv,.sl 0 [] .full]) (by simpa using Iv) (.cells [dv,tv,.sl 1 [.int .i64 (5+g),.cO e.i 0 e.x.length] (.own U2.length)]);refine fin _ _ _ (.sl 1 [.int .i64 (5+g),.cO e.i 0 e.x.length] (.own U2.length)) ?_ B0 (DQ.set BY _) (k5.app _) ?_ (by simp;omega) (by simp;omega) ?_
     ·refine .inr ⟨U2.length,?_,by rw[pV,qQ];simp,by omega⟩;rw[pV,qQ];simp[sY,pP,wk,qO]
     ·refine(Sy.df (by simp)).set ?_;have h1:=WY.more (n':=J3.length) (t':=(U2++[(2,2)]).length) (by omega) (by simp;omega);have h2:=tS.more (n':=J3.length) (t':=(U2++[(2,2)]).length) (by omega) (by simp;omega);simp[h1,h2,yx];exact⟨by simpa using h2,by simpa using h1⟩
     ·simp;omega
    ·have ltc:=(List.getElem?_eq_some_iff.1 htc).1;have eU:=bT htc;have fS:=AE (gV FF g);have acx:(gV FF g).length≤3:=by
      have:∀k,(gV FF k).length≤k:=by
       intro k
       induction k with
       |zero=>exact Nat.le_refl _
       |succ k ih=>
        unfold gV
        split
        ·simp;omega
        ·omega
      have:=this g;omega
     refine ar fun K hK=>?_;simp(disch:=omega)[e4,eU,fS];apply hK;clear hK K;have B0:=Has.set (A:=[]) (B:=(b6,.map (bE FF))::(gG (eH (5+g+1) FF)++R)) (b:=.cells [dv,tv,.sl (gV FF g).length (sY (gV FF g)) (.own tc)]) (by simpa using Iv) (.cells [dv,tv,.sl ((gV FF g).length+1) (sY (gV FF g)++[.int .i64 (5+g),.cO e.i 0 e.x.length]) (.own tc)]);refine fin _ _ _ (AV.sl ((gV FF g).length+1) (sY (gV FF g)++[AV.int .i64 (5+g),AV.cO e.i 0 e.x.length]) (.own tc)) ?_ B0 (DQ.set BY _) (k5.set S7 _) ?_ (by simp;omega) (by simp;omega) ?_
     ·refine .inr ⟨tc,?_,?_,S7⟩
      ·rw[pV];simp[sY,pP,wk,qO]
      ·rw[pV,List.getElem?_set_self ltc];simp
       try omega
     ·refine(Sy.df (by simp)).set ?_;have h0:=Sy b4 _ (Iv.get (i:=b4) (b:=.cells [dv,tv,.sl (gV FF g).length (sY (gV FF g)) (.own tc)]) (by simp));simp only[aG.xq,List.mem_cons,List.not_mem_nil,or_false,forall_eq_or_imp,forall_eq] at h0;obtain⟨h1,h2,h3⟩:=h0;simp at h3;simp[h1,h2,h3.1,h3.2,yx]
     ·simp;omega
inductive pW:List Dc→List En→List Ef→Prop
 |nil:pW [] [] []
 |snoc {l:List Dc} {d:Dc} {E E':List En} {F F':List Ef} (h:pW l E F) (h1:mh d.id E (ez d.zs) E') (h2:pX F (yQ d.id d.ns) F'):pW (l++[d]) E' F'
def jB (l:List Dc):Nat:=(l.map fun d=>(ez d.zs).length).sum
def kU (l:List Dc):Nat:=(l.map fun d=>d.ns.length).sum
theorem FM (l:List Dc)(i:Nat)(h:i<l.length):jB (l.take i)+(ez (l.getD i d0).zs).length=jB (l.take (i+1)):=by
 rw[dx l i d0 h];simp[jB]
theorem GK (l:List Dc)(i:Nat)(h:i<l.length):kU (l.take i)+(l.getD i d0).ns.length=kU (l.take (i+1)):=by
 rw[dx l i d0 h];simp[kU]
theorem zh (a b:List Dc):jB (a++b)=jB a+jB b:=by simp[jB]
theorem My (l:List Dc)(i:Nat):jB (l.take i)≤jB l:=by
 have:jB l=jB (l.take i)+jB (l.drop i):=by rw[←zh,List.take_append_drop]
 omega
theorem Kc (a b:List Dc):kU (a++b)=kU a+kU b:=by simp[kU]
theorem M9 (l:List Dc)(i:Nat):kU (l.take i)≤kU l:=by
 have:kU l=kU (l.take i)+kU (l.drop i):=by rw[←Kc,List.take_append_drop]
 omega
attribute [-simp] List.getD_eq_getElem?_getD in
theorem He (H:List aG)(T:ay)(nb tb:Nat)(iD:nb≤H.length)(iq:tb≤T.length)(L:List Dc)(b2 b4 b5 b6 td:Nat)(J:List aG)(U:ay)
  (hB:DI H T b2 b4 b5 b6 td 0 0 J U [] [] []) (hL:L.length≤1000) (hW:jB L≤1099511627776) (hM:kU L≤1099511627776) (hz:∀d∈L,d.zs.length≤1099511627776) (hg:∀d∈L,IY d)
  (fW:H.length≤b2) (BY:H.length≤b4) (Fc:H.length≤b5) (Rg:H.length≤b6) (Q0:T.length≤td) (Q:Exit→St→Prop)
  (bad:∀i,0<i→i<L.length→(L.getD (i-1) d0).id=(L.getD i d0).id→∀(e:Env)(J':List aG)(U':ay),bZ e 2=.ptr b2 0→bZ e 3=.int .i64 10→J'[b2]?=some (.cells [.sl 0 [] .full,.sl 0 [] .full,.sl 0 [] .full])→gP H J'→gP T U'→Q .ret ⟨e,J',U'⟩)
  (go:(∀i,0<i→i<L.length→(L.getD (i-1) d0).id≠(L.getD i d0).id)→∀(e:Env)(J':List aG)(U':ay)(E:List En)(F:List Ef),DI H T b2 b4 b5 b6 td (jB L) (kU L) J' U' (L.map (·.id)) E F→pW L E F→b9 J'.length U'.length e [(0,.sl L.length (bC L) .none),(2,.ptr b2 0),(4,.ptr b4 0),(5,.aV b5),(6,.aV b6)]→Q .normal ⟨e,J',U'⟩) :
  AW ⟨Tryz.prog,192,152,nb,tb,[100104,100147,100166]⟩ (iN [1,1,1,1,1,1,1,1,0] (Tryz.f13.body.getD .skip)) Q ⟨[(0,.sl L.length (bC L) .none),(2,.ptr b2 0),(4,.ptr b4 0),(5,.aV b5),(6,.aV b6)],J,U⟩:=by
 conv=>arg 2;whnf
 have lH:=hB.pJ.le;have lT:=hB.pU.le;have Zr:∀{N M:Nat} {J':List aG} {U':ay} {ids:List Int} {E:List En} {F:List Ef},DI H T b2 b4 b5 b6 td N M J' U' ids E F→b2<J'.length∧b4<J'.length∧b5<J'.length∧b6<J'.length:=by
  intro N M J' U' ids E F h;exact⟨h.hJ.lt (i:=b2) (b:=.cells [.sl 0 [] .full,.sl 0 [] .full,.sl 0 [] .full]) (by simp),h.hJ.lt (i:=b4) (b:=.cells [.sl ids.length (ints ids) (.own td),.sl 0 [] .full,.sl 0 [] .full]) (by simp),h.hJ.lt (i:=b5) (b:=.map (bR E)) (by simp),h.hJ.lt (i:=b6) (b:=.map (bE F)) (by simp)⟩
 obtain⟨l2,l4,l5,l6⟩:=Zr hB;apply ae;intro K h;simp(disch:=omega);apply h;clear h K;apply ai;refine aK (X:=Nat×List aG×ay×List En×List Ef) (fun x=>⟨[(0,.sl L.length (bC L) .none),(2,.ptr b2 0),(4,.ptr b4 0),(5,.aV b5),(6,.aV b6),(34,.sl L.length (bC L) .none),(35,.int .i64 (L.length:Nat)),(36,.int .i64 (x.1:Nat))],x.2.1,x.2.2.1⟩)
  (fun x=>x.1≤L.length∧DI H T b2 b4 b5 b6 td (jB (L.take x.1)) (kU (L.take x.1)) x.2.1 x.2.2.1 ((L.take x.1).map (·.id)) x.2.2.2.1 x.2.2.2.2∧pW (L.take x.1) x.2.2.2.1 x.2.2.2.2∧∀i,0<i→i<x.1→(L.getD (i-1) d0).id≠(L.getD i d0).id) (fun x=>L.length-x.1) (0,J,U,[],[]) ?_ ?_ ?_
 ·exact⟨Nat.zero_le _,hB,.nil,fun i h1 h2=>by omega⟩
 ·refine ag [] [] ?_ ?_ ?_ ?_ hB.ok ?_
  all_goals simp
  all_goals omega
 ·rintro⟨i,J2,U2,E,F⟩ ⟨k1,k2,k3,k4⟩;simp only at k1 k2 k3 k4;have WS:=k2.pJ.le;have lT2:=k2.pU.le;obtain⟨l22,QZ,l52,l62⟩:=Zr k2;apply ae;intro K h;simp(disch:=omega);apply h;clear h K;refine af fun K2 aY=>?_;refine aP rfl (fun hk=>?_) (fun hk=>?_)
  ·simp  at hk;have LL:=FM L i hk;have LR:=GK L i hk;have Lk:=My L (i+1);have BJ:=M9 L (i+1);have hdm:=aR L i d0 hk;apply ak;simp(disch:=omega) ;apply aY;clear aY;refine af fun K3 bA=>?_;apply ai;refine aQ ⟨[(0,.sl L.length (bC L) .none),(2,.ptr b2 0),(4,.ptr b4 0),(5,.aV b5),(6,.aV b6),(34,.sl L.length (bC L) .none),(35,.int .i64 (L.length:Nat)),(36,.int .i64 (i:Nat))],J2,U2⟩ (ag [] [] (by simp) (by simp) (by show nb≤J2.length;omega) (by show tb≤U2.length;omega) k2.ok (by simp;omega)) ?_;refine KP (N:=jB (L.take i)) (M:=kU (L.take i)) H T nb tb iD iq L i b2 b4 b5 b6 td _ E F J2 U2 k2 hk hL (by simp;omega) (by omega) (by omega) (hz _ hdm) (hg _ hdm) fW BY Fc Rg Q0 _ (fun h1 h2 e J' g1 g2 g3 g4=>?_) fun dW e J' U' E' F' a1 a2 a3 a4=>?_
   ·exact bad i h1 hk h2 e J' U2 g1 g2 g3 g4 k2.pU
   ·rw[LL,LR] at a1;have Im:(L.take i).map (·.id)++[(L.getD i d0).id]=(L.take (i+1)).map (·.id):=by rw[dx L i d0 hk];simp
    rw[Im] at a1;have WR:=a1.pJ.le;have WQ:=a1.pU.le;obtain⟨l23,WT,Zx,l63⟩:=Zr a1;refine bA _ (aQ ⟨[(0,.sl L.length (bC L) .none),(2,.ptr b2 0),(4,.ptr b4 0),(5,.aV b5),(6,.aV b6),(34,.sl L.length (bC L) .none),(35,.int .i64 (L.length:Nat)),(36,.int .i64 (i:Nat))],J',U'⟩ (ag [] [] (by simp) (by simp) (by show nb≤J'.length;omega) (by show tb≤U'.length;omega) a1.ok a4) ?_);clear bA;refine ar fun K hK=>?_;simp(disch:=omega) ;apply hK;clear hK K;refine⟨(i+1,J',U',E',F'),⟨by show i+1≤_;omega,a1,?_,fun j h1 h2=>?_⟩,by show L.length-(i+1)<L.length-i;omega,?_⟩
    ·show pW (L.take (i+1)) E' F';rw[dx L i d0 hk];exact k3.snoc a2 a3
    ·rcases Nat.lt_or_ge j i with h|h
     ·exact k4 j h1 h
     ·have:j=i:=by simp only at h2;omega
      subst this;exact dW h1
    ·refine ag [] [] ?_ ?_ ?_ ?_ a1.ok ?_
     all_goals simp
     all_goals omega
  ·simp  at hk;have vu:i=L.length:=by omega
   subst vu;rw[List.take_length] at k2 k3;apply aD;simp(disch:=omega) ;refine go k4 _ J2 U2 E F k2 k3 ?_;simp;omega
end Go.Proofs.YtneohapkboaplaaGreat
