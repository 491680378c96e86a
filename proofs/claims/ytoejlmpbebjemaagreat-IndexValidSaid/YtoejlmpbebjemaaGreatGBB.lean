/- segment.Build (layer 39): one document. segment.Build (layer 39): the terms out of the map, in any order. segment.Build (layer 39): the columns. segment.Build (layer 39): the documents, one after another.
  Conditions: lengths below 400 or 1000, as each theorem says. -/
import Derived.Test.YtoejlmpbebjemaaGreatGBA
set_option linter.all false
set_option maxRecDepth 100000
set_option maxHeartbeats 16000000
namespace Seg
open Go Go.Am
theorem RunE.nd {id:Int}{E E':List En}{l:List (Ky×Int)}(h:RunE id E l E')(hn:(E.map (·.k)).Nodup):(E'.map (·.k)).Nodup:=by
 cases h with
 |nil=>exact hn
 |snoc _ h2=>exact h2.nd
end Seg
namespace Go.Proofs.YtoejlmpbebjemaaGreat
open Go Go.Am Sug Seg
inductive RunF:List Ef→List (Int×Nm)→List Ef→Prop
 |nil (E:List Ef):RunF E [] E
 |snoc {E E1 E2:List Ef} {l:List (Int×Nm)} {k:Int} {p:Nm} (h:RunF E l E1) (h2:StepF E1 k p E2):RunF E (l++[(k,p)]) E2
theorem RunF.trans {E E1 E2:List Ef}{l m:List (Int×Nm)}(h:RunF E l E1)(k:RunF E1 m E2):RunF E (l++m) E2:=by
 induction k with
 |nil=>simpa using h
 |snoc _ h2 ih=>rw[←List.append_assoc];exact ih.snoc h2
theorem RunF.nd {E E':List Ef}{l:List (Int×Nm)}(h:RunF E l E')(hn:(E.map (·.f)).Nodup):(E'.map (·.f)).Nodup:=by
 cases h with
 |nil=>exact hn
 |snoc _ h2=>exact h2.nd
def dits (id:Int)(ns:List Nm):List (Int×Nm):=ns.map fun x=>(x.1,(x.2,id))
theorem dits_take (id:Int)(ns:List Nm)(k:Nat)(h:k<ns.length):dits id (ns.take k)++[((ns.getD k n0).1,((ns.getD k n0).2,id))]=dits id (ns.take (k+1)):=by
 rw[take_getD ns k n0 h];simp[dits]
structure DI (H:List Blk)(T:Toks)(b2 b4 b5 b6 td N M:Nat)(J:List Blk)(U:Toks)(ids:List Int)(E:List En)(F:List Ef):Prop where
 hJ:Has J ((b2,.cells [.sl 0 [] .full,.sl 0 [] .full,.sl 0 [] .full])::(b4,.cells [.sl ids.length (ints ids) (.own td),.sl 0 [] .full,.sl 0 [] .full])::(b6,.map (ecOf F))::(efS F++(b5,.map (esOf E))::entS E))
 hU:Has U ((td,(ids.length,1))::entT E)
 hE:∀e∈E,EnOk H.length T.length N e
 ndE:(E.map (·.k)).Nodup
 ftE:keysFit Tryz.prog 193 (esOf E)=true
 hF:∀e∈F,EfOk H.length M e
 ndF:(F.map (·.f)).Nodup
 ftF:keysFit Tryz.prog 3 (ecOf F)=true
 pJ:Pre H J
 pU:Pre T U
 ok:HOk J U
structure GoodD (d:Dc):Prop where
 z:∀z∈d.zs,(-9223372036854775808≤z.f∧z.f≤9223372036854775807)∧∀w∈z.ws,w.1.length≤maxLen
 n:∀x∈d.ns,-9223372036854775808≤x.1∧x.1≤9223372036854775807
attribute [-simp] List.getD_eq_getElem?_getD in
theorem doc_step (H:List Blk)(T:Toks)(nb tb N M:Nat)(hnb:nb≤H.length)(htb:tb≤T.length)(L:List Dc)(vi b2 b4 b5 b6 td:Nat)(ids:List Int)(E:List En)(F:List Ef)(J:List Blk)(U:Toks)
  (hB:DI H T b2 b4 b5 b6 td N M J U ids E F) (hi:vi<L.length) (hL:L.length≤1000) (hid:ids.length≤1000) (hN:N+(dwds (L.getD vi d0).zs).length≤1099511627776) (hM:M+(L.getD vi d0).ns.length≤1099511627776) (hz0:(L.getD vi d0).zs.length≤1099511627776)
  (hg:GoodD (L.getD vi d0)) (hb2:H.length≤b2) (hb4:H.length≤b4) (hb5:H.length≤b5) (hb6:H.length≤b6) (htd:T.length≤td) (Q:Exit→St→Prop)
  (bad:0<vi→(L.getD (vi-1) d0).id=(L.getD vi d0).id→∀(e:Env)(J':List Blk),eget e 2=.ptr b2 0→eget e 3=.int .i64 10→J'[b2]?=some (.cells [.sl 0 [] .full,.sl 0 [] .full,.sl 0 [] .full])→Pre H J'→Q .ret ⟨e,J',U⟩)
  (go:(0<vi→(L.getD (vi-1) d0).id≠(L.getD vi d0).id)→∀(e:Env)(J':List Blk)(U':Toks)(E':List En)(F':List Ef),DI H T b2 b4 b5 b6 td (N+(dwds (L.getD vi d0).zs).length) (M+(L.getD vi d0).ns.length) J' U' (ids++[(L.getD vi d0).id]) E' F'→
   RunE (L.getD vi d0).id E (dwds (L.getD vi d0).zs) E'→RunF F (dits (L.getD vi d0).id (L.getD vi d0).ns) F'→envLe J'.length U'.length e [(0,.sl L.length (dcAV L) .none),(2,.ptr b2 0),(4,.ptr b4 0),(5,.mref b5),(6,.mref b6),(34,.sl L.length (dcAV L) .none),(35,.int .i64 (L.length:Nat)),(36,.int .i64 (vi:Nat))]→Q .normal ⟨e,J',U'⟩) :
  AW ⟨Tryz.prog,192,152,nb,tb,[100104,100147,100166]⟩ (subC [1,1,1,1,1,1,1,1,0,1,0,0,1,1,0,0] (Tryz.f68.body.getD .skip)) Q ⟨[(0,.sl L.length (dcAV L) .none),(2,.ptr b2 0),(4,.ptr b4 0),(5,.mref b5),(6,.mref b6),(34,.sl L.length (dcAV L) .none),(35,.int .i64 (L.length:Nat)),(36,.int .i64 (vi:Nat))],J,U⟩:=by
 conv=>arg 2;whnf
 have lH:=hB.pJ.le;have lT:=hB.pU.le;have hcut:=dcAV_cut L vi hi;have hcp:=fun h=>dcAV_at L (vi-1) h;generalize hdd:L.getD vi d0=d at *;generalize hpp:L.getD (vi-1) d0=dp at *;obtain⟨id,zs,ns⟩:=d;simp only at hcut hN hM hz0 bad go;obtain⟨q1,q2,q3,q4,q5,q6,q7,q8,q9,q10,q11⟩:=hB;obtain⟨hgz,hgn⟩:=hg;simp only at hgz hgn;have l2:=q1.lt (i:=b2) (b:=.cells [.sl 0 [] .full,.sl 0 [] .full,.sl 0 [] .full]) (by simp);have l4:=q1.lt (i:=b4) (b:=.cells [.sl ids.length (ints ids) (.own td),.sl 0 [] .full,.sl 0 [] .full]) (by simp);have l5:=q1.lt (i:=b5) (b:=.map (esOf E)) (by simp);have l6:=q1.lt (i:=b6) (b:=.map (ecOf F)) (by simp);refine aw_reg fun K hK=>?_;simp(disch:=omega)[hcut,dcAV_len];apply hK;clear hK K;have ho1:HOk (J++[.cells (dcC ⟨id,zs,ns⟩)]) U:=q11.snoc (by simp);have q1:=(q1.new (.cells (dcC ⟨id,zs,ns⟩))).perm (List.perm_append_singleton _ _).symm;have q9:=q9.app [Blk.cells (dcC ⟨id,zs,ns⟩)];have hll:(J++[Blk.cells (dcC ⟨id,zs,ns⟩)]).length=J.length+1:=by simp
 obtain⟨b8,h8⟩:∃i,i=J.length:=⟨_,rfl⟩
 rw[←h8] at q1;simp only[←h8];have hsh:Blk.cells [.int .i64 id,.sl zs.length (znAV zs) .none,.sl ns.length (nmAV ns) .none]=.cells (dcC ⟨id,zs,ns⟩):=rfl;rw[hsh];generalize J++[Blk.cells (dcC ⟨id,zs,ns⟩)]=J1 at *;have g8:=q1.get (i:=b8) (b:=.cells (dcC ⟨id,zs,ns⟩)) (by simp);have g4:=q1.get (i:=b4) (b:=.cells [.sl ids.length (ints ids) (.own td),.sl 0 [] .full,.sl 0 [] .full]) (by simp);have g2:=q1.get (i:=b2) (b:=.cells [.sl 0 [] .full,.sl 0 [] .full,.sl 0 [] .full]) (by simp);have e8:=at_of g8;have e4:=at_of g4;have l8:=(List.getElem?_eq_some_iff.1 g8).1;have gU:=q2.get (i:=td) (b:=(ids.length,1)) (by simp);have lU:=(List.getElem?_eq_some_iff.1 gU).1;have eU:=at_of gU;refine aw_weak ⟨[(7,.int .i64 (vi:Nat)),(0,.sl L.length (dcAV L) .none),(2,.ptr b2 0),(4,.ptr b4 0),(5,.mref b5),(6,.mref b6),(8,.ptr b8 0),(34,.sl L.length (dcAV L) .none),(35,.int .i64 (L.length:Nat)),(36,.int .i64 (vi:Nat))],J1,U⟩ (weak_to [] [] (by simp) (by simp) (by show nb≤_;omega) (by show tb≤_;omega) ho1 (by simp;omega)) ?_;have e2:=at_of g2;have l2':b2<J1.length:=by omega
 have l4':b4<J1.length:=by omega
 refine aw_then fun K1 hK1=>?_;have key:(0<vi→dp.id≠id)→∀e,envLe J1.length U.length e [(0,.sl L.length (dcAV L) .none),(2,.ptr b2 0),(4,.ptr b4 0),(5,.mref b5),(6,.mref b6),(8,.ptr b8 0),(34,.sl L.length (dcAV L) .none),(35,.int .i64 (L.length:Nat)),(36,.int .i64 (vi:Nat))]→K1 ⟨e,J1,U⟩:=by
  intro hne e he;refine hK1 _ (aw_weak ⟨[(0,.sl L.length (dcAV L) .none),(2,.ptr b2 0),(4,.ptr b4 0),(5,.mref b5),(6,.mref b6),(8,.ptr b8 0),(34,.sl L.length (dcAV L) .none),(35,.int .i64 (L.length:Nat)),(36,.int .i64 (vi:Nat))],J1,U⟩ (weak_to [] [] (by simp) (by simp) (by show nb≤_;omega) (by show tb≤_;omega) ho1 he) ?_);clear hK1;refine aw_reg fun K hK=>?_;simp(disch:=omega)[e8,e4,eU];apply hK;clear hK K;refine aw_hok fun HO2=>?_;simp only at HO2;have hJ2:=Has.set (A:=[(b8,.cells (dcC ⟨id,zs,ns⟩)),(b2,.cells [.sl 0 [] .full,.sl 0 [] .full,.sl 0 [] .full])]) (B:=(b6,.map (ecOf F))::(efS F++(b5,.map (esOf E))::entS E)) (b:=.cells [.sl ids.length (ints ids) (.own td),.sl 0 [] .full,.sl 0 [] .full]) (by simpa using q1) (.cells [.sl (ids.length+1) (ints ids++[.int .i64 id]) (.own td),.sl 0 [] .full,.sl 0 [] .full]);have hU2:=Has.set (A:=[]) (B:=entT E) (b:=(ids.length,1)) (by simpa using q2) (ids.length+1,1);have hP2:=q9.set hb4 (.cells [.sl (ids.length+1) (ints ids++[.int .i64 id]) (.own td),.sl 0 [] .full,.sl 0 [] .full]);have hPU2:=q10.set htd (ids.length+1,1);have hl2:(J1.set b4 (.cells [.sl (ids.length+1) (ints ids++[.int .i64 id]) (.own td),.sl 0 [] .full,.sl 0 [] .full])).length=J1.length:=by simp
  have hlU:(U.set td (ids.length+1,1)).length=U.length:=by simp
  rw[ints_snoc] at hJ2 HO2 hP2 hl2 ⊢;have hil:ids.length+1=(ids++[id]).length:=by simp
  rw[hil] at hJ2 hU2 HO2 hP2 hPU2 hl2 hlU ⊢;generalize J1.set b4 (.cells [.sl (ids++[id]).length (ints (ids++[id])) (.own td),.sl 0 [] .full,.sl 0 [] .full])=J2 at *;generalize U.set td ((ids++[id]).length,1)=U2 at *;generalize hids:ids++[id]=ids2 at *;have hBI:BI H T ((b8,.cells (dcC ⟨id,zs,ns⟩))::(b2,.cells [.sl 0 [] .full,.sl 0 [] .full,.sl 0 [] .full])::(b4,.cells [.sl ids2.length (ints ids2) (.own td),.sl 0 [] .full,.sl 0 [] .full])::(b6,.map (ecOf F))::efS F) [(td,(ids2.length,1))] b5 N J2 U2 E:=
   ⟨by simpa using hJ2,by simpa using hU2,q3,q4,q5,hP2,hPU2,HO2⟩
  have e8:=at_of (hJ2.get (i:=b8) (b:=.cells (dcC ⟨id,zs,ns⟩)) (by simp));have l8:b8<J2.length:=by omega
  clear e4 eU g8 g4 g2 e2;refine aw_then fun K1 hK1=>?_;refine aw_reg fun K hK=>?_;simp(disch:=omega)[e8];apply hK;clear hK K;apply aw_block;refine aw_loop (X:=Nat×List Blk×Toks×List En) (fun x=>⟨[(0,.sl L.length (dcAV L) .none),(2,.ptr b2 0),(4,.ptr b4 0),(5,.mref b5),(6,.mref b6),(8,.ptr b8 0),(34,.sl L.length (dcAV L) .none),(35,.int .i64 (L.length:Nat)),(36,.int .i64 (vi:Nat)),(63,.sl zs.length (znAV zs) .none),(64,.int .i64 (zs.length:Nat)),(65,.int .i64 (x.1:Nat))],x.2.1,x.2.2.1⟩)
   (fun x=>x.1≤zs.length∧BI H T ((b8,.cells (dcC ⟨id,zs,ns⟩))::(b2,.cells [.sl 0 [] .full,.sl 0 [] .full,.sl 0 [] .full])::(b4,.cells [.sl ids2.length (ints ids2) (.own td),.sl 0 [] .full,.sl 0 [] .full])::(b6,.map (ecOf F))::efS F) [(td,(ids2.length,1))] b5 (N+(dwds (zs.take x.1)).length) x.2.1 x.2.2.1 x.2.2.2∧RunE id E (dwds (zs.take x.1)) x.2.2.2∧J2.length≤x.2.1.length) (fun x=>zs.length-x.1) (0,J2,U2,E) ?_ ?_ ?_
  ·exact⟨Nat.zero_le _,hBI,.nil E,Nat.le_refl _⟩
  ·refine weak_to [] [] ?_ ?_ ?_ ?_ HO2 ?_
   all_goals simp
   all_goals omega
  ·rintro⟨j,J3,U3,E3⟩ ⟨k1,k2,k3,k4⟩;simp only at k1 k2 k3 k4;have lH3:=k2.pJ.le;have lT3:=k2.pU.le;have l53:=k2.hJ.lt (i:=b5) (b:=.map (esOf E3)) (by simp);apply aw_reg;intro K h;simp(disch:=omega);apply h;clear h K;refine aw_then fun K2 hK2=>?_;refine aw_if rfl (fun hk5=>?_) (fun hk5=>?_)
   ·simp  at hk5;have hdt:=dwds_take zs j hk5;have hdl:(dwds (zs.take j)).length+(zs.getD j z0).ws.length=(dwds (zs.take (j+1))).length:=by rw[←hdt];simp[zwds]
    have hdle:(dwds (zs.take (j+1))).length≤(dwds zs).length:=by
     have:dwds zs=dwds (zs.take (j+1))++dwds (zs.drop (j+1)):=by rw[dwds,dwds,dwds,←List.flatMap_append,List.take_append_drop]
     rw[this];simp
    apply aw_skip;simp(disch:=omega) ;apply hK2;clear hK2;refine aw_then fun K3 hK3=>?_;apply aw_block;refine aw_weak ⟨[(0,.sl L.length (dcAV L) .none),(2,.ptr b2 0),(4,.ptr b4 0),(5,.mref b5),(6,.mref b6),(8,.ptr b8 0),(34,.sl L.length (dcAV L) .none),(35,.int .i64 (L.length:Nat)),(36,.int .i64 (vi:Nat)),(63,.sl zs.length (znAV zs) .none),(64,.int .i64 (zs.length:Nat)),(65,.int .i64 (j:Nat))],J3,U3⟩ (weak_to [] [] (by simp) (by simp) (by show nb≤_;omega) (by show tb≤_;omega) k2.ok (by simp;omega)) ?_;refine zone_step (N:=N+(dwds (zs.take j)).length) H T nb tb hnb htb L zs vi j b2 b4 b5 b6 b8 id _ _ E3 J3 U3 _ _ k2 hk5 (by omega) (List.mem_cons_self ..) hb5 (by omega) (by omega) (by omega) (hgz _ (getD_mem zs j z0 hk5)).1 (hgz _ (getD_mem zs j z0 hk5)).2 _ fun e J' U' E' a1 a2 a3 a4=>?_;have lH4:=a1.pJ.le;have lT4:=a1.pU.le;rw[Nat.add_assoc,hdl] at a1;refine hK3 _ (aw_weak ⟨[(0,.sl L.length (dcAV L) .none),(2,.ptr b2 0),(4,.ptr b4 0),(5,.mref b5),(6,.mref b6),(8,.ptr b8 0),(34,.sl L.length (dcAV L) .none),(35,.int .i64 (L.length:Nat)),(36,.int .i64 (vi:Nat)),(63,.sl zs.length (znAV zs) .none),(64,.int .i64 (zs.length:Nat)),(65,.int .i64 (j:Nat))],J',U'⟩ (weak_to [] [] (by simp) (by simp) (by show nb≤_;omega) (by show tb≤_;omega) a1.ok a4) ?_);clear hK3;refine aw_reg0 fun K hK=>?_;simp(disch:=omega) ;apply hK;clear hK K;refine⟨(j+1,J',U',E'),⟨by show j+1≤_;omega,a1,?_,by show J2.length≤J'.length;omega⟩,by show zs.length-(j+1)<zs.length-j;omega,?_⟩
    ·show RunE id E (dwds (zs.take (j+1))) E';rw[←hdt];exact k3.trans a2
    ·refine weak_to [] [] ?_ ?_ ?_ ?_ a1.ok ?_
     all_goals simp
     all_goals omega
   ·simp  at hk5;have hjj:j=zs.length:=by omega
    subst hjj;rw[List.take_length] at k2 k3;apply aw_exit;simp(disch:=omega) ;apply hK1;clear hK1;have l53:=k2.hJ.lt (i:=b5) (b:=.map (esOf E3)) (by simp);have e8:=at_of (k2.hJ.get (i:=b8) (b:=.cells (dcC ⟨id,zs,ns⟩)) (by simp));have l8:b8<J3.length:=by omega
    have hBF:BF H T ((b8,.cells (dcC ⟨id,zs,ns⟩))::(b2,.cells [.sl 0 [] .full,.sl 0 [] .full,.sl 0 [] .full])::(b4,.cells [.sl ids2.length (ints ids2) (.own td),.sl 0 [] .full,.sl 0 [] .full])::(b5,.map (esOf E3))::entS E3) b6 M J3 U3 F:=by
     refine⟨k2.hJ.perm ?_,q6,q7,q8,k2.pJ,k2.pU,k2.ok⟩;simp only[List.cons_append];refine(((List.Perm.cons _ (List.Perm.cons _ (List.Perm.cons _ ?_)))));have:=(List.perm_append_comm (l₁:=(b5,Blk.map (esOf E3))::entS E3) (l₂:=(b6,Blk.map (ecOf F))::efS F))
     simpa using this
    refine aw_reg fun K hK=>?_;simp(disch:=omega)[e8];apply hK;clear hK K;apply aw_block;refine aw_loop (X:=Nat×List Blk×List Ef) (fun x=>⟨[(0,.sl L.length (dcAV L) .none),(2,.ptr b2 0),(4,.ptr b4 0),(5,.mref b5),(6,.mref b6),(8,.ptr b8 0),(34,.sl L.length (dcAV L) .none),(35,.int .i64 (L.length:Nat)),(36,.int .i64 (vi:Nat)),(128,.sl ns.length (nmAV ns) .none),(129,.int .i64 (ns.length:Nat)),(130,.int .i64 (x.1:Nat))],x.2.1,U3⟩)
     (fun x=>x.1≤ns.length∧BF H T ((b8,.cells (dcC ⟨id,zs,ns⟩))::(b2,.cells [.sl 0 [] .full,.sl 0 [] .full,.sl 0 [] .full])::(b4,.cells [.sl ids2.length (ints ids2) (.own td),.sl 0 [] .full,.sl 0 [] .full])::(b5,.map (esOf E3))::entS E3) b6 (M+x.1) x.2.1 U3 x.2.2∧RunF F (dits id (ns.take x.1)) x.2.2∧J3.length≤x.2.1.length) (fun x=>ns.length-x.1) (0,J3,F) ?_ ?_ ?_
    ·exact⟨Nat.zero_le _,hBF,.nil F,Nat.le_refl _⟩
    ·refine weak_to [] [] ?_ ?_ ?_ ?_ k2.ok ?_
     all_goals simp
     all_goals omega
    ·rintro⟨k,J4,F4⟩ ⟨m1,m2,m3,m4⟩;simp only at m1 m2 m3 m4;have lH4:=m2.pJ.le;apply aw_reg;intro K h;simp(disch:=omega);apply h;clear h K;refine aw_then fun K2 hK2=>?_;refine aw_if rfl (fun hk6=>?_) (fun hk6=>?_)
     ·simp  at hk6;apply aw_skip;simp(disch:=omega) ;apply hK2;clear hK2;refine aw_then fun K3 hK3=>?_;apply aw_block;refine aw_weak ⟨[(0,.sl L.length (dcAV L) .none),(2,.ptr b2 0),(4,.ptr b4 0),(5,.mref b5),(6,.mref b6),(8,.ptr b8 0),(34,.sl L.length (dcAV L) .none),(35,.int .i64 (L.length:Nat)),(36,.int .i64 (vi:Nat)),(128,.sl ns.length (nmAV ns) .none),(129,.int .i64 (ns.length:Nat)),(130,.int .i64 (k:Nat))],J4,U3⟩ (weak_to [] [] (by simp) (by simp) (by show nb≤_;omega) (by show tb≤_;omega) m2.ok (by simp;omega)) ?_;refine num_step (N:=M+k) H T nb tb hnb htb L ns vi k b2 b4 b5 b6 b8 id _ _ F4 J4 U3 _ m2 (by omega) hk6 (by omega) (List.mem_cons_self ..) hb6 (by omega) (by omega) (by omega) (hgn _ (getD_mem ns k n0 hk6)) _ fun e J' F' a1 a2 a3 a4=>?_;have lH5:=a1.pJ.le;refine hK3 _ (aw_weak ⟨[(0,.sl L.length (dcAV L) .none),(2,.ptr b2 0),(4,.ptr b4 0),(5,.mref b5),(6,.mref b6),(8,.ptr b8 0),(34,.sl L.length (dcAV L) .none),(35,.int .i64 (L.length:Nat)),(36,.int .i64 (vi:Nat)),(128,.sl ns.length (nmAV ns) .none),(129,.int .i64 (ns.length:Nat)),(130,.int .i64 (k:Nat))],J',U3⟩ (weak_to [] [] (by simp) (by simp) (by show nb≤_;omega) (by show tb≤_;omega) a1.ok a4) ?_);clear hK3;refine aw_reg0 fun K hK=>?_;simp(disch:=omega) ;apply hK;clear hK K;refine⟨(k+1,J',F'),⟨by show k+1≤_;omega,a1,?_,by show J3.length≤J'.length;omega⟩,by show ns.length-(k+1)<ns.length-k;omega,?_⟩
      ·show RunF F (dits id (ns.take (k+1))) F';rw[←dits_take id ns k hk6];exact m3.snoc a2
      ·refine weak_to [] [] ?_ ?_ ?_ ?_ a1.ok ?_
       all_goals simp
       all_goals omega
     ·simp  at hk6;have hkk:k=ns.length:=by omega
      subst hkk;rw[List.take_length] at m3;apply aw_exit;simp(disch:=omega) ;refine go hne _ J4 U3 E3 F4 ⟨?_,by simpa using k2.hU,k2.hE,k2.nd,k2.ft,m2.hF,m2.nd,m2.ft,m2.pJ,m2.pU,m2.ok⟩ k3 m3 ?_
      ·have hs:=m2.hJ.sub (List.sublist_cons_self _ _);refine hs.perm ?_;refine(List.Perm.cons _ (List.Perm.cons _ ?_));have:=(List.perm_append_comm (l₁:=(b6,Blk.map (ecOf F4))::efS F4) (l₂:=(b5,Blk.map (esOf E3))::entS E3))
       simpa using this
      ·simp;omega
 clear hK1;rcases Nat.eq_zero_or_pos vi with h0|h0
 ·subst h0;refine aw_draw [] [] [] drawMixed (by kernel_rfl) (by kernel_rfl) fun K hK=>?_;simp(disch:=omega) ;apply hK;clear hK K;apply aw_iff rfl;apply aw_skip;simp(disch:=omega) ;refine key (fun h=>absurd h (by omega)) _ ?_;simp;omega
 ·have b0:decide ((0:Int)<(vi:Int))=true:=decide_eq_true (by omega);have e6:((vi:Int)-1)=((vi-1:Nat):Int):=by omega
  have hcp1:=(hcp (by omega)).1
  by_cases hdp:dp.id=id
  ·have bd:(dp.id==id)=true:=by simpa using hdp
   refine aw_draw [] [] [] drawMixed (by kernel_rfl) (by kernel_rfl) fun K hK=>?_;simp(disch:=omega)[b0,h0,e6,hcp1,dcAV_len,e8,hdp];apply hK;clear hK K;apply aw_ift rfl;refine aw_reg fun K hK=>?_;simp(disch:=omega)[e2];apply hK;clear hK K;apply aw_ret;exact bad h0 hdp _ _ rfl rfl (List.getElem?_set_self l2') (q9.set hb2 _)
  ·have bd:(dp.id==id)=false:=by simpa using hdp
   refine aw_draw [] [] [] drawMixed (by kernel_rfl) (by kernel_rfl) fun K hK=>?_;simp(disch:=omega)[b0,h0,e6,hcp1,dcAV_len,e8,bd,hdp];apply hK;clear hK K;apply aw_iff rfl;apply aw_skip;simp(disch:=omega) ;refine key (fun _=>hdp) _ ?_;simp;omega
def en0:En:=⟨(0,[]),[],0,[],0,0,0,[]⟩
def trow (e:En):Ky×AV:=(e.k,.msl e.i 0 e.n)
structure TBox (nb:Nat)(rows:List (Ky×AV))(tv:AV)(TB:List (Nat×Blk)):Prop where
 h:(rows=[]∧tv=.sl 0 [] .full∧TB=[])∨∃it cap rest,tv=.csl it rows.length cap∧TB=[(it,.cells (trAV rows++rest))]∧rest.length=(cap-rows.length)*3∧rows.length≤cap∧nb≤it∧0<rows.length
theorem trAV_snoc (l:List (Ky×AV))(k:Ky)(v:AV):trAV l++[.int .i64 k.1,.str k.2,v]=trAV (l++[(k,v)]):=by simp[trAV]
theorem nodup_le:∀(n:Nat)(l:List Nat),l.Nodup→(∀j∈l,j<n)→l.length≤n:=by
 intro n
 induction n with
 |zero=>
  intro l _ h
  cases l with
  |nil=>exact Nat.le_refl _
  |cons a r=>exact absurd (h a (by simp)) (Nat.not_lt_zero _)
 |succ n ih=>
  intro l hn h;have h1:=ih (l.erase n) (hn.erase n) fun j hj=>by
   have:=(hn.mem_erase_iff).1 hj;have:=h j this.2;omega
  by_cases hm:n∈l
  ·rw[List.length_erase_of_mem hm] at h1;omega
  ·rw[List.erase_of_not_mem hm] at h1;omega
theorem perm_range {n:Nat}{l:List Nat}(h1:l.Nodup)(h2:∀a∈l,a<n)(h3:∀a,a<n→a∈l):l.Perm (List.range n):=
 (List.perm_ext_iff_of_nodup h1 List.nodup_range).2 fun a=>⟨fun h=>List.mem_range.2 (h2 a h),fun h=>h3 a (List.mem_range.1 h)⟩
attribute [-simp] List.getD_eq_getElem?_getD in
theorem terms_loop (H:List Blk)(T:Toks)(nb tb N M:Nat)(hnb:nb≤H.length)(htb:tb≤T.length)(b2 b4 b5 b6 td:Nat)(ids:List Int)(E:List En)(F:List Ef)(J:List Blk)(U:Toks)
  (hB:DI H T b2 b4 b5 b6 td N M J U ids E F) (hEl:E.length≤1099511627776) (hb4:H.length≤b4) (Q:Exit→St→Prop)
  (go:∀(e:Env) (J':List Blk) (rows:List (Ky×AV)) (tv:AV) (TB:List (Nat×Blk)),rows.Perm (E.map trow)→TBox H.length rows tv TB→Has J' ((b4,.cells [.sl ids.length (ints ids) (.own td),tv,.sl 0 [] .full])::(TB++(b2,.cells [.sl 0 [] .full,.sl 0 [] .full,.sl 0 [] .full])::(b6,.map (ecOf F))::(b5,.map (esOf E))::(efS F++entS E)))→Pre H J'→HOk J' U→envLe J'.length U.length e [(2,.ptr b2 0),(4,.ptr b4 0),(5,.mref b5),(6,.mref b6)]→Q .normal ⟨e,J',U⟩) :
  AW ⟨Tryz.prog,192,152,nb,tb,[100104,100147,100166]⟩ (subC [1,1,1,1,1,1,1,1,1,0] (Tryz.f68.body.getD .skip)) Q ⟨[(2,.ptr b2 0),(4,.ptr b4 0),(5,.mref b5),(6,.mref b6)],J,U⟩:=by
 conv=>arg 2;whnf
 have lH:=hB.pJ.le;have lT:=hB.pU.le;obtain⟨q1,q2,q3,q4,q5,q6,q7,q8,q9,q10,q11⟩:=hB;have e5:=at_of (q1.get (i:=b5) (b:=.map (esOf E)) (by simp));have l5:=q1.lt (i:=b5) (b:=.map (esOf E)) (by simp);have hel:(esOf E).length=E.length:=by simp[esOf]
 refine aw_reg fun K hK=>?_;simp(disch:=omega)[mapT191,e5,hel];apply hK;clear hK K;have q1':=(q1.new (.mit b5 E.length [])).perm (List.perm_append_singleton _ _).symm;have q9':=q9.app [Blk.mit b5 E.length []];have ho1:HOk (J++[.mit b5 E.length []]) U:=q11.snocMit;obtain⟨bm,hbm⟩:∃i,i=J.length:=⟨_,rfl⟩
 rw[←hbm] at q1';simp only[←hbm];have hbmH:H.length≤bm:=by omega
 clear e5 l5 q1 q9 q11 hbm;generalize J++[Blk.mit b5 E.length []]=J1 at *;have lH1:=q9'.le;have q1:Has J1 ((bm,.mit b5 E.length ([]))::(b4,.cells [.sl ids.length (ints ids) (.own td),.sl 0 [] .full,.sl 0 [] .full])::([]++(b2,.cells [.sl 0 [] .full,.sl 0 [] .full,.sl 0 [] .full])::(b6,.map (ecOf F))::(b5,.map (esOf E))::(efS F++entS E))):=by
  refine q1'.perm ?_;refine List.Perm.cons _ ?_;refine List.Perm.trans (List.Perm.swap _ _ _) (List.Perm.cons _ (List.Perm.cons _ ?_));refine List.Perm.cons _ ?_;exact List.perm_middle.symm
 have l2:=q1.lt (i:=b2) (b:=.cells [.sl 0 [] .full,.sl 0 [] .full,.sl 0 [] .full]) (by simp);have l4:=q1.lt (i:=b4) (b:=.cells [.sl ids.length (ints ids) (.own td),.sl 0 [] .full,.sl 0 [] .full]) (by simp);have l5:=q1.lt (i:=b5) (b:=.map (esOf E)) (by simp);have l6:=q1.lt (i:=b6) (b:=.map (ecOf F)) (by simp);have lm:=q1.lt (i:=bm) (b:=.mit b5 E.length []) (by simp);apply aw_block;refine aw_loop (X:=List Nat×List Blk×AV×List (Nat×Blk)) (fun x=>⟨[(2,.ptr b2 0),(4,.ptr b4 0),(5,.mref b5),(6,.mref b6),(151,.ptr bm 0)],x.2.1,U⟩)
  (fun x=>x.1.Nodup∧(∀j∈x.1,j<E.length)∧TBox H.length (x.1.map fun j=>trow (E.getD j en0)) x.2.2.1 x.2.2.2∧Has x.2.1 ((bm,.mit b5 E.length (x.1))::(b4,.cells [.sl ids.length (ints ids) (.own td),x.2.2.1,.sl 0 [] .full])::(x.2.2.2++(b2,.cells [.sl 0 [] .full,.sl 0 [] .full,.sl 0 [] .full])::(b6,.map (ecOf F))::(b5,.map (esOf E))::(efS F++entS E)))∧Pre H x.2.1∧HOk x.2.1 U∧J1.length≤x.2.1.length) (fun x=>E.length-x.1.length) ([],J1,.sl 0 [] .full,[]) ?_ ?_ ?_
 ·exact⟨List.nodup_nil,fun j hj=>by simp at hj,⟨.inl ⟨rfl,rfl,rfl⟩⟩,q1,q9',ho1,Nat.le_refl _⟩
 ·refine weak_to [] [] ?_ ?_ ?_ ?_ ho1 ?_
  all_goals simp
  all_goals omega
 ·rintro⟨seen,J2,tv,TB⟩ ⟨k1,k2,k3,k4,k5,k6,k7⟩;simp only at k1 k2 k3 k4 k5 k6 k7;have em:=at_of (k4.get (i:=bm) (b:=.mit b5 E.length seen) (by simp));have e5:=at_of (k4.get (i:=b5) (b:=.map (esOf E)) (by simp));have lm2:bm<J2.length:=by omega
  have l52:b5<J2.length:=by omega
  have l42:b4<J2.length:=by omega
  have lH2:=k5.le;refine aw_reg fun K hK=>?_;simp(disch:=omega)[em,e5];unfold NextC;refine⟨hel.symm,fun hall=>?_,fun j kk v hj hns=>?_⟩
  ·simp(disch:=omega) ;apply hK;clear hK K;refine aw_then fun K2 hK2=>?_;apply aw_iff rfl;apply aw_exit;simp(disch:=omega) ;refine go _ J2 _ tv TB ?_ k3 (k4.sub (List.sublist_cons_self _ _)) k5 k6 ?_
   ·have hp:=(perm_range k1 k2 hall).map fun j=>trow (E.getD j en0);refine hp.trans (List.Perm.of_eq ?_);apply List.ext_getElem
    ·simp
    ·intro i h1 h2;simp only[List.getElem_map,List.getElem_range];rw[List.getD_eq_getElem?_getD,List.getElem?_eq_getElem (by simpa using h2)];rfl
   ·simp;omega
  ·have hja:=at_of hj;obtain⟨hjw,en,hen,rfl,rfl⟩:∃(hjw:j<E.length) (en:En),E.getD j en0=en∧kk=keyM en.k∧v=.csl en.i en.n en.cap:=by
    rw[esOf,List.getElem?_map,Option.map_eq_some_iff] at hj;obtain⟨en,h1,h2⟩:=hj;rw[Prod.mk.injEq] at h2;exact⟨(List.getElem?_eq_some_iff.1 h1).1,en,by rw[List.getD_eq_getElem?_getD,h1];rfl,h2.1.symm,h2.2.symm⟩
   have hle:seen.length<E.length:=by
    have:=nodup_le E.length (seen++[j]) (by rw[List.nodup_append];exact⟨k1,by simp,fun a ha b hb=>by simp at hb;rw[hb];exact fun e=>hns (by rw[←e];exact ha)⟩) (fun a ha=>by
     rcases List.mem_append.1 ha with ha|ha
     ·exact k2 a ha
     ·simp at ha;rw[ha];exact hjw)
    simp at this;omega
   have k1':(seen++[j]).Nodup:=by
    rw[List.nodup_append];exact⟨k1,by simp,fun a ha b hb=>by simp at hb;rw[hb];exact fun e=>hns (by rw[←e];exact ha)⟩
   have k2':∀a∈seen++[j],a<E.length:=fun a ha=>by
    rcases List.mem_append.1 ha with ha|ha
    ·exact k2 a ha
    ·simp at ha;rw[ha];exact hjw
   have hin:en.i<J2.length:=by
    have:en∈E:=by rw[←hen];exact getD_mem E j en0 hjw
    exact k4.lt (i:=en.i) (b:=en.blk) (by
     have:(en.i,en.blk)∈entS E:=List.mem_map.2 ⟨en,this,rfl⟩;simp[this])
   have hJ3:=Has.set (A:=[]) (B:=(b4,.cells [.sl ids.length (ints ids) (.own td),tv,.sl 0 [] .full])::(TB++(b2,.cells [.sl 0 [] .full,.sl 0 [] .full,.sl 0 [] .full])::(b6,.map (ecOf F))::(b5,.map (esOf E))::(efS F++entS E))) (b:=.mit b5 E.length seen) k4 (.mit b5 E.length (seen++[j]));have hP3:=k5.set hbmH (.mit b5 E.length (seen++[j]));have hO3:HOk (J2.set bm (.mit b5 E.length (seen++[j]))) U:=k6.setMit;have hl3:(J2.set bm (.mit b5 E.length (seen++[j]))).length=J2.length:=by simp
   generalize J2.set bm (.mit b5 E.length (seen++[j]))=J3 at *;have em:=at_of (hJ3.get (i:=bm) (b:=.mit b5 E.length (seen++[j])) (by simp));have e5:=at_of (hJ3.get (i:=b5) (b:=.map (esOf E)) (by simp));have lm3:bm<J3.length:=by omega
   have l53:b5<J3.length:=by omega
   have l43:b4<J3.length:=by omega
   clear lm2 l52 l42 k4;simp(disch:=omega)[keyM];apply hK;clear hK K;refine aw_then fun K2 hK2=>?_;apply aw_ift rfl;apply aw_skip;simp(disch:=omega) ;apply hK2;clear hK2;apply aw_block;have hjl:j<(esOf E).length:=by omega
   refine aw_reg fun K hK=>?_;simp(disch:=omega)[em,e5,hja,hel,List.getLast?_append,keyM];apply hK;clear hK K;have ho4:HOk (J3++[.cells [.int .i64 en.k.1,.str en.k.2]]) U:=hO3.snoc (by simp);have hJ4:=(hJ3.new (.cells [.int .i64 en.k.1,.str en.k.2])).perm (List.perm_append_singleton _ _).symm;have hP4:=hP3.app [Blk.cells [.int .i64 en.k.1,.str en.k.2]];have hl4:(J3++[Blk.cells [.int .i64 en.k.1,.str en.k.2]]).length=J3.length+1:=by simp
   obtain⟨p17,h17⟩:∃i,i=J3.length:=⟨_,rfl⟩
   rw[←h17] at hJ4;simp only[←h17];have hin4:en.i<(J3++[Blk.cells [.int .i64 en.k.1,.str en.k.2]]).length:=by omega
   clear em e5 hJ3;generalize J3++[Blk.cells [.int .i64 en.k.1,.str en.k.2]]=J4 at *;have e17:=at_of (hJ4.get (i:=p17) (b:=.cells [.int .i64 en.k.1,.str en.k.2]) (by simp));have e4:=at_of (hJ4.get (i:=b4) (b:=.cells [.sl ids.length (ints ids) (.own td),tv,.sl 0 [] .full]) (by simp));have l17:p17<J4.length:=by omega
   have l4:b4<J4.length:=by omega
   have l6':=hJ4.lt (i:=b6) (b:=.map (ecOf F)) (by simp);have l2':=hJ4.lt (i:=b2) (b:=.cells [.sl 0 [] .full,.sl 0 [] .full,.sl 0 [] .full]) (by simp);have l5':=hJ4.lt (i:=b5) (b:=.map (esOf E)) (by simp);have lm':=hJ4.lt (i:=bm) (b:=.mit b5 E.length (seen++[j])) (by simp);have lH4:=hP4.le;have htdU:td<U.length:=q2.lt (b:=(ids.length,1)) (by simp);have hrow:(seen++[j]).map (fun j=>trow (E.getD j en0))=seen.map (fun j=>trow (E.getD j en0))++[(en.k,.msl en.i 0 en.n)]:=by
    rw[List.map_append,List.map_singleton,hen];rfl
   have hrl:(seen.map fun j=>trow (E.getD j en0)).length=seen.length:=by simp
   generalize hrows:seen.map (fun j=>trow (E.getD j en0))=rows at *;have fin:∀(e:Env) (J5:List Blk) (tv':AV) (TB':List (Nat×Blk)),TBox H.length (rows++[(en.k,.msl en.i 0 en.n)]) tv' TB'→Has J5 ((p17,.cells [.int .i64 en.k.1,.str en.k.2])::(bm,.mit b5 E.length (seen++[j]))::(b4,.cells [.sl ids.length (ints ids) (.own td),tv',.sl 0 [] .full])::(TB'++(b2,.cells [.sl 0 [] .full,.sl 0 [] .full,.sl 0 [] .full])::(b6,.map (ecOf F))::(b5,.map (esOf E))::(efS F++entS E)))→Pre H J5→HOk J5 U→J4.length≤J5.length→
     envLe J5.length U.length e [(2,.ptr b2 0),(4,.ptr b4 0),(5,.mref b5),(6,.mref b6),(151,.ptr bm 0)]→∃x':List Nat×List Blk×AV×List (Nat×Blk),(x'.1.Nodup∧(∀j∈x'.1,j<E.length)∧TBox H.length (x'.1.map fun j=>trow (E.getD j en0)) x'.2.2.1 x'.2.2.2∧Has x'.2.1 ((bm,.mit b5 E.length (x'.1))::(b4,.cells [.sl ids.length (ints ids) (.own td),x'.2.2.1,.sl 0 [] .full])::(x'.2.2.2++(b2,.cells [.sl 0 [] .full,.sl 0 [] .full,.sl 0 [] .full])::(b6,.map (ecOf F))::(b5,.map (esOf E))::(efS F++entS E)))∧Pre H x'.2.1∧HOk x'.2.1 U∧J1.length≤x'.2.1.length)∧E.length-x'.1.length<E.length-seen.length∧
      Weak ⟨Tryz.prog,192,152,nb,tb,[100104,100147,100166]⟩ ⟨e,J5,U⟩ ⟨[(2,.ptr b2 0),(4,.ptr b4 0),(5,.mref b5),(6,.mref b6),(151,.ptr bm 0)],x'.2.1,U⟩:=by
    intro e J5 tv' TB' t1 t2 t3 t4 t5 t6;refine⟨(seen++[j],J5,tv',TB'),⟨k1',k2',?_,t2.sub (List.sublist_cons_self _ _),t3,t4,by show J1.length≤J5.length;omega⟩,?_,?_⟩
    ·show TBox H.length ((seen++[j]).map fun j=>trow (E.getD j en0)) tv' TB';rw[hrow];exact t1
    ·show E.length-(seen++[j]).length<_;rw[List.length_append,List.length_singleton];omega
    ·exact weak_to [] [] (by simp) (by simp) (by show nb≤J5.length;have:=t3.le;omega) (by show tb≤_;omega) t4 t6
   rcases k3.h with⟨hr0,rfl,rfl⟩|⟨it,cap,rest,rfl,rfl,g1,g2,g3,g4⟩
   ·refine aw_reg0 fun K hK=>?_;simp(disch:=omega)[e17,e4,List.getElem?_append_left];intro nc hnc;apply hK;clear hK K;rw[←List.set_append_left _ _ l4];have hRB:BelowAll (J4.length+1) U.length (.int .i64 en.k.1::.str en.k.2::.msl en.i 0 en.n::List.replicate ((nc-1)*3) .top):=by
     simp;omega
    have hJ5:=(hJ4.new (.cells (.int .i64 en.k.1::.str en.k.2::.msl en.i 0 en.n::List.replicate ((nc-1)*3) .top)))
    have hO5:HOk (J4++[.cells (.int .i64 en.k.1::.str en.k.2::.msl en.i 0 en.n::List.replicate ((nc-1)*3) .top)]) U:=ho4.snoc hRB;have hP5:=hP4.app [Blk.cells (.int .i64 en.k.1::.str en.k.2::.msl en.i 0 en.n::List.replicate ((nc-1)*3) .top)];have hl5:(J4++[Blk.cells (.int .i64 en.k.1::.str en.k.2::.msl en.i 0 en.n::List.replicate ((nc-1)*3) .top)]).length=J4.length+1:=by simp
    obtain⟨it,hit⟩:∃i,i=J4.length:=⟨_,rfl⟩
    rw[←hit] at hJ5;simp only[←hit];generalize J4++[Blk.cells (.int .i64 en.k.1::.str en.k.2::.msl en.i 0 en.n::List.replicate ((nc-1)*3) .top)]=J5 at *;have hJ6:=Has.set (A:=[(p17,.cells [.int .i64 en.k.1,.str en.k.2]),(bm,.mit b5 E.length (seen++[j]))]) (B:=((b2,.cells [.sl 0 [] .full,.sl 0 [] .full,.sl 0 [] .full])::(b6,.map (ecOf F))::(b5,.map (esOf E))::(efS F++entS E))++[(it,.cells (.int .i64 en.k.1::.str en.k.2::.msl en.i 0 en.n::List.replicate ((nc-1)*3) .top))]) (b:=.cells [.sl ids.length (ints ids) (.own td),.sl 0 [] .full,.sl 0 [] .full]) (by simpa using hJ5) (.cells [.sl ids.length (ints ids) (.own td),.csl it 1 nc,.sl 0 [] .full]);refine fin _ _ (.csl it 1 nc) [(it,.cells (.int .i64 en.k.1::.str en.k.2::.msl en.i 0 en.n::List.replicate ((nc-1)*3) .top))] ⟨.inr ⟨it,nc,List.replicate ((nc-1)*3) .top,by rw[hr0];rfl,by rw[hr0];rfl,by rw[hr0];simp,by rw[hr0];simpa using hnc,by omega,by simp⟩⟩ ?_ (hP5.set hb4 _) (hO5.set (by simp;omega)) (by simp;omega) ?_
    ·refine hJ6.perm ?_;refine List.Perm.cons _ (List.Perm.cons _ (List.Perm.cons _ ?_));exact(List.perm_append_singleton _ _).symm
    ·simp;omega
   ·have gi:=hJ4.get (i:=it) (b:=.cells (trAV rows++rest)) (by simp);have lit:=(List.getElem?_eq_some_iff.1 gi).1;have hbl:(trAV rows++rest).length=rows.length*3+rest.length:=by rw[List.length_append,trAV_len]
    have htk:(trAV rows++rest).take (rows.length*3)=trAV rows:=List.take_left' (by rw[trAV_len]);have hdr:(trAV rows++rest).drop ((rows.length+1)*3)=rest.drop 3:=by
     rw[List.drop_append,List.drop_of_length_le (by rw[trAV_len];omega),List.nil_append,trAV_len]
     congr 1;omega
    have hrl2:(rows++[(en.k,AV.msl en.i 0 en.n)]).length=rows.length+1:=by simp
    refine aw_reg0 fun K hK=>?_;simp(disch:=omega)[e17,e4];refine⟨171,_,[.int .i64 en.k.1,.str en.k.2,.msl en.i 0 en.n],1,by kernel_rfl,gi,by rw[hbl,cells171];omega,by simp,by simp;omega,by omega,by kernel_rfl,by simp,fun hle=>?_,fun nc hlt hnc=>?_⟩
    ·simp only[cells171,htk,hdr];rw[show Blk.cells (trAV rows++[.int .i64 en.k.1,.str en.k.2,.msl en.i 0 en.n]++rest.drop 3)=.cells (trAV (rows++[(en.k,.msl en.i 0 en.n)])++rest.drop 3) by rw[trAV_snoc]];have hJ5:=Has.set (A:=[(p17,.cells [.int .i64 en.k.1,.str en.k.2]),(bm,.mit b5 E.length (seen++[j])),(b4,.cells [.sl ids.length (ints ids) (.own td),.csl it rows.length cap,.sl 0 [] .full])]) (B:=(b2,.cells [.sl 0 [] .full,.sl 0 [] .full,.sl 0 [] .full])::(b6,.map (ecOf F))::(b5,.map (esOf E))::(efS F++entS E)) (b:=.cells (trAV rows++rest)) (by simpa using hJ4) (.cells (trAV (rows++[(en.k,.msl en.i 0 en.n)])++rest.drop 3));have hP5:=hP4.set g3 (.cells (trAV (rows++[(en.k,.msl en.i 0 en.n)])++rest.drop 3));have hO5:HOk (J4.set it (.cells (trAV (rows++[(en.k,.msl en.i 0 en.n)])++rest.drop 3))) U:=by
      refine ho4.set ?_;have:=ho4 it (.cells (trAV rows++rest)) gi;simp only[Blk.vals] at this;intro v hv;rcases List.mem_append.1 hv with hv|hv
      ·rw[←trAV_snoc] at hv;rcases List.mem_append.1 hv with hv|hv
       ·exact this v (List.mem_append_left _ hv)
       ·simp at hv;rcases hv with rfl|rfl|rfl
        ·exact .int _ _
        ·exact .str _
        ·exact .msl _ _ _ hin4
      ·exact this v (List.mem_append_right _ (List.mem_of_mem_drop hv))
     have hl5:(J4.set it (.cells (trAV (rows++[(en.k,.msl en.i 0 en.n)])++rest.drop 3))).length=J4.length:=by simp
     generalize J4.set it (.cells (trAV (rows++[(en.k,.msl en.i 0 en.n)])++rest.drop 3))=J5 at *;have e4:=at_of (hJ5.get (i:=b4) (b:=.cells [.sl ids.length (ints ids) (.own td),.csl it rows.length cap,.sl 0 [] .full]) (by simp));have l4:b4<J5.length:=by omega
     simp(disch:=omega)[e4];apply hK;clear hK K;have hJ6:=Has.set (A:=[(p17,.cells [.int .i64 en.k.1,.str en.k.2]),(bm,.mit b5 E.length (seen++[j]))]) (B:=(it,.cells (trAV (rows++[(en.k,.msl en.i 0 en.n)])++rest.drop 3))::(b2,.cells [.sl 0 [] .full,.sl 0 [] .full,.sl 0 [] .full])::(b6,.map (ecOf F))::(b5,.map (esOf E))::(efS F++entS E)) (b:=.cells [.sl ids.length (ints ids) (.own td),.csl it rows.length cap,.sl 0 [] .full]) (by simpa using hJ5) (.cells [.sl ids.length (ints ids) (.own td),.csl it (rows.length+1) cap,.sl 0 [] .full]);refine fin _ _ (.csl it (rows.length+1) cap) [(it,.cells (trAV (rows++[(en.k,.msl en.i 0 en.n)])++rest.drop 3))] ⟨.inr ⟨it,cap,rest.drop 3,by rw[hrl2],rfl,by rw[hrl2,List.length_drop];omega,by rw[hrl2];exact hle,g3,by rw[hrl2];omega⟩⟩ (by simpa using hJ6) (hP5.set hb4 _) (hO5.set (by simp;omega)) (by simp;omega) ?_;simp;omega
    ·simp only[cells171,htk];obtain⟨r2,hr2⟩:∃r2,r2=List.replicate ((nc-(rows.length+1))*3) AV.top:=⟨_,rfl⟩
     have hr2l:r2.length=(nc-(rows.length+1))*3:=by rw[hr2];simp
     have hr2b:BelowAll (J4.length+1) U.length r2:=by rw[hr2];simp
     rw[←hr2];rw[show Blk.cells (trAV rows++[.int .i64 en.k.1,.str en.k.2,.msl en.i 0 en.n]++r2)=.cells (trAV (rows++[(en.k,.msl en.i 0 en.n)])++r2) by rw[trAV_snoc]];have hJ5:=(hJ4.sub (S':=(p17,.cells [.int .i64 en.k.1,.str en.k.2])::(bm,.mit b5 E.length (seen++[j]))::(b4,.cells [.sl ids.length (ints ids) (.own td),.csl it rows.length cap,.sl 0 [] .full])::(b2,.cells [.sl 0 [] .full,.sl 0 [] .full,.sl 0 [] .full])::(b6,.map (ecOf F))::(b5,.map (esOf E))::(efS F++entS E)) (.cons_cons _ (.cons_cons _ (.cons_cons _ (List.sublist_cons_self _ _))))).new (.cells (trAV (rows++[(en.k,.msl en.i 0 en.n)])++r2));have hP5:=hP4.app [Blk.cells (trAV (rows++[(en.k,.msl en.i 0 en.n)])++r2)];have hO5:HOk (J4++[.cells (trAV (rows++[(en.k,.msl en.i 0 en.n)])++r2)]) U:=by
      refine ho4.snoc ?_;have:=ho4 it (.cells (trAV rows++rest)) gi;simp only[Blk.vals] at this;intro v hv;rcases List.mem_append.1 hv with hv|hv
      ·rw[←trAV_snoc] at hv;rcases List.mem_append.1 hv with hv|hv
       ·exact(this v (List.mem_append_left _ hv)).more (Nat.le_succ _) (Nat.le_refl _)
       ·simp at hv;rcases hv with rfl|rfl|rfl
        ·exact .int _ _
        ·exact .str _
        ·exact .msl _ _ _ (by omega)
      ·exact hr2b v hv
     have hl5:(J4++[Blk.cells (trAV (rows++[(en.k,.msl en.i 0 en.n)])++r2)]).length=J4.length+1:=by simp
     obtain⟨i2,hi2⟩:∃i,i=J4.length:=⟨_,rfl⟩
     rw[←hi2] at hJ5;simp only[←hi2];generalize J4++[Blk.cells (trAV (rows++[(en.k,.msl en.i 0 en.n)])++r2)]=J5 at *;have e4:=at_of (hJ5.get (i:=b4) (b:=.cells [.sl ids.length (ints ids) (.own td),.csl it rows.length cap,.sl 0 [] .full]) (by simp));have l4:b4<J5.length:=by omega
     simp(disch:=omega)[e4];apply hK;clear hK K;have hJ6:=Has.set (A:=[(p17,.cells [.int .i64 en.k.1,.str en.k.2]),(bm,.mit b5 E.length (seen++[j]))]) (B:=((b2,.cells [.sl 0 [] .full,.sl 0 [] .full,.sl 0 [] .full])::(b6,.map (ecOf F))::(b5,.map (esOf E))::(efS F++entS E))++[(i2,.cells (trAV (rows++[(en.k,.msl en.i 0 en.n)])++r2))]) (b:=.cells [.sl ids.length (ints ids) (.own td),.csl it rows.length cap,.sl 0 [] .full]) (by simpa using hJ5) (.cells [.sl ids.length (ints ids) (.own td),.csl i2 (rows.length+1) nc,.sl 0 [] .full]);refine fin _ _ (.csl i2 (rows.length+1) nc) [(i2,.cells (trAV (rows++[(en.k,.msl en.i 0 en.n)])++r2))] ⟨.inr ⟨i2,nc,r2,by rw[hrl2],rfl,by rw[hrl2];exact hr2l,by rw[hrl2];exact hnc,by omega,by rw[hrl2];omega⟩⟩ ?_ (hP5.set hb4 _) (hO5.set (by simp;omega)) (by simp;omega) ?_
     ·refine hJ6.perm ?_;refine List.Perm.cons _ (List.Perm.cons _ (List.Perm.cons _ ?_));exact(List.perm_append_singleton _ _).symm
     ·simp;omega
abbrev ccC (e:Ef):List AV:=[.int .i64 e.f,.msl e.i 0 e.x.length]
def ccAV (l:List Ef):List AV:=l.flatMap fun e=>[.int .i64 e.f,.msl e.i 0 e.x.length]
theorem cc_rows:CellsK ccC 2:=fun _=>rfl
theorem ccAV_len (l:List Ef):(ccAV l).length=l.length*2:=rows_len cc_rows l
def srtF (e:Ef):Ef:={ e with x:=sortN e.x }
theorem sortN_len (l:List Nm):(sortN l).length=l.length:=List.length_mergeSort _
def srtTo (m:Int)(F:List Ef):List Ef:=F.map fun e=>if 5≤e.f∧e.f<m then srtF e else e
theorem srtTo_five (F:List Ef):srtTo 5 F=F:=by
 simp only[srtTo]
 conv=>rhs;rw[←List.map_id F]
 refine List.map_congr_left fun e _=>?_;rw[if_neg (by omega)];rfl
theorem srtTo_mid {F1 F2:List Ef}{e:Ef}(h:((F1++e::F2).map (·.f)).Nodup)(h5:5≤e.f):srtTo (e.f+1) (F1++e::F2)=srtTo e.f F1++srtF e::srtTo e.f F2∧srtTo e.f (F1++e::F2)=srtTo e.f F1++e::srtTo e.f F2:=by
 have h1:∀x,x∈F1∨x∈F2→x.f≠e.f:=by
  rw[List.map_append,List.map_cons,List.nodup_append,List.nodup_cons] at h;rintro x (hx|hx)
  ·exact h.2.2 x.f (List.mem_map.2 ⟨x,hx,rfl⟩) e.f (by simp)
  ·exact fun ee=>h.2.1.1 (ee▸List.mem_map.2 ⟨x,hx,rfl⟩)
 have h2:∀l:List Ef,(∀x∈l,x.f≠e.f)→srtTo (e.f+1) l=srtTo e.f l:=fun l hl=>by
  refine List.map_congr_left fun x hx=>?_;have:=hl x hx
  by_cases hh:5≤x.f∧x.f<e.f
  ·rw[if_pos hh,if_pos (by omega)]
  ·rw[if_neg hh,if_neg (by omega)]
 constructor
 ·rw[←h2 F1 (fun x hx=>h1 x (.inl hx)),←h2 F2 (fun x hx=>h1 x (.inr hx))];simp only[srtTo,List.map_append,List.map_cons];rw[if_pos (by omega:5≤e.f∧e.f<e.f+1)]
 ·simp only[srtTo,List.map_append,List.map_cons];rw[if_neg (by omega:¬(5≤e.f∧e.f<e.f))]
theorem srtTo_no {F:List Ef}{m:Int}(h:m∉F.map (·.f)):srtTo (m+1) F=srtTo m F:=by
 refine List.map_congr_left fun x hx=>?_;have:x.f≠m:=fun ee=>h (ee▸List.mem_map.2 ⟨x,hx,rfl⟩)
 by_cases hh:5≤x.f∧x.f<m
 ·rw[if_pos hh,if_pos (by omega)]
 ·rw[if_neg hh,if_neg (by omega)]
def colE (F:List Ef):Nat→List Ef
 |0=>[]
 |g+1=>match F.find? (fun e=>e.f==(5+g:Int)) with
  |some e=>colE F g++[srtF e]
  |none=>colE F g
def CV (T U:Toks)(cols:List Ef)(cv:AV):Prop:=(cols=[]∧cv=.sl 0 [] .full)∨∃tc,cv=.sl cols.length (ccAV cols) (.own tc)∧U[tc]?=some (cols.length*2,2)∧T.length≤tc
attribute [-simp] List.getD_eq_getElem?_getD in
theorem cols_loop (H:List Blk)(T:Toks)(nb tb N:Nat)(hnb:nb≤H.length)(htb:tb≤T.length)(b2 b4 b6:Nat)(dv tv:AV)(F:List Ef)(J:List Blk)(U:Toks)(R:List (Nat×Blk))
  (hJ:Has J ((b4,.cells [dv,tv,.sl 0 [] .full])::(b6,.map (ecOf F))::(efS F++R))) (hF:∀e∈F,EfOk H.length N e) (hN:N≤1099511627776) (hnd:(F.map (·.f)).Nodup) (hft:keysFit Tryz.prog 3 (ecOf F)=true) (hP:Pre H J) (hPU:Pre T U) (hO:HOk J U) (hb4:H.length≤b4) (hl2:b2<J.length)
  (htv:Below J.length U.length tv) (hdv:Below J.length U.length dv) (Q:Exit→St→Prop)
  (go:∀(e:Env)(J':List Blk)(U':Toks)(cv:AV),CV T U' (colE F 3) cv→Has J' ((b4,.cells [dv,tv,cv])::(b6,.map (ecOf F))::(efS (srtTo 8 F)++R))→Pre H J'→Pre T U'→HOk J' U'→J.length≤J'.length→envLe J'.length U'.length e [(2,.ptr b2 0),(4,.ptr b4 0),(6,.mref b6)]→Q .normal ⟨e,J',U'⟩) :
  AW ⟨Tryz.prog,192,152,nb,tb,[100104,100147,100166]⟩ (subC [1,1,1,1,1,1,1,1,1,1,1,0] (Tryz.f68.body.getD .skip)) Q ⟨[(2,.ptr b2 0),(4,.ptr b4 0),(6,.mref b6)],J,U⟩:=by
 conv=>arg 2;whnf
 have lH:=hP.le;have lT:=hPU.le;have l4:=hJ.lt (i:=b4) (b:=.cells [dv,tv,.sl 0 [] .full]) (by simp);have l6:=hJ.lt (i:=b6) (b:=.map (ecOf F)) (by simp);apply aw_reg;intro K h;simp(disch:=omega);apply h;clear h K;apply aw_block;refine aw_loop (X:=Nat×List Blk×Toks×AV) (fun x=>⟨[(2,.ptr b2 0),(4,.ptr b4 0),(6,.mref b6),(19,.int .i64 (5+x.1:Int))],x.2.1,x.2.2.1⟩)
  (fun x=>x.1≤3∧CV T x.2.2.1 (colE F x.1) x.2.2.2∧Has x.2.1 ((b4,.cells [dv,tv,x.2.2.2])::(b6,.map (ecOf F))::(efS (srtTo (5+x.1:Int) F)++R))∧Pre H x.2.1∧Pre T x.2.2.1∧HOk x.2.1 x.2.2.1∧J.length≤x.2.1.length∧U.length≤x.2.2.1.length) (fun x=>3-x.1) (0,J,U,.sl 0 [] .full) ?_ ?_ ?_
 ·refine⟨by omega,.inl ⟨rfl,rfl⟩,?_,hP,hPU,hO,Nat.le_refl _,Nat.le_refl _⟩;have:=srtTo_five F;simp only[Int.add_zero,Int.natCast_zero];show Has J ((b4,.cells [dv,tv,.sl 0 [] .full])::(b6,.map (ecOf F))::(efS (srtTo 5 F)++R));rw[this];exact hJ
 ·refine weak_to [] [] ?_ ?_ ?_ ?_ hO ?_
  all_goals simp
  all_goals omega
 ·rintro⟨g,J2,U2,cv⟩ ⟨k1,k2,k3,k4,k5,k6,k7,k8⟩;simp only at k1 k2 k3 k4 k5 k6 k7 k8;have lH2:=k4.le;have lT2:=k5.le;have l62:=k3.lt (i:=b6) (b:=.map (ecOf F)) (by simp);have l42:b4<J2.length:=by omega
  have e6:=at_of (k3.get (i:=b6) (b:=.map (ecOf F)) (by simp));have e4:=at_of (k3.get (i:=b4) (b:=.cells [dv,tv,cv]) (by simp));refine aw_then fun K2 hK2=>?_
  by_cases hg:g<3
  rotate_left
  ·have bg:decide ((5:Int)+g≤7)=false:=decide_eq_false (by omega);have ng:¬(5:Int)+g≤7:=by omega
   refine aw_reg fun K hK=>?_;simp(disch:=omega)[bg,ng];apply hK;clear hK K;apply aw_iff rfl;apply aw_exit;simp(disch:=omega) ;have hg3:g=3:=by omega
   subst hg3;refine go _ J2 U2 cv k2 k3 k4 k5 k6 (by omega) ?_;simp;omega
  ·have bg:decide ((5:Int)+g≤7)=true:=decide_eq_true (by omega);have ng:(5:Int)+g≤7:=by omega
   have hc1:(5+((g+1:Nat):Int))=5+(g:Int)+1:=by omega
   have hfk:=fitF (5+g) (by omega);have hkey:keyF (5+g)=.one (.int .i64 (5+g)):=rfl;rw[hkey] at hfk;refine aw_reg fun K hK=>?_;simp(disch:=omega)[bg,ng];apply hK;clear hK K;apply aw_ift rfl;apply aw_skip;simp(disch:=omega) ;apply hK2;clear hK2;refine aw_then fun K3 hK3=>?_;apply aw_block;have fin:∀(e:Env)(J3:List Blk)(U3:Toks)(cv':AV),CV T U3 (colE F (g+1)) cv'→Has J3 ((b4,.cells [dv,tv,cv'])::(b6,.map (ecOf F))::(efS (srtTo (5+g+1:Int) F)++R))→Pre H J3→Pre T U3→HOk J3 U3→J.length≤J3.length→U.length≤U3.length→envLe J3.length U3.length e [(2,.ptr b2 0),(4,.ptr b4 0),(6,.mref b6),(19,.int .i64 (5+g:Int))]→K3 ⟨e,J3,U3⟩:=by
    intro e J3 U3 cv' t1 t2 t3 t4 t5 t6 t7 t8;have lH3:=t3.le;have lT3:=t4.le;have l63:=t2.lt (i:=b6) (b:=.map (ecOf F)) (by simp);have l43:=t2.lt (i:=b4) (b:=.cells [dv,tv,cv']) (by simp);refine hK3 _ (aw_weak ⟨[(2,.ptr b2 0),(4,.ptr b4 0),(6,.mref b6),(19,.int .i64 (5+g:Int))],J3,U3⟩ (weak_to [] [] (by simp) (by simp) (by show nb≤J3.length;omega) (by show tb≤U3.length;omega) t5 t8) ?_);refine aw_reg0 fun K hK=>?_;simp(disch:=omega) ;apply hK;clear hK K;refine⟨(g+1,J3,U3,cv'),⟨by show g+1≤3;omega,t1,by simp only[hc1];exact t2,t3,t4,t5,t6,t7⟩,by show 3-(g+1)<3-g;omega,?_⟩;refine weak_to [] [] ?_ ?_ ?_ ?_ t5 ?_
    all_goals simp
    all_goals omega
   clear hK3
   by_cases hex:(5+g:Int)∈F.map (·.f)
   rotate_left
   ·have hlook:lookV (ecOf F) (.one (.int .i64 (5+g))) (.sl 0 [] .full) false=.sl 0 [] .full:=by
     unfold lookV;rw[←hkey,mget_none (ecOf_none hex)];rfl
    have hfn:F.find? (fun e=>e.f==(5+g:Int))=none:=by
     rw[List.find?_eq_none];intro x hx;have:x.f≠5+g:=fun ee=>hex (List.mem_map.2 ⟨x,hx,ee⟩);simpa using this
    refine aw_reg fun K hK=>?_;simp(disch:=omega)[mapT190,zeroV190,hfk,hft,e6,hlook];apply hK;clear hK K;apply aw_reg;intro K h;simp(disch:=omega);apply h;clear h K;apply aw_iff rfl;apply aw_skip;simp(disch:=omega) ;refine fin _ J2 U2 cv ?_ ?_ k4 k5 k6 (by omega) (by omega) ?_
    ·unfold colE;rw[hfn];exact k2
    ·rw[srtTo_no hex];exact k3
    ·simp;omega
   ·obtain⟨e,heE,hek⟩:=List.mem_map.1 hex;obtain⟨F1,F2,rfl⟩:=List.append_of_mem heE;have hok:=hF _ heE;obtain⟨m1,m2⟩:=srtTo_mid hnd (by omega);have hget:=ecOf_get hnd;rw[hek] at m1 m2 hget;have hfd:(F1++e::F2).find? (fun x=>x.f==(5+g:Int))=some e:=by rw[findF_mid hnd,if_pos hek.symm]
    have hcol:colE (F1++e::F2) (g+1)=colE (F1++e::F2) g++[srtF e]:=by
     rw[colE,hfd]
    have hlook:lookV (ecOf (F1++e::F2)) (.one (.int .i64 (5+g))) (.sl 0 [] .full) false=.csl e.i e.x.length e.cap:=by
     unfold lookV;rw[←hkey,hget];rfl
    obtain⟨p1,p2,p3,p4,p5⟩:=hok;have bl:decide ((0:Int)<(e.x.length:Int))=true:=decide_eq_true (by omega);have k3b:Has J2 ((b4,.cells [dv,tv,cv])::(b6,.map (ecOf (F1++e::F2)))::(efS (srtTo (5+g) F1)++(e.i,.cells (nmAV e.x++e.rest))::(efS (srtTo (5+g) F2)++R))):=by
     rw[m2] at k3;simpa[efS,Ef.blk] using k3
    have gi:=k3b.get (i:=e.i) (b:=.cells (nmAV e.x++e.rest)) (by simp);have li:=(List.getElem?_eq_some_iff.1 gi).1;have cs:=fun U=>sortIt_ok e.x e.rest e.i e.cap (by omega) J2 U gi;have hJ3:=Has.set (A:=(b4,.cells [dv,tv,cv])::(b6,.map (ecOf (F1++e::F2)))::efS (srtTo (5+g) F1)) (B:=efS (srtTo (5+g) F2)++R) (b:=.cells (nmAV e.x++e.rest)) (by simpa using k3b) (.cells (nmAV (sortN e.x)++e.rest));have hJ3':Has (J2.set e.i (.cells (nmAV (sortN e.x)++e.rest))) ((b4,.cells [dv,tv,cv])::(b6,.map (ecOf (F1++e::F2)))::(efS (srtTo (5+g+1) (F1++e::F2))++R)):=by
     rw[m1];simpa[efS,Ef.blk,srtF] using hJ3
    have hP3:=k4.set p4 (.cells (nmAV (sortN e.x)++e.rest));have hl3:(J2.set e.i (.cells (nmAV (sortN e.x)++e.rest))).length=J2.length:=by simp
    generalize hFF:F1++e::F2=FF at *;refine aw_reg fun K hK=>?_;simp(disch:=omega)[mapT190,zeroV190,hfk,hft,e6,hlook];apply hK;clear hK K;refine aw_reg fun K hK=>?_;simp(disch:=omega)[bl,p5];apply hK;clear hK K;apply aw_ift rfl;refine aw_reg fun K hK=>?_;simp(disch:=omega) ;refine acall_is (cs _) ?_;simp(disch:=omega) ;apply hK;clear hK K;have hO3:HOk (J2.set e.i (.cells (nmAV (sortN e.x)++e.rest))) U2:=by
     refine k6.set ?_;have:=k6 e.i (.cells (nmAV e.x++e.rest)) gi;simp only[Blk.vals] at this;intro v hv;rcases List.mem_append.1 hv with hv|hv
     ·exact below_nm _ _ _ v hv
     ·exact this v (List.mem_append_right _ hv)
    clear e4 e6 gi;generalize J2.set e.i (.cells (nmAV (sortN e.x)++e.rest))=J3 at *;have e4:=at_of (hJ3'.get (i:=b4) (b:=.cells [dv,tv,cv]) (by simp));have l43:b4<J3.length:=by omega
    have hie:e.i<J3.length:=by omega
    have hBe:∀U':Toks,True:=fun _=>trivial;have l63:=hJ3'.lt (i:=b6) (b:=.map (ecOf FF)) (by simp);rcases k2 with⟨hc0,rfl⟩|⟨tc,rfl,htc,htcT⟩
    ·refine aw_reg0 fun K hK=>?_;simp(disch:=omega)[e4];apply hK;clear hK K;have hJ4:=Has.set (A:=[]) (B:=(b6,.map (ecOf FF))::(efS (srtTo (5+g+1) FF)++R)) (b:=.cells [dv,tv,.sl 0 [] .full]) (by simpa using hJ3') (.cells [dv,tv,.sl 1 [.int .i64 (5+g),.msl e.i 0 e.x.length] (.own U2.length)]);refine fin _ _ _ (.sl 1 [.int .i64 (5+g),.msl e.i 0 e.x.length] (.own U2.length)) ?_ hJ4 (hP3.set hb4 _) (k5.app _) ?_ (by simp;omega) (by simp;omega) ?_
     ·refine .inr ⟨U2.length,?_,by rw[hcol,hc0];simp,by omega⟩;rw[hcol,hc0];simp[ccAV,srtF,sortN_len,hek]
     ·refine(hO3.toks (by simp)).set ?_;have h1:=htv.more (n':=J3.length) (t':=(U2++[(2,2)]).length) (by omega) (by simp;omega);have h2:=hdv.more (n':=J3.length) (t':=(U2++[(2,2)]).length) (by omega) (by simp;omega);simp[h1,h2,hie];exact⟨by simpa using h2,by simpa using h1⟩
     ·simp;omega
    ·have ltc:=(List.getElem?_eq_some_iff.1 htc).1;have eU:=at_of htc;have hcl:=ccAV_len (colE FF g);have hcle:(colE FF g).length≤3:=by
      have:∀k,(colE FF k).length≤k:=by
       intro k
       induction k with
       |zero=>exact Nat.le_refl _
       |succ k ih=>
        unfold colE
        split
        ·simp;omega
        ·omega
      have:=this g;omega
     refine aw_reg0 fun K hK=>?_;simp(disch:=omega)[e4,eU,hcl];apply hK;clear hK K;have hJ4:=Has.set (A:=[]) (B:=(b6,.map (ecOf FF))::(efS (srtTo (5+g+1) FF)++R)) (b:=.cells [dv,tv,.sl (colE FF g).length (ccAV (colE FF g)) (.own tc)]) (by simpa using hJ3') (.cells [dv,tv,.sl ((colE FF g).length+1) (ccAV (colE FF g)++[.int .i64 (5+g),.msl e.i 0 e.x.length]) (.own tc)]);refine fin _ _ _ (AV.sl ((colE FF g).length+1) (ccAV (colE FF g)++[AV.int .i64 (5+g),AV.msl e.i 0 e.x.length]) (.own tc)) ?_ hJ4 (hP3.set hb4 _) (k5.set htcT _) ?_ (by simp;omega) (by simp;omega) ?_
     ·refine .inr ⟨tc,?_,?_,htcT⟩
      ·rw[hcol];simp[ccAV,srtF,sortN_len,hek]
      ·rw[hcol,List.getElem?_set_self ltc];simp
       try omega
     ·refine(hO3.toks (by simp)).set ?_;have h0:=hO3 b4 _ (hJ3'.get (i:=b4) (b:=.cells [dv,tv,.sl (colE FF g).length (ccAV (colE FF g)) (.own tc)]) (by simp));simp only[Blk.vals,List.mem_cons,List.not_mem_nil,or_false,forall_eq_or_imp,forall_eq] at h0;obtain⟨h1,h2,h3⟩:=h0;simp at h3;simp[h1,h2,h3.1,h3.2,hie]
     ·simp;omega
inductive RunL:List Dc→List En→List Ef→Prop
 |nil:RunL [] [] []
 |snoc {l:List Dc} {d:Dc} {E E':List En} {F F':List Ef} (h:RunL l E F) (h1:RunE d.id E (dwds d.zs) E') (h2:RunF F (dits d.id d.ns) F'):RunL (l++[d]) E' F'
def wsum (l:List Dc):Nat:=(l.map fun d=>(dwds d.zs).length).sum
def nsum (l:List Dc):Nat:=(l.map fun d=>d.ns.length).sum
theorem wsum_take (l:List Dc)(i:Nat)(h:i<l.length):wsum (l.take i)+(dwds (l.getD i d0).zs).length=wsum (l.take (i+1)):=by
 rw[take_getD l i d0 h];simp[wsum]
theorem nsum_take (l:List Dc)(i:Nat)(h:i<l.length):nsum (l.take i)+(l.getD i d0).ns.length=nsum (l.take (i+1)):=by
 rw[take_getD l i d0 h];simp[nsum]
theorem wsum_app (a b:List Dc):wsum (a++b)=wsum a+wsum b:=by simp[wsum]
theorem wsum_le (l:List Dc)(i:Nat):wsum (l.take i)≤wsum l:=by
 have:wsum l=wsum (l.take i)+wsum (l.drop i):=by rw[←wsum_app,List.take_append_drop]
 omega
theorem nsum_app (a b:List Dc):nsum (a++b)=nsum a+nsum b:=by simp[nsum]
theorem nsum_le (l:List Dc)(i:Nat):nsum (l.take i)≤nsum l:=by
 have:nsum l=nsum (l.take i)+nsum (l.drop i):=by rw[←nsum_app,List.take_append_drop]
 omega
attribute [-simp] List.getD_eq_getElem?_getD in
theorem docs_loop (H:List Blk)(T:Toks)(nb tb:Nat)(hnb:nb≤H.length)(htb:tb≤T.length)(L:List Dc)(b2 b4 b5 b6 td:Nat)(J:List Blk)(U:Toks)
  (hB:DI H T b2 b4 b5 b6 td 0 0 J U [] [] []) (hL:L.length≤1000) (hW:wsum L≤1099511627776) (hM:nsum L≤1099511627776) (hz:∀d∈L,d.zs.length≤1099511627776) (hg:∀d∈L,GoodD d)
  (hb2:H.length≤b2) (hb4:H.length≤b4) (hb5:H.length≤b5) (hb6:H.length≤b6) (htd:T.length≤td) (Q:Exit→St→Prop)
  (bad:∀i,0<i→i<L.length→(L.getD (i-1) d0).id=(L.getD i d0).id→∀(e:Env)(J':List Blk)(U':Toks),eget e 2=.ptr b2 0→eget e 3=.int .i64 10→J'[b2]?=some (.cells [.sl 0 [] .full,.sl 0 [] .full,.sl 0 [] .full])→Pre H J'→Pre T U'→Q .ret ⟨e,J',U'⟩)
  (go:(∀i,0<i→i<L.length→(L.getD (i-1) d0).id≠(L.getD i d0).id)→∀(e:Env)(J':List Blk)(U':Toks)(E:List En)(F:List Ef),DI H T b2 b4 b5 b6 td (wsum L) (nsum L) J' U' (L.map (·.id)) E F→RunL L E F→envLe J'.length U'.length e [(0,.sl L.length (dcAV L) .none),(2,.ptr b2 0),(4,.ptr b4 0),(5,.mref b5),(6,.mref b6)]→Q .normal ⟨e,J',U'⟩) :
  AW ⟨Tryz.prog,192,152,nb,tb,[100104,100147,100166]⟩ (subC [1,1,1,1,1,1,1,1,0] (Tryz.f68.body.getD .skip)) Q ⟨[(0,.sl L.length (dcAV L) .none),(2,.ptr b2 0),(4,.ptr b4 0),(5,.mref b5),(6,.mref b6)],J,U⟩:=by
 conv=>arg 2;whnf
 have lH:=hB.pJ.le;have lT:=hB.pU.le;have lts:∀{N M:Nat} {J':List Blk} {U':Toks} {ids:List Int} {E:List En} {F:List Ef},DI H T b2 b4 b5 b6 td N M J' U' ids E F→b2<J'.length∧b4<J'.length∧b5<J'.length∧b6<J'.length:=by
  intro N M J' U' ids E F h;exact⟨h.hJ.lt (i:=b2) (b:=.cells [.sl 0 [] .full,.sl 0 [] .full,.sl 0 [] .full]) (by simp),h.hJ.lt (i:=b4) (b:=.cells [.sl ids.length (ints ids) (.own td),.sl 0 [] .full,.sl 0 [] .full]) (by simp),h.hJ.lt (i:=b5) (b:=.map (esOf E)) (by simp),h.hJ.lt (i:=b6) (b:=.map (ecOf F)) (by simp)⟩
 obtain⟨l2,l4,l5,l6⟩:=lts hB;apply aw_reg;intro K h;simp(disch:=omega);apply h;clear h K;apply aw_block;refine aw_loop (X:=Nat×List Blk×Toks×List En×List Ef) (fun x=>⟨[(0,.sl L.length (dcAV L) .none),(2,.ptr b2 0),(4,.ptr b4 0),(5,.mref b5),(6,.mref b6),(34,.sl L.length (dcAV L) .none),(35,.int .i64 (L.length:Nat)),(36,.int .i64 (x.1:Nat))],x.2.1,x.2.2.1⟩)
  (fun x=>x.1≤L.length∧DI H T b2 b4 b5 b6 td (wsum (L.take x.1)) (nsum (L.take x.1)) x.2.1 x.2.2.1 ((L.take x.1).map (·.id)) x.2.2.2.1 x.2.2.2.2∧RunL (L.take x.1) x.2.2.2.1 x.2.2.2.2∧∀i,0<i→i<x.1→(L.getD (i-1) d0).id≠(L.getD i d0).id) (fun x=>L.length-x.1) (0,J,U,[],[]) ?_ ?_ ?_
 ·exact⟨Nat.zero_le _,hB,.nil,fun i h1 h2=>by omega⟩
 ·refine weak_to [] [] ?_ ?_ ?_ ?_ hB.ok ?_
  all_goals simp
  all_goals omega
 ·rintro⟨i,J2,U2,E,F⟩ ⟨k1,k2,k3,k4⟩;simp only at k1 k2 k3 k4;have lH2:=k2.pJ.le;have lT2:=k2.pU.le;obtain⟨l22,l42,l52,l62⟩:=lts k2;apply aw_reg;intro K h;simp(disch:=omega);apply h;clear h K;refine aw_then fun K2 hK2=>?_;refine aw_if rfl (fun hk=>?_) (fun hk=>?_)
  ·simp  at hk;have hwt:=wsum_take L i hk;have hnt:=nsum_take L i hk;have hwl:=wsum_le L (i+1);have hnl:=nsum_le L (i+1);have hdm:=getD_mem L i d0 hk;apply aw_skip;simp(disch:=omega) ;apply hK2;clear hK2;refine aw_then fun K3 hK3=>?_;apply aw_block;refine aw_weak ⟨[(0,.sl L.length (dcAV L) .none),(2,.ptr b2 0),(4,.ptr b4 0),(5,.mref b5),(6,.mref b6),(34,.sl L.length (dcAV L) .none),(35,.int .i64 (L.length:Nat)),(36,.int .i64 (i:Nat))],J2,U2⟩ (weak_to [] [] (by simp) (by simp) (by show nb≤J2.length;omega) (by show tb≤U2.length;omega) k2.ok (by simp;omega)) ?_;refine doc_step (N:=wsum (L.take i)) (M:=nsum (L.take i)) H T nb tb hnb htb L i b2 b4 b5 b6 td _ E F J2 U2 k2 hk hL (by simp;omega) (by omega) (by omega) (hz _ hdm) (hg _ hdm) hb2 hb4 hb5 hb6 htd _ (fun h1 h2 e J' g1 g2 g3 g4=>?_) fun hne e J' U' E' F' a1 a2 a3 a4=>?_
   ·exact bad i h1 hk h2 e J' U2 g1 g2 g3 g4 k2.pU
   ·rw[hwt,hnt] at a1;have hids:(L.take i).map (·.id)++[(L.getD i d0).id]=(L.take (i+1)).map (·.id):=by rw[take_getD L i d0 hk];simp
    rw[hids] at a1;have lH3:=a1.pJ.le;have lT3:=a1.pU.le;obtain⟨l23,l43,l53,l63⟩:=lts a1;refine hK3 _ (aw_weak ⟨[(0,.sl L.length (dcAV L) .none),(2,.ptr b2 0),(4,.ptr b4 0),(5,.mref b5),(6,.mref b6),(34,.sl L.length (dcAV L) .none),(35,.int .i64 (L.length:Nat)),(36,.int .i64 (i:Nat))],J',U'⟩ (weak_to [] [] (by simp) (by simp) (by show nb≤J'.length;omega) (by show tb≤U'.length;omega) a1.ok a4) ?_);clear hK3;refine aw_reg0 fun K hK=>?_;simp(disch:=omega) ;apply hK;clear hK K;refine⟨(i+1,J',U',E',F'),⟨by show i+1≤_;omega,a1,?_,fun j h1 h2=>?_⟩,by show L.length-(i+1)<L.length-i;omega,?_⟩
    ·show RunL (L.take (i+1)) E' F';rw[take_getD L i d0 hk];exact k3.snoc a2 a3
    ·rcases Nat.lt_or_ge j i with h|h
     ·exact k4 j h1 h
     ·have:j=i:=by simp only at h2;omega
      subst this;exact hne h1
    ·refine weak_to [] [] ?_ ?_ ?_ ?_ a1.ok ?_
     all_goals simp
     all_goals omega
  ·simp  at hk;have hii:i=L.length:=by omega
   subst hii;rw[List.take_length] at k2 k3;apply aw_exit;simp(disch:=omega) ;refine go k4 _ J2 U2 E F k2 k3 ?_;simp;omega
end Go.Proofs.YtoejlmpbebjemaaGreat
