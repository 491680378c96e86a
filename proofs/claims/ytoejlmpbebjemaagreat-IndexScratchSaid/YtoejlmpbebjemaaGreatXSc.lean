/- IndexScratch (layer 40): it returns true.
  Conditions: none. -/
import Derived.Test.YtoejlmpbebjemaaGreatXOw
import Derived.Test.YtoejlmpbebjemaaGreatXCw
import Derived.Test.YtoejlmpbebjemaaGreatGRB
set_option linter.all false
set_option maxRecDepth 100000
set_option maxHeartbeats 16000000
namespace Go.Proofs.YtoejlmpbebjemaaGreat
open Go Go.Am ie cN eN
def FH {l:List oI}(hl:l.length<=19):dQ (kL l)=fM (fE l):=by
 have hg:=WW hl;have hp:=MK hl zO;have hq:=(eR (kL l)).perm;refine qV ?_ (gT hg).lt λd=>(hq.mem_iff).trans ((hp.mem_iff).symm.trans (fw d).symm);have h1:=(eR (kL l)).ord;have h2:((dQ (kL l)).map (·.id)).Nodup:=((hq.map _).nodup_iff.2) ((hp.map _).nodup_iff.1 hg.nd)
 rw[List.Nodup,aie] at h2;exact(h1.and h2).imp λ{a b} ⟨p,q⟩=>by omega
attribute [-simp] List.getD_eq_getElem?_getD in
theorem wu (l:List oI)(hl:l.length<=maxLen)(hs:∀o∈l,pt o.2)(f lo hi:Int)(w:Bs)(hw:w.length<=maxLen) :
  aq Tryz.prog 7 [.sl l.length (gF l) .none,.agg [.int .i64 f,.str w,.int .i64 lo,.int .i64 hi]] [] [] (λr _ _=>r=.bool true):=by
 have ca:=λH=>MX H [];have cs:=λH=>Qo l hl hs H [] .none;refine ah 9 [] Tryz.ntmps7 Tryz.func7 rfl (λ_ _=>Tryz.call7 _ _) zS (λHO=>?_);refine af ?_;refine ae λK1 aN=>?_;apply ar;refine zQ ?_;refine ai (ca _) ?_;refine zQ ?_;apply aB rfl;apply aj;apply aN;clear aN;refine ae λK1 aN=>?_
 cases hb:Dp l with
 |false=>
  rw[hb] at cs;apply ar;refine zQ ?_;refine ai (cs _) ?_;refine zQ ?_;apply aC rfl;refine af ?_;exact bu zC
 |true=>
 rw[hb] at cs;obtain⟨Kc,VB⟩:=aaC hb;have hwe:∀o∈l,aU o.2=true->Db 60 o.2:=λo ho hv=>Lq (VB o ho) hv;have cp:=λH T=>Jk (m:=60) (B:=12) l Kc hs hwe zO zO H T .none;have cc:=λH T=>Il l zO hs H T .none;rw[FH zO] at cc;obtain⟨bx,x7⟩:=Tj (m:=60) (B:=12) Kc hwe zO zO;have Zl:∀d∈fM (fE l),pt d:=λd hd=>by
  have hx:=lW (B:=12) Kc zO l.length (ahv _);rw[ahO] at hx;obtain⟨o,ho,rfl,_⟩:=hx.p.each d ((fw d).1 hd);exact hs o ho
 generalize fE l=X at *;have Vz:=gT bx.g;have ur:(fM X).length<=19:=by rw[show (fM X).length=(alive X).length from dU _];exact bx.a
 have Kj:∀d∈fM X,∃p∈X,d∈p.1:=λd hd=>by
  obtain⟨s,hs,h⟩:=qK.1 hd;exact⟨s,hs,mE h⟩
 have Wc:∀d∈fM X,Db 60 d:=λd hd=>by
  obtain⟨s,hs,h⟩:=Kj d hd;exact bx.w s hs d h
 have hfq:=u5 bx.g (f,w);have hwq:=KI bx.g f w;have hbq:=QP bx.g f lo hi;have hfs:=qy Vz.n Vz.lt Vz.v (f,w);have gj:rz (er (fM X)):=IK Vz Wc ur (by rw[show (fM X).length=(alive X).length from dU _];exact bx.c);have cb:=λH T=>MU (fM X) zO Zl (λ_=>by have:=iX dy 60 (fM X) λd hd=>(Wc d hd).k;omega) (by have:=iX (λd:Dc=>d.ns) 20 (fM X) λd hd=>(Wc d hd).n;omega) H T .none;rw[Vz.build] at cb;have cd:=λH T=>zy bx zO H T;have csd:=λH T=>FI (fM X) (ahA ur zD) Zl H T .none .none;have hq1:(fj X (f,w) X.length).length<=5000:=by rw[hfq];exact ahA (oi _ _) zO
 have hq2:∀p∈fj X (f,w) X.length,p.2.length<=maxLen:=λp hp=>by
  rw[hfq] at hp;exact ahA (bx.post zO Kj (f,w) p hp) zD
 have cf:=λH T=>x8 bx zO zO f w H T;have cfr:=λH T=>Mu (er (fM X)) gj f w H T;rw[hfs,<-hfq] at cfr;have csm:=λH T=>Lt (fj X (f,w) X.length) (fj X (f,w) X.length) hq1 hq1 hq2 hq2 H T;rw[ahx rfl] at csm;have cw:=λH T=>KG bx zO zO f w hw H T;have cwr:=λH T=>Hl (er (fM X)) gj f w hw H T;rw[<-hwq] at cwr;have qC:(kb X f w).length<=maxLen:=ahA (Hm bx f w) (ahA (aiz _ x7) zD);have cst:=λH T=>CA (kb X f w) (kb X f w) qC qC H T .none .none;rw[beq_self_eq_true] at cst;have cbt:=λH T=>Ud bx zO f lo hi H T;have cbr:=λH T=>QO (er (fM X)) gj f lo hi H T;rw[<-hbq] at cbr;have vw:(nq X f lo hi X.length).length<=maxLen:=ahA (yk bx.g f lo hi (ahv _)) (ahA bx.a zD);have csi:=λH T=>qu (nq X f lo hi X.length) (nq X f lo hi X.length) vw vw H T .none .none;rw[beq_self_eq_true] at csi;generalize fj X (f,w) X.length=fq at *;generalize kb X f w=wq at *;generalize nq X f lo hi X.length=bq at *;generalize fM X=D at *;generalize er D=s at *;apply ar;refine zQ ?_;refine ai (cs _) ?_;refine zQ ?_;apply aB rfl;apply aj;apply aN;clear aN;apply ar;refine zQ ?_;refine ai (cp _ _) ?_;refine zQ ?_;refine ai (cc _ _) ?_;refine zQ ?_;apply ar;refine zQ ?_;refine ai (cb _ _) ?_;refine zQ ?_;refine ae λK1 aN=>?_;apply ar;refine zQ ?_;refine ai (cd _ _) ?_;refine zQ ?_;refine ai (csd _ _) ?_;refine zQ ?_;apply aB rfl;apply aj;apply aN;clear aN;refine bC [] [0,0,0,0,0,0,0,0,0,0,0,0,0,0,0,0,0,0,0,0,0,0,0,0,0,0,0,0,0,0,0,0,0,0,0,0,0,0,0,0,0,0,0,0,0,0,0,0] [] ?_;refine zQ ?_;refine az (cf _ _) rfl ?_;refine zQ ?_;refine az (cfr _ _) rfl ?_;refine zQ ?_;refine az (csm _ _) rfl ?_;refine zQ ?_;refine az (cw _ _) rfl ?_;refine zQ ?_;refine az (cwr _ _) rfl ?_;refine zQ ?_;refine az (cst _ _) rfl ?_;refine zQ ?_;refine az (cbt _ _) rfl ?_;refine zQ ?_;refine az (cbr _ _) rfl ?_;refine zQ ?_;refine az (csi _ _) rfl ?_;refine zQ ?_;exact bu zC
end Go.Proofs.YtoejlmpbebjemaaGreat
