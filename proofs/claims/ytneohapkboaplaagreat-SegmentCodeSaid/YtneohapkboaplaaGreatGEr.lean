/- Encode of the reference (layer 39).
  Conditions: the sizes of SzS. -/
import Derived.Test.YtneohapkboaplaaGreatGEn
import Derived.Test.YtneohapkboaplaaGreatGRA
import Derived.Test.YtneohapkboaplaaGreatAmC
set_option linter.all false
set_option maxRecDepth 100000
set_option maxHeartbeats 16000000
namespace Go.Proofs.YtneohapkboaplaaGreat
open Go Go.Am gH dc eB
open gB hiding aR
theorem Gu (l:List Int)(hl:∀x∈l,o3 x)(hb:l.length≤1000000)(H:List aG)(T:ay):al Tryz.prog 121 [.sl l.length (ints l) .none] H T (Is (.sl (cM l).length (bu (cM l)) (.own T.length)) H (T++[((cM l).length,1)])):=
 al.Ty (Dx) (Bc l hl hb H T)
attribute [-simp] List.getD_eq_getElem?_getD in
theorem Bo (s:Sg)(hs:re s)(H:List aG)(T:ay):al Tryz.prog 50 [il s] H T (Is (.cJ [.sl (fG s).1.length (bu (fG s).1) .none,.int .i64 (fG s).2]) H T):=by
 refine al.vX ?_ (by simp);have cv:=fun H T=>u5 s hs H T;refine aj 11 [] Tryz.ntmps50 Tryz.func50 rfl (fun _ _=>Tryz.call50 _ _) (by simp) (fun HO=>?_);have kx:bM (H++[.cells (cG s)]) T:=HO.snoc (by simp);apply ae;intro K h;simp(disch:=omega);apply h;clear h K;refine af fun K1 aO=>?_
 cases hv:aW s with
 |false=>
  have hr:fG s=([],1):=by unfold fG;rw[hv];rfl
  rw[hv] at cv;refine ae fun K hK=>?_;simp(disch:=omega) ;refine ah (cv _ _) ?_;simp(disch:=omega) ;apply hK;clear hK K;apply aH rfl;apply ae;intro K h;simp(disch:=omega);apply h;clear h K;apply an;simp(disch:=omega) ;rw[hr];simp
 |true=>
 have hr:fG s=(jK s,0):=by unfold fG;rw[hv];rfl
 have hE:=rA hv hs;rw[hv] at cv;have cJ0:=fun H T=>Gu s.aw hE.di (by have:=hE.d;omega) H T;have cJ1:=fun H T=>hZ (s.aJ.length:Int) (by have:=hE.t;omega) (by have:=hE.t;omega) H T;have lV:s.aJ.length≤9223372036854775807:=by have:=hE.t;omega
 have fS:s.az.length≤9223372036854775807:=by have:=hE.c;omega
 have NS:=yb hE;have hIl:=qC hE.di hE.d;have Sd:=ew (n:=(s.aJ.length:Int)) (by have:=hE.t;constructor<;>omega);have Xe:B5 s=cM s.aw++enc (s.aJ.length:Int):=rfl;generalize hIn:cM s.aw=I0 at *;generalize hEn:enc (s.aJ.length:Int)=E0 at *;refine ae fun K hK=>?_;simp(disch:=omega) ;refine ah (cv _ _) ?_;simp(disch:=omega) ;apply hK;clear hK K;apply aC rfl;apply ak;simp(disch:=omega) ;apply aO;clear aO;obtain⟨bF,Fb⟩:∃bF:Nat→Bs,∀i,bF i=B5 s++(s.aJ.take i).flatMap fY:=⟨_,fun _=>rfl⟩
 have b0:bF 0=I0++E0:=by rw[Fb,Xe];simp
 refine aM [2,7] [0,0,0,0,0,0,1,1,2] [[],[]] au (by kernel_rfl) (by kernel_rfl) fun K hK=>?_;simp(disch:=omega) ;refine dz (cJ0 _ _) rfl ?_;simp(disch:=omega) ;refine aB (cJ1 _ _) rfl ?_;simp(disch:=omega) ;apply hK;clear hK K;refine af fun K1 aO=>?_;apply ae;intro K h;simp(disch:=omega);apply h;clear h K;apply ai;refine aK (X:=Nat) (fun i=>⟨[(1,.ptr H.length 0),(4,.sl (bF i).length (bu (bF i)) (.own T.length)),(5,.int .i64 (i:Nat))],H++[.cells (cG s)],T++[((bF i).length,1)]⟩)
  (fun i=>i≤s.aJ.length) (fun i=>s.aJ.length-i) 0 (Nat.zero_le _) ?_ ?_
 ·rw[b0];refine ag [] [] ?_ ?_ ?_ ?_ (kx.df (by simp)) ?_
  all_goals simp[dn]
 ·intro i hi;have o7:=uB hE i;rw[←Fb] at o7;refine af fun K2 aY=>?_;apply ae;intro K h;simp(disch:=omega);apply h;clear h K;refine aP rfl (fun hk=>?_) (fun hk=>?_)
  ·simp  at hk;obtain⟨a1,a2,a3⟩:=qf s.aJ i hk;have qX:=hE.te _ (aR s.aJ i t0 hk);have jy:=ff s.aJ i t0 fY hk;have mZ:=Cw qX.v qX.l qX.p;have cP:=fun H T=>Dj (s.aJ.getD i t0).l qX.l qX.p H T .none;have RW:mU (s.aJ.getD i t0).l=(eL (s.aJ.getD i t0).l,0):=by unfold mU;rw[qX.v];rfl
   rw[RW] at cP;have E9:=uB hE (i+1);rw[←Fb] at E9;have Lk:=qX.w;have e1:=ew qX.f;have LV:=qX.f;have e2:=ew (n:=((s.aJ.getD i t0).w.length:Int)) (by constructor<;>omega);have O2:fY (s.aJ.getD i t0)=enc (s.aJ.getD i t0).f++(bf (s.aJ.getD i t0).w++bf (eL (s.aJ.getD i t0).l)):=rfl;rw[O2,←List.append_assoc] at jy;have gf:bF (i+1)=bF i++(enc (s.aJ.getD i t0).f++(bf (s.aJ.getD i t0).w++bf (eL (s.aJ.getD i t0).l))):=by rw[Fb,Fb,jy];simp only[List.append_assoc]
   have e3:(bf (s.aJ.getD i t0).w).length=(enc ((s.aJ.getD i t0).w.length:Int)).length+(s.aJ.getD i t0).w.length:=by unfold bf;rw[List.length_append]
   clear O2 jy RW qX;generalize bF i=B at *;generalize s.aJ.getD i t0=t at *;obtain⟨f,w,l⟩:=t;simp only at *;have d1:=fun H T=>hZ f LV.1 LV.2 H T;have d2:=fun H T=>u9 w (by omega) H T;have d3:=fun H T=>u9 (eL l) (by omega) H T;have Fe:B.length+((enc f).length+((bf w).length+(bf (eL l)).length))≤22000000000:=by rw[gf] at E9;simp only[List.length_append] at E9;exact E9
   generalize Pm:bF (i+1)=B3 at *;generalize eL l=x at *;generalize bf x=X3 at *;generalize bf w=X2 at *;generalize enc f=X1 at *;apply ak;simp(disch:=omega) ;apply aY;clear aY;refine af fun K3 bA=>?_;apply ai;refine ae fun K hK=>?_;simp(disch:=omega)[a1,a2,a3,bH,hk];refine ah (cP _ _) ?_;simp(disch:=omega) ;apply hK;clear hK K;refine cE [8,16,20] [0,0,0,0,0,0,0,0,0,0,0,0,0,0,0,1,1,0,0,2,2,3] [[],[],[]] au (by kernel_rfl) (by kernel_rfl) fun K hK=>?_;simp(disch:=omega)[a1,a2,a3,bH,hk];refine aB (d1 _ _) rfl ?_;simp(disch:=omega)[a1,a2,a3,bH,hk];refine aB (d2 _ _) rfl ?_;simp(disch:=omega)[a1,a2,a3,bH,hk];refine aB (d3 _ _) rfl ?_;simp(disch:=omega)[a1,a2,a3,bH,hk];apply hK;clear hK K;apply bA;clear bA;refine ar fun K hK=>?_;simp(disch:=omega) ;apply hK;clear hK K;refine⟨i+1,by show i+1≤_;omega,by show s.aJ.length-(i+1)<s.aJ.length-i;omega,?_⟩;simp only[Pm];rw[gf];refine ag [] [] ?_ ?_ ?_ ?_ (kx.df (by simp)) ?_
   all_goals simp[dn,Nat.add_assoc]
  ·simp  at hk;have e:i=s.aJ.length:=by omega
   subst e;have Fe:=Jc hE;have Xi:N9 s=B5 s++s.aJ.flatMap fY++enc s.az.length:=rfl;have hEq:=Jb s;have Sn:=Fb s.aJ.length;rw[List.take_length] at Sn;rw[Sn] at o7 ⊢;have c4:=fun H T=>hZ (s.az.length:Int) (by have:=hE.c;omega) (by have:=hE.c;omega) H T;have acy:=ew (n:=(s.az.length:Int)) (by have:=hE.c;constructor<;>omega);generalize B5 s++s.aJ.flatMap fY=B at *;generalize enc (s.az.length:Int)=E1 at *;generalize N9 s=C0 at *;generalize jK s=ES at *;apply aD;simp(disch:=omega) ;apply aO;clear aO;refine ae fun K hK=>?_;simp(disch:=omega) ;refine ah (c4 _ _) ?_;simp(disch:=omega) ;apply hK;clear hK K;refine af fun K1 aO=>?_;apply ae;intro K h;simp(disch:=omega);apply h;clear h K;apply ai;obtain⟨cF,E8⟩:∃cF:Nat→Bs,∀j,cF j=C0++(s.az.take j).flatMap l7:=⟨_,fun _=>rfl⟩
   have b1:cF 0=B++E1:=by rw[E8,Xi];simp
   refine aK (X:=Nat) (fun j=>⟨[(1,.ptr H.length 0),(4,.sl (cF j).length (bu (cF j)) (.own T.length)),(8,.int .i64 (j:Nat))],H++[.cells (cG s)],T++[((cF j).length,1)]⟩)
    (fun j=>j≤s.az.length) (fun j=>s.az.length-j) 0 (Nat.zero_le _) ?_ ?_
   ·rw[b1];refine ag [] [] ?_ ?_ ?_ ?_ (kx.df (by simp)) ?_
    all_goals simp[dn]
   ·intro j hj;have P0:=Fe j;rw[←E8] at P0;refine af fun K2 aY=>?_;apply ae;intro K h;simp(disch:=omega);apply h;clear h K;refine aP rfl (fun da=>?_) (fun da=>?_)
    ·simp  at da;have bY:=lK s.az j da;have vT:=hE.ce _ (aR s.az j c0 da);have jy:=ff s.az j c0 l7 da;have E9:=Fe (j+1);rw[←E8] at E9;have LV:=vT.f;have hxn:=vT.n;have RQ:=vT.x;have e1:=ew vT.f;have e2:=ew (n:=((s.az.getD j c0).x.length:Int)) (by constructor<;>omega);have Si:l7 (s.az.getD j c0)=enc (s.az.getD j c0).f++(enc (s.az.getD j c0).x.length++(s.az.getD j c0).x.flatMap qS):=rfl;rw[Si] at jy;have gf:cF (j+1)=cF j++(enc (s.az.getD j c0).f++enc (s.az.getD j c0).x.length)++(s.az.getD j c0).x.flatMap qS:=by rw[E8,E8,jy];simp only[List.append_assoc]
     clear Si jy vT;generalize cF j=B2 at *;generalize s.az.getD j c0=c at *;obtain⟨f,x⟩:=c;simp only at *;have d1:=fun H T=>hZ f LV.1 LV.2 H T;have d2:=fun H T=>hZ (x.length:Int) (by omega) (by omega) H T;generalize Pm:cF (j+1)=B3 at *;generalize enc f=X1 at *;generalize enc (x.length:Int)=X2 at *;have EX:x.length≤9223372036854775807:=by omega
     apply ak;simp(disch:=omega) ;apply aY;clear aY;refine af fun K3 bA=>?_;apply ai;refine ae fun K hK=>?_;simp(disch:=omega)[bY,de,da];apply hK;clear hK K;have fD:bM (H++[.cells (cG s),.cells (e7 ⟨f,x⟩)]) T:=by
      have:=kx.snoc (vs:=e7 ⟨f,x⟩) (by simp);simpa using this
     refine aM [4,9] [0,0,0,0,0,0,0,0,1,1,2] [[],[]] au (by kernel_rfl) (by kernel_rfl) fun K hK=>?_;simp(disch:=omega) ;refine aB (d1 _ _) rfl ?_;simp(disch:=omega) ;refine aB (d2 _ _) rfl ?_;simp(disch:=omega) ;apply hK;clear hK K;apply ae;intro K h;simp(disch:=omega);apply h;clear h K;apply ai;obtain⟨aF,HZ⟩:∃aF:Nat→Bs,∀m,aF m=B2++(X1++X2)++(x.take m).flatMap qS:=⟨_,fun _=>rfl⟩
     have b2:aF 0=B2++(X1++X2):=by rw[HZ];simp
     refine aK (X:=Nat) (fun m=>⟨[(1,.ptr H.length 0),(4,.sl (aF m).length (bu (aF m)) (.own T.length)),(8,.int .i64 (j:Nat)),(9,.ptr (H.length+1) 0),(10,.int .i64 (m:Nat))],H++[.cells (cG s),.cells (e7 ⟨f,x⟩)],T++[((aF m).length,1)]⟩)
      (fun m=>m≤x.length) (fun m=>x.length-m) 0 (Nat.zero_le _) ?_ ?_
     ·rw[b2];refine ag [] [] ?_ ?_ ?_ ?_ (fD.df (by simp)) ?_
      all_goals simp[dn,Nat.add_assoc]
     ·intro m hm;have Sl:(aF m).length≤23000100020:=by
       rw[HZ];have:=jH (e:=qS) (fun y hy=>yc (RQ y hy)) m;rw[List.length_append,List.length_append,List.length_append];omega
      refine af fun K4 ec=>?_;apply ae;intro K h;simp(disch:=omega);apply h;clear h K;refine aP rfl (fun ko=>?_) (fun ko=>?_)
      ·simp  at ko;obtain⟨y1,y2⟩:=Na x m ko;have hy:=RQ _ (aR x m n0 ko);have jy:=ff x m n0 qS ko;have RL:qS (x.getD m n0)=enc (x.getD m n0).1++enc (x.getD m n0).2:=rfl;rw[RL] at jy;have IH:aF (m+1)=aF m++(enc (x.getD m n0).1++enc (x.getD m n0).2):=by rw[HZ,HZ,jy];simp only[List.append_assoc]
       clear RL jy;generalize aF m=A at *;generalize x.getD m n0=y at *;obtain⟨u1,u2⟩:=y;simp only at *;have f1:=ew hy.1;have f2:=ew hy.2;have k1:=fun H T=>hZ u1 hy.1.1 hy.1.2 H T;have k2:=fun H T=>hZ u2 hy.2.1 hy.2.2 H T;generalize hA2:aF (m+1)=A2 at *;generalize enc u1=Y1 at *;generalize enc u2=Y2 at *;apply ak;simp(disch:=omega) ;apply ec;clear ec;refine af fun K5 gO=>?_;apply ai;refine cE [8,16] [0,0,0,0,0,0,0,0,0,0,0,0,0,0,0,1,1,2] [[],[]] au (by kernel_rfl) (by kernel_rfl) fun K hK=>?_;simp(disch:=omega)[y1,y2,cj,ko];refine aB (k1 _ _) rfl ?_;simp(disch:=omega)[y1,y2,cj,ko];refine aB (k2 _ _) rfl ?_;simp(disch:=omega)[y1,y2,cj,ko];apply hK;clear hK K;apply gO;clear gO;refine ar fun K hK=>?_;simp(disch:=omega) ;apply hK;clear hK K;refine⟨m+1,by show m+1≤_;omega,by show x.length-(m+1)<x.length-m;omega,?_⟩;simp only[hA2];rw[IH];refine ag [] [] ?_ ?_ ?_ ?_ (fD.df (by simp)) ?_
       all_goals simp[dn,Nat.add_assoc]
      ·simp  at ko;have e:m=x.length:=by omega
       subst e;have Sq:=HZ x.length;rw[List.take_length,←gf] at Sq;rw[Sq];apply aD;simp(disch:=omega) ;apply bA;clear bA;refine ar fun K hK=>?_;simp(disch:=omega) ;apply hK;clear hK K;refine⟨j+1,by show j+1≤_;omega,by show s.az.length-(j+1)<s.az.length-j;omega,?_⟩;simp only[Pm];refine ag [.cells (e7 ⟨f,x⟩)] [] ?_ ?_ ?_ ?_ (kx.df (by simp)) ?_
       all_goals simp
    ·simp  at da;have e:j=s.az.length:=by omega
     subst e;have vT:=E8 s.az.length;rw[List.take_length,hEq] at vT;rw[vT];apply aD;simp(disch:=omega) ;apply aO;clear aO;apply ae;intro K h;simp(disch:=omega);apply h;clear h K;apply an;simp(disch:=omega) ;rw[hr];simp
end Go.Proofs.YtneohapkboaplaaGreat
