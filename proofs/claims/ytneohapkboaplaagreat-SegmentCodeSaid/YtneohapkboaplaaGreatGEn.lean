/- segment.Encode (layer 39).
  Conditions: the sizes of SzS. -/
import Derived.Test.YtneohapkboaplaaGreatGW3
import Derived.Test.YtneohapkboaplaaGreatGCd
import Derived.Test.YtneohapkboaplaaGreatPDecR
set_option linter.all false
set_option maxRecDepth 100000
set_option maxHeartbeats 16000000
open List (length_append take_length append_assoc)
namespace Go.Proofs.YtneohapkboaplaaGreat
open Go Go.Am gH dc eB
open gB hiding aR
def fG (s:Sg):Bs×Int:=if aW s=true then (jK s,0) else ([],1)
theorem pk (b:Bs)(n:Int)(h:o3 n)(hb:b.length≤1099511627776)(H:List aG)(T:ay) :
  al Tryz.prog 117 [.sl b.length (bu b) (.own T.length),.int .i64 n] H (T++[(b.length,1)]) (Is (.sl (b++enc n).length (bu (b++enc n)) (.own T.length)) H (T++[((b++enc n).length,1)])):=by
 have:=rq b T.length n h.1 h.2 H (T++[(b.length,1)]) (by simp) hb
 rwa [List.set_append_right _ _ (Nat.le_refl _),Nat.sub_self] at this
theorem Ec (b w:Bs)(hb:b.length+w.length≤1099511627776)(H:List aG)(T:ay) :
  al Tryz.prog 120 [.sl b.length (bu b) (.own T.length),.str w] H (T++[(b.length,1)]) (Is (.sl (b++bf w).length (bu (b++bf w)) (.own T.length)) H (T++[((b++bf w).length,1)])):=by
 have:=ME b w T.length H (T++[(b.length,1)]) (by simp) hb
 rwa [List.set_append_right _ _ (Nat.le_refl _),Nat.sub_self] at this
theorem ew {n:Int}(h:o3 n):(enc n).length≤10:=(eN h.1 h.2).2
structure TmE (t:Tm):Prop where
 f:o3 t.f
 w:t.w.length≤1000000
 v:bc t.l=true
 l:t.l.length≤1000
 p:∀p∈t.l,p.2.length≤1000
theorem Cw {l:PL}(hv:bc l=true)(hl:l.length≤1000)(hp:∀p∈l,p.2.length≤1000):(eL l).length≤20000010:=by
 obtain⟨a1,a2,a3⟩:=bS hv;have h:=(xT l (fun p h=>⟨by have:=a2 p h;omega,hp p h,(a3 p h).2.2⟩) (enc l.length) 0 (by omega)).1;have h2:=ew (n:=(l.length:Int)) (by constructor<;>omega);unfold eL;omega
theorem Nr {t:Tm}(h:TmE t):(fY t).length≤21000040:=by
 unfold fY bf;have h1:=ew h.f;have h2:=ew (n:=(t.w.length:Int)) (by have:=h.w;constructor<;>omega);have h3:=Cw h.v h.l h.p;have h4:=ew (n:=((eL t.l).length:Int)) (by constructor<;>omega);have:=h.w;simp only[length_append];omega
theorem jH {α:Type}{e:α→Bs}{m:Nat}{l:List α}(h:∀x∈l,(e x).length≤m)(i:Nat):((l.take i).flatMap e).length≤m*l.length:=by
 have h1:=nX (l.take i) e m fun x hx=>h x (List.mem_of_mem_take hx);refine Nat.le_trans h1 (Nat.mul_le_mul_left _ ?_);rw[List.length_take];omega
structure ClE (c:Cl):Prop where
 f:o3 c.f
 n:c.x.length≤1000
 x:∀y∈c.x,o3 y.1∧o3 y.2
theorem yc {y:Nm}(h:o3 y.1∧o3 y.2):(qS y).length≤20:=by
 unfold qS;have h1:=ew h.1;have h2:=ew h.2;rw[length_append];omega
theorem EE {c:Cl}(h:ClE c):(l7 c).length≤20020:=by
 unfold l7;have h1:=ew h.f;have h2:=ew (n:=(c.x.length:Int)) (by have:=h.n;constructor<;>omega);have h3:=jH (e:=qS) (fun y hy=>yc (h.x y hy)) c.x.length;rw[take_length] at h3;have:=h.n;simp only[length_append];omega
structure Xt (s:Sg):Prop where
 d:s.aw.length≤1000
 di:∀i∈s.aw,o3 i
 t:s.aJ.length≤1000
 te:∀t∈s.aJ,TmE t
 c:s.az.length≤1000
 ce:∀c∈s.az,ClE c
theorem rA {s:Sg}(hv:aW s=true)(hs:re s):Xt s:=by
 obtain⟨⟨vd,_⟩,⟨vt,_⟩,vc⟩:=fe hv;have hb:=pF vd;have hm:∀{n:Int},-1≤n→n≤1000000000000→o3 n:=fun h1 h2=>⟨by omega,by omega⟩
 refine⟨hs.d,fun i hi=>by have:=hb i hi;exact hm (by omega) (by omega),hs.t,fun t ht=>?_,hs.c,fun c hc=>?_⟩
 ·obtain⟨i,hi,rfl⟩:=bP t0 ht;have h1:=(vt i hi).1;have h2:=(vt i hi).2;unfold jT at h1;unfold qV at h2;simp only[Bool.and_eq_true,decide_eq_true_eq] at h1 h2;have hw:=h1.1.2;unfold okW at hw;simp only[Bool.and_eq_true,decide_eq_true_eq] at hw;exact⟨hm (by omega) (by omega),by omega,h2.1.2,(hs.w _ ht).2.1,(hs.w _ ht).2.2⟩
 ·obtain⟨i,hi,rfl⟩:=bP c0 hc;have h1:=(vc i hi).1;unfold lq at h1;simp only[Bool.and_eq_true,decide_eq_true_eq] at h1;refine⟨hm (by omega) (by omega),hs.x _ hc,fun y hy=>?_⟩;obtain⟨k,hk,rfl⟩:=bP n0 hy;have h2:=(vc i hi).2 k hk;unfold jC at h2;simp only[Bool.and_eq_true,decide_eq_true_eq] at h2;have h3:=hb _ h2.1.1;exact⟨hm (by omega) (by omega),hm (by omega) (by omega)⟩
theorem qC {l:List Int}(h:∀i∈l,o3 i)(hl:l.length≤1000):(cM l).length≤10010:=by
 unfold cM;have h1:=nX l enc 10 fun x hx=>ew (h x hx);have h2:=ew (n:=(l.length:Int)) (by constructor<;>omega);rw[length_append];omega
def B5 (s:Sg):Bs:=cM s.aw++enc s.aJ.length
def N9 (s:Sg):Bs:=B5 s++s.aJ.flatMap fY++enc s.az.length
theorem Jb (s:Sg):N9 s++s.az.flatMap l7=jK s:=by unfold N9 B5 jK;simp only[append_assoc]
theorem yb {s:Sg}(h:Xt s):(B5 s).length≤10020:=by
 unfold B5;have h1:=qC h.di h.d;have h2:=ew (n:=(s.aJ.length:Int)) (by have:=h.t;constructor<;>omega);rw[length_append];omega
theorem uB {s:Sg}(h:Xt s)(i:Nat):(B5 s++(s.aJ.take i).flatMap fY).length≤22000000000:=by
 have h1:=yb h;have h2:=jH (e:=fY) (fun t ht=>Nr (h.te t ht)) i;have:=h.t;rw[length_append];omega
theorem Jc {s:Sg}(h:Xt s)(i:Nat):(N9 s++(s.az.take i).flatMap l7).length≤23000000000:=by
 have h1:=uB h s.aJ.length;rw[take_length] at h1;have h2:=ew (n:=(s.az.length:Int)) (by have:=h.c;constructor<;>omega);have h3:=jH (e:=l7) (fun c hc=>EE (h.ce c hc)) i;have:=h.c;unfold N9;rw[length_append,length_append];omega
attribute [-simp] List.getD_eq_getElem?_getD in
theorem sE (s:Sg)(hs:re s)(H:List aG)(T:ay):al Tryz.prog 49 [il s] H T (Is (.cJ [.sl (fG s).1.length (bu (fG s).1) .none,.int .i64 (fG s).2]) H T):=by
 refine al.vX ?_ (by simp);have cv:=fun H T=>jL s hs H T;refine aj 72 [] Tryz.ntmps49 Tryz.func49 rfl (fun _ _=>Tryz.call49 _ _) (by simp) (fun HO=>?_);have kx:bM (H++[.cells (cG s)]) T:=HO.snoc (by simp);apply ae;intro K h;simp(disch:=omega);apply h;clear h K;refine af fun K1 aO=>?_
 cases hv:aW s with
 |false=>
  have hr:fG s=([],1):=by unfold fG;rw[hv];rfl
  rw[hv] at cv;refine ae fun K hK=>?_;simp(disch:=omega) ;refine ah (cv _ _) ?_;simp(disch:=omega) ;apply hK;clear hK K;apply aH rfl;apply ae;intro K h;simp(disch:=omega);apply h;clear h K;apply an;simp(disch:=omega) ;rw[hr];simp
 |true=>
 have hr:fG s=(jK s,0):=by unfold fG;rw[hv];rfl
 have hE:=rA hv hs;rw[hv] at cv;have cJ0:=fun H T=>GZ s.aw H T hE.di (by have:=hE.d;omega);have c1:=fun H T=>pk (cM s.aw) (s.aJ.length:Int) (by have:=hE.t;constructor<;>omega) (by have:=qC hE.di hE.d;omega) H T;rw[show cM s.aw++enc (s.aJ.length:Int)=B5 s from rfl] at c1;have lV:s.aJ.length≤9223372036854775807:=by have:=hE.t;omega
 have fS:s.az.length≤9223372036854775807:=by have:=hE.c;omega
 have NS:=yb hE;generalize hIn:cM s.aw=I0 at *;refine ae fun K hK=>?_;simp(disch:=omega) ;refine ah (cv _ _) ?_;simp(disch:=omega) ;apply hK;clear hK K;apply aC rfl;apply ak;simp(disch:=omega) ;apply aO;clear aO;refine aM [2,6] [0,0,0,0,0,0,1,2] [[],[]] au (by kernel_rfl) (by kernel_rfl) fun K hK=>?_;simp(disch:=omega) ;refine dz (cJ0 _ _) rfl ?_;simp(disch:=omega) ;refine dz (c1 _ _) rfl ?_;simp(disch:=omega) ;apply hK;clear hK K;refine af fun K1 aO=>?_;apply ae;intro K h;simp(disch:=omega);apply h;clear h K;apply ai;obtain⟨bF,Fb⟩:∃bF:Nat→Bs,∀i,bF i=B5 s++(s.aJ.take i).flatMap fY:=⟨_,fun _=>rfl⟩
 have b0:bF 0=B5 s:=by rw[Fb];simp
 refine aK (X:=Nat) (fun i=>⟨[(1,.ptr H.length 0),(4,.sl (bF i).length (bu (bF i)) (.own T.length)),(24,.sl s.aJ.length (bX s.aJ) .none),(25,.int .i64 (s.aJ.length:Nat)),(26,.int .i64 (i:Nat))],H++[.cells (cG s)],T++[((bF i).length,1)]⟩)
  (fun i=>i≤s.aJ.length) (fun i=>s.aJ.length-i) 0 (Nat.zero_le _) ?_ ?_
 ·rw[b0];refine ag [] [] ?_ ?_ ?_ ?_ (kx.df (by simp)) ?_
  all_goals simp
 ·intro i hi;have o7:=uB hE i;rw[←Fb] at o7;apply ae;intro K h;simp(disch:=omega);apply h;clear h K;refine af fun K2 aY=>?_;refine aP rfl (fun hk=>?_) (fun hk=>?_)
  ·simp  at hk;have bY:=gk s.aJ i hk;have qX:=hE.te _ (aR s.aJ i t0 hk);have jy:=ff s.aJ i t0 fY hk;have mZ:=Cw qX.v qX.l qX.p;have cP:=fun H T=>G9 (s.aJ.getD i t0).l qX.l qX.p H T .none;have RW:mU (s.aJ.getD i t0).l=(eL (s.aJ.getD i t0).l,0):=by unfold mU;rw[qX.v];rfl
   rw[RW] at cP;have E9:=uB hE (i+1);rw[←Fb] at E9;have Lk:=qX.w;have e1:=ew qX.f;have LV:=qX.f;have e2:=ew (n:=((s.aJ.getD i t0).w.length:Int)) (by constructor<;>omega);have O2:fY (s.aJ.getD i t0)=enc (s.aJ.getD i t0).f++(bf (s.aJ.getD i t0).w++bf (eL (s.aJ.getD i t0).l)):=rfl;rw[O2,←append_assoc] at jy;have gf:bF (i+1)=bF i++enc (s.aJ.getD i t0).f++bf (s.aJ.getD i t0).w++bf (eL (s.aJ.getD i t0).l):=by rw[Fb,Fb,jy];simp only[append_assoc]
   have e3:(bf (s.aJ.getD i t0).w).length=(enc ((s.aJ.getD i t0).w.length:Int)).length+(s.aJ.getD i t0).w.length:=by unfold bf;rw[length_append]
   clear O2 jy RW qX;generalize bF i=B at *;generalize s.aJ.getD i t0=t at *;obtain⟨f,w,l⟩:=t;simp only at *;have d1:=fun H=>pk B f LV (by omega) H T;have d2:=fun H=>Ec (B++enc f) w (by rw[length_append];omega) H T;have d3:=fun H=>Ec (B++enc f++bf w) (eL l) (by rw[length_append,length_append];omega) H T;rw[←gf] at d3;generalize B++enc f++bf w=B2 at *;generalize B++enc f=B1 at *;generalize Pm:bF (i+1)=B3 at *;generalize eL l=x at *;apply ak;simp(disch:=omega) ;apply aY;clear aY;refine af fun K3 bA=>?_;apply ai;refine ae fun K hK=>?_;simp(disch:=omega)[bY,bH,hk];apply hK;clear hK K;refine ae fun K hK=>?_;simp(disch:=omega) ;refine ah (cP _ _) ?_;simp(disch:=omega) ;apply hK;clear hK K;refine cE [3,6,9] [0,0,0,0,0,0,1,0,0,2,3] [[],[],[]] au (by kernel_rfl) (by kernel_rfl) fun K hK=>?_;simp(disch:=omega) ;refine dz (d1 _) rfl ?_;simp(disch:=omega) ;refine dz (d2 _) rfl ?_;simp(disch:=omega) ;refine dz (d3 _) rfl ?_;simp(disch:=omega) ;apply hK;clear hK K;apply bA;clear bA;refine ar fun K hK=>?_;simp(disch:=omega) ;apply hK;clear hK K;refine⟨i+1,by show i+1≤_;omega,by show s.aJ.length-(i+1)<s.aJ.length-i;omega,?_⟩;simp only[Pm];refine ag [.cells (jb ⟨f,w,l⟩)] [] ?_ ?_ ?_ ?_ (kx.df (by simp)) ?_
   all_goals simp
  ·simp  at hk;have e:i=s.aJ.length:=by omega
   subst e;have Fe:=Jc hE;have Xi:N9 s=B5 s++s.aJ.flatMap fY++enc s.az.length:=rfl;have hEq:=Jb s;have Sn:=Fb s.aJ.length;rw[take_length] at Sn;rw[Sn] at o7 ⊢;have c4:=fun H=>pk (B5 s++s.aJ.flatMap fY) (s.az.length:Int) (by have:=hE.c;constructor<;>omega) (by omega) H T;rw[←Xi] at c4;clear Xi;generalize B5 s++s.aJ.flatMap fY=B at *;generalize N9 s=C0 at *;generalize jK s=ES at *;apply aD;simp(disch:=omega) ;apply aO;clear aO;refine ae fun K hK=>?_;simp(disch:=omega) ;refine ah (c4 _) ?_;simp(disch:=omega) ;apply hK;clear hK K;refine af fun K1 aO=>?_;apply ae;intro K h;simp(disch:=omega);apply h;clear h K;apply ai;obtain⟨cF,E8⟩:∃cF:Nat→Bs,∀j,cF j=C0++(s.az.take j).flatMap l7:=⟨_,fun _=>rfl⟩
   have b1:cF 0=C0:=by rw[E8];simp
   refine aK (X:=Nat) (fun j=>⟨[(1,.ptr H.length 0),(4,.sl (cF j).length (bu (cF j)) (.own T.length)),(53,.sl s.az.length (eA s.az) .none),(54,.int .i64 (s.az.length:Nat)),(55,.int .i64 (j:Nat))],H++[.cells (cG s)],T++[((cF j).length,1)]⟩)
    (fun j=>j≤s.az.length) (fun j=>s.az.length-j) 0 (Nat.zero_le _) ?_ ?_
   ·rw[b1];refine ag [] [] ?_ ?_ ?_ ?_ (kx.df (by simp)) ?_
    all_goals simp
   ·intro j hj;have P0:=Fe j;rw[←E8] at P0;apply ae;intro K h;simp(disch:=omega);apply h;clear h K;refine af fun K2 aY=>?_;refine aP rfl (fun da=>?_) (fun da=>?_)
    ·simp  at da;have bY:=lK s.az j da;have vT:=hE.ce _ (aR s.az j c0 da);have jy:=ff s.az j c0 l7 da;have E9:=Fe (j+1);rw[←E8] at E9;have LV:=vT.f;have hxn:=vT.n;have RQ:=vT.x;have e1:=ew vT.f;have e2:=ew (n:=((s.az.getD j c0).x.length:Int)) (by constructor<;>omega);have Si:l7 (s.az.getD j c0)=enc (s.az.getD j c0).f++(enc (s.az.getD j c0).x.length++(s.az.getD j c0).x.flatMap qS):=rfl;rw[Si] at jy;have gf:cF (j+1)=cF j++enc (s.az.getD j c0).f++enc (s.az.getD j c0).x.length++(s.az.getD j c0).x.flatMap qS:=by rw[E8,E8,jy];simp only[append_assoc]
     clear Si jy vT;generalize cF j=B at *;generalize s.az.getD j c0=c at *;obtain⟨f,x⟩:=c;simp only at *;have d1:=fun H=>pk B f LV (by omega) H T;have d2:=fun H=>pk (B++enc f) (x.length:Int) (by constructor<;>omega) (by rw[length_append];omega) H T;have acB:(B++enc f++enc (x.length:Int)).length≤23000000020:=by rw[length_append,length_append];omega
     generalize B++enc f++enc (x.length:Int)=B2 at *;generalize B++enc f=B1 at *;generalize Pm:cF (j+1)=B3 at *;have EX:x.length≤9223372036854775807:=by omega
     apply ak;simp(disch:=omega) ;apply aY;clear aY;refine af fun K3 bA=>?_;apply ai;refine ae fun K hK=>?_;simp(disch:=omega)[bY,de,da];apply hK;clear hK K;have fD:bM (H++[.cells (cG s),.cells (e7 ⟨f,x⟩)]) T:=by
      have:=kx.snoc (vs:=e7 ⟨f,x⟩) (by simp);simpa using this
     refine aM [3,7] [0,0,0,0,0,0,0,1,2] [[],[]] au (by kernel_rfl) (by kernel_rfl) fun K hK=>?_;simp(disch:=omega) ;refine dz (d1 _) rfl ?_;simp(disch:=omega) ;refine dz (d2 _) rfl ?_;simp(disch:=omega) ;apply hK;clear hK K;apply ae;intro K h;simp(disch:=omega);apply h;clear h K;apply ai;obtain⟨aF,HZ⟩:∃aF:Nat→Bs,∀m,aF m=B2++(x.take m).flatMap qS:=⟨_,fun _=>rfl⟩
     have b2:aF 0=B2:=by rw[HZ];simp
     refine aK (X:=Nat) (fun m=>⟨[(1,.ptr H.length 0),(4,.sl (aF m).length (bu (aF m)) (.own T.length)),(53,.sl s.az.length (eA s.az) .none),(54,.int .i64 (s.az.length:Nat)),(55,.int .i64 (j:Nat)),(68,.sl x.length (br x) .none),(69,.int .i64 (x.length:Nat)),(70,.int .i64 (m:Nat))],H++[.cells (cG s),.cells (e7 ⟨f,x⟩)],T++[((aF m).length,1)]⟩)
      (fun m=>m≤x.length) (fun m=>x.length-m) 0 (Nat.zero_le _) ?_ ?_
     ·rw[b2];refine ag [] [] ?_ ?_ ?_ ?_ (fD.df (by simp)) ?_
      all_goals simp
     ·intro m hm;have Sl:(aF m).length≤23000100020:=by
       rw[HZ];have:=jH (e:=qS) (fun y hy=>yc (RQ y hy)) m;rw[length_append];omega
      apply ae;intro K h;simp(disch:=omega);apply h;clear h K;refine af fun K4 ec=>?_;refine aP rfl (fun ko=>?_) (fun ko=>?_)
      ·simp  at ko;have TZ:=fh x m ko;have hy:=RQ _ (aR x m n0 ko);have jy:=ff x m n0 qS ko;have RL:qS (x.getD m n0)=enc (x.getD m n0).1++enc (x.getD m n0).2:=rfl;rw[RL] at jy;have IH:aF (m+1)=aF m++enc (x.getD m n0).1++enc (x.getD m n0).2:=by rw[HZ,HZ,jy];simp only[append_assoc]
       clear RL jy;generalize aF m=A at *;generalize x.getD m n0=y at *;obtain⟨y1,y2⟩:=y;simp only at *;have f1:=ew hy.1;have k1:=fun H=>pk A y1 hy.1 (by omega) H T;have k2:=fun H=>pk (A++enc y1) y2 hy.2 (by rw[length_append];omega) H T;rw[←IH] at k2;generalize A++enc y1=A1 at *;generalize hA2:aF (m+1)=A2 at *;apply ak;simp(disch:=omega) ;apply ec;clear ec;refine af fun K5 gO=>?_;apply ai;refine ae fun K hK=>?_;simp(disch:=omega)[TZ,cj,ko];apply hK;clear hK K;refine cE [3,6] [0,0,0,0,0,0,1,2] [[],[]] au (by kernel_rfl) (by kernel_rfl) fun K hK=>?_;simp(disch:=omega) ;refine dz (k1 _) rfl ?_;simp(disch:=omega) ;refine dz (k2 _) rfl ?_;simp(disch:=omega) ;apply hK;clear hK K;apply gO;clear gO;refine ar fun K hK=>?_;simp(disch:=omega) ;apply hK;clear hK K;refine⟨m+1,by show m+1≤_;omega,by show x.length-(m+1)<x.length-m;omega,?_⟩;simp only[hA2];refine ag [.cells (BR (y1,y2))] [] ?_ ?_ ?_ ?_ (fD.df (by simp)) ?_
       all_goals simp
      ·simp  at ko;have e:m=x.length:=by omega
       subst e;have Sq:=HZ x.length;rw[take_length,←gf] at Sq;rw[Sq];apply aD;simp(disch:=omega) ;apply bA;clear bA;refine ar fun K hK=>?_;simp(disch:=omega) ;apply hK;clear hK K;refine⟨j+1,by show j+1≤_;omega,by show s.az.length-(j+1)<s.az.length-j;omega,?_⟩;simp only[Pm];refine ag [.cells (e7 ⟨f,x⟩)] [] ?_ ?_ ?_ ?_ (kx.df (by simp)) ?_
       all_goals simp
    ·simp  at da;have e:j=s.az.length:=by omega
     subst e;have vT:=E8 s.az.length;rw[take_length,hEq] at vT;rw[vT];apply aD;simp(disch:=omega) ;apply aO;clear aO;apply ae;intro K h;simp(disch:=omega);apply h;clear h K;apply an;simp(disch:=omega) ;rw[hr];simp
end Go.Proofs.YtneohapkboaplaaGreat
