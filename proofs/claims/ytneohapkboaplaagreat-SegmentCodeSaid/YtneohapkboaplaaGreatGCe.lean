/- What both decoders make of the encodings of segments, and of any 600 bytes (layer 39, plain).
  Conditions: none. -/
import Derived.Test.YtneohapkboaplaaGreatGDn
import Derived.Test.YtneohapkboaplaaGreatGZy
set_option linter.all false
set_option maxRecDepth 100000
open List (length_append drop_drop drop_left append_assoc flatMap_append flatMap_cons drop_zero)
namespace Go.Proofs.YtneohapkboaplaaGreat
open Go Go.Am gH dc eB
open gB hiding aR
theorem KL {l:PL}(h1:l.length≤30)(h2:∀p∈l,p.2.length≤30)(hv:bc l=true):(eL l).length≤10000:=by
 obtain⟨a1,a2,a3⟩:=bS hv;have key:∀(l:PL)(b:List UInt8)(d:Int),(∀p∈l,(0≤p.1∧p.1≤1000000000)∧p.2.length≤30∧∀q∈p.2,0≤q∧q≤1000000)→0≤d∧d≤1000000000→(l.foldl tQ (b,d)).1.length≤b.length+320*l.length:=by
  intro l
  induction l with
  |nil=>intro b d _ _;simp
  |cons p l ih=>
   intro b d hl hd;obtain⟨g1,g2,g3⟩:=hl p (by simp);have e1:=dY (n:=p.1-d) (by omega) (by omega);have e2:=dY (n:=(p.2.length:Int)) (by omega) (by omega);have e3:=(tA p.2 g3 (b++enc (p.1-d)++enc p.2.length) (-1) (by omega)).1;rw[length_append,length_append] at e3;have:=ih (p.2.foldl qL (b++enc (p.1-d)++enc p.2.length,-1)).1 p.1 (fun q hq=>hl q (by simp[hq])) (by omega);simp only[List.foldl_cons,List.length_cons];show ((l.foldl tQ ((p.2.foldl qL (b++enc (p.1-d)++enc p.2.length,-1)).1,p.1)).1).length≤_;omega
 have:=key l (enc (l.length:Int)) 0 (fun p hp=>⟨by have:=a2 p hp;omega,h2 p hp,(a3 p hp).2.2⟩) (by omega);have e:=dY (n:=(l.length:Int)) (by omega) (by omega);unfold eL;omega
theorem Ao {l:PL}(hv:bc l=true):l.length≤(eL l).length∧∀p∈l,p.2.length≤(eL l).length:=by
 obtain⟨a1,a2,a3⟩:=bS hv;have kE:∀(l:PL)(d:Int),0≤d→mW l→(∀p∈l,d<p.1∧p.1≤1000000000∧p.2≠[]∧jR p.2∧∀q∈p.2,0≤q∧q≤1000000)→l.length≤(dX d l).length∧∀p∈l,p.2.length≤(dX d l).length:=by
  intro l
  induction l with
  |nil=>intro d _ _ _;exact⟨Nat.zero_le _,by simp⟩
  |cons p l ih=>
   intro d hd hs hl;obtain⟨h1,h2⟩:=gK hs;obtain⟨g1,g2,g4,g5,g6⟩:=hl p (by simp);obtain⟨k1,k2⟩:=ih p.1 (by omega) h1 (fun y hy=>⟨h2 y hy,(hl y (by simp[hy])).2⟩);have e1:=ya (p.1-d) (by constructor<;>omega);have e2:=Al p.2 (-1) (zT (by omega) g5 fun x hx=>⟨by have:=g6 x hx;omega,(g6 x hx).2⟩);rw[dX];simp only[length_append,List.length_cons];refine⟨by omega,fun q hq=>?_⟩;rcases List.mem_cons.1 hq with rfl|hq
   ·omega
   ·have:=k2 q hq;omega
 have:=kE l 0 (by omega) a1 fun p hp=>⟨by have:=a2 p hp;omega,(a2 p hp).2,(a3 p hp).1,(a3 p hp).2.1,(a3 p hp).2.2⟩
 rw[y8,length_append];exact⟨by omega,fun p hp=>by have:=this.2 p hp;omega⟩
theorem Be {l:PL}(hv:l.length≤1000):(aI (eL l) 0 (((eL l).length:Nat):Int) ⟨0,false⟩).1≤1000:=by
 have hd:(eL l).drop 0=enc (l.length:Int)++dX 0 l:=by rw[drop_zero];exact y8 l
 by_cases h:(l.length:Int)≤((eL l).length:Nat)
 ·have hr:=(bz 0 (((eL l).length:Nat):Int)).round (eL l) 0 _ (l.length:Int) ⟨by omega,h,by constructor<;>omega⟩ hd;rw[hr];simp only;omega
 ·have:=(cV (eL l) 0 (((eL l).length:Nat):Int) ⟨0,false⟩ (by omega) (by omega)).2;omega
theorem zP {l:PL}(hv:bc l=true)(hl:(eL l).length≤1000000):jJ (eL l)=(l,0)∧BB (eL l)=(l,0):=by
 obtain⟨h1,h2⟩:=Ao hv
 constructor
 ·unfold jJ;rw[if_pos (by omega)];refine w9 hv (by omega) (fun p hp=>by have:=h2 p hp;omega) ?_ fun s k hk=>?_
  ·unfold kJ;simp only;omega
  ·unfold gy;omega
 ·unfold BB;refine w9 hv (by omega) (fun p hp=>by have:=h2 p hp;omega) ?_ fun s k hk=>?_
  ·unfold sf;omega
  ·unfold gd;omega
theorem Ds {s:Sg}(hv:aW s=true):s.az.length≤3:=by
 obtain⟨_,_,vc⟩:=fe hv;have key:∀i,i<s.az.length→5+(i:Int)≤(s.az.getD i c0).f∧(s.az.getD i c0).f≤7:=by
  intro i
  induction i with
  |zero=>
   intro h;have h1:=(vc 0 h).1;unfold lq at h1;simp only[Bool.and_eq_true,decide_eq_true_eq] at h1;exact⟨by have:=h1.1.1.1;omega,h1.1.1.2⟩
  |succ i ih=>
   intro h;have h0:=ih (by omega);have h1:=(vc (i+1) h).1;unfold lq at h1;simp only[Bool.and_eq_true,Bool.or_eq_true,decide_eq_true_eq,Nat.add_sub_cancel] at h1;have h2:=h1.2.resolve_left (by omega);exact⟨by omega,h1.1.1.2⟩
 rcases Nat.lt_or_ge 3 s.az.length with h|h
 ·have:=key 3 (by omega);omega
 ·exact h
structure Xv (s:Sg):Prop where
 tp:∀t∈s.aJ,yH jJ t
 tr:∀t∈s.aJ,yH BB t
 c:∀c∈s.az,Mb c
 d:gB.qV 2000 (OW 1 1000000000) s.aw
 t:o3 s.aJ.length
 n:s.az.length≤3
theorem vZ {s:Sg}(hv:aW s=true)(hL:∀t∈s.aJ,(eL t.l).length≤1000000)(ht:s.aJ.length≤1000000)(hx:∀c∈s.az,c.x.length≤1000000):Xv s:=by
 obtain⟨⟨vd,vl⟩,⟨vt,_⟩,vc⟩:=fe hv;have hb:=pF vd;have hm:∀{n:Int},-1≤n→n≤1000000000000→o3 n:=fun h1 h2=>⟨by omega,by omega⟩
 have hT:∀t∈s.aJ,∀pd:Bs→PL×Int,(pd (eL t.l)=(t.l,0))→yH pd t:=fun t DL pd BE=>by
  have hLt:=hL t DL;obtain⟨i,hi,rfl⟩:=bP t0 DL;have h1:=(vt i hi).1;unfold jT at h1;simp only[Bool.and_eq_true,decide_eq_true_eq] at h1;have hw:=h1.1.2;unfold okW at hw;simp only[Bool.and_eq_true,decide_eq_true_eq] at hw;exact⟨⟨h1.1.1.1,h1.1.1.2,hm (by omega) (by omega)⟩,⟨by omega,hm (by omega) (by omega)⟩,hm (by omega) (by omega),BE⟩
 have yv:∀t∈s.aJ,bc t.l=true:=fun t DL=>(IA hv DL).2.2.1;refine⟨fun t DL=>hT t DL jJ (zP (yv t DL) (hL t DL)).1,fun t DL=>hT t DL BB (zP (yv t DL) (hL t DL)).2,fun c hc=>?_,⟨by omega,hm (by omega) (by omega),fun i hi=>⟨(hb i hi).1,(hb i hi).2,hm (by have:=hb i hi;omega) (by have:=hb i hi;omega)⟩⟩,hm (by omega) (by omega),Ds hv⟩;have hxc:=hx c hc;obtain⟨i,hi,rfl⟩:=bP c0 hc;have h1:=(vc i hi).1;unfold lq at h1;simp only[Bool.and_eq_true,decide_eq_true_eq] at h1;refine⟨⟨h1.1.1.1,h1.1.1.2,hm (by omega) (by omega)⟩,hm (by omega) (by omega),fun y hy=>?_⟩;obtain⟨k,hk,rfl⟩:=bP n0 hy;have h2:=(vc i hi).2 k hk;unfold jC at h2;simp only[Bool.and_eq_true,decide_eq_true_eq] at h2;have h3:=hb _ h2.1.1;exact⟨⟨h2.1.2.1,h2.1.2.2,hm (by omega) (by omega)⟩,⟨h3.1,h3.2,hm (by omega) (by omega)⟩⟩
theorem iG (bs:Bs)(s:Rd):((bs.length-s.at_:Nat):Int)≤db bs s:=Int.le_refl _
theorem j8 (bs:Bs)(s:Rd):((bs.length-s.at_:Nat):Int)≤lr bs s:=by unfold lr;omega
theorem Kh (bs:Bs)(s:Rd):min 3 ((bs.length-s.at_:Nat):Int)≤db bs s:=by unfold db;omega
theorem Qq (bs:Bs)(s:Rd):min 3 ((bs.length-s.at_:Nat):Int)≤Md bs s:=by unfold Md;omega
theorem sG {s:Sg}(hv:aW s=true)(h:Xv s):gX (jK s)=(s,0):=ve qi iG iG Kh iG hv h.tp h.c h.d h.t h.n
theorem Bt {s:Sg}(hv:aW s=true)(h:Xv s):uq (jK s)=(s,0):=ve xW j8 j8 Qq j8 hv h.tr h.c h.d h.t h.n
theorem Hj (bs:Bs):(∃s,gX bs=(s,0)∧aW s=true∧bs=jK s)∨gX bs=(gh,5):=As qi iG iG bs
theorem Hi (bs:Bs):(∃s,uq bs=(s,0)∧aW s=true∧bs=jK s)∨uq bs=(gh,5):=As xW j8 j8 bs
theorem Af {α:Type}{e:α→Bs}{l:List α}{x:α}(hx:x∈l):(e x).length≤(l.flatMap e).length:=by
 obtain⟨a,b,rfl⟩:=List.append_of_mem hx;rw[flatMap_append,flatMap_cons,length_append,length_append];omega
theorem w6 (s:Sg):(∀t∈s.aJ,(fY t).length≤(jK s).length)∧(∀c∈s.az,(l7 c).length≤(jK s).length)∧(s.aJ.flatMap fY).length≤(jK s).length∧(s.az.flatMap l7).length≤(jK s).length∧(s.aw.flatMap enc).length≤(jK s).length:=by
 have h:(jK s).length=(enc (s.aw.length:Int)).length+(s.aw.flatMap enc).length+((enc (s.aJ.length:Int)).length+((s.aJ.flatMap fY).length+((enc (s.az.length:Int)).length+(s.az.flatMap l7).length))):=by
  unfold jK cM;simp only[length_append]
 refine⟨fun t ht=>?_,fun c hc=>?_,by omega,by omega,by omega⟩
 ·have:=Af (e:=fY) ht;omega
 ·have:=Af (e:=l7) hc;omega
theorem w5 (t:Tm):(eL t.l).length≤(fY t).length∧t.w.length≤(fY t).length:=by
 unfold fY bf;simp only[length_append];omega
theorem Eh {s:Sg}{pd:Bs→PL×Int}(BE:∀x,(∃l,pd x=(l,0)∧bc l=true∧x=eL l)∨pd x=([],5))(h1:∀t∈s.aJ,yH pd t)(h2:∀c∈s.az,Mb c)(h3:∀i∈s.aw,o3 i)(hl:(jK s).length≤600):re s:=by
 obtain⟨g1,g2,g3,g4,g5⟩:=w6 s;have ik:1000≤maxLen:=by decide
 refine⟨?_,?_,fun t ht=>?_,?_,fun c hc=>?_⟩
 ·have:=ia (e:=enc) (l:=s.aw) fun i hi=>ie (h3 i hi);omega
 ·have:=ia (e:=fY) (l:=s.aJ) fun t ht=>by
   unfold fY;rw[length_append];have:=ie (h1 t ht).1.2.2;omega
  omega
 ·have a1:=g1 t ht;obtain⟨a2,a3⟩:=w5 t;have hv:bc t.l=true:=by
   rcases BE (eL t.l) with⟨l,e1,e2,_⟩|e1
   ·rw[(h1 t ht).2.2.2] at e1;rw[(Prod.mk.inj e1).1];exact e2
   ·rw[(h1 t ht).2.2.2] at e1;exact absurd (Prod.mk.inj e1).2 (by decide)
  obtain⟨b1,b2⟩:=Ao hv;exact⟨by omega,by omega,fun p hp=>by have:=b2 p hp;omega⟩
 ·have:=ia (e:=l7) (l:=s.az) fun c hc=>by
   unfold l7;rw[length_append];have:=ie (h2 c hc).1.2.2;omega
  omega
 ·have a1:=g2 c hc;have:=ia (e:=qS) (l:=c.x) fun y hy=>ED ((h2 c hc).2.2 y hy);unfold l7 at a1;rw[length_append,length_append] at a1;omega
theorem AF {pd:Bs→PL×Int}(BE:∀x,(∃l,pd x=(l,0)∧bc l=true∧x=eL l)∨pd x=([],5)){limN vF limM vE:Bs→Rd→Int}(hT:∀bs s,((bs.length-s.at_:Nat):Int)≤vF bs s)(hX:∀bs s,((bs.length-s.at_:Nat):Int)≤vE bs s){bs:Bs}(hl:bs.length≤600)
  {d:List Int×Rd} {n m:Int×Rd} {t:List Tm×Rd} {c:List Cl×Rd} (hd:d=eu bs 2000 (aI bs 1 1000000000) ⟨0,false⟩) (hn:n=aI bs 0 (limN bs d.2) d.2) (ht:t=bO (jP (vF bs) pd bs) n.1.toNat n.2 []) (hm:m=aI bs 0 (limM bs t.2) t.2) (hc:c=bO (DR (vE bs) bs) m.1.toNat m.2 [])
  (h1:dt bs c.2=0):re ⟨d.1,t.1,c.1⟩:=by
 rw[mj] at h1;obtain⟨g5,g6⟩:=h1;have lw:∀{α:Type} {f:Rd→α×Rd} {n:Nat} {q:Rd} {out:List α},(bO f n q out).2.bad=false→q.bad=false:=fun {α f n q out} h=>by
  cases hq:q.bad with
  |false=>rfl
  |true=>rw[dL _ _ _ _ hq,hq] at h;cases h
 have g4:m.2.bad=false:=lw (by rw[←hc];exact g5);have g3:t.2.bad=false:=iT (by rw[←hm];exact g4);have g2:n.2.bad=false:=lw (by rw[←ht];exact g3);have g1:d.2.bad=false:=iT (by rw[←hn];exact g2);obtain⟨a1,a2,a3⟩:=(oB (bz 1 1000000000) 2000).canon bs 0 (Nat.zero_le _) (by rw[←hd];exact g1);simp only[←hd] at a1 a2 a3;rw[drop_zero] at a3;obtain⟨ds,⟨q1,b1⟩⟩:=d;simp only at *;subst g1;obtain⟨⟨c1,c2,c3⟩,c4,c5⟩:=(bz 0 (limN bs ⟨q1,false⟩)).canon bs q1 a2 (by rw[←hn];exact g2);simp only[←hn] at c1 c2 c3 c4 c5;obtain⟨n,⟨q2,b2⟩⟩:=n;simp only at *;subst g2;obtain⟨l,k1,k2,k3,k4,k5⟩:=gL (xC hT BE) bs n.toNat q2 [] c4 (by rw[←ht];exact g3);rw[List.nil_append,←ht] at k3;rw[←ht] at k4 k5;obtain⟨ts,⟨q3,b3⟩⟩:=t;simp only at *;subst g3;subst k3;obtain⟨⟨d1,d2,d3⟩,d4,d5⟩:=(bz 0 (limM bs ⟨q3,false⟩)).canon bs q3 k4 (by rw[←hm];exact g4);simp only[←hm] at d1 d2 d3 d4 d5;obtain⟨m,⟨q4,b4⟩⟩:=m;simp only at *;subst g4;obtain⟨l2,m1,m2,m3,m4,m5⟩:=gL (Cy hX) bs m.toNat q4 [] d4 (by rw[←hc];exact g5);rw[List.nil_append,←hc] at m3;rw[←hc] at m4 m5;obtain⟨cs,⟨q5,b5⟩⟩:=c;simp only at *;subst m3;have e1:((ts.length:Nat):Int)=n:=by omega
 have e2:((cs.length:Nat):Int)=m:=by omega
 have e3:bs.drop q5=[]:=List.drop_eq_nil_of_le (by omega);rw[e3,List.append_nil] at m5;have BX:bs=jK ⟨ds,ts,cs⟩:=by
  unfold jK cM;simp only;rw[e1,e2,←m5,←d5,←k5,←c5];exact a3
 refine Eh BE k2 m2 (fun i hi=>(a1.2.2 i hi).2.2) ?_;rw[←BX];exact hl
theorem szP {bs:Bs}(hl:bs.length≤600)(h:dt bs (dC bs).2=0):re ⟨(gT bs).1,(dT bs).1,(dC bs).1⟩:=AF (limN:=db) (limM:=db) qi iG iG hl (d:=gT bs) (n:=dN bs) (m:=dM bs) (t:=dT bs) (c:=dC bs) rfl rfl rfl rfl rfl h
theorem szR {bs:Bs}(hl:bs.length≤600)(h:dt bs (rC bs).2=0):re ⟨(gT bs).1,(rT bs).1,(rC bs).1⟩:=AF (limN:=lr) (limM:=Md) xW j8 j8 hl (d:=gT bs) (n:=rN bs) (m:=rM bs) (t:=rT bs) (c:=rC bs) rfl rfl rfl rfl rfl h
theorem wq {s:Sg}(hv:aW s=true)(hl:(jK s).length≤600):Xv s∧re s:=by
 obtain⟨g1,g2,g3,g4,g5⟩:=w6 s;have hL:∀t∈s.aJ,(eL t.l).length≤1000000:=fun t ht=>by have:=g1 t ht;have:=(w5 t).1;omega
 obtain⟨⟨vd,vl⟩,⟨vt,_⟩,vc⟩:=fe hv;have hb:=pF vd;have hm:∀{n:Int},-1≤n→n≤1000000000000→o3 n:=fun h1 h2=>⟨by omega,by omega⟩
 have ht:s.aJ.length≤1000000:=by
  have:=ia (e:=fY) (l:=s.aJ) fun t DL=>by
   unfold fY;rw[length_append];have h1:=(IA hv DL).1;have:=ie (n:=t.f) (hm (by omega) (by omega));omega
  omega
 have hx:∀c∈s.az,c.x.length≤1000000:=fun c hc=>by
  have a1:=g2 c hc;have:=ia (e:=qS) (l:=c.x) fun y hy=>by
   unfold qS;rw[length_append];obtain⟨i,hi,e⟩:=bP c0 hc;rw[←e] at hy;obtain⟨k,hk,e2⟩:=bP n0 hy;have h2:=(vc i hi).2 k hk;unfold jC at h2;simp only[Bool.and_eq_true,decide_eq_true_eq] at h2;rw[e2] at h2;have:=ie (n:=y.1) (hm (by omega) (by omega));omega
  unfold l7 at a1;rw[length_append,length_append] at a1;omega
 have hE:=vZ hv hL ht hx;exact⟨hE,Eh qi hE.tp hE.c (fun i hi=>(hE.d.2.2 i hi).2.2) hl⟩
theorem KR {bs:Bs}(hl:bs.length≤600):uq bs=gX bs∧((gX bs).2=0→(fG (gX bs).1)=(bs,0))∧re (gX bs).1∧((gX bs).2=0∨(gX bs).2=5):=by
 rcases Hj bs with⟨s,e1,e2,e3⟩|e1
 ·subst e3;obtain⟨hE,gN⟩:=wq e2 hl;rw[e1,Bt e2 hE];refine⟨rfl,fun _=>?_,gN,.inl rfl⟩;unfold fG;rw[if_pos e2]
 ·rcases Hi bs with⟨s,f1,f2,f3⟩|f1
  ·exfalso;subst f3;obtain⟨hE,gN⟩:=wq f2 hl;rw[sG f2 hE] at e1;exact absurd (Prod.mk.inj e1).2 (by decide)
  ·rw[e1,f1];exact⟨rfl,fun h=>absurd h (by decide),Ke,.inr rfl⟩
theorem FZ {bs:Bs}{at_:Nat}{rest:Bs}{t:Tm}(h:yH jJ t)(hd:bs.drop at_=fY t++rest):LG bs ⟨at_,false⟩=eL t.l:=by
 obtain⟨f,w,l⟩:=t;obtain⟨h1,h2,h3,h4⟩:=h;unfold fY at hd;simp only[append_assoc] at hd h1 h2 h3 h4;have r1:aI bs 1 4 ⟨at_,false⟩=_:=(bz 1 4).round bs at_ _ f h1 hd;have jc:bs.drop (at_+(enc f).length)=bf w++(bf (eL l)++rest):=by rw[←drop_drop,hd,drop_left]
 have r2:bD bs 100 ⟨at_+(enc f).length,false⟩=_:=(lL 100).round bs _ _ w h2 jc;have HI:bs.drop (at_+(enc f).length+(bf w).length)=bf (eL l)++rest:=by rw[←drop_drop,jc,drop_left]
 have r3:=sx iG h3 HI;unfold LG;rw[r1];simp only;rw[r2];simp only;rw[r3]
theorem wj {bs:Bs}{p2:Nat}{rest:Bs}{ts:List Tm}(h:∀t∈ts,yH jJ t)(hd:bs.drop p2=ts.flatMap fY++rest):∀i,i≤ts.length→qK (jP (db bs) jJ bs) ⟨p2,false⟩ i=(⟨p2+((ts.take i).flatMap fY).length,false⟩,ts.take i)
 |0,_=>by simp[qK]
 |i+1,hi=>by
  rw[qK,wj h hd i (by omega)];simp only;have Z1:bs.drop (p2+((ts.take i).flatMap fY).length)=fY (ts.getD i t0)++((ts.drop (i+1)).flatMap fY++rest):=by
   rw[←drop_drop,hd];have e:ts.flatMap fY=(ts.take i).flatMap fY++(fY (ts.getD i t0)++(ts.drop (i+1)).flatMap fY):=by
    conv=>lhs;rw[←List.take_append_drop i ts]
    rw[flatMap_append,List.drop_eq_getElem_cons (by omega:i<ts.length),flatMap_cons]
    congr 2
    rw[List.getD_eq_getElem?_getD,List.getElem?_eq_getElem (by omega)];rfl
   rw[e,append_assoc,append_assoc,drop_left]
  have hr:=(xC iG qi).round bs _ _ (ts.getD i t0) (h _ (aR ts i t0 (by omega))) Z1;rw[hr];simp only;rw[dx ts i t0 (by omega),flatMap_append,length_append];simp only[flatMap_cons,List.flatMap_nil,List.append_nil,Nat.add_assoc]
theorem Nu {s:Sg}(hv:aW s=true)(hS:Sm s):gX (jK s)=(s,0)∧(jK s).length≤2000000∧
  (∀i,i<(dN (jK s)).1.toNat→(qK (jP (db (jK s)) jJ (jK s)) (dN (jK s)).2 i).1.bad=false→Zm (LG (jK s) (qK (jP (db (jK s)) jJ (jK s)) (dN (jK s)).2 i).1))∧
  (dt (jK s) (dC (jK s)).2=0→re ⟨(gT (jK s)).1,(dT (jK s)).1,(dC (jK s)).1⟩):=by
 have hL:∀t∈s.aJ,(eL t.l).length≤10000:=fun t ht=>KL (hS.w t ht).2.1 (hS.w t ht).2.2 (IA hv ht).2.2.1;have hE:=vZ hv (fun t ht=>by have:=hL t ht;omega) (by have:=hS.t;omega) (fun c hc=>by have:=hS.x c hc;omega);have tS:=sG hv hE;have hG:=rA hv hS.sz;refine⟨tS,?_,?_,fun h=>?_⟩
 ·have h1:∀t∈s.aJ,(fY t).length≤10200:=fun t ht=>by
   have hw:t.w.length≤100:=by have:=(hE.tp t ht).2.1.1;omega
   have e1:=ew (hG.te t ht).f;have e2:=ew (n:=(t.w.length:Int)) (by constructor<;>omega);have e4:=hL t ht;have e3:=ew (n:=((eL t.l).length:Int)) (by constructor<;>omega);unfold fY bf;simp only[length_append];omega
  have h2:∀c∈s.az,(l7 c).length≤20020:=fun c hc=>EE (hG.ce c hc);have h3:=qC hG.di hG.d;have h4:=jH (e:=fY) h1 s.aJ.length;have h5:=jH (e:=l7) h2 s.az.length;rw[List.take_length] at h4 h5;have:=hS.t;have:=hS.c;have e1:=ew (n:=(s.aJ.length:Int)) (by constructor<;>omega);have e2:=ew (n:=(s.az.length:Int)) (by constructor<;>omega);unfold jK;simp only[length_append];omega
 ·obtain⟨ds,ts,cs⟩:=s;have hEd:=hE.d;have Xh:=hE.tp;have hE4:=hE.t;simp only at hEd Xh hE4 hL;generalize BX:jK ⟨ds,ts,cs⟩=bs;have DO:bs.drop 0=(enc ds.length++ds.flatMap enc)++(enc ts.length++(ts.flatMap fY++(enc cs.length++cs.flatMap l7))):=by rw[drop_zero,←BX];rfl
  have r1:gT bs=_:=(oB (bz 1 1000000000) 2000).round bs 0 _ ds hEd DO;generalize ZK:0+(enc (ds.length:Int)++ds.flatMap enc).length=p1 at r1;have Pe:bs.drop p1=enc ts.length++(ts.flatMap fY++(enc cs.length++cs.flatMap l7)):=by rw[←ZK,←drop_drop,DO,drop_left]
  have mY:(ts.length:Int)≤db bs ⟨p1,false⟩:=by
   refine Int.le_trans ?_ (iG bs _);have e1:=congrArg List.length Pe;rw[List.length_drop,length_append,length_append] at e1;have e2:=ia (e:=fY) (l:=ts) fun t ht=>by
    unfold fY;rw[length_append];have:=ie (Xh t ht).1.2.2;omega
   simp only;omega
  have r2:dN bs=((ts.length:Int),⟨p1+(enc (ts.length:Int)).length,false⟩):=by
   unfold dN;rw[r1];exact(bz 0 _).round bs p1 _ (ts.length:Int) ⟨by omega,mY,hE4⟩ Pe
  rw[r2];simp only[Int.toNat_natCast];intro i hi _;have jc:bs.drop (p1+(enc (ts.length:Int)).length)=ts.flatMap fY++(enc cs.length++cs.flatMap l7):=by rw[←drop_drop,Pe,drop_left]
  rw[wj Xh jc i (by omega)];simp only;have Z1:bs.drop (p1+(enc (ts.length:Int)).length+((ts.take i).flatMap fY).length)=fY (ts.getD i t0)++((ts.drop (i+1)).flatMap fY++(enc cs.length++cs.flatMap l7)):=by
   rw[←drop_drop,jc];have e:ts.flatMap fY=(ts.take i).flatMap fY++(fY (ts.getD i t0)++(ts.drop (i+1)).flatMap fY):=by
    conv=>lhs;rw[←List.take_append_drop i ts]
    rw[flatMap_append,List.drop_eq_getElem_cons hi,flatMap_cons]
    congr 2
    rw[List.getD_eq_getElem?_getD,List.getElem?_eq_getElem hi];rfl
   rw[e,append_assoc,append_assoc,drop_left]
  have hm:=aR ts i t0 hi;rw[FZ (Xh _ hm) Z1];exact⟨hL _ hm,Be (by have:=(hS.w _ hm).2.1;omega)⟩
 ·rw[Au] at tS
  split at tS
  ·exact absurd (Prod.mk.inj tS).2 (by decide)
  ·rw[(Prod.mk.inj tS).1];exact hS.sz
end Go.Proofs.YtneohapkboaplaaGreat
