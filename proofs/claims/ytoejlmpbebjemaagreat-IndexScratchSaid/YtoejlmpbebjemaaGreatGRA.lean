/- The reference's order of terms and items, lists without a common position (layer 39). The reference's Valid (layer 39): the columns. The reference's Valid (layer 39): the terms. The reference's Valid (layer 39): it is the program's.
  Conditions: lengths below 1000 or 1000, as each theorem says. -/
import Derived.Test.YtoejlmpbebjemaaGreatGV
import Derived.Test.YtoejlmpbebjemaaGreatPZ
set_option linter.all false
set_option maxRecDepth 100000
set_option maxHeartbeats 16000000

namespace Go.Proofs.YtoejlmpbebjemaaGreat
open Go.Proofs.Tryz(prog)
open Go Go.Am ie eN cN
attribute [-simp] List.getD_eq_getElem?_getD in
def qs (x y:Ky)(u v:AV)(H:List aA)(T:au)(hu:Below H.length T.length u)(hv:Below H.length T.length v):aq prog 136 [.agg [.int .i64 x.1,.str x.2,u],.agg [.int .i64 y.1,.str y.2,v]] H T (Is (.bool (bS x y)) H T):=by
 refine aq.bK ?_ zS;generalize hq:bS x y=q;unfold bS at hq;have hu2:=hu.more (n':=H.length+1) (t':=T.length) zO (ahv _);obtain⟨x1,x2⟩:=x;obtain⟨y1,y2⟩:=y;simp only at hq;refine ah 5 [] Tryz.ntmps136 Tryz.func136 rfl (λ_ _=>Tryz.call136 _ _) zS (λHO=>?_);refine af ?_
 by_cases h1:x1<y1
 ·have b1:decide (x1<y1)=true:=ahx h1;rw[b1] at hq;apply ar;simp(disch:=omega)[b1,h1];refine aI ?_;rw[<-hq];rfl
 ·have b1:decide (x1<y1)=false:=ahy h1
  by_cases h2:x1=y1
  ·have b2:(x1==y1)=true:=by simpa using h2
   rw[b1,ahx h2,aio,aiY] at hq;apply ar;simp(disch:=omega)[b1,h1,b2,h2];refine aI ?_;exact hq
  ·have b2:(x1==y1)=false:=by simpa using h2
   rw[b1,ahy h2,ajQ,aiY] at hq;apply ar;simp(disch:=omega)[b1,h1,b2,h2];refine aI ?_;exact hq.symm
attribute [-simp] List.getD_eq_getElem?_getD in
def vO (x y:Nm)(H:List aA)(T:au):aq prog 139 [.agg [.int .i64 x.1,.int .i64 x.2],.agg [.int .i64 y.1,.int .i64 y.2]] H T (Is (.bool (di x y)) H T):=by
 refine aq.bK ?_ zS;generalize hq:di x y=q;unfold di at hq;obtain⟨x1,x2⟩:=x;obtain⟨y1,y2⟩:=y;simp only at hq;refine ah 5 [] Tryz.ntmps139 Tryz.func139 rfl (λ_ _=>Tryz.call139 _ _) zS (λHO=>?_);refine af ?_
 by_cases h1:x1<y1
 ·have b1:decide (x1<y1)=true:=ahx h1;rw[b1] at hq;apply ar;simp(disch:=omega)[b1,h1];refine aI ?_;rw[<-hq];rfl
 ·have b1:decide (x1<y1)=false:=ahy h1
  by_cases h2:x1=y1
  ·have b2:(x1==y1)=true:=by simpa using h2
   rw[b1,ahx h2,aio,aiY] at hq;apply ar;simp(disch:=omega)[b1,h1,b2,h2];refine aI ?_;exact hq
  ·have b2:(x1==y1)=false:=by simpa using h2
   rw[b1,ahy h2,ajQ,aiY] at hq;apply ar;simp(disch:=omega)[b1,h1,b2,h2];refine aI ?_;exact hq.symm
def gS (a b:List Ps):Bool:=(List.range a.length).all λi=>(List.range (posOf b (a.getD i p0).1).length).all λk=>!decide ((posOf b (a.getD i p0).1).getD k 0∈(a.getD i p0).2)
theorem PQ (l:List Ps)(hp:∀p∈l,p.2.length<=1000)(d:Int):(posOf l d).length<=1000:=by
 induction l with
 |nil=>simp[posOf]
 |cons p l ih=>
  by_cases e:p.1=d
  ·subst e;rw[df];exact hp p zS
  ·rw[cM e];exact ih λq hq=>hp q (aiO _ hq)
attribute [-simp] List.getD_eq_getElem?_getD in
def QU (a b:List Ps)(ha:a.length<=1000)(hb:b.length<=1000)(RH:∀p∈a,p.2.length<=1000)(RG:∀p∈b,p.2.length<=1000)(H:List aA)(T:au)(ta tb:Tag) :
  aq prog 138 [.sl a.length (bD a) ta,.sl b.length (bD b) tb] H T (Is (.bool (gS a b)) H T):=by
 refine aq.bR (aq.mC ?_);have XI:1000<=maxLen:=zD;have bad:∀i k,i<a.length->k<(posOf b (a.getD i p0).1).length->(posOf b (a.getD i p0).1).getD k 0∈(a.getD i p0).2->gS a b=false:=λi k hi hk h=>
  kG hi (kG hk (by rw[ahx h];rfl))
 have sT:(∀i,i<a.length->∀k,k<(posOf b (a.getD i p0).1).length->(posOf b (a.getD i p0).1).getD k 0∉(a.getD i p0).2)->gS a b=true:=λh=>
  gJ λi hi=>gJ λk hk=>by rw[ahy (h i hi k hk)];rfl
 generalize gS a b=q at *;refine ah 8 [] Tryz.ntmps138 Tryz.func138 rfl (λ_ _=>Tryz.call138 _ _) zS (λHO=>?_);refine af ?_;refine ae λK1 aN=>?_;refine af ?_;apply ag;refine aG (X:=Nat) (λi=>⟨[(0,.sl a.length (bD a) .none),(1,.sl b.length (bD b) .none),(5,.int .i64 (i:Nat))],H,T⟩)
  (λi=>i<=a.length/\∀j,j<i->∀k,k<(posOf b (a.getD j p0).1).length->(posOf b (a.getD j p0).1).getD k 0∉(a.getD j p0).2) (λi=>a.length-i) 0 ?_ ?_ ?_
 ·exact⟨ahE _,λj hj=>absurd hj (ahT _)⟩
 ·exact wk HO
 ·rintro i ⟨g1,g2⟩;refine ae λK2 ba=>?_;refine af ?_;refine aV rfl (λhk=>?_) (λhk=>?_)
  ·simp  at hk;have nC:=iH a i hk;have c:=Xj b (a.getD i p0).1 zO H T .none;have zM:=PQ b RG (a.getD i p0).1;have ue:=RH _ (aQ a i p0 hk);replace bad:=λk=>bad i k hk;have kJ:(∀k,k<(posOf b (a.getD i p0).1).length->(posOf b (a.getD i p0).1).getD k 0∉(a.getD i p0).2)->∀j,j<i+1->∀k,k<(posOf b (a.getD j p0).1).length->(posOf b (a.getD j p0).1).getD k 0∉(a.getD j p0).2:=λh j hj=>by
    rcases ahD j i with h1|h1
    ·exact g2 j h1
    ·have:j=i:=zO;subst this;exact h
   generalize posOf b (a.getD i p0).1=ps at *;apply aj;refine zQ ?_;apply ba;clear ba;refine ae λK3 bH=>?_;apply ag;apply ar;simp(disch:=omega)[nC,bc];refine ai (c) ?_;refine zQ ?_;refine af ?_;apply ag;refine aG (X:=Nat) (λk=>⟨[(0,.sl a.length (bD a) .none),(1,.sl b.length (bD b) .none),(5,.int .i64 (i:Nat)),(6,.sl ps.length (ints ps) .none),(7,.int .i64 (k:Nat))],H,T⟩)
    (λk=>k<=ps.length/\∀m,m<k->ps.getD m 0∉(a.getD i p0).2) (λk=>ps.length-k) 0 ?_ ?_ ?_
   ·exact⟨ahE _,λj hj=>absurd hj (ahT _)⟩
   ·exact wk HO
   ·rintro k ⟨k1,k2⟩;refine ae λK5 iT=>?_;refine af ?_;refine aV rfl (λeL=>?_) (λeL=>?_)
    ·simp  at eL;have hgi:=aS (xs:=ps) (k:=k) eL;have ch:=BN (a.getD i p0).2 (ps.getD k 0) zO H T .none;replace bad:=bad k eL;have aax:ps.getD k 0∉(a.getD i p0).2->∀m,m<k+1->ps.getD m 0∉(a.getD i p0).2:=λh m hm=>by
      rcases ahD m k with h1|h1
      ·exact k2 m h1
      ·have:m=k:=zO;subst this;exact h
     generalize ps.getD k 0=z at *;apply aj;refine zQ ?_;apply iT;clear iT;refine ae λK6 jZ=>?_;apply ag
     by_cases hm:z∈(a.getD i p0).2
     ·rw[ahx hm] at ch;refine bC [] [] [] ?_;simp(disch:=omega)[nC,bc,hgi];refine az (ch) rfl ?_;refine zQ ?_;apply aC rfl;refine af ?_;refine aI ?_;rw[bad hm];exact⟨rfl,rfl,rfl⟩
     ·rw[ahy hm] at ch;refine bC [] [] [] ?_;simp(disch:=omega)[nC,bc,hgi];refine az (ch) rfl ?_;refine zQ ?_;apply aB rfl;apply aj;refine zQ ?_;apply jZ;clear jZ;refine aJ ?_;refine⟨k+1,⟨by show k+1<=_;omega,aax hm⟩,by show ps.length-(k+1)<ps.length-k;omega,?_⟩;exact wk HO
    ·simp  at eL;apply aD;refine zQ ?_;apply bH;clear bH;refine aJ ?_;refine⟨i+1,⟨by show i+1<=_;omega,kJ λk h=>k2 k zO⟩,by show a.length-(i+1)<a.length-i;omega,?_⟩;exact wk HO
  ·simp  at hk;apply aD;refine zQ ?_;apply aN;clear aN;refine af ?_;refine aI ?_;rw[sT λj hj=>g2 j zO];exact⟨rfl,rfl,rfl⟩
attribute [-simp] List.getD_eq_getElem?_getD in
theorem LF (aw:List Int)(aW:List Tm)(aH:List Cl)(f:Int)(x:List Nm)(i:Nat)(kW:aw.length<=1000)(yT:x.length<=1000)(H:List aA)(T:au)
  (eG:bM (H++[.cells (cH ⟨aw,aW,aH⟩),.cells (mW ⟨f,x⟩)]) T) (Q:Exit->St->Prop)
  (bad:∀k,k<x.length->mj aw x k=false->∀(e:Env)(rH:List aA)(rT:au),bO e 2=.bool false->Q .ret ⟨e,H++rH,T++rT⟩)
  (go:(∀k,k<x.length->mj aw x k=true)->∀e:Env,bA (H.length+2) T.length e [(1,.ptr H.length 0),(6,.int .i64 (i:Nat))]->Q .normal ⟨e,H++[.cells (cH ⟨aw,aW,aH⟩),.cells (mW ⟨f,x⟩)],T⟩) :
  AW ⟨prog,191,10,H.length,T.length,[]⟩ (dZ [1,1,0,1,0,0,1,0,0,1,1] (Tryz.f75.body.getD .skip)) Q ⟨[(1,.ptr H.length 0),(6,.int .i64 (i:Nat)),(7,.ptr (H.length+1) 0)],H++[.cells (cH ⟨aw,aW,aH⟩),.cells (mW ⟨f,x⟩)],T⟩:=by
 conv=>arg 2;whnf
 have Wb:x.length<=9223372036854775807:=zO;have jU:1000<=maxLen:=zD;refine af ?_;apply ag;refine aG (X:=Nat) (λk=>⟨[(1,.ptr H.length 0),(6,.int .i64 (i:Nat)),(7,.ptr (H.length+1) 0),(8,.int .i64 (k:Nat))],H++[.cells (cH ⟨aw,aW,aH⟩),.cells (mW ⟨f,x⟩)],T⟩)
  (λk=>k<=x.length/\∀j,j<k->mj aw x j=true) (λk=>x.length-k) 0 ?_ ?_ ?_
 ·exact⟨ahE _,λj hj=>absurd hj (ahT _)⟩
 ·exact wk eG
 ·rintro m ⟨m1,m2⟩;refine ae λK5 iT=>?_;refine af ?_;refine aV rfl (λeL=>?_) (λeL=>?_)
  ·simp  at eL;have uo:=fH x m eL;have fg:mj aw x m=((decide ((x.getD m n0).2∈aw)&&decide (0<=(x.getD m n0).1/\(x.getD m n0).1<=1000000000000))&&(decide (m=0)||di (x.getD (m-1) n0) (x.getD m n0))):=rfl;have cn:=λH T=>vO (x.getD (m-1) n0) (x.getD m n0) H T;generalize di (x.getD (m-1) n0) (x.getD m n0)=cq at *;have zW:=λh=>fH x (m-1) h;generalize x.getD (m-1) n0=y at *;generalize Uv:x.getD m n0=z at *;obtain⟨x1,x2⟩:=z;obtain⟨y1,y2⟩:=y;simp only at uo zW fg;apply aj;refine zQ ?_;apply iT;clear iT;refine ae λK6 jZ=>?_;apply ag;apply ar;simp(disch:=omega)[uo,cE];have z8:bM (H++[.cells (cH ⟨aw,aW,aH⟩),.cells (mW ⟨f,x⟩),.cells [.int .i64 x1,.int .i64 x2]]) T:=by
    have:=bM.snoc (vs:=[.int .i64 x1,.int .i64 x2]) eG zS;simpa using this
   have cb:=BN aw x2 zO (H++[.cells (cH ⟨aw,aW,aH⟩),.cells (mW ⟨f,x⟩),.cells [.int .i64 x1,.int .i64 x2]]) T .none;have c:=cn (H++[.cells (cH ⟨aw,aW,aH⟩),.cells (mW ⟨f,x⟩),.cells [.int .i64 x1,.int .i64 x2]]) T;refine cQ [] [] [] aO zK zK λK hK=>?_;have jE:∀e b,b=mj aw x m->bA (H.length+3) T.length e [(1,.ptr H.length 0),(6,.int .i64 (i:Nat)),(7,.ptr (H.length+1) 0),(8,.int .i64 (m:Nat)),(181,.bool (!b))]->K ⟨e,H++[.cells (cH ⟨aw,aW,aH⟩),.cells (mW ⟨f,x⟩),.cells [.int .i64 x1,.int .i64 x2]],T⟩:=by
    intro e b2 j8 wY;refine hK _ (aF ⟨[(1,.ptr H.length 0),(6,.int .i64 (i:Nat)),(7,.ptr (H.length+1) 0),(8,.int .i64 (m:Nat)),(181,.bool (!b2))],H++[.cells (cH ⟨aw,aW,aH⟩),.cells (mW ⟨f,x⟩)],T⟩ (ak [.cells [.int .i64 x1,.int .i64 x2]] [] zS zS zS zS eG (zU wY)) ?_)
    cases b2 with
    |false=>
     apply aC rfl;refine af ?_;apply bu;rw[<-List.append_nil T];exact bad m eL j8.symm _ _ _ rfl
    |true=>
     apply aB rfl;apply aj;refine zQ ?_;apply jZ;clear jZ;refine aJ ?_;refine⟨m+1,⟨by show m+1<=_;omega,λj hj=>?_⟩,by show x.length-(m+1)<x.length-m;omega,?_⟩
     ·rcases ahD j m with h|h
      ·exact m2 j h
      ·have:j=m:=zO;subst this;exact j8.symm
     ·exact wk eG
   clear hK
   by_cases v3:x1<0
   ·have w3:decide (x1<0)=true:=ahx v3;simp(disch:=omega)[w3,v3];refine jE _ false (by rw[fg,ahy (by omega:¬(0<=x1/\x1<=1000000000000))];simp) zS
   have w3:decide (x1<0)=false:=ahy v3
   by_cases v4:1000000000000<x1
   ·have w4:decide (1000000000000<x1)=true:=ahx v4;simp(disch:=omega)[w3,v3,w4,v4];refine jE _ false (by rw[fg,ahy (by omega:¬(0<=x1/\x1<=1000000000000))];simp) zS
   have w4:decide (1000000000000<x1)=false:=ahy v4;rw[ahx (by omega:0<=x1/\x1<=1000000000000),Bool.and_true] at fg
   by_cases v0:x2∈aw
   rotate_left
   ·rw[ahy v0] at cb;simp(disch:=omega)[w3,v3,w4,v4];refine az (cb) rfl ?_;refine zQ ?_;refine jE _ false (by rw[fg,ahy v0];rfl) zS
   rw[ahx v0] at cb;rw[ahx v0,aio] at fg;rcases ah0 m with h5|h5
   ·subst h5;simp(disch:=omega)[w3,v3,w4,v4];refine az (cb) rfl ?_;refine zQ ?_;refine jE _ true (by rw[fg];rfl) zS
   ·have e6:((m:Int)-1)=((m-1:Nat):Int):=zO;have b5:decide ((0:Int)<(m:Int))=true:=ahx zO;have pO:=zW zO;rw[ahy (by omega:¬m=0),aiY] at fg;simp(disch:=omega)[w3,v3,w4,v4];refine az (cb) rfl ?_;simp(disch:=omega)[b5,h5,e6,pO,cE];refine az (c) rfl ?_;refine zQ ?_;refine jE _ cq fg.symm zS
  ·simp  at eL;apply aD;refine zQ ?_;exact go (λk h=>m2 k zO) _ zS
attribute [-simp] List.getD_eq_getElem?_getD in
theorem LG (s:Sg)(hs:rz s)(ht:jI s.aw 1 1000000000=true->(∀i,i<s.aW.length->np s.aW i=true/\yR s.aw (s.aW.getD i t0).l=true)/\(pC s.aW).Nodup)
  (H:List aA) (T:au) (HO:bM (H++[.cells (cH s)]) T) :
  AW ⟨prog,191,10,H.length,T.length,[]⟩ (dZ [1,1] (Tryz.f75.body.getD .skip)) (pR prog Tryz.f75.results.toList λr H' T'=>(∃rH,H'=H++rH)/\(∃rT,T'=T++rT)/\(r=.bool (aT s)\/cL r=.bool (aT s))) ⟨[(1,.ptr H.length 0)],H++[.cells (cH s)],T⟩:=by
 conv=>arg 2;whnf
 have hd:=hs.d;have kW:s.aw.length<=1000:=ahA hs.d zO;have gg:=hs.c;have hx:=hs.x;have bad:=λi h=>Ar (s:=s) (i:=i) h;have sa:=λi k h=>D5 (s:=s) (i:=i) (k:=k) h;have ZQ:=λh=>qq (s:=s) h;have sT:=λh=>qp h zO (ht h).1 (ht h).2;have cv:=λH=>eV s.aw (ahA hs.d zD) H T .none;obtain⟨aw,aW,aH⟩:=s;simp only at kW gg hx bad sa sT ZQ cv hd;generalize hq:aT ⟨aw,aW,aH⟩=q at *;have afq:aH.length<=9223372036854775807:=zO;refine ae λK1 aN=>?_;refine af ?_;apply ag;refine aG (X:=Nat) (λi=>⟨[(1,.ptr H.length 0),(6,.int .i64 (i:Nat))],H++[.cells (cH ⟨aw,aW,aH⟩)],T⟩)
  (λi=>i<=aH.length/\∀j,j<i->pL aH j=true/\∀k,k<(aH.getD j c0).x.length->mj aw (aH.getD j c0).x k=true) (λi=>aH.length-i) 0 ?_ ?_ ?_
 ·exact⟨ahE _,λj hj=>absurd hj (ahT _)⟩
 ·exact wk HO
 ·rintro i ⟨g1,g2⟩;refine ae λK2 ba=>?_;refine af ?_;refine aV rfl (λhk=>?_) (λhk=>?_)
  ·simp  at hk;have bB:=tU aH i hk;have yT:=hx _ (aQ aH i c0 hk);have iS:pL aH i=((decide (5<=(aH.getD i c0).f/\(aH.getD i c0).f<=7)&&decide ((aH.getD i c0).x≠[]))&&(decide (i=0)||decide ((aH.getD (i-1) c0).f<(aH.getD i c0).f))):=rfl;have gA:=λh=>(Co aH (i-1) h).1;generalize (aH.getD (i-1) c0).f=fp at *;replace sa:=λk=>sa i k hk;have kJ:(∀k,k<(aH.getD i c0).x.length->mj aw (aH.getD i c0).x k=true)->pL aH i=true->∀j,j<i+1->pL aH j=true/\∀k,k<(aH.getD j c0).x.length->mj aw (aH.getD j c0).x k=true:=λh1 h2 j hj=>by
    rcases ahD j i with h|h
    ·exact g2 j h
    ·have:j=i:=zO;subst this;exact⟨h2,h1⟩
   generalize aH.getD i c0=c at *;obtain⟨f,x⟩:=c;simp only at bB yT iS sa kJ;have Wb:x.length<=9223372036854775807:=zO;apply aj;refine zQ ?_;apply ba;clear ba;refine ae λK3 bH=>?_;apply ag;apply ar;simp(disch:=omega)[bB,fl];have eG:bM (H++[.cells (cH ⟨aw,aW,aH⟩),.cells (mW ⟨f,x⟩)]) T:=by
    have:=bM.snoc (vs:=mW ⟨f,x⟩) HO zS;simpa using this
   refine ae λK4 iQ=>?_;refine cQ [] [] [] aO zK zK λK hK=>?_;have key:∀e b,b=pL aH i->bA (H.length+2) T.length e [(1,.ptr H.length 0),(6,.int .i64 (i:Nat)),(7,.ptr (H.length+1) 0),(138,.bool (!b))]->K ⟨e,H++[.cells (cH ⟨aw,aW,aH⟩),.cells (mW ⟨f,x⟩)],T⟩:=by
    intro e b hb he;refine hK _ (aF ⟨[(1,.ptr H.length 0),(6,.int .i64 (i:Nat)),(7,.ptr (H.length+1) 0),(138,.bool (!b))],H++[.cells (cH ⟨aw,aW,aH⟩),.cells (mW ⟨f,x⟩)],T⟩ (wk eG (zU he)) ?_)
    cases b with
    |false=>
     apply aC rfl;refine af ?_;refine aI ?_;rw[bad i hk hb.symm]
    |true=>
    apply aB rfl;apply aj;refine zQ ?_;apply iQ;clear iQ;refine aF ⟨[(1,.ptr H.length 0),(6,.int .i64 (i:Nat)),(7,.ptr (H.length+1) 0)],H++[.cells (cH ⟨aw,aW,aH⟩),.cells (mW ⟨f,x⟩)],T⟩ (wk eG) ?_;refine LF aw aW aH f x i kW yT H T eG _ (λk wX RR e rH rT he=>?_) λhg e he=>?_
    ·show pR prog Tryz.f75.results.toList (λr H' T'=>(∃rH,H'=H++rH)/\(∃rT,T'=T++rT)/\(r=.bool q\/cL r=.bool q)) .ret _;simp[he,sa k wX RR]
    ·refine bH _ (aF ⟨[(1,.ptr H.length 0),(6,.int .i64 (i:Nat))],H++[.cells (cH ⟨aw,aW,aH⟩)],T⟩ (ak [.cells (mW ⟨f,x⟩)] [] zS zS zS zS HO (zU he)) ?_);refine aJ ?_;refine⟨i+1,⟨by show i+1<=_;omega,kJ hg hb.symm⟩,by show aH.length-(i+1)<aH.length-i;omega,?_⟩;exact wk HO
   clear hK
   by_cases v1:f<5
   ·have w1:decide (f<5)=true:=ahx v1;simp(disch:=omega)[w1,v1];refine key _ false (by rw[iS,ahy (by omega:¬(5<=f/\f<=7))];rfl) zS
   have w1:decide (f<5)=false:=ahy v1
   by_cases v2:7<f
   ·have w2:decide (7<f)=true:=ahx v2;simp(disch:=omega)[w1,v1,w2,v2];refine key _ false (by rw[iS,ahy (by omega:¬(5<=f/\f<=7))];rfl) zS
   have w2:decide (7<f)=false:=ahy v2;rw[ahx (by omega:5<=f/\f<=7),aio] at iS
   by_cases v3:x.length=0
   ·have e3:x=[]:=ah9.1 v3;subst e3;have ef:pL aH i=false:=by rw[iS];rfl
    rcases ah0 i with h5|h5
    ·subst h5;simp(disch:=omega)[w1,v1,w2,v2];refine key _ false ef.symm zS
    ·have e6:((i:Int)-1)=((i-1:Nat):Int):=zO;have b5:decide ((0:Int)<(i:Int))=true:=ahx zO;have sS:=gA zO
     by_cases v4:f<=fp
     ·have w4:decide (f<=fp)=true:=ahx v4;simp(disch:=omega)[w1,v1,w2,v2,b5,h5,e6,sS,fl,w4,v4];refine key _ false ef.symm zS
     ·have w4:decide (f<=fp)=false:=ahy v4;simp(disch:=omega)[w1,v1,w2,v2,b5,h5,e6,sS,fl,w4,v4];refine key _ false ef.symm zS
   have w3:((x.length:Int)==0)=false:=ah8.2 zO;have n3:x≠[]:=λe=>v3 (by rw[e];rfl);rw[ahx n3,aio] at iS;rcases ah0 i with h5|h5
   ·subst h5;simp(disch:=omega)[w1,v1,w2,v2,w3,n3];refine key _ true (by rw[iS];rfl) zS
   ·have e6:((i:Int)-1)=((i-1:Nat):Int):=zO;have b5:decide ((0:Int)<(i:Int))=true:=ahx zO;have sS:=gA zO;rw[ahy (by omega:¬i=0),aiY] at iS
    by_cases v4:f<=fp
    ·have w4:decide (f<=fp)=true:=ahx v4;simp(disch:=omega)[w1,v1,w2,v2,w3,n3,b5,h5,e6,sS,fl,w4,v4];refine key _ false (by rw[iS,ahy (by omega:¬fp<f)]) zS
    ·have w4:decide (f<=fp)=false:=ahy v4;simp(disch:=omega)[w1,v1,w2,v2,w3,n3,b5,h5,e6,sS,fl,w4,v4];refine key _ true (by rw[iS,ahx (by omega:fp<f)]) zS
  ·simp  at hk;apply aD;refine zQ ?_;apply aN;clear aN;have b2:decide ((aw.length:Int)<=2000)=true:=ahx zO;have n2:(aw.length:Int)<=2000:=zO
   cases CX:jI aw 1 1000000000 with
   |true=>
    rw[CX] at cv;apply ar;simp(disch:=omega)[b2,n2];refine ai (cv _) ?_;refine zQ ?_;refine aI ?_;rw[sT CX (λj hj=>g2 j zO)]
   |false=>
    rw[CX] at cv;apply ar;simp(disch:=omega)[b2,n2];refine ai (cv _) ?_;refine zQ ?_;refine aI ?_;rw[ZQ CX]
def tN {t:Tm}{q:Pl}:q∈pH t↔q.1=t.f/\∃p∈t.l,p.1=q.2.1/\q.2.2∈p.2:=by
 unfold pH ff;rw[ah7]
 constructor
 ·rintro⟨p,hp,hq⟩;obtain⟨a,ha,rfl⟩:=ahz.1 hq;exact⟨rfl,p,hp,rfl,ha⟩
 ·rintro⟨h1,p,hp,h2,h3⟩;exact⟨p,hp,ahz.2 ⟨q.2.2,h3,by obtain⟨a,b,c⟩:=q;simp only at h1 h2 ⊢;rw[h1,h2]⟩⟩
theorem sB {α β:Type}{f:α->List β}:∀{l:List α},(∀x∈l,(f x).Nodup)->(l.Pairwise λx y=>∀z∈f x,z∉f y)->(l.flatMap f).Nodup
 |[],_,_=>by simp
 |x::l,h1,h2=>by
  rw[ahK,aif];rw[ait] at h2;refine⟨h1 x zS,sB (λy hy=>h1 y (aiO _ hy)) h2.2,λa ha b hb=>?_⟩;obtain⟨y,hy,rv⟩:=ah7.1 hb;exact λe=>h2.1 y hy a ha (e▸rv)
def vl {l:List Int}(h:kI l):l.Nodup:=h.imp λ{a b} j9=>by omega
def HW {t:Tm}(h:cC t.l=true):(pH t).Nodup:=by
 obtain⟨h1,_,h3⟩:=de h;refine sB (λp hp=>?_) ?_
 ·unfold ff;have:=vl (h3 p hp).2.1;exact List.Pairwise.map _ (λa b j9 e=>j9 (zU e)) this
 ·have:t.l.Pairwise λx y=>x.1<y.1:=aie.1 h1;refine this.imp λ{a b} j9 z hz Gh=>?_;unfold ff at hz Gh;obtain⟨u,_,rfl⟩:=ahz.1 hz;obtain⟨v,_,e⟩:=ahz.1 Gh;simp at e;omega
def yK {a b:List Ps}(hb:cC b=true):gS a b=true↔∀p∈a,∀q∈b,p.1=q.1->∀z∈q.2,z∉p.2:=by
 obtain⟨h1,_,_⟩:=de hb;unfold gS
 constructor
 ·intro h p hp q hq e z hz Gh;obtain⟨i,hi,rfl⟩:=bP p0 hp;have VG:posOf b (a.getD i p0).1=q.2:=by rw[e];exact qS h1 hq
  obtain⟨k,hk,rfl⟩:=bP 0 hz;have:=qc (qc h hi) (j:=k) (by rw[VG];exact hk);rw[VG] at this;simp only[ajZ,aiP] at this;exact this Gh
 ·intro h;refine gJ λi hi=>gJ λk hk=>?_;have hz:=aQ (posOf b (a.getD i p0).1) k 0 hk;obtain⟨q,hq,e1,e2⟩:=uB hz;rw[ajZ,aiP];exact h _ (aQ a i p0 hi) q hq e1.symm _ (by rw[<-e2];exact hz)
theorem qT {l:List Tm}(h1:∀i,i<l.length->cC (l.getD i t0).l=true)(h2:∀i k,i<l.length->k<i->(l.getD k t0).f=(l.getD i t0).f->gS (l.getD k t0).l (l.getD i t0).l=true):(pC l).Nodup:=by
 refine sB (λt ht=>?_) ?_
 ·obtain⟨i,hi,rfl⟩:=bP t0 ht;exact HW (h1 i hi)
 ·rw[ah6];intro k i hk hi YC z hz Gh;have e1:l[k]=l.getD k t0:=by rw[ahs,ahu hk];rfl
  have e2:l[i]=l.getD i t0:=by rw[ahs,ahu hi];rfl
  rw[e1] at hz;rw[e2] at Gh;obtain⟨f1,p,hp,p1,p2⟩:=tN.1 hz;obtain⟨f2,q,hq,q1,q2⟩:=tN.1 Gh;exact(yK (h1 i hi)).1 (h2 i k hi YC (f1.symm.trans f2)) p hp q hq (p1.trans q1.symm) _ q2 p2
def Ti {l:List Tm}{i k:Nat}(hi:i<l.length)(hk:k<i)(hv:cC (l.getD i t0).l=true)(hf:(l.getD k t0).f=(l.getD i t0).f)(h:gS (l.getD k t0).l (l.getD i t0).l=false):¬(pC l).Nodup:=by
 intro hn;have:gS (l.getD k t0).l (l.getD i t0).l=true:=by
  rw[yK hv];intro p hp q hq e z hz Gh;have hs:l=l.take i++(l.getD i t0::l.drop (i+1)):=by rw[<-dF l i t0 hi,ah1]
  rw[hs] at hn;unfold pC at hn;rw[aid,aif] at hn;refine hn.2.2 ((l.getD i t0).f,p.1,z) ?_ ((l.getD i t0).f,p.1,z) ?_ rfl
  ·refine ah7.2 ⟨l.getD k t0,?_,tN.2 ⟨hf.symm,p,hp,rfl,Gh⟩⟩;have:=aQ (l.take i) k t0 (by rw[ahW];omega);have e2:(l.take i).getD k t0=l.getD k t0:=by simp[ahs,aim,hk]
   rwa [e2] at this
  ·exact ah7.2 ⟨l.getD i t0,zS,tN.2 ⟨rfl,q,hq,e.symm,hz⟩⟩
 rw[h] at this
 cases this
attribute [-simp] List.getD_eq_getElem?_getD in
theorem HR (s:Sg)(hs:rz s)(i:Nat)(hi:i<s.aW.length)(H:List aA)(T:au)
  (eG:bM (H++[.cells (cH s),.cells (mg (s.aW.getD i t0))]) T) (Q:Exit->St->Prop)
  (bad:∀k,k<i->(s.aW.getD k t0).f=(s.aW.getD i t0).f->gS (s.aW.getD k t0).l (s.aW.getD i t0).l=false->∀(e:Env)(rH:List aA)(rT:au),bO e 2=.bool false->Q .ret ⟨e,H++rH,T++rT⟩)
  (go:(∀k,k<i->(s.aW.getD k t0).f=(s.aW.getD i t0).f->gS (s.aW.getD k t0).l (s.aW.getD i t0).l=true)->∀e:Env,bA (H.length+2) T.length e [(1,.ptr H.length 0),(3,.int .i64 (i:Nat))]->Q .normal ⟨e,H++[.cells (cH s),.cells (mg (s.aW.getD i t0))],T⟩) :
  AW ⟨prog,191,10,H.length,T.length,[]⟩ (dZ [1,0,1,0,0,1,0,0,1,1,1] (Tryz.f75.body.getD .skip)) Q ⟨[(1,.ptr H.length 0),(3,.int .i64 (i:Nat)),(4,.ptr (H.length+1) 0)],H++[.cells (cH s),.cells (mg (s.aW.getD i t0))],T⟩:=by
 conv=>arg 2;whnf
 have sM:=hs.t;have hw:=hs.w;obtain⟨q1,q2,q3⟩:=hw _ (aQ s.aW i t0 hi);refine af ?_;apply ag;refine aG (X:=Nat) (λk=>⟨[(1,.ptr H.length 0),(3,.int .i64 (i:Nat)),(4,.ptr (H.length+1) 0),(5,.int .i64 (k:Nat))],H++[.cells (cH s),.cells (mg (s.aW.getD i t0))],T⟩)
  (λk=>k<=i/\∀m,m<k->(s.aW.getD m t0).f=(s.aW.getD i t0).f->gS (s.aW.getD m t0).l (s.aW.getD i t0).l=true) (λk=>i-k) 0 ?_ ?_ ?_
 ·exact⟨ahE _,λj hj=>absurd hj (ahT _)⟩
 ·refine ak [] [] ?_ ?_ ?_ ?_ eG ?_
  all_goals simp 
 ·rintro k ⟨k1,k2⟩;refine ae λK5 iT=>?_;refine af ?_;refine aV rfl (λeL=>?_) (λeL=>?_)
  ·simp  at eL;have gy:k<s.aW.length:=zO;obtain⟨a1,_,a3⟩:=wH s.aW k gy;obtain⟨w1,w2,w3⟩:=hw _ (aQ s.aW k t0 gy);have ca:=QU (s.aW.getD k t0).l (s.aW.getD i t0).l w2 q2 w3 q3 (H++[.cells (cH s),.cells (mg (s.aW.getD i t0))]) T .none .none;replace bad:=bad k eL;have kJ:((s.aW.getD k t0).f=(s.aW.getD i t0).f->gS (s.aW.getD k t0).l (s.aW.getD i t0).l=true)->∀m,m<k+1->(s.aW.getD m t0).f=(s.aW.getD i t0).f->gS (s.aW.getD m t0).l (s.aW.getD i t0).l=true:=λh m hm=>by
    rcases ahD m k with h1|h1
    ·exact k2 m h1
    ·have:m=k:=zO;subst this;exact h
   generalize gS (s.aW.getD k t0).l (s.aW.getD i t0).l=ab at *;generalize s.aW.getD k t0=u at *;obtain⟨uf,uw,ul⟩:=u;simp only at a1 a3 ca bad kJ;apply aj;refine zQ ?_;apply iT;clear iT;refine ae λK6 jZ=>?_;apply ag
   by_cases hf:uf=(s.aW.getD i t0).f
   ·have b1:(uf==(s.aW.getD i t0).f)=true:=by simpa using hf
    cases ab with
    |false=>
     refine bC [] [] [] ?_;simp(disch:=omega)[a1,a3,cT,gy,b1,hf];refine az (ca) rfl ?_;refine zQ ?_;apply aC rfl;refine af ?_;apply bu;rw[<-List.append_nil T];exact bad hf rfl _ _ _ rfl
    |true=>
     refine bC [] [] [] ?_;simp(disch:=omega)[a1,a3,cT,gy,b1,hf];refine az (ca) rfl ?_;refine zQ ?_;apply aB rfl;apply aj;refine zQ ?_;apply jZ;clear jZ;refine aJ ?_;refine⟨k+1,⟨by show k+1<=_;omega,kJ λ_=>rfl⟩,by show i-(k+1)<i-k;omega,?_⟩;refine ak [] [] ?_ ?_ ?_ ?_ eG ?_
     all_goals simp 
   ·have b1:(uf==(s.aW.getD i t0).f)=false:=by simpa using hf
    refine bC [] [] [] ?_;simp(disch:=omega)[a1,a3,cT,gy,b1,hf];apply aB rfl;apply aj;refine zQ ?_;apply jZ;clear jZ;refine aJ ?_;refine⟨k+1,⟨by show k+1<=_;omega,kJ λh=>absurd h hf⟩,by show i-(k+1)<i-k;omega,?_⟩;refine ak [] [] ?_ ?_ ?_ ?_ eG ?_
    all_goals simp 
  ·simp  at eL;apply aD;refine zQ ?_;exact go (λm h=>k2 m zO) _ (by simp )
attribute [-simp] List.getD_eq_getElem?_getD in
theorem sv (s:Sg)(hs:rz s)(H:List aA)(T:au):aq prog 75 [jh s] H T (Is (.bool (aT s)) H T):=by
 refine aq.bK ?_ zS;have hd:=hs.d;have sM:=hs.t;have aeN:s.aW.length<=9223372036854775807:=zO;have XI:1000<=maxLen:=zD;refine ah 10 [] Tryz.ntmps75 Tryz.func75 rfl (λ_ _=>Tryz.call75 _ _) zS (λHO=>?_);refine af ?_;have UJ:bM (H++[.cells (cH s)]) T:=HO.snoc zS;refine ae λK1 aN=>?_;refine af ?_;apply ag;refine aG (X:=Nat) (λi=>⟨[(1,.ptr H.length 0),(3,.int .i64 (i:Nat))],H++[.cells (cH s)],T⟩)
  (λi=>i<=s.aW.length/\∀j,j<i->np s.aW j=true/\((s.aW.getD j t0).l≠[]/\cC (s.aW.getD j t0).l=true)/\(jI s.aw 1 1000000000=true->yR s.aw (s.aW.getD j t0).l=true)/\∀k,k<j->(s.aW.getD k t0).f=(s.aW.getD j t0).f->gS (s.aW.getD k t0).l (s.aW.getD j t0).l=true) (λi=>s.aW.length-i) 0 ?_ ?_ ?_
 ·exact⟨ahE _,λj hj=>absurd hj (ahT _)⟩
 ·exact wk UJ
 ·rintro i ⟨g1,g2⟩;refine ae λK2 ba=>?_;refine af ?_;refine aV rfl (λhk=>?_) (λhk=>?_)
  ·simp  at hk;have bB:=kN s.aW i hk;obtain⟨q1,q2,q3⟩:=hs.w _ (aQ s.aW i t0 hk);apply aj;refine zQ ?_;apply ba;clear ba;refine ae λK3 bH=>?_;apply ag;apply ar;simp(disch:=omega)[bB,cT];have R8:bM (H++[.cells (cH s),.cells (mg (s.aW.getD i t0))]) T:=by
    have:=bM.snoc (vs:=mg (s.aW.getD i t0)) UJ zS;simpa using this
   have Kw:np s.aW i=false->aT s=false:=λh=>Ap hk h;have Ds:yR s.aw (s.aW.getD i t0).l=false->aT s=false:=λh=>D4 hk h;have afH:=λh=>qq (s:=s) h;have WC:=λk YC hv hf h=>Aq (s:=s) (Ti (k:=k) hk YC hv hf h);have iS:np s.aW i=((decide (1<=(s.aW.getD i t0).f/\(s.aW.getD i t0).f<=4)&&okW (s.aW.getD i t0).w)&&(decide (i=0)||bS (s.aW.getD (i-1) t0).k (s.aW.getD i t0).k)):=rfl;have zW:=λh=>kN s.aW (i-1) h;have pQ:yR s.aw (s.aW.getD i t0).l=((decide ((s.aW.getD i t0).l≠[])&&cC (s.aW.getD i t0).l)&&decide (∀p∈(s.aW.getD i t0).l,p.1∈s.aw)):=rfl;generalize s.aW.getD (i-1) t0=tp at *;obtain⟨t,ht⟩:∃t,t=s.aW.getD i t0:=⟨_,rfl⟩
   have Oi:=HR s hs i hk H T;have kJ:np s.aW i=true->t.l≠[]->cC t.l=true->(jI s.aw 1 1000000000=true->yR s.aw t.l=true)->(∀k,k<i->(s.aW.getD k t0).f=t.f->gS (s.aW.getD k t0).l t.l=true)->∀j,j<i+1->np s.aW j=true/\((s.aW.getD j t0).l≠[]/\cC (s.aW.getD j t0).l=true)/\(jI s.aw 1 1000000000=true->yR s.aw (s.aW.getD j t0).l=true)/\∀k,k<j->(s.aW.getD k t0).f=(s.aW.getD j t0).f->gS (s.aW.getD k t0).l (s.aW.getD j t0).l=true:=λh1 h2 h3 h4 h5 j hj=>by
    rcases ahD j i with h|h
    ·exact g2 j h
    ·have:j=i:=zO;subst this;rw[<-ht];exact⟨h1,⟨h2,h3⟩,h4,h5⟩
   rw[<-ht] at bB q1 q2 q3 R8 Ds WC iS pQ Oi;simp only[<-ht];clear ht;have cw:=λH=>DX t.w q1 H T;have ck:=λH hu hv=>qs tp.k t.k (.sl tp.l.length (bD tp.l) .none) (.sl t.l.length (bD t.l) .none) H T hu hv;have cv:=λH=>As t.l (ahA q2 zO) (λp hp=>ahA (q3 p hp) XI) H T .none;have cd:=λH=>MC t.l (ahA q2 zO) (λp hp=>ahA (q3 p hp) XI) H T .none;generalize bS tp.k t.k=bq at *;obtain⟨f,w,l⟩:=t;simp only at q1 q2 q3 bB cw ck cv cd iS pQ Ds kJ WC;refine ae λK4 iQ=>?_;refine cQ [] [] [] aO zK zK λK hK=>?_;have key:∀e b,(b=true->np s.aW i=true/\l≠[]/\cC l=true)->(b=false->aT s=false)->bA (H.length+2) T.length e [(1,.ptr H.length 0),(3,.int .i64 (i:Nat)),(4,.ptr (H.length+1) 0),(62,.bool (!b))]->K ⟨e,H++[.cells (cH s),.cells (mg ⟨f,w,l⟩)],T⟩:=by
    intro e b hb wZ he;refine hK _ (aF ⟨[(1,.ptr H.length 0),(3,.int .i64 (i:Nat)),(4,.ptr (H.length+1) 0),(62,.bool (!b))],H++[.cells (cH s),.cells (mg ⟨f,w,l⟩)],T⟩ (wk R8 (zU he)) ?_)
    cases b with
    |false=>
     apply aC rfl;refine af ?_;refine aI ?_;rw[wZ rfl]
    |true=>
    obtain⟨b1,b2,b3⟩:=hb rfl;have kW:lC l=aw l:=by unfold lC;rw[ahF b3]
    have Bo:jI (aw l) 1 1000000000=true:=by unfold cC at b3;rw[ahG] at b3;exact b3.1
    rw[kW] at cd;have cwo:=λH=>FA (aw l) s.aw (by simp[aw];exact q2) hd H T .none .none;have qC:=Mg (λm=>!m) (aw l) s.aw;have hdc:(aw l).length=l.length:=by simp[aw]
    have hwn:jI s.aw 1 1000000000=true->((jN (λm=>!m) (aw l) s.aw).length=0↔∀p∈l,p.1∈s.aw):=λh=>by
     rw[<-Hq,OB Bo h];simp only[aw,ahz,forall_exists_index,and_imp,forall_apply_eq_imp_iff₂]
    have Zm:jI s.aw 1 1000000000=true->((jN (λm=>!m) (aw l) s.aw).length=0↔yR s.aw l=true):=λh=>by
     rw[hwn h,pQ,ahx b2,b3];simp
    generalize jN (λm=>!m) (aw l) s.aw=kr at *;apply aB rfl;apply aj;refine zQ ?_;apply iQ;clear iQ;refine ae λK5 iT=>?_
    by_cases YB:kr.length=0
    rotate_left
    ·have bk:decide ((0:Int)<kr.length)=true:=ahx zO;have nk:(0:Int)<kr.length:=zO;have n0:kr≠[]:=λe=>YB (by rw[e];rfl);have n1:0<kr.length:=zO;refine bC [] [] [] ?_;refine zQ ?_;refine az (cd _) rfl ?_;refine zQ ?_;refine az (cwo _) rfl ?_;simp(disch:=omega)[bk,nk,n0,n1];apply aC rfl;refine af ?_;refine aI ?_;have:aT s=false:=by
      cases CX:jI s.aw 1 1000000000 with
      |false=>exact afH CX
      |true=>
       refine Ds ?_
       cases ho:yR s.aw l with
       |false=>rfl
       |true=>exact absurd ((Zm CX).2 ho) YB
     rw[this]
    ·have e0:kr=[]:=ah9.1 YB;subst e0;refine bC [] [] [] ?_;refine zQ ?_;refine az (cd _) rfl ?_;refine zQ ?_;refine az (cwo _) rfl ?_;refine zQ ?_;apply aB rfl;apply aj;refine zQ ?_;apply iT;clear iT;refine aF ⟨[(1,.ptr H.length 0),(3,.int .i64 (i:Nat)),(4,.ptr (H.length+1) 0)],H++[.cells (cH s),.cells (mg ⟨f,w,l⟩)],T⟩ (wk R8) ?_;refine Oi R8 _ (λk YC hf VQ e rH rT he=>?_) λVQ e he=>?_
     ·show pR prog Tryz.f75.results.toList (λr H' T'=>(∃rH,H'=H++rH)/\(∃rT,T'=T++rT)/\(r=.bool (aT s)\/cL r=.bool (aT s))) .ret _;simp[he,WC k YC b3 hf VQ]
     ·refine bH _ (aF ⟨[(1,.ptr H.length 0),(3,.int .i64 (i:Nat))],H++[.cells (cH s)],T⟩ (ak [.cells (mg ⟨f,w,l⟩)] [] zS zS zS zS UJ (zU he)) ?_);refine aJ ?_;refine⟨i+1,⟨by show i+1<=_;omega,kJ b1 b2 b3 (λh=>(Zm h).1 rfl) VQ⟩,by show s.aW.length-(i+1)<s.aW.length-i;omega,?_⟩;exact wk UJ
   clear hK Oi
   by_cases v1:f<1
   ·have w1:decide (f<1)=true:=ahx v1;simp(disch:=omega)[w1,v1];refine key _ false (λh=>by cases h) (λ_=>Kw (by rw[iS,ahy (by omega:¬(1<=f/\f<=4))];rfl)) zS
   have w1:decide (f<1)=false:=ahy v1
   by_cases v2:4<f
   ·have w2:decide (4<f)=true:=ahx v2;simp(disch:=omega)[w1,v1,w2,v2];refine key _ false (λh=>by cases h) (λ_=>Kw (by rw[iS,ahy (by omega:¬(1<=f/\f<=4))];rfl)) zS
   have w2:decide (4<f)=false:=ahy v2;rw[ahx (by omega:1<=f/\f<=4),aio] at iS
   cases hw:okW w with
   |false=>
    rw[hw] at cw iS;simp(disch:=omega)[w1,v1,w2,v2];refine az (cw _) rfl ?_;refine zQ ?_;refine key _ false (λh=>by cases h) (λ_=>Kw (by rw[iS];rfl)) zS
   |true=>
   rw[hw] at cw iS;rw[aio] at iS
   by_cases v3:l.length=0
   ·have e3:l=[]:=ah9.1 v3;subst e3;simp(disch:=omega)[w1,v1,w2,v2];refine az (cw _) rfl ?_;refine zQ ?_;refine key _ false (λh=>by cases h) (λ_=>Ds (by rw[pQ];rfl)) zS
   have w3:((l.length:Int)==0)=false:=ah8.2 zO;have n3:l≠[]:=λe=>v3 (by rw[e];rfl)
   cases Gt:cC l with
   |false=>
    rw[Gt] at cv pQ;simp(disch:=omega)[w1,v1,w2,v2];refine az (cw _) rfl ?_;simp(disch:=omega)[w3,n3];refine az (cv _) rfl ?_;refine zQ ?_;refine key _ false (λh=>by cases h) (λ_=>Ds (by rw[pQ];simp)) zS
   |true=>
   rw[Gt] at cv;rcases ah0 i with h5|h5
   ·subst h5;simp(disch:=omega)[w1,v1,w2,v2];refine az (cw _) rfl ?_;simp(disch:=omega)[w3,n3];refine az (cv _) rfl ?_;refine zQ ?_;refine key _ true (λ_=>⟨by rw[iS];rfl,n3,Gt⟩) (λh=>by cases h) zS
   ·have e6:((i:Int)-1)=((i-1:Nat):Int):=zO;have b5:decide ((0:Int)<(i:Int))=true:=ahx zO;have pO:=zW zO;rw[ahy (by omega:¬i=0),aiY] at iS;simp(disch:=omega)[w1,v1,w2,v2];refine az (cw _) rfl ?_;simp(disch:=omega)[w3,n3];refine az (cv _) rfl ?_;simp(disch:=omega)[b5,h5,e6,pO,cT];refine az (ck _ zS zS) rfl ?_;refine zQ ?_
    cases bq with
    |false=>
     refine key _ false (λh=>by cases h) (λ_=>Kw (by rw[iS])) zS
    |true=>
     refine key _ true (λ_=>⟨by rw[iS],n3,Gt⟩) (λh=>by cases h) zS
  ·simp  at hk;apply aD;refine zQ ?_;apply aN;clear aN;have hi:i=s.aW.length:=zO;subst hi;refine aF ⟨[(1,.ptr H.length 0)],H++[.cells (cH s)],T⟩ (wk UJ) ?_;exact LG s hs (λCX=>⟨λj hj=>⟨(g2 j hj).1,(g2 j hj).2.2.1 CX⟩,qT (λj hj=>(g2 j hj).2.1.2) λj k hj hkj=>(g2 j hj).2.2.2 k hkj⟩) H T UJ
end Go.Proofs.YtoejlmpbebjemaaGreat
