/- Segments (layer 39): what a valid one is; places as the keys of a map. segment.Valid (layer 39): the places of a term. segment.Valid (layer 39): the columns. segment.Valid (layer 39).
  Conditions: lengths below 1000 or 1000, as each theorem says. -/
import Derived.Test.YtoejlmpbebjemaaGreatGBC
import Derived.Test.YtoejlmpbebjemaaGreatPZ
set_option linter.all false
set_option maxRecDepth 100000
set_option maxHeartbeats 16000000

namespace eN
open ie
abbrev Pl:=Int×Int×Int
def ff (f:Int)(p:Ps):List Pl:=p.2.map λa=>(f,p.1,a)
def pH (t:Tm):List Pl:=t.l.flatMap (ff t.f)
def pC (l:List Tm):List Pl:=l.flatMap pH
abbrev Tm.k (t:Tm):Ky:=(t.f,t.w)
end eN
namespace Go.Proofs.YtoejlmpbebjemaaGreat
open Go.Proofs.Tryz(prog)
open Go Go.Am ie eN
abbrev cH (s:Sg):List AV:=[.sl s.aw.length (ints s.aw) .none,.sl s.aW.length (dB s.aW) .none,.sl s.aH.length (dP s.aH) .none]
def yR (aw:List Int)(l:List Ps):Bool:=(decide (l≠[])&&cC l)&&decide (∀p∈l,p.1∈aw)
def np (l:List Tm)(i:Nat):Bool:=(decide (1<=(l.getD i t0).f/\(l.getD i t0).f<=4)&&okW (l.getD i t0).w)&&(decide (i=0)||bS (l.getD (i-1) t0).k (l.getD i t0).k)
def XA (aw:List Int)(l:List Tm)(i:Nat):Bool:=np l i&&yR aw (l.getD i t0).l
def mj (aw:List Int)(x:List Nm)(k:Nat):Bool:=(decide ((x.getD k n0).2∈aw)&&decide (0<=(x.getD k n0).1/\(x.getD k n0).1<=1000000000000))&&(decide (k=0)||di (x.getD (k-1) n0) (x.getD k n0))
def IP (aw:List Int)(x:List Nm):Bool:=(List.range x.length).all (mj aw x)
def pL (l:List Cl)(i:Nat):Bool:=(decide (5<=(l.getD i c0).f/\(l.getD i c0).f<=7)&&decide ((l.getD i c0).x≠[]))&&(decide (i=0)||decide ((l.getD (i-1) c0).f<(l.getD i c0).f))
def Vw (aw:List Int)(l:List Cl)(i:Nat):Bool:=pL l i&&IP aw (l.getD i c0).x
def NN (s:Sg):Bool:=(List.range s.aW.length).all (XA s.aw s.aW)&&decide (pC s.aW).Nodup
def Sb (s:Sg):Bool:=(List.range s.aH.length).all (Vw s.aw s.aH)
def aT (s:Sg):Bool:=(jI s.aw 1 1000000000&&decide (s.aw.length<=2000))&&(NN s&&Sb s)
structure rz (s:Sg):Prop where
 d:s.aw.length<=1000
 t:s.aW.length<=1000
 w:∀t∈s.aW,t.w.length<=maxLen/\t.l.length<=1000/\∀p∈t.l,p.2.length<=1000
 c:s.aH.length<=1000
 x:∀c∈s.aH,c.x.length<=1000
def qq {s:Sg}(h:jI s.aw 1 1000000000=false):aT s=false:=by unfold aT;rw[h];rfl
def D3 {s:Sg}{i:Nat}(hi:i<s.aW.length)(h:XA s.aw s.aW i=false):aT s=false:=by
 unfold aT NN;rw[kG hi h];simp
def Ap {s:Sg}{i:Nat}(hi:i<s.aW.length)(h:np s.aW i=false):aT s=false:=D3 hi (by unfold XA;rw[h];rfl)
def D4 {s:Sg}{i:Nat}(hi:i<s.aW.length)(h:yR s.aw (s.aW.getD i t0).l=false):aT s=false:=D3 hi (by unfold XA;rw[h];simp)
def Aq {s:Sg}(h:¬(pC s.aW).Nodup):aT s=false:=by
 unfold aT NN;rw[ahy h];simp
def D6 {s:Sg}{i:Nat}(hi:i<s.aH.length)(h:Vw s.aw s.aH i=false):aT s=false:=by
 unfold aT Sb;rw[kG hi h];simp
def Ar {s:Sg}{i:Nat}(hi:i<s.aH.length)(h:pL s.aH i=false):aT s=false:=D6 hi (by unfold Vw;rw[h];rfl)
def D5 {s:Sg}{i k:Nat}(hi:i<s.aH.length)(hk:k<(s.aH.getD i c0).x.length)(h:mj s.aw (s.aH.getD i c0).x k=false):aT s=false:=D6 hi (by unfold Vw IP;rw[kG hk h];simp)
def qp {s:Sg}(h1:jI s.aw 1 1000000000=true)(h2:s.aw.length<=2000)(h3:∀i,i<s.aW.length->np s.aW i=true/\yR s.aw (s.aW.getD i t0).l=true)(h4:(pC s.aW).Nodup)
  (h5:∀i,i<s.aH.length->pL s.aH i=true/\∀k,k<(s.aH.getD i c0).x.length->mj s.aw (s.aH.getD i c0).x k=true):aT s=true:=by
 unfold aT NN Sb;rw[h1,ahx h2,ahx h4,gJ (λi hi=>by unfold XA;rw[(h3 i hi).1,(h3 i hi).2];rfl),gJ (λi hi=>by unfold Vw IP;rw[(h5 i hi).1,gJ (h5 i hi).2];rfl)];rfl
def fJ {s:Sg}(h:aT s=true):(jI s.aw 1 1000000000=true/\s.aw.length<=2000)/\((∀i,i<s.aW.length->np s.aW i=true/\yR s.aw (s.aW.getD i t0).l=true)/\(pC s.aW).Nodup)/\
  (∀i,i<s.aH.length->pL s.aH i=true/\∀k,k<(s.aH.getD i c0).x.length->mj s.aw (s.aH.getD i c0).x k=true):=by
 unfold aT NN Sb at h;simp only[ahG,ahH] at h;obtain⟨⟨a,b⟩,⟨c,d⟩,e⟩:=h;refine⟨⟨a,b⟩,⟨λi hi=>?_,d⟩,λi hi=>?_⟩
 ·have:=qc c hi;unfold XA at this;simpa[ahG] using this
 ·have:=qc e hi;unfold Vw IP at this;rw[ahG] at this;exact⟨this.1,λk hk=>qc this.2 hk⟩
def wc (k:Pl):cZ:=.agg [.int .i64 k.1,.int .i64 k.2.1,.int .i64 k.2.2]
def pE (l:List Pl):List (cZ×AV):=l.map λk=>(wc k,.bool true)
def EI {a b:Pl}:wc a=wc b↔a=b:=by
 obtain⟨a1,a2,a3⟩:=a;obtain⟨b1,b2,b3⟩:=b;simp[wc]
theorem To (l:List Pl)(k:Pl):ju (pE l) (wc k) (.bool false) false=.bool (decide (k∈l)):=by
 unfold ju;simp only[aiu,aje]
 induction l with
 |nil=>rfl
 |cons x r ih=>
  simp only[pE,aih,v8,EI] at ih ⊢
  by_cases h:x=k
  ·rw[ahF h];simp[h]
  ·rw[ahC h,ih];simp[Ne.symm h]
def Tl {l:List Pl}{k:Pl}(h:k∉l):lK (pE l) (wc k) (.bool true)=pE (l++[k]):=by
 rw[ou (λx hx=>?_)]
 ·simp[pE]
 ·obtain⟨e,he,rfl⟩:=ahz.1 hx;exact λhh=>h (EI.1 hh▸he)
@[simp] theorem X6 (n t:Nat) (l:List Pl):aL n t ((pE l).map (·.2)):=by
 intro v hv;simp only[pE,aiA,ahz,Function.comp] at hv;obtain⟨x,_,rfl⟩:=hv;exact .bool _
def Rr (k:Pl):Prop:=(-9223372036854775808<=k.1/\k.1<=9223372036854775807)/\(-9223372036854775808<=k.2.1/\k.2.1<=9223372036854775807)/\(-9223372036854775808<=k.2.2/\k.2.2<=9223372036854775807)
def ZH (k:Pl)(h:Rr k):nu prog 179 (wc k)=true:=by
 have hu:=Tryz.underlying179;have h3:prog.underlying 3=some (.int .i64):=zK;have c3:prog.cellsOf 3=1:=zK;have XL:prog.keyType 179=true:=zK;have gj:prog.types.size=315:=zK;have e1:∀x:Int,-9223372036854775808<=x/\x<=9223372036854775807->prog.keyLits 315 3 [.int .i64 x]=some [.int .i64 x]:=λx hx=>by
  have Yr:(Lit.int .i64 x).wf=true:=by
   simp only[Lit.wf,ahG,ahH];exact hx
  show prog.keyLits (314+1) 3 _=_;unfold Program.keyLits;rw[h3];simp only[Yr,and_self,ajc]
 obtain⟨f,d,p⟩:=k;obtain⟨h1,h2,h4⟩:=h;simp only at h1 h2 h4;have hl:prog.keyLits (315+1) 179 [.int .i64 f,.int .i64 d,.int .i64 p]=some [.int .i64 f,.int .i64 d,.int .i64 p]:=by
  unfold Program.keyLits;rw[hu];simp[Fi,c3,e1 f h1,e1 d h2,e1 p h4]
 unfold nu keyOf;rw[hu];have hf:(cZ.val (wc (f,d,p))).formed prog 179=true:=by
  simp[wc,cZ.val,KC.val,Value.formed,hu,Fi]
 simp only[XL,hf,Bool.and_self,ajc,gj];have:(cZ.val (wc (f,d,p))).cells.toList=[.int .i64 f,.int .i64 d,.int .i64 p]:=rfl;rw[this,hl];rfl
def aaB {l:List Pl}(h:∀k∈l,Rr k):dz prog 179 (pE l)=true:=by
 unfold dz;rw[ah3];intro x hx;obtain⟨k,hk,rfl⟩:=ahz.1 hx;exact ZH k (h k hk)
open cN
def LP (f:Int)(p:Ps)(k:Nat)(h:k<p.2.length):ff f (p.1,p.2.take (k+1))=ff f (p.1,p.2.take k)++[(f,p.1,p.2.getD k 0)]:=by
 unfold ff;simp only;rw[aX p.2 k 0 h];simp
def me {α β:Type}(l:List α)(f:α->List β)(d:α)(k:Nat)(h:k<l.length):(l.take (k+1)).flatMap f=(l.take k).flatMap f++f (l.getD k d):=by
 rw[aX l k d h];simp
attribute [-simp] List.getD_eq_getElem?_getD in
def KO (s:Sg)(t:Tm)(i:Nat)(hl:t.l.length<=1000)(hp:∀p∈t.l,p.2.length<=1000)(hf:1<=t.f/\t.f<=4)(hv:cC t.l=true)(seen:List Pl)(hs:∀k∈seen,Rr k)(hn:seen.Nodup)
  (H:List aA) (T:au) (HO:bM (H++[.cells (cH s),.map (pE seen),.cells (mg t)]) T) (Q:Exit->St->Prop)
  (bad:¬(seen++pH t).Nodup->∀(e:Env)(rH:List aA)(rT:au),bO e 2=.bool false->Q .ret ⟨e,H++rH,T++rT⟩)
  (go:(seen++pH t).Nodup->(∀k∈seen++pH t,Rr k)->bM (H++[.cells (cH s),.map (pE (seen++pH t)),.cells (mg t)]) T->∀e:Env,bA (H.length+3) T.length e [(1,.ptr H.length 0),(3,.aP (H.length+1)),(29,.sl s.aW.length (dB s.aW) .none),(30,.int .i64 (s.aW.length:Nat)),(31,.int .i64 (i:Nat))]->Q .normal ⟨e,H++[.cells (cH s),.map (pE (seen++pH t)),.cells (mg t)],T⟩) :
  AW ⟨prog,195,154,H.length,T.length,[]⟩ (dZ [1,1,1,0,1,0,0,1,1,0,0,1,1,1] (Tryz.f60.body.getD .skip)) Q ⟨[(1,.ptr H.length 0),(3,.aP (H.length+1)),(5,.ptr (H.length+2) 0),(29,.sl s.aW.length (dB s.aW) .none),(30,.int .i64 (s.aW.length:Nat)),(31,.int .i64 (i:Nat))],H++[.cells (cH s),.map (pE seen),.cells (mg t)],T⟩:=by
 conv=>arg 2;whnf
 obtain⟨v1,v2,v3⟩:=de hv;obtain⟨f,w,l⟩:=t;simp only at hl hp hf hv v1 v2 v3;have jY:l.length<=9223372036854775807:=zO;refine af ?_;apply ag;refine aG (X:=Nat) (λj=>⟨[(1,.ptr H.length 0),(3,.aP (H.length+1)),(5,.ptr (H.length+2) 0),(29,.sl s.aW.length (dB s.aW) .none),(30,.int .i64 (s.aW.length:Nat)),(31,.int .i64 (i:Nat)),(85,.sl l.length (bD l) .none),(86,.int .i64 (l.length:Nat)),(87,.int .i64 (j:Nat))],H++[.cells (cH s),.map (pE (seen++(l.take j).flatMap (ff f))),.cells (mg ⟨f,w,l⟩)],T⟩)
  (λj=>j<=l.length/\(seen++(l.take j).flatMap (ff f)).Nodup/\(∀k∈seen++(l.take j).flatMap (ff f),Rr k)/\bM (H++[.cells (cH s),.map (pE (seen++(l.take j).flatMap (ff f))),.cells (mg ⟨f,w,l⟩)]) T) (λj=>l.length-j) 0 ?_ ?_ ?_
 ·refine⟨ahE _,?_⟩;simp only[List.take_zero,List.flatMap_nil,ahS];exact⟨hn,hs,HO⟩
 ·have e0:seen++(l.take 0).flatMap (ff f)=seen:=zS;refine ak [] [] ?_ ?_ ?_ ?_ (by rw[e0];exact HO) ?_
  all_goals simp
  all_goals (try omega)
 ·rintro j ⟨j1,j2,j3,j4⟩;have hle:∀k∈seen++(l.take j).flatMap (ff f),Rr k:=j3;have sK:=λh=>me l (ff f) p0 j h;have fC:seen++pH ⟨f,w,l⟩=(seen++(l.take j).flatMap (ff f))++(l.drop j).flatMap (ff f):=by
   rw[ahM,<-List.flatMap_append,ah1];rfl
  generalize hg:seen++(l.take j).flatMap (ff f)=sj at *;refine af ?_;refine ae λK1 aN=>?_;refine aV rfl (λhk=>?_) (λhk=>?_)
  ·simp  at hk;have bB:=mI l j hk;have sN:=aQ l j p0 hk;obtain⟨w1,w2,w3⟩:=v3 _ sN;have w0:=v2 _ sN;have zM:=hp _ sN;have qE:l.drop j=l.getD j p0::l.drop (j+1):=dF l j p0 hk;rw[qE,ahK] at fC;replace sK:=sK hk;have Zx:seen++(l.take (j+1)).flatMap (ff f)=sj++ff f (l.getD j p0):=by rw[sK,<-List.append_assoc,hg]
   generalize l.getD j p0=p at *;obtain⟨d,ps⟩:=p;simp only at bB w0 w1 w2 w3 zM;have aeY:ps.length<=9223372036854775807:=zO;apply aj;refine zQ ?_;apply aN;clear aN;refine ae λK2 ba=>?_;apply ag;apply ar;simp(disch:=omega)[bB,bc];have eG:bM (H++[.cells (cH s),.map (pE sj),.cells (mg ⟨f,w,l⟩),.cells [.int .i64 d,.sl ps.length (ints ps) .none]]) T:=by
    have:=bM.snoc (vs:=[.int .i64 d,.sl ps.length (ints ps) .none]) j4 zS;simpa using this
   refine af ?_;apply ag;refine aG (X:=Nat) (λk=>⟨[(1,.ptr H.length 0),(3,.aP (H.length+1)),(5,.ptr (H.length+2) 0),(7,.ptr (H.length+3) 0),(29,.sl s.aW.length (dB s.aW) .none),(30,.int .i64 (s.aW.length:Nat)),(31,.int .i64 (i:Nat)),(85,.sl l.length (bD l) .none),(86,.int .i64 (l.length:Nat)),(87,.int .i64 (j:Nat)),(92,.sl ps.length (ints ps) .none),(93,.int .i64 (ps.length:Nat)),(94,.int .i64 (k:Nat))],H++[.cells (cH s),.map (pE (sj++ff f (d,ps.take k))),.cells (mg ⟨f,w,l⟩),.cells [.int .i64 d,.sl ps.length (ints ps) .none]],T⟩)
    (λk=>k<=ps.length/\(sj++ff f (d,ps.take k)).Nodup/\(∀x∈sj++ff f (d,ps.take k),Rr x)/\bM (H++[.cells (cH s),.map (pE (sj++ff f (d,ps.take k))),.cells (mg ⟨f,w,l⟩),.cells [.int .i64 d,.sl ps.length (ints ps) .none]]) T) (λk=>ps.length-k) 0 ?_ ?_ ?_
   ·refine⟨ahE _,?_⟩;simp only[List.take_zero,ff,aju,ahS];exact⟨j2,j3,eG⟩
   ·have e0:sj++ff f (d,ps.take 0)=sj:=by simp[ff]
    refine ak [] [] ?_ ?_ ?_ ?_ (by rw[e0];exact eG) ?_
    all_goals simp[ff]
    all_goals (try omega)
   ·rintro k ⟨k1,k2,k3,k4⟩;have gV:=LP f (d,ps) k;simp only at gV;have aaw:ff f (d,ps)=ff f (d,ps.take k)++ff f (d,ps.drop k):=by
     unfold ff;simp only;rw[<-List.map_append,ah1]
    have afo:=dF ps k 0;have GM:∀h,sj++ff f (d,ps.take (k+1))=(sj++ff f (d,ps.take k))++[(f,d,ps.getD k 0)]:=λh=>by rw[gV h,ahM]
    have Wq:∀h:k<ps.length,ff f (d,ps.drop k)=(f,d,ps.getD k 0)::ff f (d,ps.drop (k+1)):=λh=>by unfold ff;simp only;rw[afo h];rfl
    have zk:k=ps.length->sj++ff f (d,ps.take k)=sj++ff f (d,ps):=λh=>by rw[h,ahO]
    rw[aaw,ahM,<-List.append_assoc] at fC;generalize hgk:sj++ff f (d,ps.take k)=sk at *;refine af ?_;refine ae λK3 bH=>?_;refine aV rfl (λwX=>?_) (λwX=>?_)
    ·simp  at wX;have hgi:=aS (xs:=ps) (k:=k) wX;have hpr:=w3 _ (aQ ps k 0 wX);replace GM:=GM wX;replace Wq:=Wq wX;generalize ps.getD k 0=x at *;have hR:Rr (f,d,x):=⟨by simp only;omega,by simp only;omega,by simp only;omega⟩
     have y6:nu prog 179 (.agg [.int .i64 f,.int .i64 d,.int .i64 x])=true:=ZH (f,d,x) hR;have mY:=aaB k3;have eI:=To sk (f,d,x);unfold wc at eI;simp only at eI;apply aj;refine zQ ?_;apply bH;clear bH;refine ae λK4 iQ=>?_;apply ag;apply ar;simp(disch:=omega)[hgi];refine af ?_;refine ae λK5 iT=>?_
     by_cases hm:(f,d,x)∈sk
     ·rw[ahx hm] at eI;apply ar;simp(disch:=omega)[Cb,DR,y6,mY,eI];apply aC rfl;refine af ?_;refine aI ?_;rw[<-List.append_nil T];refine bad (λnU=>?_) _ _ _ rfl;rw[fC,Wq] at nU;exact(aif.1 nU).2.2 _ hm (f,d,x) zS rfl
     ·rw[ahy hm] at eI;have jk:=Tl hm;unfold wc at jk;simp only at jk;apply ar;simp(disch:=omega)[Cb,DR,y6,mY,eI];apply aB rfl;apply aj;refine zQ ?_;apply iT;clear iT;refine br λK hK=>?_;simp(disch:=omega)[Cb,y6,mY,jk];apply hK;have hR2:∀y∈sk++[(f,d,x)],Rr y:=λy hy=>by
       rcases ahI.1 hy with h1|h1
       ·exact k3 y h1
       ·rw[aic.1 h1];exact hR
      have ae3:(sk++[(f,d,x)]).Nodup:=aif.2 ⟨k2,zS,λa ha b hb=>by rw[aic.1 hb];exact λe=>hm (e▸ha)⟩;have z8:bM (H++[.cells (cH s),.map (pE (sk++[(f,d,x)])),.cells (mg ⟨f,w,l⟩),.cells [.int .i64 d,.sl ps.length (ints ps) .none]]) T:=by
       have:=bM.sg (k:=H.length+1) (es:=pE (sk++[(f,d,x)])) k4 zS;simpa using this
      apply iQ;clear iQ;refine aJ ?_;refine⟨k+1,⟨by show k+1<=_;omega,?_,?_,?_⟩,by show ps.length-(k+1)<ps.length-k;omega,?_⟩
      ·rw[GM];exact ae3
      ·rw[GM];exact hR2
      ·rw[GM];exact z8
      ·refine ak [.cells [.int .i64 f,.int .i64 d,.int .i64 x]] [] ?_ ?_ ?_ ?_ (by rw[GM];exact z8) ?_
       all_goals simp[GM]
       all_goals (try omega)
    ·simp  at wX;have Gw:k=ps.length:=zO;have hsk:=zk Gw;apply aD;refine zQ ?_;apply ba;clear ba;refine aJ ?_;rw[hsk,<-Zx] at k2 k3;have No:bM (H++[.cells (cH s),.map (pE (seen++(l.take (j+1)).flatMap (ff f))),.cells (mg ⟨f,w,l⟩)]) T:=by
      have:=bM.sg (k:=H.length+1) (es:=pE (seen++(l.take (j+1)).flatMap (ff f))) j4 zS;simpa using this
     refine⟨j+1,⟨by show j+1<=_;omega,k2,k3,No⟩,by show l.length-(j+1)<l.length-j;omega,?_⟩;refine ak [.cells [.int .i64 d,.sl ps.length (ints ps) .none]] [] ?_ ?_ ?_ ?_ No ?_
     all_goals simp[hsk,Zx]
     all_goals (try omega)
  ·simp  at hk;have Rg:j=l.length:=zO;have Bp:seen++pH ⟨f,w,l⟩=sj:=by rw[fC,Rg,aiB];simp
   apply aD;refine zQ ?_;rw[<-Bp] at j2 j3 j4 ⊢;exact go j2 j3 j4 _ (by simp;try omega)
attribute [-simp] List.getD_eq_getElem?_getD in
theorem KP (aw:List Int)(aW:List Tm)(aH:List Cl)(f:Int)(x:List Nm)(i:Nat)(Sn:kI aw)(kW:aw.length<=1000)(yT:x.length<=1000)(es:List (cZ×AV))(H:List aA)(T:au)
  (eG:bM (H++[.cells (cH ⟨aw,aW,aH⟩),.map es,.cells (mW ⟨f,x⟩)]) T) (Q:Exit->St->Prop)
  (bad:∀k,k<x.length->mj aw x k=false->∀(e:Env)(rH:List aA)(rT:au),bO e 2=.bool false->Q .ret ⟨e,H++rH,T++rT⟩)
  (go:(∀k,k<x.length->mj aw x k=true)->∀e:Env,bA (H.length+3) T.length e [(1,.ptr H.length 0),(113,.sl aH.length (dP aH) .none),(114,.int .i64 (aH.length:Nat)),(115,.int .i64 (i:Nat))]->Q .normal ⟨e,H++[.cells (cH ⟨aw,aW,aH⟩),.map es,.cells (mW ⟨f,x⟩)],T⟩) :
  AW ⟨prog,195,154,H.length,T.length,[]⟩ (dZ [1,1,1,1,0,1,0,0,1,1,0,0,1,1] (Tryz.f60.body.getD .skip)) Q ⟨[(1,.ptr H.length 0),(12,.ptr (H.length+2) 0),(113,.sl aH.length (dP aH) .none),(114,.int .i64 (aH.length:Nat)),(115,.int .i64 (i:Nat))],H++[.cells (cH ⟨aw,aW,aH⟩),.map es,.cells (mW ⟨f,x⟩)],T⟩:=by
 conv=>arg 2;whnf
 have Wb:x.length<=9223372036854775807:=zO;refine af ?_;apply ag;refine aG (X:=Nat) (λk=>⟨[(1,.ptr H.length 0),(12,.ptr (H.length+2) 0),(113,.sl aH.length (dP aH) .none),(114,.int .i64 (aH.length:Nat)),(115,.int .i64 (i:Nat)),(151,.sl x.length (bG x) .none),(152,.int .i64 (x.length:Nat)),(153,.int .i64 (k:Nat))],H++[.cells (cH ⟨aw,aW,aH⟩),.map es,.cells (mW ⟨f,x⟩)],T⟩)
  (λk=>k<=x.length/\∀j,j<k->mj aw x j=true) (λk=>x.length-k) 0 ?_ ?_ ?_
 ·exact⟨ahE _,λj hj=>absurd hj (ahT _)⟩
 ·exact wk eG
 ·rintro m ⟨m1,m2⟩;refine af ?_;refine ae λK5 iT=>?_;refine aV rfl (λeL=>?_) (λeL=>?_)
  ·simp  at eL;have uo:=fH x m eL;have fg:mj aw x m=((decide ((x.getD m n0).2∈aw)&&decide (0<=(x.getD m n0).1/\(x.getD m n0).1<=1000000000000))&&(decide (m=0)||di (x.getD (m-1) n0) (x.getD m n0))):=rfl;have cn:=λH T=>vQ (x.getD (m-1) n0) (x.getD m n0) H T;have oG:=JE (x.getD (m-1) n0) (x.getD m n0);generalize xg (x.getD (m-1) n0) (x.getD m n0)=cq at *;have zW:=λh=>fH x (m-1) h;generalize x.getD (m-1) n0=y at *;generalize Uv:x.getD m n0=z at *;obtain⟨x1,x2⟩:=z;obtain⟨y1,y2⟩:=y;simp only at uo zW fg;apply aj;refine zQ ?_;apply iT;clear iT;refine ae λK6 jZ=>?_;apply ag;apply ar;simp(disch:=omega)[uo,cE];have z8:bM (H++[.cells (cH ⟨aw,aW,aH⟩),.map es,.cells (mW ⟨f,x⟩),.cells [.int .i64 x1,.int .i64 x2]]) T:=by
    have:=bM.snoc (vs:=[.int .i64 x1,.int .i64 x2]) eG zS;simpa using this
   have cb:=Ix aw x2 Sn zO (H++[.cells (cH ⟨aw,aW,aH⟩),.map es,.cells (mW ⟨f,x⟩),.cells [.int .i64 x1,.int .i64 x2]]) T .none;have c:=cn (H++[.cells (cH ⟨aw,aW,aH⟩),.map es,.cells (mW ⟨f,x⟩),.cells [.int .i64 x1,.int .i64 x2]]) T;apply ar;refine zQ ?_;refine⟨_,cb,?_⟩;rintro r H' T' ⟨rfl,rfl,ii,rfl⟩;refine zQ ?_;clear cb;refine cQ [] [] [] aO zK zK λK hK=>?_;have jE:∀e b,b=mj aw x m->bA (H.length+4) T'.length e [(1,.ptr H.length 0),(12,.ptr (H.length+2) 0),(113,.sl aH.length (dP aH) .none),(114,.int .i64 (aH.length:Nat)),(115,.int .i64 (i:Nat)),(151,.sl x.length (bG x) .none),(152,.int .i64 (x.length:Nat)),(153,.int .i64 (m:Nat)),(192,.bool (!b))]->K ⟨e,H++[.cells (cH ⟨aw,aW,aH⟩),.map es,.cells (mW ⟨f,x⟩),.cells [.int .i64 x1,.int .i64 x2]],T'⟩:=by
    intro e b2 j8 wY;refine hK _ (aF ⟨[(1,.ptr H.length 0),(12,.ptr (H.length+2) 0),(113,.sl aH.length (dP aH) .none),(114,.int .i64 (aH.length:Nat)),(115,.int .i64 (i:Nat)),(151,.sl x.length (bG x) .none),(152,.int .i64 (x.length:Nat)),(153,.int .i64 (m:Nat)),(192,.bool (!b2))],H++[.cells (cH ⟨aw,aW,aH⟩),.map es,.cells (mW ⟨f,x⟩)],T'⟩ (ak [.cells [.int .i64 x1,.int .i64 x2]] [] zS zS zS zS eG (zU wY)) ?_)
    cases b2 with
    |false=>
     apply aC rfl;refine af ?_;apply bu;rw[<-List.append_nil T'];exact bad m eL j8.symm _ _ _ rfl
    |true=>
     apply aB rfl;apply aj;refine zQ ?_;apply jZ;clear jZ;refine aJ ?_;refine⟨m+1,⟨by show m+1<=_;omega,λj hj=>?_⟩,by show x.length-(m+1)<x.length-m;omega,?_⟩
     ·rcases ahD j m with h|h
      ·exact m2 j h
      ·have:j=m:=zO;subst this;exact j8.symm
     ·exact wk eG
   clear hK
   by_cases v0:x2∈aw
   rotate_left
   ·simp(disch:=omega)[v0];refine jE _ false (by rw[fg,ahy v0];rfl) zS
   rw[ahx v0,aio] at fg
   by_cases v3:x1<0
   ·have w3:decide (x1<0)=true:=ahx v3;simp(disch:=omega)[v0,w3,v3];refine jE _ false (by rw[fg,ahy (by omega:¬(0<=x1/\x1<=1000000000000))];rfl) zS
   have w3:decide (x1<0)=false:=ahy v3
   by_cases v4:1000000000000<x1
   ·have w4:decide (1000000000000<x1)=true:=ahx v4;simp(disch:=omega)[v0,w3,v3,w4,v4];refine jE _ false (by rw[fg,ahy (by omega:¬(0<=x1/\x1<=1000000000000))];rfl) zS
   have w4:decide (1000000000000<x1)=false:=ahy v4;rw[ahx (by omega:0<=x1/\x1<=1000000000000),aio] at fg;rcases ah0 m with h5|h5
   ·subst h5;simp(disch:=omega)[v0,w3,v3,w4,v4];refine jE _ true (by rw[fg];rfl) zS
   ·have e6:((m:Int)-1)=((m-1:Nat):Int):=zO;have b5:decide ((0:Int)<(m:Int))=true:=ahx zO;have pO:=zW zO;rw[ahy (by omega:¬m=0),aiY] at fg
    cases bp:di (y1,y2) (x1,x2) with
    |false=>
     have b7:decide (0<=cq)=true:=ahx (oG.2 bp);have n7:=oG.2 bp;rw[bp] at fg;simp(disch:=omega)[v0,w3,v3,w4,v4,b5,h5,e6,pO,cE];refine az (c) rfl ?_;simp(disch:=omega)[b7,n7];refine jE _ false fg.symm zS
    |true=>
     have n7:¬0<=cq:=λe=>by rw[oG.1 e] at bp;cases bp
     have b7:decide (0<=cq)=false:=ahy n7;rw[bp] at fg;simp(disch:=omega)[v0,w3,v3,w4,v4,b5,h5,e6,pO,cE];refine az (c) rfl ?_;simp(disch:=omega)[b7,n7];refine jE _ true fg.symm zS
  ·simp  at eL;apply aD;refine zQ ?_;exact go (λk h=>m2 k zO) _ zS
attribute [-simp] List.getD_eq_getElem?_getD in
theorem KQ (s:Sg)(hs:rz s)(hd:jI s.aw 1 1000000000=true)(aaA:s.aw.length<=2000)(ht:(∀i,i<s.aW.length->np s.aW i=true/\yR s.aw (s.aW.getD i t0).l=true)/\(pC s.aW).Nodup)(es:List (cZ×AV))
  (H:List aA) (T:au) (HO:bM (H++[.cells (cH s),.map es]) T) :
  AW ⟨prog,195,154,H.length,T.length,[]⟩ (dZ [1,1,1,1] (Tryz.f60.body.getD .skip)) (pR prog Tryz.f60.results.toList λr H' T'=>(∃rH,H'=H++rH)/\(∃rT,T'=T++rT)/\(r=.bool (aT s)\/cL r=.bool (aT s))) ⟨[(1,.ptr H.length 0),(3,.aP (H.length+1))],H++[.cells (cH s),.map es],T⟩:=by
 conv=>arg 2;whnf
 have Sn:=iY hd;have kW:s.aw.length<=1000:=ahA hs.d zO;have gg:=hs.c;have hx:=hs.x;have bad:=λi h=>Ar (s:=s) (i:=i) h;have sa:=λi k h=>D5 (s:=s) (i:=i) (k:=k) h;have sT:=qp hd aaA ht.1 ht.2;obtain⟨aw,aW,aH⟩:=s;simp only at Sn kW gg hx bad sa sT;generalize hq:aT ⟨aw,aW,aH⟩=q at *;have afq:aH.length<=9223372036854775807:=zO;refine ae λK1 aN=>?_;refine af ?_;apply ag;refine aG (X:=Nat) (λi=>⟨[(1,.ptr H.length 0),(113,.sl aH.length (dP aH) .none),(114,.int .i64 (aH.length:Nat)),(115,.int .i64 (i:Nat))],H++[.cells (cH ⟨aw,aW,aH⟩),.map es],T⟩)
  (λi=>i<=aH.length/\∀j,j<i->pL aH j=true/\∀k,k<(aH.getD j c0).x.length->mj aw (aH.getD j c0).x k=true) (λi=>aH.length-i) 0 ?_ ?_ ?_
 ·exact⟨ahE _,λj hj=>absurd hj (ahT _)⟩
 ·exact wk HO
 ·rintro i ⟨g1,g2⟩;refine af ?_;refine ae λK2 ba=>?_;refine aV rfl (λhk=>?_) (λhk=>?_)
  ·simp  at hk;have bB:=tU aH i hk;have yT:=hx _ (aQ aH i c0 hk);have iS:pL aH i=((decide (5<=(aH.getD i c0).f/\(aH.getD i c0).f<=7)&&decide ((aH.getD i c0).x≠[]))&&(decide (i=0)||decide ((aH.getD (i-1) c0).f<(aH.getD i c0).f))):=rfl;have gA:=λh=>(Co aH (i-1) h).1;generalize (aH.getD (i-1) c0).f=fp at *;replace sa:=λk=>sa i k hk;have kJ:(∀k,k<(aH.getD i c0).x.length->mj aw (aH.getD i c0).x k=true)->pL aH i=true->∀j,j<i+1->pL aH j=true/\∀k,k<(aH.getD j c0).x.length->mj aw (aH.getD j c0).x k=true:=λh1 h2 j hj=>by
    rcases ahD j i with h|h
    ·exact g2 j h
    ·have:j=i:=zO;subst this;exact⟨h2,h1⟩
   generalize aH.getD i c0=c at *;obtain⟨f,x⟩:=c;simp only at bB yT iS sa kJ;have Wb:x.length<=9223372036854775807:=zO;apply aj;refine zQ ?_;apply ba;clear ba;refine ae λK3 bH=>?_;apply ag;apply ar;simp(disch:=omega)[bB,fl];have eG:bM (H++[.cells (cH ⟨aw,aW,aH⟩),.map es,.cells (mW ⟨f,x⟩)]) T:=by
    have:=bM.snoc (vs:=mW ⟨f,x⟩) HO zS;simpa using this
   refine ae λK4 iQ=>?_;refine cQ [] [] [] aO zK zK λK hK=>?_;have key:∀e b,b=pL aH i->bA (H.length+3) T.length e [(1,.ptr H.length 0),(12,.ptr (H.length+2) 0),(113,.sl aH.length (dP aH) .none),(114,.int .i64 (aH.length:Nat)),(115,.int .i64 (i:Nat)),(149,.bool (!b))]->K ⟨e,H++[.cells (cH ⟨aw,aW,aH⟩),.map es,.cells (mW ⟨f,x⟩)],T⟩:=by
    intro e b hb he;refine hK _ (aF ⟨[(1,.ptr H.length 0),(12,.ptr (H.length+2) 0),(113,.sl aH.length (dP aH) .none),(114,.int .i64 (aH.length:Nat)),(115,.int .i64 (i:Nat)),(149,.bool (!b))],H++[.cells (cH ⟨aw,aW,aH⟩),.map es,.cells (mW ⟨f,x⟩)],T⟩ (wk eG (zU he)) ?_)
    cases b with
    |false=>
     apply aC rfl;refine af ?_;refine aI ?_;rw[bad i hk hb.symm]
    |true=>
    apply aB rfl;apply aj;refine zQ ?_;apply iQ;clear iQ;refine aF ⟨[(1,.ptr H.length 0),(12,.ptr (H.length+2) 0),(113,.sl aH.length (dP aH) .none),(114,.int .i64 (aH.length:Nat)),(115,.int .i64 (i:Nat))],H++[.cells (cH ⟨aw,aW,aH⟩),.map es,.cells (mW ⟨f,x⟩)],T⟩ (wk eG) ?_;refine KP aw aW aH f x i Sn kW yT es H T eG _ (λk wX RR e rH rT he=>?_) λhg e he=>?_
    ·show pR prog Tryz.f60.results.toList (λr H' T'=>(∃rH,H'=H++rH)/\(∃rT,T'=T++rT)/\(r=.bool q\/cL r=.bool q)) .ret _;simp[he,sa k wX RR]
    ·refine bH _ (aF ⟨[(1,.ptr H.length 0),(113,.sl aH.length (dP aH) .none),(114,.int .i64 (aH.length:Nat)),(115,.int .i64 (i:Nat))],H++[.cells (cH ⟨aw,aW,aH⟩),.map es],T⟩ (ak [.cells (mW ⟨f,x⟩)] [] zS zS zS zS HO (zU he)) ?_);refine aJ ?_;refine⟨i+1,⟨by show i+1<=_;omega,kJ hg hb.symm⟩,by show aH.length-(i+1)<aH.length-i;omega,?_⟩;exact wk HO
   by_cases v1:f<5
   ·have w1:decide (f<5)=true:=ahx v1;simp(disch:=omega)[w1,v1];refine key _ false (by rw[iS,ahy (by omega:¬(5<=f/\f<=7))];rfl) zS
   have w1:decide (f<5)=false:=ahy v1
   by_cases v2:7<f
   ·have w2:decide (7<f)=true:=ahx v2;simp(disch:=omega)[w1,v1,w2,v2];refine key _ false (by rw[iS,ahy (by omega:¬(5<=f/\f<=7))];rfl) zS
   have w2:decide (7<f)=false:=ahy v2;rw[ahx (by omega:5<=f/\f<=7),aio] at iS
   by_cases v3:x.length=0
   ·have e3:x=[]:=ah9.1 v3;subst e3;simp(disch:=omega)[w1,v1,w2,v2];refine key _ false (by rw[iS];rfl) zS
   have w3:((x.length:Int)==0)=false:=ah8.2 zO;have n3:x≠[]:=λe=>v3 (by rw[e];rfl);rw[ahx n3,aio] at iS;rcases ah0 i with h5|h5
   ·subst h5;simp(disch:=omega)[w1,v1,w2,v2,w3,n3];refine key _ true (by rw[iS];rfl) zS
   ·have e6:((i:Int)-1)=((i-1:Nat):Int):=zO;have b5:decide ((0:Int)<(i:Int))=true:=ahx zO;have sS:=gA zO;rw[ahy (by omega:¬i=0),aiY] at iS
    by_cases v4:f<=fp
    ·have w4:decide (f<=fp)=true:=ahx v4;simp(disch:=omega)[w1,v1,w2,v2,w3,n3,b5,h5,e6,sS,fl,w4,v4];refine key _ false (by rw[iS,ahy (by omega:¬fp<f)]) zS
    ·have w4:decide (f<=fp)=false:=ahy v4;simp(disch:=omega)[v1,v2,w3,h5,e6,sS,fl,v4];refine key _ true (by rw[iS,ahx (by omega:fp<f)]) zS
  ·simp  at hk;apply aD;refine zQ ?_;apply aN;clear aN;refine af ?_;refine aI ?_;rw[sT (λj hj=>g2 j zO)]
def OB {a b:List Int}(ha:jI a 1 1000000000=true)(hb:jI b 1 1000000000=true):(comb (λ_ q=>!q) a b).length=0↔∀x∈a,x∈b:=by
 obtain⟨_,h⟩:=iM (λ_ q=>!q) (a:=a) (b:=b) ha hb
 constructor
 ·intro h0 x hx;have e:=ah9.1 h0;rw[e] at h
  by_cases hb:x∈b
  ·exact hb
  ·exact absurd ((h x).2 (.inl ⟨hx,hb,rfl⟩)) zS
 ·intro h1;refine ah9.2 (aiQ.2 λx hx=>?_);rcases (h x).1 hx with h2|h2|h2
  ·exact h2.2.1 (h1 x h2.1)
  ·simp at h2
  ·simp at h2
attribute [-simp] List.getD_eq_getElem?_getD in
def KM (a b:List Int)(ha:a.length<=1000)(hb:b.length<=1000)(H:List aA)(T:au):aq prog 112 [.sl a.length (ints a) .none,.sl b.length (ints b) .none] H T (Is (.bool (decide ((comb (λ_ q=>!q) a b).length=0))) H T):=by
 have c:=oX a b ha hb H T .none .none;have hl:=tS (λ_ q=>!q) a b;generalize comb (λ_ q=>!q) a b=r at *;have e:((r.length:Int)==0)=decide (r.length=0):=by
  rw[aj2];simp
 refine ah 12 [] Tryz.ntmps112 Tryz.func112 rfl (λ_ _=>Tryz.call112 _ _) zS (λHO=>?_);refine af ?_;apply ar;refine zQ ?_;refine ai (c) ?_;simp(disch:=omega)[e];refine aI ?_;exact⟨by simp[e],rfl,rfl⟩
attribute [-simp] List.getD_eq_getElem?_getD in
theorem kj (s:Sg)(hs:rz s)(H:List aA)(T:au):aq prog 60 [jh s] H T (Is (.bool (aT s)) H T):=by
 refine aq.bK ?_ zS;have eu:bM H T->bM (H++[.cells (cH s)]) T:=λh=>h.snoc zS;have c1:=λH=>iN s.aw (ahA hs.d zD) H T .none;have hd:=hs.d;have sM:=hs.t;have aeN:s.aW.length<=9223372036854775807:=zO;have n2:¬(2000:Int)<s.aw.length:=zO;have b2:decide ((2000:Int)<s.aw.length)=false:=ahy n2;refine ah 154 [] Tryz.ntmps60 Tryz.func60 rfl (λ_ _=>Tryz.call60 _ _) zS (λHO=>?_);refine af ?_;refine ae λK1 aN=>?_;have UJ:bM (H++[.cells (cH s)]) T:=HO.snoc zS
 cases CX:jI s.aw 1 1000000000 with
 |false=>
  rw[CX] at c1;apply ar;refine zQ ?_;refine ai (c1 _) ?_;refine zQ ?_;apply aC rfl;refine af ?_;refine aI ?_;rw[qq CX]
 |true=>
 rw[CX] at c1;apply ar;refine zQ ?_;refine ai (c1 _) ?_;simp(disch:=omega)[b2,n2];apply aB rfl;apply aj;refine zQ ?_;apply aN;clear aN;refine af ?_;have HOb:bM (H++[.cells (cH s),.map []]) T:=by
  have:=bM.sg (k:=H.length+1) (es:=[]) (UJ.snoc (vs:=[]) zS) zS;simpa using this
 refine ae λK1 aN=>?_;refine af ?_;apply ag;refine aG (X:=Nat) (λi=>⟨[(1,.ptr H.length 0),(3,.aP (H.length+1)),(29,.sl s.aW.length (dB s.aW) .none),(30,.int .i64 (s.aW.length:Nat)),(31,.int .i64 (i:Nat))],H++[.cells (cH s),.map (pE (pC (s.aW.take i)))],T⟩)
  (λi=>i<=s.aW.length/\(∀j,j<i->np s.aW j=true/\yR s.aw (s.aW.getD j t0).l=true)/\(pC (s.aW.take i)).Nodup/\(∀k∈pC (s.aW.take i),Rr k)/\bM (H++[.cells (cH s),.map (pE (pC (s.aW.take i)))]) T) (λi=>s.aW.length-i) 0 ?_ ?_ ?_
 ·exact⟨ahE _,λj hj=>absurd hj (ahT _),.nil,by simp[pC],HOb⟩
 ·refine ak [] [] ?_ ?_ ?_ ?_ HOb ?_
  all_goals simp[pC,pE]
 ·rintro i ⟨g1,g2,g3,g4,g5⟩;have mY:=λh=>me s.aW pH t0 i h;refine af ?_;refine ae λK2 ba=>?_;refine aV rfl (λhk=>?_) (λhk=>?_)
  ·simp  at hk;have bB:=kN s.aW i hk;obtain⟨q1,q2,q3⟩:=hs.w _ (aQ s.aW i t0 hk);apply aj;refine zQ ?_;apply ba;clear ba;refine ae λK3 bH=>?_;apply ag;apply ar;simp(disch:=omega)[bB,cT];have R8:bM (H++[.cells (cH s),.map (pE (pC (s.aW.take i))),.cells (mg (s.aW.getD i t0))]) T:=by
    have:=bM.snoc (vs:=mg (s.aW.getD i t0)) g5 zS;simpa using this
   have Kw:np s.aW i=false->aT s=false:=λh=>Ap hk h;have Ds:yR s.aw (s.aW.getD i t0).l=false->aT s=false:=λh=>D4 hk h;have iS:np s.aW i=((decide (1<=(s.aW.getD i t0).f/\(s.aW.getD i t0).f<=4)&&okW (s.aW.getD i t0).w)&&(decide (i=0)||bS (s.aW.getD (i-1) t0).k (s.aW.getD i t0).k)):=rfl;have zW:=λh=>kN s.aW (i-1) h;have kJ:np s.aW i=true->yR s.aw (s.aW.getD i t0).l=true->∀j,j<i+1->np s.aW j=true/\yR s.aw (s.aW.getD j t0).l=true:=λh1 h2 j hj=>by
    rcases ahD j i with h|h
    ·exact g2 j h
    ·have:j=i:=zO;subst this;exact⟨h1,h2⟩
   have zM:pC (s.aW.take (i+1))=pC (s.aW.take i)++pH (s.aW.getD i t0):=mY hk;have NT:¬(pC (s.aW.take i)++pH (s.aW.getD i t0)).Nodup->aT s=false:=λh=>Aq λhn=>h (by
    rw[<-zM];refine List.Nodup.sublist ?_ hn;have:pC s.aW=pC (s.aW.take (i+1))++pC (s.aW.drop (i+1)):=by unfold pC;rw[<-List.flatMap_append,ah1]
    rw[this];exact List.sublist_append_left _ _)
   have pQ:yR s.aw (s.aW.getD i t0).l=((decide ((s.aW.getD i t0).l≠[])&&cC (s.aW.getD i t0).l)&&decide (∀p∈(s.aW.getD i t0).l,p.1∈s.aw)):=rfl;generalize s.aW.getD (i-1) t0=tp at *;generalize agN:pC (s.aW.take i)=seen at *;generalize s.aW.getD i t0=t at *;clear mY;have cw:=λH=>DY t.w q1 H T;have ck:=λH=>ri tp.k t.k (.sl tp.l.length (bD tp.l) .none) (.sl t.l.length (bD t.l) .none) H T;have oG:=T8 tp.k t.k;generalize r9 tp.k t.k=cq at *;generalize bS tp.k t.k=bq at *;obtain⟨f,w,l⟩:=t;simp only at q1 q2 q3 bB cw ck iS pQ Ds kJ;refine ae λK4 iQ=>?_;refine cQ [] [] [] aO zK zK λK hK=>?_;have key:∀e b,b=np s.aW i->bA (H.length+3) T.length e [(1,.ptr H.length 0),(3,.aP (H.length+1)),(5,.ptr (H.length+2) 0),(29,.sl s.aW.length (dB s.aW) .none),(30,.int .i64 (s.aW.length:Nat)),(31,.int .i64 (i:Nat)),(64,.bool (!b))]->K ⟨e,H++[.cells (cH s),.map (pE seen),.cells (mg ⟨f,w,l⟩)],T⟩:=by
    intro e b hb he;refine hK _ (aF ⟨[(1,.ptr H.length 0),(3,.aP (H.length+1)),(5,.ptr (H.length+2) 0),(29,.sl s.aW.length (dB s.aW) .none),(30,.int .i64 (s.aW.length:Nat)),(31,.int .i64 (i:Nat)),(64,.bool (!b))],H++[.cells (cH s),.map (pE seen),.cells (mg ⟨f,w,l⟩)],T⟩ (wk R8 (zU he)) ?_)
    cases b with
    |false=>
     apply aC rfl;refine af ?_;refine aI ?_;rw[Kw hb.symm]
    |true=>
    apply aB rfl;apply aj;refine zQ ?_;apply iQ;clear iQ;have hf:1<=f/\f<=4:=by
     rw[<-hb] at iS;have:=iS.symm;simp only[ahG,ahH] at this;exact this.1.1
    refine ae λK5 iT=>?_;refine cQ [] [] [] aO zK zK λK hK=>?_;have jE:∀e b,b=yR s.aw l->bA (H.length+3) T.length e [(1,.ptr H.length 0),(3,.aP (H.length+1)),(5,.ptr (H.length+2) 0),(29,.sl s.aW.length (dB s.aW) .none),(30,.int .i64 (s.aW.length:Nat)),(31,.int .i64 (i:Nat)),(83,.bool (!b))]->K ⟨e,H++[.cells (cH s),.map (pE seen),.cells (mg ⟨f,w,l⟩)],T⟩:=by
     intro e b2 j8 wY;refine hK _ (aF ⟨[(1,.ptr H.length 0),(3,.aP (H.length+1)),(5,.ptr (H.length+2) 0),(29,.sl s.aW.length (dB s.aW) .none),(30,.int .i64 (s.aW.length:Nat)),(31,.int .i64 (i:Nat)),(83,.bool (!b2))],H++[.cells (cH s),.map (pE seen),.cells (mg ⟨f,w,l⟩)],T⟩ (wk R8 (zU wY)) ?_)
     cases b2 with
     |false=>
      apply aC rfl;refine af ?_;refine aI ?_;rw[Ds j8.symm]
     |true=>
     have Gt:cC l=true:=by
      rw[<-j8] at pQ;have:=pQ.symm;simp only[ahG,ahH] at this;exact this.1.2
     apply aB rfl;apply aj;refine zQ ?_;apply iT;clear iT;refine aF ⟨[(1,.ptr H.length 0),(3,.aP (H.length+1)),(5,.ptr (H.length+2) 0),(29,.sl s.aW.length (dB s.aW) .none),(30,.int .i64 (s.aW.length:Nat)),(31,.int .i64 (i:Nat))],H++[.cells (cH s),.map (pE seen),.cells (mg ⟨f,w,l⟩)],T⟩ (wk R8) ?_;refine KO s ⟨f,w,l⟩ i q2 q3 hf Gt seen g4 g3 H T R8 _ (λhn e rH rT he=>?_) λhn hp hO e he=>?_
     ·show pR prog Tryz.f60.results.toList (λr H' T'=>(∃rH,H'=H++rH)/\(∃rT,T'=T++rT)/\(r=.bool (aT s)\/cL r=.bool (aT s))) .ret _;simp[he,NT hn]
     ·rw[<-zM] at hn hp hO ⊢;have Nj:bM (H++[.cells (cH s),.map (pE (pC (s.aW.take (i+1))))]) T:=by
       have:=bM.sg (k:=H.length+1) (es:=pE (pC (s.aW.take (i+1)))) g5 zS;simpa using this
      refine bH _ (aF ⟨[(1,.ptr H.length 0),(3,.aP (H.length+1)),(29,.sl s.aW.length (dB s.aW) .none),(30,.int .i64 (s.aW.length:Nat)),(31,.int .i64 (i:Nat))],H++[.cells (cH s),.map (pE (pC (s.aW.take (i+1))))],T⟩ (ak [.cells (mg ⟨f,w,l⟩)] [] zS zS zS zS Nj (zU he)) ?_);refine aJ ?_;refine⟨i+1,⟨by show i+1<=_;omega,kJ hb.symm j8.symm,hn,hp,Nj⟩,by show s.aW.length-(i+1)<s.aW.length-i;omega,?_⟩;exact wk Nj
    clear hK
    by_cases v3:l.length=0
    ·have e3:l=[]:=ah9.1 v3;subst e3;refine zQ ?_;refine jE _ false (by rw[pQ];rfl) zS
    have w3:((l.length:Int)==0)=false:=ah8.2 zO;have n3:l≠[]:=λe=>v3 (by rw[e];rfl);rw[ahx n3,aio] at pQ;have XI:1000<=maxLen:=zD;have cv:=λH=>jP l (ahA q2 zO) (λp hp=>ahA (q3 p hp) XI) H T .none;have cd:=λH=>E6 l (ahA q2 zO) (λp hp=>ahA (q3 p hp) XI) H T .none
    cases Gt:cC l with
    |false=>
     rw[Gt] at cv pQ;simp(disch:=omega)[w3,n3];refine az (cv _) rfl ?_;refine zQ ?_;refine jE _ false (by rw[pQ];rfl) zS
    |true=>
     rw[Gt] at cv pQ;have kW:lC l=aw l:=by unfold lC;rw[ahF Gt]
     rw[kW] at cd;have cwi:=λH=>KM (aw l) s.aw (by simp[aw];exact q2) hd H T;have Bo:jI (aw l) 1 1000000000=true:=by unfold cC at Gt;rw[ahG] at Gt;exact Gt.1
     have hwd:decide ((comb (λ_ q=>!q) (aw l) s.aw).length=0)=decide (∀p∈l,p.1∈s.aw):=by
      rw[aj2,ahH,ahH,OB Bo CX];simp only[aw,ahz,forall_exists_index,and_imp,forall_apply_eq_imp_iff₂]
     rw[hwd] at cwi;rw[aio] at pQ;generalize decide (∀p∈l,p.1∈s.aw)=bb at *;simp(disch:=omega)[w3,n3];refine az (cv _) rfl ?_;refine zQ ?_;refine az (cd _) rfl ?_;refine zQ ?_;refine az (cwi _) rfl ?_;refine zQ ?_;refine jE _ bb pQ.symm zS
   clear hK
   by_cases v1:f<1
   ·have w1:decide (f<1)=true:=ahx v1;simp(disch:=omega)[w1,v1];refine key _ false (by rw[iS,ahy (by omega:¬(1<=f/\f<=4))];rfl) zS
   have w1:decide (f<1)=false:=ahy v1
   by_cases v2:4<f
   ·have w2:decide (4<f)=true:=ahx v2;simp(disch:=omega)[w1,v1,w2,v2];refine key _ false (by rw[iS,ahy (by omega:¬(1<=f/\f<=4))];rfl) zS
   have w2:decide (4<f)=false:=ahy v2;rw[ahx (by omega:1<=f/\f<=4),aio] at iS
   cases hw:okW w with
   |false=>
    rw[hw] at cw iS;simp(disch:=omega)[w1,v1,w2,v2];refine az (cw _) rfl ?_;refine zQ ?_;refine key _ false (by rw[iS];rfl) zS
   |true=>
   rw[hw] at cw iS;rcases ah0 i with h5|h5
   ·subst h5;simp(disch:=omega)[w1,v1,w2,v2];refine az (cw _) rfl ?_;refine zQ ?_;refine key _ true (by rw[iS];rfl) zS
   ·have e6:((i:Int)-1)=((i-1:Nat):Int):=zO;have b5:decide ((0:Int)<(i:Int))=true:=ahx zO;have pO:=zW zO;rw[ahy (by omega:¬i=0),aiY,aio] at iS
    cases bq with
    |false=>
     have n7:=oG.2 rfl;have b7:decide (0<=cq)=true:=ahx n7;simp(disch:=omega)[w1,v1,w2,v2];refine az (cw _) rfl ?_;simp(disch:=omega)[b5,h5,e6,pO,cT];refine az (ck _) rfl ?_;simp(disch:=omega)[b7,n7];refine key _ false (by rw[iS]) zS
    |true=>
     have n7:¬0<=cq:=λe=>by have:=oG.1 e;cases this
     have b7:decide (0<=cq)=false:=ahy n7;simp(disch:=omega)[w1,v1,w2,v2];refine az (cw _) rfl ?_;simp(disch:=omega)[b5,h5,e6,pO,cT];refine az (ck _) rfl ?_;simp(disch:=omega)[b7,n7];refine key _ true (by rw[iS]) zS
  ·simp  at hk;apply aD;refine zQ ?_;apply aN;clear aN;have hi:i=s.aW.length:=zO;subst hi;rw[ahO] at g3 g4 g5 ⊢;refine aF ⟨[(1,.ptr H.length 0),(3,.aP (H.length+1))],H++[.cells (cH s),.map (pE (pC s.aW))],T⟩ (wk g5) ?_;exact KQ s hs CX zO ⟨g2,g3⟩ (pE (pC s.aW)) H T g5
end Go.Proofs.YtoejlmpbebjemaaGreat
