/- Segments (layer 39): what a valid one is; places as the keys of a map. segment.Valid (layer 39): the places of a term. segment.Valid (layer 39): the columns. segment.Valid (layer 39).
  Conditions: lengths below 1000 or 1000, as each theorem says. -/
import Derived.Test.YtoejlmpbebjemaaGreatGBC
import Derived.Test.YtoejlmpbebjemaaGreatPZ
set_option linter.all false
set_option maxRecDepth 100000
set_option maxHeartbeats 16000000

namespace eT
open im
abbrev Pl:=Int×Int×Int
def fg (f:Int)(p:Ps):List Pl:=p.2.map λa=>(f,p.1,a)
def pq (t:Tm):List Pl:=t.l.flatMap (fg t.f)
def qL (l:List Tm):List Pl:=l.flatMap pq
abbrev Tm.k (t:Tm):Ky:=(t.f,t.w)
end eT
namespace Go.Proofs.YtoejlmpbebjemaaGreat
open Go.Proofs.Tryz(prog)
open Go Go.Am im eT
abbrev dC (s:Sg):List AV:=[.sl s.aA.length (ints s.aA) .none,.sl s.bK.length (dx s.bK) .none,.sl s.aN.length (dJ s.aN) .none]
def IV (aA:List Int)(l:List Ps):Bool:=(decide (l≠[])&&dT l)&&decide (∀p∈l,p.1∈aA)
def rB (l:List Tm)(i:Nat):Bool:=(decide (1<=(l.getD i t0).f/\(l.getD i t0).f<=4)&&okW (l.getD i t0).w)&&(decide (i=0)||bP (l.getD (i-1) t0).k (l.getD i t0).k)
def XA (aA:List Int)(l:List Tm)(i:Nat):Bool:=rB l i&&IV aA (l.getD i t0).l
def sC (aA:List Int)(x:List Nm)(k:Nat):Bool:=(decide ((x.getD k n0).2∈aA)&&decide (0<=(x.getD k n0).1/\(x.getD k n0).1<=1000000000000))&&(decide (k=0)||dh (x.getD (k-1) n0) (x.getD k n0))
def I7 (aA:List Int)(x:List Nm):Bool:=(List.range x.length).all (sC aA x)
def wQ (l:List Cl)(i:Nat):Bool:=(decide (5<=(l.getD i c0).f/\(l.getD i c0).f<=7)&&decide ((l.getD i c0).x≠[]))&&(decide (i=0)||decide ((l.getD (i-1) c0).f<(l.getD i c0).f))
def VJ (aA:List Int)(l:List Cl)(i:Nat):Bool:=wQ l i&&I7 aA (l.getD i c0).x
def NS (s:Sg):Bool:=(List.range s.bK.length).all (XA s.aA s.bK)&&decide (qL s.bK).Nodup
def Se (s:Sg):Bool:=(List.range s.aN.length).all (VJ s.aA s.aN)
def aX (s:Sg):Bool:=(oZ s.aA 1 1000000000&&decide (s.aA.length<=2000))&&(NS s&&Se s)
structure ve (s:Sg):Prop where
 d:s.aA.length<=1000
 t:s.bK.length<=1000
 w:∀t∈s.bK,t.w.length<=maxLen/\t.l.length<=1000/\∀p∈t.l,p.2.length<=1000
 c:s.aN.length<=1000
 x:∀c∈s.aN,c.x.length<=1000
def Fq {s:Sg}(h:oZ s.aA 1 1000000000=false):aX s=false:=by unfold aX;rw[h];rfl
def DL {s:Sg}{i:Nat}(hi:i<s.bK.length)(h:XA s.aA s.bK i=false):aX s=false:=by
 unfold aX NS;rw[mR hi h];simp
def KY {s:Sg}{i:Nat}(hi:i<s.bK.length)(h:rB s.bK i=false):aX s=false:=DL hi (by unfold XA;rw[h];rfl)
def Pn {s:Sg}{i:Nat}(hi:i<s.bK.length)(h:IV s.aA (s.bK.getD i t0).l=false):aX s=false:=DL hi (by unfold XA;rw[h];simp)
def KZ {s:Sg}(h:¬(qL s.bK).Nodup):aX s=false:=by
 unfold aX NS;rw[ahn h];simp
def DM {s:Sg}{i:Nat}(hi:i<s.aN.length)(h:VJ s.aA s.aN i=false):aX s=false:=by
 unfold aX Se;rw[mR hi h];simp
def K0 {s:Sg}{i:Nat}(hi:i<s.aN.length)(h:wQ s.aN i=false):aX s=false:=DM hi (by unfold VJ;rw[h];rfl)
def Po {s:Sg}{i k:Nat}(hi:i<s.aN.length)(hk:k<(s.aN.getD i c0).x.length)(h:sC s.aA (s.aN.getD i c0).x k=false):aX s=false:=DM hi (by unfold VJ I7;rw[mR hk h];simp)
def vp {s:Sg}(h1:oZ s.aA 1 1000000000=true)(h2:s.aA.length<=2000)(h3:∀i,i<s.bK.length->rB s.bK i=true/\IV s.aA (s.bK.getD i t0).l=true)(h4:(qL s.bK).Nodup)
  (h5:∀i,i<s.aN.length->wQ s.aN i=true/\∀k,k<(s.aN.getD i c0).x.length->sC s.aA (s.aN.getD i c0).x k=true):aX s=true:=by
 unfold aX NS Se;rw[h1,ahm h2,ahm h4,iQ (λi hi=>by unfold XA;rw[(h3 i hi).1,(h3 i hi).2];rfl),iQ (λi hi=>by unfold VJ I7;rw[(h5 i hi).1,iQ (h5 i hi).2];rfl)];rfl
def iC {s:Sg}(h:aX s=true):(oZ s.aA 1 1000000000=true/\s.aA.length<=2000)/\((∀i,i<s.bK.length->rB s.bK i=true/\IV s.aA (s.bK.getD i t0).l=true)/\(qL s.bK).Nodup)/\
  (∀i,i<s.aN.length->wQ s.aN i=true/\∀k,k<(s.aN.getD i c0).x.length->sC s.aA (s.aN.getD i c0).x k=true):=by
 unfold aX NS Se at h;simp only[aht,ahv] at h;obtain⟨⟨a,b⟩,⟨c,d⟩,e⟩:=h;refine⟨⟨a,b⟩,⟨λi hi=>?_,d⟩,λi hi=>?_⟩
 ·have:=oC c hi;unfold XA at this;simpa[aht] using this
 ·have:=oC e hi;unfold VJ I7 at this;rw[aht] at this;exact⟨this.1,λk hk=>oC this.2 hk⟩
def vV (k:Pl):cQ:=.agg [.int .i64 k.1,.int .i64 k.2.1,.int .i64 k.2.2]
def pk (l:List Pl):List (cQ×AV):=l.map λk=>(vV k,.bool true)
def Eu {a b:Pl}:vV a=vV b↔a=b:=by
 obtain⟨a1,a2,a3⟩:=a;obtain⟨b1,b2,b3⟩:=b;simp[vV]
theorem Ty (l:List Pl)(k:Pl):jg (pk l) (vV k) (.bool false) false=.bool (decide (k∈l)):=by
 unfold jg;simp only[aik,ai5]
 induction l with
 |nil=>rfl
 |cons x r ih=>
  simp only[pk,ahX,vR,Eu] at ih ⊢
  by_cases h:x=k
  ·rw[ahs h];simp[h]
  ·rw[ahq h,ih];simp[Ne.symm h]
def Tx {l:List Pl}{k:Pl}(h:k∉l):kT (pk l) (vV k) (.bool true)=pk (l++[k]):=by
 rw[nW (λx hx=>?_)]
 ·simp[pk]
 ·obtain⟨e,he,rfl⟩:=ahl.1 hx;exact λhh=>h (Eu.1 hh▸he)
@[simp] theorem X4 (n t:Nat) (l:List Pl):aK n t ((pk l).map (·.2)):=by
 intro v hv;simp only[pk,ain,ahl,Function.comp] at hv;obtain⟨x,_,rfl⟩:=hv;exact .bool _
def Rz (k:Pl):Prop:=(-9223372036854775808<=k.1/\k.1<=9223372036854775807)/\(-9223372036854775808<=k.2.1/\k.2.1<=9223372036854775807)/\(-9223372036854775808<=k.2.2/\k.2.2<=9223372036854775807)
def ZD (k:Pl)(h:Rz k):mN prog 179 (vV k)=true:=by
 have hu:=Tryz.underlying179;have h3:prog.underlying 3=some (.int .i64):=by kernel_rfl
 have c3:prog.cellsOf 3=1:=by kernel_rfl
 have XJ:prog.keyType 179=true:=by kernel_rfl
 have hsz:prog.types.size=315:=by kernel_rfl
 have e1:∀x:Int,-9223372036854775808<=x/\x<=9223372036854775807->prog.keyLits 315 3 [.int .i64 x]=some [.int .i64 x]:=λx hx=>by
  have Yp:(Lit.int .i64 x).wf=true:=by
   simp only[Lit.wf,aht,ahv];exact hx
  show prog.keyLits (314+1) 3 _=_;unfold Program.keyLits;rw[h3];simp only[Yp,and_self,ai1]
 obtain⟨f,d,p⟩:=k;obtain⟨h1,h2,h4⟩:=h;simp only at h1 h2 h4;have hl:prog.keyLits (315+1) 179 [.int .i64 f,.int .i64 d,.int .i64 p]=some [.int .i64 f,.int .i64 d,.int .i64 p]:=by
  unfold Program.keyLits;rw[hu];simp[E0,c3,e1 f h1,e1 d h2,e1 p h4]
 unfold mN keyOf;rw[hu];have hf:(cQ.val (vV (f,d,p))).formed prog 179=true:=by
  simp[vV,cQ.val,KC.val,Value.formed,hu,E0]
 simp only[XJ,hf,Bool.and_self,ai1,hsz];have:(cQ.val (vV (f,d,p))).cells.toList=[.int .i64 f,.int .i64 d,.int .i64 p]:=rfl;rw[this,hl];rfl
def aat {l:List Pl}(h:∀k∈l,Rz k):dq prog 179 (pk l)=true:=by
 unfold dq;rw[ahQ];intro x hx;obtain⟨k,hk,rfl⟩:=ahl.1 hx;exact ZD k (h k hk)
open cL
def LY (f:Int)(p:Ps)(k:Nat)(h:k<p.2.length):fg f (p.1,p.2.take (k+1))=fg f (p.1,p.2.take k)++[(f,p.1,p.2.getD k 0)]:=by
 unfold fg;simp only;rw[aU p.2 k 0 h];simp
def qA {α β:Type}(l:List α)(f:α->List β)(d:α)(k:Nat)(h:k<l.length):(l.take (k+1)).flatMap f=(l.take k).flatMap f++f (l.getD k d):=by
 rw[aU l k d h];simp
attribute [-simp] List.getD_eq_getElem?_getD in
def KU (s:Sg)(t:Tm)(i:Nat)(hl:t.l.length<=1000)(hp:∀p∈t.l,p.2.length<=1000)(hf:1<=t.f/\t.f<=4)(hv:dT t.l=true)(seen:List Pl)(hs:∀k∈seen,Rz k)(hn:seen.Nodup)
  (H:List az) (T:au) (HO:bJ (H++[.cells (dC s),.map (pk seen),.cells (ph t)]) T) (Q:Exit->St->Prop)
  (bad:¬(seen++pq t).Nodup->∀(e:Env)(rH:List az)(rT:au),bE e 2=.bool false->Q .ret ⟨e,H++rH,T++rT⟩)
  (go:(seen++pq t).Nodup->(∀k∈seen++pq t,Rz k)->bJ (H++[.cells (dC s),.map (pk (seen++pq t)),.cells (ph t)]) T->∀e:Env,bu (H.length+3) T.length e [(1,.ptr H.length 0),(3,.aP (H.length+1)),(29,.sl s.bK.length (dx s.bK) .none),(30,.int .i64 (s.bK.length:Nat)),(31,.int .i64 (i:Nat))]->Q .normal ⟨e,H++[.cells (dC s),.map (pk (seen++pq t)),.cells (ph t)],T⟩) :
  AW ⟨prog,195,154,H.length,T.length,[]⟩ (dY [1,1,1,0,1,0,0,1,1,0,0,1,1,1] (Tryz.f60.body.getD .skip)) Q ⟨[(1,.ptr H.length 0),(3,.aP (H.length+1)),(5,.ptr (H.length+2) 0),(29,.sl s.bK.length (dx s.bK) .none),(30,.int .i64 (s.bK.length:Nat)),(31,.int .i64 (i:Nat))],H++[.cells (dC s),.map (pk seen),.cells (ph t)],T⟩:=by
 conv=>arg 2;whnf
 obtain⟨v1,v2,v3⟩:=cU hv;obtain⟨f,w,l⟩:=t;simp only at hl hp hf hv v1 v2 v3;have jR:l.length<=9223372036854775807:=by omega
 apply ae;intro K Z;simp(disch:=omega);apply Z;apply aj;refine aI (X:=Nat) (λj=>⟨[(1,.ptr H.length 0),(3,.aP (H.length+1)),(5,.ptr (H.length+2) 0),(29,.sl s.bK.length (dx s.bK) .none),(30,.int .i64 (s.bK.length:Nat)),(31,.int .i64 (i:Nat)),(85,.sl l.length (bA l) .none),(86,.int .i64 (l.length:Nat)),(87,.int .i64 (j:Nat))],H++[.cells (dC s),.map (pk (seen++(l.take j).flatMap (fg f))),.cells (ph ⟨f,w,l⟩)],T⟩)
  (λj=>j<=l.length/\(seen++(l.take j).flatMap (fg f)).Nodup/\(∀k∈seen++(l.take j).flatMap (fg f),Rz k)/\bJ (H++[.cells (dC s),.map (pk (seen++(l.take j).flatMap (fg f))),.cells (ph ⟨f,w,l⟩)]) T) (λj=>l.length-j) 0 ?_ ?_ ?_
 ·refine⟨ahu _,?_⟩;simp only[List.take_zero,List.flatMap_nil,ahH];exact⟨hn,hs,HO⟩
 ·have e0:seen++(l.take 0).flatMap (fg f)=seen:=by simp
  refine ag [] [] ?_ ?_ ?_ ?_ (by rw[e0];exact HO) ?_
  all_goals simp
  all_goals (try omega)
 ·rintro j ⟨j1,j2,j3,j4⟩;have hle:∀k∈seen++(l.take j).flatMap (fg f),Rz k:=j3;have su:=λh=>qA l (fg f) p0 j h;have hall:seen++pq ⟨f,w,l⟩=(seen++(l.take j).flatMap (fg f))++(l.drop j).flatMap (fg f):=by
   rw[ahA,<-List.flatMap_append,ahM];rfl
  generalize hg:seen++(l.take j).flatMap (fg f)=sj at *;apply ae;intro K Z;simp(disch:=omega);apply Z;refine af λK1 aO=>?_;refine aT rfl (λhk=>?_) (λhk=>?_)
  ·simp  at hk;have hcut:=mj l j hk;have sy:=aS l j p0 hk;obtain⟨w1,w2,w3⟩:=v3 _ sy;have w0:=v2 _ sy;have zt:=hp _ sy;have hdr:l.drop j=l.getD j p0::l.drop (j+1):=dO l j p0 hk;rw[hdr,ahy] at hall;replace su:=su hk;have Zs:seen++(l.take (j+1)).flatMap (fg f)=sj++fg f (l.getD j p0):=by rw[su,<-List.append_assoc,hg]
   generalize l.getD j p0=p at *;obtain⟨d,ps⟩:=p;simp only at hcut w0 w1 w2 w3 zt;have aeT:ps.length<=9223372036854775807:=by omega
   apply aq;simp(disch:=omega) ;apply aO;clear aO;refine af λK2 bc=>?_;apply aj;refine ae λK hK=>?_;simp(disch:=omega)[hcut,bt];apply hK;have fx:bJ (H++[.cells (dC s),.map (pk sj),.cells (ph ⟨f,w,l⟩),.cells [.int .i64 d,.sl ps.length (ints ps) .none]]) T:=by
    have:=bJ.snoc (vs:=[.int .i64 d,.sl ps.length (ints ps) .none]) j4 (by simp);simpa using this
   apply ae;intro K Z;simp(disch:=omega);apply Z;apply aj;refine aI (X:=Nat) (λk=>⟨[(1,.ptr H.length 0),(3,.aP (H.length+1)),(5,.ptr (H.length+2) 0),(7,.ptr (H.length+3) 0),(29,.sl s.bK.length (dx s.bK) .none),(30,.int .i64 (s.bK.length:Nat)),(31,.int .i64 (i:Nat)),(85,.sl l.length (bA l) .none),(86,.int .i64 (l.length:Nat)),(87,.int .i64 (j:Nat)),(92,.sl ps.length (ints ps) .none),(93,.int .i64 (ps.length:Nat)),(94,.int .i64 (k:Nat))],H++[.cells (dC s),.map (pk (sj++fg f (d,ps.take k))),.cells (ph ⟨f,w,l⟩),.cells [.int .i64 d,.sl ps.length (ints ps) .none]],T⟩)
    (λk=>k<=ps.length/\(sj++fg f (d,ps.take k)).Nodup/\(∀x∈sj++fg f (d,ps.take k),Rz x)/\bJ (H++[.cells (dC s),.map (pk (sj++fg f (d,ps.take k))),.cells (ph ⟨f,w,l⟩),.cells [.int .i64 d,.sl ps.length (ints ps) .none]]) T) (λk=>ps.length-k) 0 ?_ ?_ ?_
   ·refine⟨ahu _,?_⟩;simp only[List.take_zero,fg,ajg,ahH];exact⟨j2,j3,fx⟩
   ·have e0:sj++fg f (d,ps.take 0)=sj:=by simp[fg]
    refine ag [] [] ?_ ?_ ?_ ?_ (by rw[e0];exact fx) ?_
    all_goals simp[fg]
    all_goals (try omega)
   ·rintro k ⟨k1,k2,k3,k4⟩;have iH:=LY f (d,ps) k;simp only at iH;have aap:fg f (d,ps)=fg f (d,ps.take k)++fg f (d,ps.drop k):=by
     unfold fg;simp only;rw[<-List.map_append,ahM]
    have afj:=dO ps k 0;have GC:∀h,sj++fg f (d,ps.take (k+1))=(sj++fg f (d,ps.take k))++[(f,d,ps.getD k 0)]:=λh=>by rw[iH h,ahA]
    have Wu:∀h:k<ps.length,fg f (d,ps.drop k)=(f,d,ps.getD k 0)::fg f (d,ps.drop (k+1)):=λh=>by unfold fg;simp only;rw[afj h];rfl
    have yW:k=ps.length->sj++fg f (d,ps.take k)=sj++fg f (d,ps):=λh=>by rw[h,ahE]
    rw[aap,ahA,<-List.append_assoc] at hall;generalize hgk:sj++fg f (d,ps.take k)=sk at *;apply ae;intro K Z;simp(disch:=omega);apply Z;refine af λK3 bD=>?_;refine aT rfl (λyK=>?_) (λyK=>?_)
    ·simp  at yK;have hgi:=bI (xs:=ps) (k:=k) yK;have hpr:=w3 _ (aS ps k 0 yK);replace GC:=GC yK;replace Wu:=Wu yK;generalize ps.getD k 0=x at *;have hR:Rz (f,d,x):=⟨by simp only;omega,by simp only;omega,by simp only;omega⟩
     have yL:mN prog 179 (.agg [.int .i64 f,.int .i64 d,.int .i64 x])=true:=ZD (f,d,x) hR;have nu:=aat k3;have eE:=Ty sk (f,d,x);unfold vV at eE;simp only at eE;apply aq;simp(disch:=omega) ;apply bD;clear bD;refine af λK4 lN=>?_;apply aj;refine ae λK hK=>?_;simp(disch:=omega)[hgi];apply hK;apply ae;intro K Z;simp(disch:=omega);apply Z;refine af λK5 lD=>?_
     by_cases hm:(f,d,x)∈sk
     ·rw[ahm hm] at eE;refine ae λK hK=>?_;simp(disch:=omega)[BR,DC,yL,nu,eE];apply hK;apply aG rfl;apply ae;intro K Z;simp(disch:=omega);apply Z;apply ay;simp(disch:=omega) ;rw[<-List.append_nil T];refine bad (λmU=>?_) _ _ _ rfl;rw[hall,Wu] at mU;exact(ah2.1 mU).2.2 _ hm (f,d,x) (by simp) rfl
     ·rw[ahn hm] at eE;have iY:=Tx hm;unfold vV at iY;simp only at iY;refine ae λK hK=>?_;simp(disch:=omega)[BR,DC,yL,nu,eE];apply hK;apply aD rfl;apply aq;simp(disch:=omega) ;apply lD;clear lD;refine aB λK hK=>?_;simp(disch:=omega)[BR,yL,nu,iY];apply hK;have hR2:∀y∈sk++[(f,d,x)],Rz y:=λy hy=>by
       rcases ahw.1 hy with h1|h1
       ·exact k3 y h1
       ·rw[ah0.1 h1];exact hR
      have aeY:(sk++[(f,d,x)]).Nodup:=ah2.2 ⟨k2,by simp,λa ha b hb=>by rw[ah0.1 hb];exact λe=>hm (e▸ha)⟩;have Bd:bJ (H++[.cells (dC s),.map (pk (sk++[(f,d,x)])),.cells (ph ⟨f,w,l⟩),.cells [.int .i64 d,.sl ps.length (ints ps) .none]]) T:=by
       have:=bJ.rM (k:=H.length+1) (es:=pk (sk++[(f,d,x)])) k4 (by simp);simpa using this
      apply lN;clear lN;refine aB λK hK=>?_;simp(disch:=omega) ;apply hK;refine⟨k+1,⟨by show k+1<=_;omega,?_,?_,?_⟩,by show ps.length-(k+1)<ps.length-k;omega,?_⟩
      ·rw[GC];exact aeY
      ·rw[GC];exact hR2
      ·rw[GC];exact Bd
      ·refine ag [.cells [.int .i64 f,.int .i64 d,.int .i64 x]] [] ?_ ?_ ?_ ?_ (by rw[GC];exact Bd) ?_
       all_goals simp[GC]
       all_goals (try omega)
    ·simp  at yK;have Kg:k=ps.length:=by omega
     have hsk:=yW Kg;apply aF;simp(disch:=omega) ;apply bc;clear bc;refine aB λK hK=>?_;simp(disch:=omega) ;apply hK;rw[hsk,<-Zs] at k2 k3;have Nx:bJ (H++[.cells (dC s),.map (pk (seen++(l.take (j+1)).flatMap (fg f))),.cells (ph ⟨f,w,l⟩)]) T:=by
      have:=bJ.rM (k:=H.length+1) (es:=pk (seen++(l.take (j+1)).flatMap (fg f))) j4 (by simp);simpa using this
     refine⟨j+1,⟨by show j+1<=_;omega,k2,k3,Nx⟩,by show l.length-(j+1)<l.length-j;omega,?_⟩;refine ag [.cells [.int .i64 d,.sl ps.length (ints ps) .none]] [] ?_ ?_ ?_ ?_ Nx ?_
     all_goals simp[hsk,Zs]
     all_goals (try omega)
  ·simp  at hk;have Rq:j=l.length:=by omega
   have hs2:seen++pq ⟨f,w,l⟩=sj:=by rw[hall,Rq,aim];simp
   apply aF;simp(disch:=omega) ;rw[<-hs2] at j2 j3 j4 ⊢;exact go j2 j3 j4 _ (by simp;try omega)
attribute [-simp] List.getD_eq_getElem?_getD in
theorem KV (aA:List Int)(bK:List Tm)(aN:List Cl)(f:Int)(x:List Nm)(i:Nat)(Sq:kz aA)(hdl:aA.length<=1000)(Ga:x.length<=1000)(es:List (cQ×AV))(H:List az)(T:au)
  (fx:bJ (H++[.cells (dC ⟨aA,bK,aN⟩),.map es,.cells (ry ⟨f,x⟩)]) T) (Q:Exit->St->Prop)
  (bad:∀k,k<x.length->sC aA x k=false->∀(e:Env)(rH:List az)(rT:au),bE e 2=.bool false->Q .ret ⟨e,H++rH,T++rT⟩)
  (go:(∀k,k<x.length->sC aA x k=true)->∀e:Env,bu (H.length+3) T.length e [(1,.ptr H.length 0),(113,.sl aN.length (dJ aN) .none),(114,.int .i64 (aN.length:Nat)),(115,.int .i64 (i:Nat))]->Q .normal ⟨e,H++[.cells (dC ⟨aA,bK,aN⟩),.map es,.cells (ry ⟨f,x⟩)],T⟩) :
  AW ⟨prog,195,154,H.length,T.length,[]⟩ (dY [1,1,1,1,0,1,0,0,1,1,0,0,1,1] (Tryz.f60.body.getD .skip)) Q ⟨[(1,.ptr H.length 0),(12,.ptr (H.length+2) 0),(113,.sl aN.length (dJ aN) .none),(114,.int .i64 (aN.length:Nat)),(115,.int .i64 (i:Nat))],H++[.cells (dC ⟨aA,bK,aN⟩),.map es,.cells (ry ⟨f,x⟩)],T⟩:=by
 conv=>arg 2;whnf
 have aeH:x.length<=9223372036854775807:=by omega
 apply ae;intro K Z;simp(disch:=omega);apply Z;apply aj;refine aI (X:=Nat) (λk=>⟨[(1,.ptr H.length 0),(12,.ptr (H.length+2) 0),(113,.sl aN.length (dJ aN) .none),(114,.int .i64 (aN.length:Nat)),(115,.int .i64 (i:Nat)),(151,.sl x.length (br x) .none),(152,.int .i64 (x.length:Nat)),(153,.int .i64 (k:Nat))],H++[.cells (dC ⟨aA,bK,aN⟩),.map es,.cells (ry ⟨f,x⟩)],T⟩)
  (λk=>k<=x.length/\∀j,j<k->sC aA x j=true) (λk=>x.length-k) 0 ?_ ?_ ?_
 ·exact⟨ahu _,λj hj=>absurd hj (ahO _)⟩
 ·refine ag [] [] ?_ ?_ ?_ ?_ fx ?_
  all_goals simp
 ·rintro m ⟨m1,m2⟩;apply ae;intro K Z;simp(disch:=omega);apply Z;refine af λK5 lD=>?_;refine aT rfl (λgq=>?_) (λgq=>?_)
  ·simp  at gq;have yO:=ia x m gq;have gJ:sC aA x m=((decide ((x.getD m n0).2∈aA)&&decide (0<=(x.getD m n0).1/\(x.getD m n0).1<=1000000000000))&&(decide (m=0)||dh (x.getD (m-1) n0) (x.getD m n0))):=rfl;have cn:=λH T=>vE (x.getD (m-1) n0) (x.getD m n0) H T;have hge:=JT (x.getD (m-1) n0) (x.getD m n0);generalize wV (x.getD (m-1) n0) (x.getD m n0)=cq at *;have Gq:=λh=>ia x (m-1) h;generalize x.getD (m-1) n0=y at *;generalize VR:x.getD m n0=z at *;obtain⟨x1,x2⟩:=z;obtain⟨y1,y2⟩:=y;simp only at yO Gq gJ;apply aq;simp(disch:=omega) ;apply lD;clear lD;refine af λK6 om=>?_;apply aj;refine ae λK hK=>?_;simp(disch:=omega)[yO,cH];apply hK;have Bd:bJ (H++[.cells (dC ⟨aA,bK,aN⟩),.map es,.cells (ry ⟨f,x⟩),.cells [.int .i64 x1,.int .i64 x2]]) T:=by
    have:=bJ.snoc (vs:=[.int .i64 x1,.int .i64 x2]) fx (by simp);simpa using this
   have cb:=IG aA x2 Sq (by omega) (H++[.cells (dC ⟨aA,bK,aN⟩),.map es,.cells (ry ⟨f,x⟩),.cells [.int .i64 x1,.int .i64 x2]]) T .none;have c:=cn (H++[.cells (dC ⟨aA,bK,aN⟩),.map es,.cells (ry ⟨f,x⟩),.cells [.int .i64 x1,.int .i64 x2]]) T;refine ae λK hK=>?_;simp(disch:=omega) ;refine⟨_,cb,?_⟩;rintro r H' T' ⟨rfl,rfl,ii,rfl⟩;simp(disch:=omega) ;apply hK;clear cb;refine aJ [] [] [] aw (by kernel_rfl) (by kernel_rfl) λK hK=>?_;have kV:∀e b,b=sC aA x m->bu (H.length+4) T'.length e [(1,.ptr H.length 0),(12,.ptr (H.length+2) 0),(113,.sl aN.length (dJ aN) .none),(114,.int .i64 (aN.length:Nat)),(115,.int .i64 (i:Nat)),(151,.sl x.length (br x) .none),(152,.int .i64 (x.length:Nat)),(153,.int .i64 (m:Nat)),(192,.bool (!b))]->K ⟨e,H++[.cells (dC ⟨aA,bK,aN⟩),.map es,.cells (ry ⟨f,x⟩),.cells [.int .i64 x1,.int .i64 x2]],T'⟩:=by
    intro e b2 kP yM;refine hK _ (aH ⟨[(1,.ptr H.length 0),(12,.ptr (H.length+2) 0),(113,.sl aN.length (dJ aN) .none),(114,.int .i64 (aN.length:Nat)),(115,.int .i64 (i:Nat)),(151,.sl x.length (br x) .none),(152,.int .i64 (x.length:Nat)),(153,.int .i64 (m:Nat)),(192,.bool (!b2))],H++[.cells (dC ⟨aA,bK,aN⟩),.map es,.cells (ry ⟨f,x⟩)],T'⟩ (ag [.cells [.int .i64 x1,.int .i64 x2]] [] (by simp) (by simp) (by simp) (by simp) fx (by simpa using yM)) ?_)
    cases b2 with
    |false=>
     apply aG rfl;apply ae;intro K Z;simp(disch:=omega);apply Z;apply ay;rw[<-List.append_nil T'];exact bad m gq kP.symm _ _ _ rfl
    |true=>
     apply aD rfl;apply aq;simp(disch:=omega) ;apply om;clear om;refine aB λK hK=>?_;simp(disch:=omega) ;apply hK;refine⟨m+1,⟨by show m+1<=_;omega,λj hj=>?_⟩,by show x.length-(m+1)<x.length-m;omega,?_⟩
     ·rcases ahr j m with h|h
      ·exact m2 j h
      ·have:j=m:=by omega
       subst this;exact kP.symm
     ·refine ag [] [] ?_ ?_ ?_ ?_ fx ?_
      all_goals simp
   clear hK
   by_cases v0:x2∈aA
   rotate_left
   ·simp(disch:=omega)[v0];refine kV _ false (by rw[gJ,ahn v0];rfl) (by simp)
   rw[ahm v0,ais] at gJ
   by_cases v3:x1<0
   ·have w3:decide (x1<0)=true:=ahm v3;simp(disch:=omega)[v0,w3,v3];refine kV _ false (by rw[gJ,ahn (by omega:¬(0<=x1/\x1<=1000000000000))];rfl) (by simp)
   have w3:decide (x1<0)=false:=ahn v3
   by_cases v4:1000000000000<x1
   ·have w4:decide (1000000000000<x1)=true:=ahm v4;simp(disch:=omega)[v0,w3,v3,w4,v4];refine kV _ false (by rw[gJ,ahn (by omega:¬(0<=x1/\x1<=1000000000000))];rfl) (by simp)
   have w4:decide (1000000000000<x1)=false:=ahn v4;rw[ahm (by omega:0<=x1/\x1<=1000000000000),ais] at gJ;rcases ahR m with h5|h5
   ·subst h5;simp(disch:=omega)[v0,w3,v3,w4,v4];refine kV _ true (by rw[gJ];rfl) (by simp)
   ·have e6:((m:Int)-1)=((m-1:Nat):Int):=by omega
    have b5:decide ((0:Int)<(m:Int))=true:=ahm (by omega);have ud:=Gq (by omega);rw[ahn (by omega:¬m=0),ai2] at gJ
    cases hlt:dh (y1,y2) (x1,x2) with
    |false=>
     have b7:decide (0<=cq)=true:=ahm (hge.2 hlt);have n7:=hge.2 hlt;rw[hlt] at gJ;simp(disch:=omega)[v0,w3,v3,w4,v4,b5,h5,e6,ud,cH];refine aC (c) rfl ?_;simp(disch:=omega)[b7,n7];refine kV _ false gJ.symm (by simp)
    |true=>
     have n7:¬0<=cq:=λe=>by rw[hge.1 e] at hlt;cases hlt
     have b7:decide (0<=cq)=false:=ahn n7;rw[hlt] at gJ;simp(disch:=omega)[v0,w3,v3,w4,v4,b5,h5,e6,ud,cH];refine aC (c) rfl ?_;simp(disch:=omega)[b7,n7];refine kV _ true gJ.symm (by simp)
  ·simp  at gq;apply aF;simp(disch:=omega) ;exact go (λk h=>m2 k (by omega)) _ (by simp)
attribute [-simp] List.getD_eq_getElem?_getD in
theorem KW (s:Sg)(hs:ve s)(hd:oZ s.aA 1 1000000000=true)(aas:s.aA.length<=2000)(ht:(∀i,i<s.bK.length->rB s.bK i=true/\IV s.aA (s.bK.getD i t0).l=true)/\(qL s.bK).Nodup)(es:List (cQ×AV))
  (H:List az) (T:au) (HO:bJ (H++[.cells (dC s),.map es]) T) :
  AW ⟨prog,195,154,H.length,T.length,[]⟩ (dY [1,1,1,1] (Tryz.f60.body.getD .skip)) (sJ prog Tryz.f60.results.toList λr H' T'=>(∃rH,H'=H++rH)/\(∃rT,T'=T++rT)/\(r=.bool (aX s)\/cG r=.bool (aX s))) ⟨[(1,.ptr H.length 0),(3,.aP (H.length+1))],H++[.cells (dC s),.map es],T⟩:=by
 conv=>arg 2;whnf
 have Sq:=ko hd;have hdl:s.aA.length<=1000:=aho hs.d (by omega);have hcl:=hs.c;have hx:=hs.x;have bad:=λi h=>K0 (s:=s) (i:=i) h;have Bo:=λi k h=>Po (s:=s) (i:=i) (k:=k) h;have wT:=vp hd aas ht.1 ht.2;obtain⟨aA,bK,aN⟩:=s;simp only at Sq hdl hcl hx bad Bo wT;generalize hq:aX ⟨aA,bK,aN⟩=q at *;have ahb:aN.length<=9223372036854775807:=by omega
 refine af λK1 aO=>?_;apply ae;intro K Z;simp(disch:=omega);apply Z;apply aj;refine aI (X:=Nat) (λi=>⟨[(1,.ptr H.length 0),(113,.sl aN.length (dJ aN) .none),(114,.int .i64 (aN.length:Nat)),(115,.int .i64 (i:Nat))],H++[.cells (dC ⟨aA,bK,aN⟩),.map es],T⟩)
  (λi=>i<=aN.length/\∀j,j<i->wQ aN j=true/\∀k,k<(aN.getD j c0).x.length->sC aA (aN.getD j c0).x k=true) (λi=>aN.length-i) 0 ?_ ?_ ?_
 ·exact⟨ahu _,λj hj=>absurd hj (ahO _)⟩
 ·refine ag [] [] ?_ ?_ ?_ ?_ HO ?_
  all_goals simp
 ·rintro i ⟨g1,g2⟩;apply ae;intro K Z;simp(disch:=omega);apply Z;refine af λK2 bc=>?_;refine aT rfl (λhk=>?_) (λhk=>?_)
  ·simp  at hk;have hcut:=xY aN i hk;have Ga:=hx _ (aS aN i c0 hk);have nC:wQ aN i=((decide (5<=(aN.getD i c0).f/\(aN.getD i c0).f<=7)&&decide ((aN.getD i c0).x≠[]))&&(decide (i=0)||decide ((aN.getD (i-1) c0).f<(aN.getD i c0).f))):=rfl;have jv:=λh=>(Ul aN (i-1) h).1;generalize (aN.getD (i-1) c0).f=fp at *;replace Bo:=λk=>Bo i k hk;have sE:(∀k,k<(aN.getD i c0).x.length->sC aA (aN.getD i c0).x k=true)->wQ aN i=true->∀j,j<i+1->wQ aN j=true/\∀k,k<(aN.getD j c0).x.length->sC aA (aN.getD j c0).x k=true:=λh1 h2 j hj=>by
    rcases ahr j i with h|h
    ·exact g2 j h
    ·have:j=i:=by omega
     subst this;exact⟨h2,h1⟩
   generalize aN.getD i c0=c at *;obtain⟨f,x⟩:=c;simp only at hcut Ga nC Bo sE;have aeH:x.length<=9223372036854775807:=by omega
   apply aq;simp(disch:=omega) ;apply bc;clear bc;refine af λK3 bD=>?_;apply aj;refine ae λK hK=>?_;simp(disch:=omega)[hcut,nL];apply hK;have fx:bJ (H++[.cells (dC ⟨aA,bK,aN⟩),.map es,.cells (ry ⟨f,x⟩)]) T:=by
    have:=bJ.snoc (vs:=ry ⟨f,x⟩) HO (by simp);simpa using this
   refine af λK4 lN=>?_;refine aJ [] [] [] aw (by kernel_rfl) (by kernel_rfl) λK hK=>?_;have key:∀e b,b=wQ aN i->bu (H.length+3) T.length e [(1,.ptr H.length 0),(12,.ptr (H.length+2) 0),(113,.sl aN.length (dJ aN) .none),(114,.int .i64 (aN.length:Nat)),(115,.int .i64 (i:Nat)),(149,.bool (!b))]->K ⟨e,H++[.cells (dC ⟨aA,bK,aN⟩),.map es,.cells (ry ⟨f,x⟩)],T⟩:=by
    intro e b hb he;refine hK _ (aH ⟨[(1,.ptr H.length 0),(12,.ptr (H.length+2) 0),(113,.sl aN.length (dJ aN) .none),(114,.int .i64 (aN.length:Nat)),(115,.int .i64 (i:Nat)),(149,.bool (!b))],H++[.cells (dC ⟨aA,bK,aN⟩),.map es,.cells (ry ⟨f,x⟩)],T⟩ (ag [] [] (by simp) (by simp) (by simp) (by simp) fx (by simpa using he)) ?_)
    cases b with
    |false=>
     apply aG rfl;apply ae;intro K Z;simp(disch:=omega);apply Z;apply ay;simp(disch:=omega) ;rw[bad i hk hb.symm]
    |true=>
    apply aD rfl;apply aq;simp(disch:=omega) ;apply lN;clear lN;refine aH ⟨[(1,.ptr H.length 0),(12,.ptr (H.length+2) 0),(113,.sl aN.length (dJ aN) .none),(114,.int .i64 (aN.length:Nat)),(115,.int .i64 (i:Nat))],H++[.cells (dC ⟨aA,bK,aN⟩),.map es,.cells (ry ⟨f,x⟩)],T⟩ (ag [] [] (by simp) (by simp) (by simp) (by simp) fx (by simp)) ?_;refine KV aA bK aN f x i Sq hdl Ga es H T fx _ (λk yK VW e rH rT he=>?_) λhg e he=>?_
    ·show sJ prog Tryz.f60.results.toList (λr H' T'=>(∃rH,H'=H++rH)/\(∃rT,T'=T++rT)/\(r=.bool q\/cG r=.bool q)) .ret _;simp[he,Bo k yK VW]
    ·refine bD _ (aH ⟨[(1,.ptr H.length 0),(113,.sl aN.length (dJ aN) .none),(114,.int .i64 (aN.length:Nat)),(115,.int .i64 (i:Nat))],H++[.cells (dC ⟨aA,bK,aN⟩),.map es],T⟩ (ag [.cells (ry ⟨f,x⟩)] [] (by simp) (by simp) (by simp) (by simp) HO (by simpa using he)) ?_);refine aB λK hK=>?_;simp(disch:=omega) ;apply hK;refine⟨i+1,⟨by show i+1<=_;omega,sE hg hb.symm⟩,by show aN.length-(i+1)<aN.length-i;omega,?_⟩;refine ag [] [] ?_ ?_ ?_ ?_ HO ?_
     all_goals simp
   by_cases v1:f<5
   ·have w1:decide (f<5)=true:=ahm v1;simp(disch:=omega)[w1,v1];refine key _ false (by rw[nC,ahn (by omega:¬(5<=f/\f<=7))];rfl) (by simp)
   have w1:decide (f<5)=false:=ahn v1
   by_cases v2:7<f
   ·have w2:decide (7<f)=true:=ahm v2;simp(disch:=omega)[w1,v1,w2,v2];refine key _ false (by rw[nC,ahn (by omega:¬(5<=f/\f<=7))];rfl) (by simp)
   have w2:decide (7<f)=false:=ahn v2;rw[ahm (by omega:5<=f/\f<=7),ais] at nC
   by_cases v3:x.length=0
   ·have e3:x=[]:=ah3.1 v3;subst e3;simp(disch:=omega)[w1,v1,w2,v2];refine key _ false (by rw[nC];rfl) (by simp)
   have w3:((x.length:Int)==0)=false:=ah5.2 (by omega);have n3:x≠[]:=λe=>v3 (by rw[e];rfl);rw[ahm n3,ais] at nC;rcases ahR i with h5|h5
   ·subst h5;simp(disch:=omega)[w1,v1,w2,v2,w3,n3];refine key _ true (by rw[nC];rfl) (by simp)
   ·have e6:((i:Int)-1)=((i-1:Nat):Int):=by omega
    have b5:decide ((0:Int)<(i:Int))=true:=ahm (by omega);have De:=jv (by omega);rw[ahn (by omega:¬i=0),ai2] at nC
    by_cases v4:f<=fp
    ·have w4:decide (f<=fp)=true:=ahm v4;simp(disch:=omega)[w1,v1,w2,v2,w3,n3,b5,h5,e6,De,nL,w4,v4];refine key _ false (by rw[nC,ahn (by omega:¬fp<f)]) (by simp)
    ·have w4:decide (f<=fp)=false:=ahn v4;simp(disch:=omega)[v1,v2,w3,h5,e6,De,nL,v4];refine key _ true (by rw[nC,ahm (by omega:fp<f)]) (by simp)
  ·simp  at hk;apply aF;simp(disch:=omega) ;apply aO;clear aO;apply ae;intro K Z;simp(disch:=omega);apply Z;apply ay;simp(disch:=omega) ;rw[wT (λj hj=>g2 j (by omega))]
def WN {a b:List Int}(ha:oZ a 1 1000000000=true)(hb:oZ b 1 1000000000=true):(comb (λ_ q=>!q) a b).length=0↔∀x∈a,x∈b:=by
 obtain⟨_,h⟩:=jk (λ_ q=>!q) (a:=a) (b:=b) ha hb
 constructor
 ·intro h0 x hx;have e:=ah3.1 h0;rw[e] at h
  by_cases hb:x∈b
  ·exact hb
  ·exact absurd ((h x).2 (.inl ⟨hx,hb,rfl⟩)) (by simp)
 ·intro h1;refine ah3.2 (aiJ.2 λx hx=>?_);rcases (h x).1 hx with h2|h2|h2
  ·exact h2.2.1 (h1 x h2.1)
  ·simp at h2
  ·simp at h2
attribute [-simp] List.getD_eq_getElem?_getD in
def KS (a b:List Int)(ha:a.length<=1000)(hb:b.length<=1000)(H:List az)(T:au):ar prog 112 [.sl a.length (ints a) .none,.sl b.length (ints b) .none] H T (Is (.bool (decide ((comb (λ_ q=>!q) a b).length=0))) H T):=by
 have c:=oK a b ha hb H T .none .none;have hl:=tJ (λ_ q=>!q) a b;generalize comb (λ_ q=>!q) a b=r at *;have e:((r.length:Int)==0)=decide (r.length=0):=by
  rw[ajT];simp
 refine ah 12 [] Tryz.ntmps112 Tryz.func112 rfl (λ_ _=>Tryz.call112 _ _) (by simp) (λHO=>?_);apply ae;intro K Z;simp(disch:=omega);apply Z;refine ae λK hK=>?_;simp(disch:=omega) ;refine ak (c) ?_;simp(disch:=omega)[e];apply hK;apply ay;simp(disch:=omega) ;exact⟨by simp[e],rfl,rfl⟩
attribute [-simp] List.getD_eq_getElem?_getD in
theorem jW (s:Sg)(hs:ve s)(H:List az)(T:au):ar prog 60 [jS s] H T (Is (.bool (aX s)) H T):=by
 refine ar.bV ?_ (by simp);have ff:bJ H T->bJ (H++[.cells (dC s)]) T:=λh=>h.snoc (by simp);have c1:=λH=>iD s.aA (aho hs.d (by decide)) H T .none;have hd:=hs.d;have vL:=hs.t;have agZ:s.bK.length<=9223372036854775807:=by omega
 have n2:¬(2000:Int)<s.aA.length:=by omega
 have b2:decide ((2000:Int)<s.aA.length)=false:=ahn n2;refine ah 154 [] Tryz.ntmps60 Tryz.func60 rfl (λ_ _=>Tryz.call60 _ _) (by simp) (λHO=>?_);apply ae;intro K Z;simp(disch:=omega);apply Z;refine af λK1 aO=>?_;have HOa:bJ (H++[.cells (dC s)]) T:=HO.snoc (by simp)
 cases UQ:oZ s.aA 1 1000000000 with
 |false=>
  rw[UQ] at c1;refine ae λK hK=>?_;simp(disch:=omega) ;refine ak (c1 _) ?_;simp(disch:=omega) ;apply hK;apply aG rfl;apply ae;intro K Z;simp(disch:=omega);apply Z;apply ay;simp(disch:=omega) ;rw[Fq UQ]
 |true=>
 rw[UQ] at c1;refine ae λK hK=>?_;simp(disch:=omega) ;refine ak (c1 _) ?_;simp(disch:=omega)[b2,n2];apply hK;apply aD rfl;apply aq;simp(disch:=omega) ;apply aO;clear aO;apply ae;intro K Z;simp(disch:=omega);apply Z;have HOb:bJ (H++[.cells (dC s),.map []]) T:=by
  have:=bJ.rM (k:=H.length+1) (es:=[]) (HOa.snoc (vs:=[]) (by simp)) (by simp);simpa using this
 refine af λK1 aO=>?_;apply ae;intro K Z;simp(disch:=omega);apply Z;apply aj;refine aI (X:=Nat) (λi=>⟨[(1,.ptr H.length 0),(3,.aP (H.length+1)),(29,.sl s.bK.length (dx s.bK) .none),(30,.int .i64 (s.bK.length:Nat)),(31,.int .i64 (i:Nat))],H++[.cells (dC s),.map (pk (qL (s.bK.take i)))],T⟩)
  (λi=>i<=s.bK.length/\(∀j,j<i->rB s.bK j=true/\IV s.aA (s.bK.getD j t0).l=true)/\(qL (s.bK.take i)).Nodup/\(∀k∈qL (s.bK.take i),Rz k)/\bJ (H++[.cells (dC s),.map (pk (qL (s.bK.take i)))]) T) (λi=>s.bK.length-i) 0 ?_ ?_ ?_
 ·exact⟨ahu _,λj hj=>absurd hj (ahO _),.nil,by simp[qL],HOb⟩
 ·refine ag [] [] ?_ ?_ ?_ ?_ HOb ?_
  all_goals simp[qL,pk]
 ·rintro i ⟨g1,g2,g3,g4,g5⟩;have nu:=λh=>qA s.bK pq t0 i h;apply ae;intro K Z;simp(disch:=omega);apply Z;refine af λK2 bc=>?_;refine aT rfl (λhk=>?_) (λhk=>?_)
  ·simp  at hk;have hcut:=nJ s.bK i hk;obtain⟨q1,q2,q3⟩:=hs.w _ (aS s.bK i t0 hk);apply aq;simp(disch:=omega) ;apply bc;clear bc;refine af λK3 bD=>?_;apply aj;refine ae λK hK=>?_;simp(disch:=omega)[hcut,gC];apply hK;have HOc:bJ (H++[.cells (dC s),.map (pk (qL (s.bK.take i))),.cells (ph (s.bK.getD i t0))]) T:=by
    have:=bJ.snoc (vs:=ph (s.bK.getD i t0)) g5 (by simp);simpa using this
   have afB:rB s.bK i=false->aX s=false:=λh=>KY hk h;have ZM:IV s.aA (s.bK.getD i t0).l=false->aX s=false:=λh=>Pn hk h;have nC:rB s.bK i=((decide (1<=(s.bK.getD i t0).f/\(s.bK.getD i t0).f<=4)&&okW (s.bK.getD i t0).w)&&(decide (i=0)||bP (s.bK.getD (i-1) t0).k (s.bK.getD i t0).k)):=rfl;have Gq:=λh=>nJ s.bK (i-1) h;have sE:rB s.bK i=true->IV s.aA (s.bK.getD i t0).l=true->∀j,j<i+1->rB s.bK j=true/\IV s.aA (s.bK.getD j t0).l=true:=λh1 h2 j hj=>by
    rcases ahr j i with h|h
    ·exact g2 j h
    ·have:j=i:=by omega
     subst this;exact⟨h1,h2⟩
   have zt:qL (s.bK.take (i+1))=qL (s.bK.take i)++pq (s.bK.getD i t0):=nu hk;have NY:¬(qL (s.bK.take i)++pq (s.bK.getD i t0)).Nodup->aX s=false:=λh=>KZ λhn=>h (by
    rw[<-zt];refine List.Nodup.sublist ?_ hn;have:qL s.bK=qL (s.bK.take (i+1))++qL (s.bK.drop (i+1)):=by unfold qL;rw[<-List.flatMap_append,ahM]
    rw[this];exact List.sublist_append_left _ _)
   have yY:IV s.aA (s.bK.getD i t0).l=((decide ((s.bK.getD i t0).l≠[])&&dT (s.bK.getD i t0).l)&&decide (∀p∈(s.bK.getD i t0).l,p.1∈s.aA)):=rfl;generalize s.bK.getD (i-1) t0=tp at *;generalize agJ:qL (s.bK.take i)=seen at *;generalize s.bK.getD i t0=t at *;clear nu;have cw:=λH=>DH t.w q1 H T;have ck:=λH=>qF tp.k t.k (.sl tp.l.length (bA tp.l) .none) (.sl t.l.length (bA t.l) .none) H T;have hge:=Uk tp.k t.k;generalize rI tp.k t.k=cq at *;generalize bP tp.k t.k=bq at *;obtain⟨f,w,l⟩:=t;simp only at q1 q2 q3 hcut cw ck nC yY ZM sE;refine af λK4 lN=>?_;refine aJ [] [] [] aw (by kernel_rfl) (by kernel_rfl) λK hK=>?_;have key:∀e b,b=rB s.bK i->bu (H.length+3) T.length e [(1,.ptr H.length 0),(3,.aP (H.length+1)),(5,.ptr (H.length+2) 0),(29,.sl s.bK.length (dx s.bK) .none),(30,.int .i64 (s.bK.length:Nat)),(31,.int .i64 (i:Nat)),(64,.bool (!b))]->K ⟨e,H++[.cells (dC s),.map (pk seen),.cells (ph ⟨f,w,l⟩)],T⟩:=by
    intro e b hb he;refine hK _ (aH ⟨[(1,.ptr H.length 0),(3,.aP (H.length+1)),(5,.ptr (H.length+2) 0),(29,.sl s.bK.length (dx s.bK) .none),(30,.int .i64 (s.bK.length:Nat)),(31,.int .i64 (i:Nat)),(64,.bool (!b))],H++[.cells (dC s),.map (pk seen),.cells (ph ⟨f,w,l⟩)],T⟩ (ag [] [] (by simp) (by simp) (by simp) (by simp) HOc (by simpa using he)) ?_)
    cases b with
    |false=>
     apply aG rfl;apply ae;intro K Z;simp(disch:=omega);apply Z;apply ay;simp(disch:=omega) ;rw[afB hb.symm]
    |true=>
    apply aD rfl;apply aq;simp(disch:=omega) ;apply lN;clear lN;have hf:1<=f/\f<=4:=by
     rw[<-hb] at nC;have:=nC.symm;simp only[aht,ahv] at this;exact this.1.1
    refine af λK5 lD=>?_;refine aJ [] [] [] aw (by kernel_rfl) (by kernel_rfl) λK hK=>?_;have kV:∀e b,b=IV s.aA l->bu (H.length+3) T.length e [(1,.ptr H.length 0),(3,.aP (H.length+1)),(5,.ptr (H.length+2) 0),(29,.sl s.bK.length (dx s.bK) .none),(30,.int .i64 (s.bK.length:Nat)),(31,.int .i64 (i:Nat)),(83,.bool (!b))]->K ⟨e,H++[.cells (dC s),.map (pk seen),.cells (ph ⟨f,w,l⟩)],T⟩:=by
     intro e b2 kP yM;refine hK _ (aH ⟨[(1,.ptr H.length 0),(3,.aP (H.length+1)),(5,.ptr (H.length+2) 0),(29,.sl s.bK.length (dx s.bK) .none),(30,.int .i64 (s.bK.length:Nat)),(31,.int .i64 (i:Nat)),(83,.bool (!b2))],H++[.cells (dC s),.map (pk seen),.cells (ph ⟨f,w,l⟩)],T⟩ (ag [] [] (by simp) (by simp) (by simp) (by simp) HOc (by simpa using yM)) ?_)
     cases b2 with
     |false=>
      apply aG rfl;apply ae;intro K Z;simp(disch:=omega);apply Z;apply ay;simp(disch:=omega) ;rw[ZM kP.symm]
     |true=>
     have Rj:dT l=true:=by
      rw[<-kP] at yY;have:=yY.symm;simp only[aht,ahv] at this;exact this.1.2
     apply aD rfl;apply aq;simp(disch:=omega) ;apply lD;clear lD;refine aH ⟨[(1,.ptr H.length 0),(3,.aP (H.length+1)),(5,.ptr (H.length+2) 0),(29,.sl s.bK.length (dx s.bK) .none),(30,.int .i64 (s.bK.length:Nat)),(31,.int .i64 (i:Nat))],H++[.cells (dC s),.map (pk seen),.cells (ph ⟨f,w,l⟩)],T⟩ (ag [] [] (by simp) (by simp) (by simp) (by simp) HOc (by simp)) ?_;refine KU s ⟨f,w,l⟩ i q2 q3 hf Rj seen g4 g3 H T HOc _ (λhn e rH rT he=>?_) λhn hp hO e he=>?_
     ·show sJ prog Tryz.f60.results.toList (λr H' T'=>(∃rH,H'=H++rH)/\(∃rT,T'=T++rT)/\(r=.bool (aX s)\/cG r=.bool (aX s))) .ret _;simp[he,NY hn]
     ·rw[<-zt] at hn hp hO ⊢;have Nt:bJ (H++[.cells (dC s),.map (pk (qL (s.bK.take (i+1))))]) T:=by
       have:=bJ.rM (k:=H.length+1) (es:=pk (qL (s.bK.take (i+1)))) g5 (by simp);simpa using this
      refine bD _ (aH ⟨[(1,.ptr H.length 0),(3,.aP (H.length+1)),(29,.sl s.bK.length (dx s.bK) .none),(30,.int .i64 (s.bK.length:Nat)),(31,.int .i64 (i:Nat))],H++[.cells (dC s),.map (pk (qL (s.bK.take (i+1))))],T⟩ (ag [.cells (ph ⟨f,w,l⟩)] [] (by simp) (by simp) (by simp) (by simp) Nt (by simpa using he)) ?_);refine aB λK hK=>?_;simp(disch:=omega) ;apply hK;refine⟨i+1,⟨by show i+1<=_;omega,sE hb.symm kP.symm,hn,hp,Nt⟩,by show s.bK.length-(i+1)<s.bK.length-i;omega,?_⟩;refine ag [] [] ?_ ?_ ?_ ?_ Nt ?_
      all_goals simp
    clear hK
    by_cases v3:l.length=0
    ·have e3:l=[]:=ah3.1 v3;subst e3;simp(disch:=omega) ;refine kV _ false (by rw[yY];rfl) (by simp)
    have w3:((l.length:Int)==0)=false:=ah5.2 (by omega);have n3:l≠[]:=λe=>v3 (by rw[e];rfl);rw[ahm n3,ais] at yY;have hm4:1000<=maxLen:=by decide
    have cv:=λH=>jD l (aho q2 (by omega)) (λp hp=>aho (q3 p hp) hm4) H T .none;have cd:=λH=>EO l (aho q2 (by omega)) (λp hp=>aho (q3 p hp) hm4) H T .none
    cases Rj:dT l with
    |false=>
     rw[Rj] at cv yY;simp(disch:=omega)[w3,n3];refine aC (cv _) rfl ?_;simp(disch:=omega) ;refine kV _ false (by rw[yY];rfl) (by simp)
    |true=>
     rw[Rj] at cv yY;have hdl:sS l=aA l:=by unfold sS;rw[ahs Rj]
     rw[hdl] at cd;have cwi:=λH=>KS (aA l) s.aA (by simp[aA];exact q2) hd H T;have CQ:oZ (aA l) 1 1000000000=true:=by unfold dT at Rj;rw[aht] at Rj;exact Rj.1
     have hwd:decide ((comb (λ_ q=>!q) (aA l) s.aA).length=0)=decide (∀p∈l,p.1∈s.aA):=by
      rw[ajT,ahv,ahv,WN CQ UQ];simp only[aA,ahl,forall_exists_index,and_imp,forall_apply_eq_imp_iff₂]
     rw[hwd] at cwi;rw[ais] at yY;generalize decide (∀p∈l,p.1∈s.aA)=bb at *;simp(disch:=omega)[w3,n3];refine aC (cv _) rfl ?_;simp(disch:=omega) ;refine aC (cd _) rfl ?_;simp(disch:=omega) ;refine aC (cwi _) rfl ?_;simp(disch:=omega) ;refine kV _ bb yY.symm (by simp)
   clear hK
   by_cases v1:f<1
   ·have w1:decide (f<1)=true:=ahm v1;simp(disch:=omega)[w1,v1];refine key _ false (by rw[nC,ahn (by omega:¬(1<=f/\f<=4))];rfl) (by simp)
   have w1:decide (f<1)=false:=ahn v1
   by_cases v2:4<f
   ·have w2:decide (4<f)=true:=ahm v2;simp(disch:=omega)[w1,v1,w2,v2];refine key _ false (by rw[nC,ahn (by omega:¬(1<=f/\f<=4))];rfl) (by simp)
   have w2:decide (4<f)=false:=ahn v2;rw[ahm (by omega:1<=f/\f<=4),ais] at nC
   cases hw:okW w with
   |false=>
    rw[hw] at cw nC;simp(disch:=omega)[w1,v1,w2,v2];refine aC (cw _) rfl ?_;simp(disch:=omega) ;refine key _ false (by rw[nC];rfl) (by simp)
   |true=>
   rw[hw] at cw nC;rcases ahR i with h5|h5
   ·subst h5;simp(disch:=omega)[w1,v1,w2,v2];refine aC (cw _) rfl ?_;simp(disch:=omega) ;refine key _ true (by rw[nC];rfl) (by simp)
   ·have e6:((i:Int)-1)=((i-1:Nat):Int):=by omega
    have b5:decide ((0:Int)<(i:Int))=true:=ahm (by omega);have ud:=Gq (by omega);rw[ahn (by omega:¬i=0),ai2,ais] at nC
    cases bq with
    |false=>
     have n7:=hge.2 rfl;have b7:decide (0<=cq)=true:=ahm n7;simp(disch:=omega)[w1,v1,w2,v2];refine aC (cw _) rfl ?_;simp(disch:=omega)[b5,h5,e6,ud,gC];refine aC (ck _) rfl ?_;simp(disch:=omega)[b7,n7];refine key _ false (by rw[nC]) (by simp)
    |true=>
     have n7:¬0<=cq:=λe=>by have:=hge.1 e;cases this
     have b7:decide (0<=cq)=false:=ahn n7;simp(disch:=omega)[w1,v1,w2,v2];refine aC (cw _) rfl ?_;simp(disch:=omega)[b5,h5,e6,ud,gC];refine aC (ck _) rfl ?_;simp(disch:=omega)[b7,n7];refine key _ true (by rw[nC]) (by simp)
  ·simp  at hk;apply aF;simp(disch:=omega) ;apply aO;clear aO;have hi:i=s.bK.length:=by omega
   subst hi;rw[ahE] at g3 g4 g5 ⊢;refine aH ⟨[(1,.ptr H.length 0),(3,.aP (H.length+1))],H++[.cells (dC s),.map (pk (qL s.bK))],T⟩ (ag [] [] (by simp) (by simp) (by simp) (by simp) g5 (by simp)) ?_;exact KW s hs UQ (by omega) ⟨g2,g3⟩ (pk (qL s.bK)) H T g5
end Go.Proofs.YtoejlmpbebjemaaGreat
