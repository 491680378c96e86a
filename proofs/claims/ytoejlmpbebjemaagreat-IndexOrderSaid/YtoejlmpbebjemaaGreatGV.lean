/- Segments (layer 39): what a valid one is; places as the keys of a map. segment.Valid (layer 39): the places of a term. segment.Valid (layer 39): the columns. segment.Valid (layer 39).
  Conditions: lengths below 1000 or 1000, as each theorem says. -/
import Derived.Test.YtoejlmpbebjemaaGreatGBC
import Derived.Test.YtoejlmpbebjemaaGreatPZ
set_option linter.all false
set_option maxRecDepth 100000
set_option maxHeartbeats 16000000

namespace eN
open ia
abbrev Pl:=Int×Int×Int
def eW (f:Int)(p:Ps):List Pl:=p.2.map λa=>(f,p.1,a)
def ph (t:Tm):List Pl:=t.l.flatMap (eW t.f)
def qH (l:List Tm):List Pl:=l.flatMap ph
abbrev Tm.k (t:Tm):Ky:=(t.f,t.w)
end eN
namespace Go.Proofs.YtoejlmpbebjemaaGreat
open Go.Proofs.Tryz(prog)
open Go Go.Am ia eN
abbrev dA (s:Sg):List AV:=[.sl s.aB.length (ints s.aB) .none,.sl s.bO.length (du s.bO) .none,.sl s.aO.length (dH s.aO) .none]
def H4 (aB:List Int)(l:List Ps):Bool:=(decide (l≠[])&&dS l)&&decide (∀p∈l,p.1∈aB)
def rz (l:List Tm)(i:Nat):Bool:=(decide (1<=(l.getD i t0).f/\(l.getD i t0).f<=4)&&okW (l.getD i t0).w)&&(decide (i=0)||bT (l.getD (i-1) t0).k (l.getD i t0).k)
def WK (aB:List Int)(l:List Tm)(i:Nat):Bool:=rz l i&&H4 aB (l.getD i t0).l
def sn (aB:List Int)(x:List Nm)(k:Nat):Bool:=(decide ((x.getD k n0).2∈aB)&&decide (0<=(x.getD k n0).1/\(x.getD k n0).1<=1000000000000))&&(decide (k=0)||dh (x.getD (k-1) n0) (x.getD k n0))
def Ig (aB:List Int)(x:List Nm):Bool:=(List.range x.length).all (sn aB x)
def wF (l:List Cl)(i:Nat):Bool:=(decide (5<=(l.getD i c0).f/\(l.getD i c0).f<=7)&&decide ((l.getD i c0).x≠[]))&&(decide (i=0)||decide ((l.getD (i-1) c0).f<(l.getD i c0).f))
def UJ (aB:List Int)(l:List Cl)(i:Nat):Bool:=wF l i&&Ig aB (l.getD i c0).x
def M4 (s:Sg):Bool:=(List.range s.bO.length).all (WK s.aB s.bO)&&decide (qH s.bO).Nodup
def Rj (s:Sg):Bool:=(List.range s.aO.length).all (UJ s.aB s.aO)
def aY (s:Sg):Bool:=(oX s.aB 1 1000000000&&decide (s.aB.length<=2000))&&(M4 s&&Rj s)
structure uX (s:Sg):Prop where
 d:s.aB.length<=1000
 t:s.bO.length<=1000
 w:∀t∈s.bO,t.w.length<=maxLen/\t.l.length<=1000/\∀p∈t.l,p.2.length<=1000
 c:s.aO.length<=1000
 x:∀c∈s.aO,c.x.length<=1000
def EU {s:Sg}(h:oX s.aB 1 1000000000=false):aY s=false:=by unfold aY;rw[h];rfl
def Di {s:Sg}{i:Nat}(hi:i<s.bO.length)(h:WK s.aB s.bO i=false):aY s=false:=by
 unfold aY M4;rw[mI hi h];simp
def Kb {s:Sg}{i:Nat}(hi:i<s.bO.length)(h:rz s.bO i=false):aY s=false:=Di hi (by unfold WK;rw[h];rfl)
def Ow {s:Sg}{i:Nat}(hi:i<s.bO.length)(h:H4 s.aB (s.bO.getD i t0).l=false):aY s=false:=Di hi (by unfold WK;rw[h];simp)
def Kc {s:Sg}(h:¬(qH s.bO).Nodup):aY s=false:=by
 unfold aY M4;rw[agI h];simp
def Dj {s:Sg}{i:Nat}(hi:i<s.aO.length)(h:UJ s.aB s.aO i=false):aY s=false:=by
 unfold aY Rj;rw[mI hi h];simp
def Kd {s:Sg}{i:Nat}(hi:i<s.aO.length)(h:wF s.aO i=false):aY s=false:=Dj hi (by unfold UJ;rw[h];rfl)
def Ox {s:Sg}{i k:Nat}(hi:i<s.aO.length)(hk:k<(s.aO.getD i c0).x.length)(h:sn s.aB (s.aO.getD i c0).x k=false):aY s=false:=Dj hi (by unfold UJ Ig;rw[mI hk h];simp)
def u9 {s:Sg}(h1:oX s.aB 1 1000000000=true)(h2:s.aB.length<=2000)(h3:∀i,i<s.bO.length->rz s.bO i=true/\H4 s.aB (s.bO.getD i t0).l=true)(h4:(qH s.bO).Nodup)
  (h5:∀i,i<s.aO.length->wF s.aO i=true/\∀k,k<(s.aO.getD i c0).x.length->sn s.aB (s.aO.getD i c0).x k=true):aY s=true:=by
 unfold aY M4 Rj;rw[h1,agH h2,agH h4,iJ (λi hi=>by unfold WK;rw[(h3 i hi).1,(h3 i hi).2];rfl),iJ (λi hi=>by unfold UJ Ig;rw[(h5 i hi).1,iJ (h5 i hi).2];rfl)];rfl
def ir {s:Sg}(h:aY s=true):(oX s.aB 1 1000000000=true/\s.aB.length<=2000)/\((∀i,i<s.bO.length->rz s.bO i=true/\H4 s.aB (s.bO.getD i t0).l=true)/\(qH s.bO).Nodup)/\
  (∀i,i<s.aO.length->wF s.aO i=true/\∀k,k<(s.aO.getD i c0).x.length->sn s.aB (s.aO.getD i c0).x k=true):=by
 unfold aY M4 Rj at h;simp only[agO,agQ] at h;obtain⟨⟨a,b⟩,⟨c,d⟩,e⟩:=h;refine⟨⟨a,b⟩,⟨λi hi=>?_,d⟩,λi hi=>?_⟩
 ·have:=ow c hi;unfold WK at this;simpa[agO] using this
 ·have:=ow e hi;unfold UJ Ig at this;rw[agO] at this;exact⟨this.1,λk hk=>ow this.2 hk⟩
def vM (k:Pl):cS:=.agg [.int .i64 k.1,.int .i64 k.2.1,.int .i64 k.2.2]
def pe (l:List Pl):List (cS×AV):=l.map λk=>(vM k,.bool true)
def DY {a b:Pl}:vM a=vM b↔a=b:=by
 obtain⟨a1,a2,a3⟩:=a;obtain⟨b1,b2,b3⟩:=b;simp[vM]
theorem Ss (l:List Pl)(k:Pl):iZ (pe l) (vM k) (.bool false) false=.bool (decide (k∈l)):=by
 unfold iZ;simp only[ahE,aiq]
 induction l with
 |nil=>rfl
 |cons x r ih=>
  simp only[pe,ahi,vI,DY] at ih ⊢
  by_cases h:x=k
  ·rw[agN h];simp[h]
  ·rw[agL h,ih];simp[Ne.symm h]
def Sr {l:List Pl}{k:Pl}(h:k∉l):kO (pe l) (vM k) (.bool true)=pe (l++[k]):=by
 rw[nT (λx hx=>?_)]
 ·simp[pe]
 ·obtain⟨e,he,rfl⟩:=agG.1 hx;exact λhh=>h (DY.1 hh▸he)
@[simp] theorem Xi (n t:Nat) (l:List Pl):aM n t ((pe l).map (·.2)):=by
 intro v hv;simp only[pe,ahG,agG,Function.comp] at hv;obtain⟨x,_,rfl⟩:=hv;exact .bool _
def QG (k:Pl):Prop:=(-9223372036854775808<=k.1/\k.1<=9223372036854775807)/\(-9223372036854775808<=k.2.1/\k.2.1<=9223372036854775807)/\(-9223372036854775808<=k.2.2/\k.2.2<=9223372036854775807)
def YT (k:Pl)(h:QG k):mE prog 179 (vM k)=true:=by
 have hu:=Tryz.underlying179;have h3:prog.underlying 3=some (.int .i64):=by kernel_rfl
 have c3:prog.cellsOf 3=1:=by kernel_rfl
 have WU:prog.keyType 179=true:=by kernel_rfl
 have gu:prog.types.size=315:=by kernel_rfl
 have e1:∀x:Int,-9223372036854775808<=x/\x<=9223372036854775807->prog.keyLits 315 3 [.int .i64 x]=some [.int .i64 x]:=λx hx=>by
  have XE:(Lit.int .i64 x).wf=true:=by
   simp only[Lit.wf,agO,agQ];exact hx
  show prog.keyLits (314+1) 3 _=_;unfold Program.keyLits;rw[h3];simp only[XE,and_self,ain]
 obtain⟨f,d,p⟩:=k;obtain⟨h1,h2,h4⟩:=h;simp only at h1 h2 h4;have hl:prog.keyLits (315+1) 179 [.int .i64 f,.int .i64 d,.int .i64 p]=some [.int .i64 f,.int .i64 d,.int .i64 p]:=by
  unfold Program.keyLits;rw[hu];simp[Ey,c3,e1 f h1,e1 d h2,e1 p h4]
 unfold mE keyOf;rw[hu];have hf:(cS.val (vM (f,d,p))).formed prog 179=true:=by
  simp[vM,cS.val,KC.val,Value.formed,hu,Ey]
 simp only[WU,hf,Bool.and_self,ain,gu];have:(cS.val (vM (f,d,p))).cells.toList=[.int .i64 f,.int .i64 d,.int .i64 p]:=rfl;rw[this,hl];rfl
def ZI {l:List Pl}(h:∀k∈l,QG k):dn prog 179 (pe l)=true:=by
 unfold dn;rw[aha];intro x hx;obtain⟨k,hk,rfl⟩:=agG.1 hx;exact YT k (h k hk)
open cO
def Lb (f:Int)(p:Ps)(k:Nat)(h:k<p.2.length):eW f (p.1,p.2.take (k+1))=eW f (p.1,p.2.take k)++[(f,p.1,p.2.getD k 0)]:=by
 unfold eW;simp only;rw[aV p.2 k 0 h];simp
def qw {α β:Type}(l:List α)(f:α->List β)(d:α)(k:Nat)(h:k<l.length):(l.take (k+1)).flatMap f=(l.take k).flatMap f++f (l.getD k d):=by
 rw[aV l k d h];simp
attribute [-simp] List.getD_eq_getElem?_getD in
def JZ (s:Sg)(t:Tm)(i:Nat)(hl:t.l.length<=1000)(hp:∀p∈t.l,p.2.length<=1000)(hf:1<=t.f/\t.f<=4)(hv:dS t.l=true)(seen:List Pl)(hs:∀k∈seen,QG k)(hn:seen.Nodup)
  (H:List aA) (T:au) (HO:bN (H++[.cells (dA s),.map (pe seen),.cells (o8 t)]) T) (Q:Exit->St->Prop)
  (bad:¬(seen++ph t).Nodup->∀(e:Env)(rH:List aA)(rT:au),bH e 2=.bool false->Q .ret ⟨e,H++rH,T++rT⟩)
  (go:(seen++ph t).Nodup->(∀k∈seen++ph t,QG k)->bN (H++[.cells (dA s),.map (pe (seen++ph t)),.cells (o8 t)]) T->∀e:Env,bC (H.length+3) T.length e [(1,.ptr H.length 0),(3,.aQ (H.length+1)),(29,.sl s.bO.length (du s.bO) .none),(30,.int .i64 (s.bO.length:Nat)),(31,.int .i64 (i:Nat))]->Q .normal ⟨e,H++[.cells (dA s),.map (pe (seen++ph t)),.cells (o8 t)],T⟩) :
  AW ⟨prog,195,154,H.length,T.length,[]⟩ (dX [1,1,1,0,1,0,0,1,1,0,0,1,1,1] (Tryz.f60.body.getD .skip)) Q ⟨[(1,.ptr H.length 0),(3,.aQ (H.length+1)),(5,.ptr (H.length+2) 0),(29,.sl s.bO.length (du s.bO) .none),(30,.int .i64 (s.bO.length:Nat)),(31,.int .i64 (i:Nat))],H++[.cells (dA s),.map (pe seen),.cells (o8 t)],T⟩:=by
 conv=>arg 2;whnf
 obtain⟨v1,v2,v3⟩:=cU hv;obtain⟨f,w,l⟩:=t;simp only at hl hp hf hv v1 v2 v3;have jJ:l.length<=9223372036854775807:=by omega
 apply ae;intro K Z;simp(disch:=omega);apply Z;apply aj;refine aJ (X:=Nat) (λj=>⟨[(1,.ptr H.length 0),(3,.aQ (H.length+1)),(5,.ptr (H.length+2) 0),(29,.sl s.bO.length (du s.bO) .none),(30,.int .i64 (s.bO.length:Nat)),(31,.int .i64 (i:Nat)),(85,.sl l.length (bD l) .none),(86,.int .i64 (l.length:Nat)),(87,.int .i64 (j:Nat))],H++[.cells (dA s),.map (pe (seen++(l.take j).flatMap (eW f))),.cells (o8 ⟨f,w,l⟩)],T⟩)
  (λj=>j<=l.length/\(seen++(l.take j).flatMap (eW f)).Nodup/\(∀k∈seen++(l.take j).flatMap (eW f),QG k)/\bN (H++[.cells (dA s),.map (pe (seen++(l.take j).flatMap (eW f))),.cells (o8 ⟨f,w,l⟩)]) T) (λj=>l.length-j) 0 ?_ ?_ ?_
 ·refine⟨agP _,?_⟩;simp only[List.take_zero,List.flatMap_nil,ag2];exact⟨hn,hs,HO⟩
 ·have e0:seen++(l.take 0).flatMap (eW f)=seen:=by simp
  refine ag [] [] ?_ ?_ ?_ ?_ (by rw[e0];exact HO) ?_
  all_goals simp
  all_goals (try omega)
 ·rintro j ⟨j1,j2,j3,j4⟩;have hle:∀k∈seen++(l.take j).flatMap (eW f),QG k:=j3;have sb:=λh=>qw l (eW f) p0 j h;have fh:seen++ph ⟨f,w,l⟩=(seen++(l.take j).flatMap (eW f))++(l.drop j).flatMap (eW f):=by
   rw[agV,<-List.flatMap_append,ag7];rfl
  generalize hg:seen++(l.take j).flatMap (eW f)=sj at *;apply ae;intro K Z;simp(disch:=omega);apply Z;refine af λK1 aP=>?_;refine aU rfl (λhk=>?_) (λhk=>?_)
  ·simp  at hk;have bu:=mb l j hk;have sf:=aT l j p0 hk;obtain⟨w1,w2,w3⟩:=v3 _ sf;have w0:=v2 _ sf;have zb:=hp _ sf;have qc:l.drop j=l.getD j p0::l.drop (j+1):=dM l j p0 hk;rw[qc,agT] at fh;replace sb:=sb hk;have YI:seen++(l.take (j+1)).flatMap (eW f)=sj++eW f (l.getD j p0):=by rw[sb,<-List.append_assoc,hg]
   generalize l.getD j p0=p at *;obtain⟨d,ps⟩:=p;simp only at bu w0 w1 w2 w3 zb;have ad9:ps.length<=9223372036854775807:=by omega
   apply aq;simp(disch:=omega) ;apply aP;clear aP;refine af λK2 bp=>?_;apply aj;refine ae λK hK=>?_;simp(disch:=omega)[bu,bB];apply hK;have fj:bN (H++[.cells (dA s),.map (pe sj),.cells (o8 ⟨f,w,l⟩),.cells [.int .i64 d,.sl ps.length (ints ps) .none]]) T:=by
    have:=bN.snoc (vs:=[.int .i64 d,.sl ps.length (ints ps) .none]) j4 (by simp);simpa using this
   apply ae;intro K Z;simp(disch:=omega);apply Z;apply aj;refine aJ (X:=Nat) (λk=>⟨[(1,.ptr H.length 0),(3,.aQ (H.length+1)),(5,.ptr (H.length+2) 0),(7,.ptr (H.length+3) 0),(29,.sl s.bO.length (du s.bO) .none),(30,.int .i64 (s.bO.length:Nat)),(31,.int .i64 (i:Nat)),(85,.sl l.length (bD l) .none),(86,.int .i64 (l.length:Nat)),(87,.int .i64 (j:Nat)),(92,.sl ps.length (ints ps) .none),(93,.int .i64 (ps.length:Nat)),(94,.int .i64 (k:Nat))],H++[.cells (dA s),.map (pe (sj++eW f (d,ps.take k))),.cells (o8 ⟨f,w,l⟩),.cells [.int .i64 d,.sl ps.length (ints ps) .none]],T⟩)
    (λk=>k<=ps.length/\(sj++eW f (d,ps.take k)).Nodup/\(∀x∈sj++eW f (d,ps.take k),QG x)/\bN (H++[.cells (dA s),.map (pe (sj++eW f (d,ps.take k))),.cells (o8 ⟨f,w,l⟩),.cells [.int .i64 d,.sl ps.length (ints ps) .none]]) T) (λk=>ps.length-k) 0 ?_ ?_ ?_
   ·refine⟨agP _,?_⟩;simp only[List.take_zero,eW,aiB,ag2];exact⟨j2,j3,fj⟩
   ·have e0:sj++eW f (d,ps.take 0)=sj:=by simp[eW]
    refine ag [] [] ?_ ?_ ?_ ?_ (by rw[e0];exact fj) ?_
    all_goals simp[eW]
    all_goals (try omega)
   ·rintro k ⟨k1,k2,k3,k4⟩;have iz:=Lb f (d,ps) k;simp only at iz;have ZE:eW f (d,ps)=eW f (d,ps.take k)++eW f (d,ps.drop k):=by
     unfold eW;simp only;rw[<-List.map_append,ag7]
    have aeB:=dM ps k 0;have Gb:∀h,sj++eW f (d,ps.take (k+1))=(sj++eW f (d,ps.take k))++[(f,d,ps.getD k 0)]:=λh=>by rw[iz h,agV]
    have VB:∀h:k<ps.length,eW f (d,ps.drop k)=(f,d,ps.getD k 0)::eW f (d,ps.drop (k+1)):=λh=>by unfold eW;simp only;rw[aeB h];rfl
    have yL:k=ps.length->sj++eW f (d,ps.take k)=sj++eW f (d,ps):=λh=>by rw[h,agZ]
    rw[ZE,agV,<-List.append_assoc] at fh;generalize hgk:sj++eW f (d,ps.take k)=sk at *;apply ae;intro K Z;simp(disch:=omega);apply Z;refine af λK3 bG=>?_;refine aU rfl (λyx=>?_) (λyx=>?_)
    ·simp  at yx;have hgi:=bM (xs:=ps) (k:=k) yx;have hpr:=w3 _ (aT ps k 0 yx);replace Gb:=Gb yx;replace VB:=VB yx;generalize ps.getD k 0=x at *;have hR:QG (f,d,x):=⟨by simp only;omega,by simp only;omega,by simp only;omega⟩
     have yz:mE prog 179 (.agg [.int .i64 f,.int .i64 d,.int .i64 x])=true:=YT (f,d,x) hR;have np:=ZI k3;have eB:=Ss sk (f,d,x);unfold vM at eB;simp only at eB;apply aq;simp(disch:=omega) ;apply bG;clear bG;refine af λK4 lG=>?_;apply aj;refine ae λK hK=>?_;simp(disch:=omega)[hgi];apply hK;apply ae;intro K Z;simp(disch:=omega);apply Z;refine af λK5 lq=>?_
     by_cases hm:(f,d,x)∈sk
     ·rw[agH hm] at eB;refine ae λK hK=>?_;simp(disch:=omega)[Bw,C9,yz,np,eB];apply hK;apply aH rfl;apply ae;intro K Z;simp(disch:=omega);apply Z;apply az;simp(disch:=omega) ;rw[<-List.append_nil T];refine bad (λmM=>?_) _ _ _ rfl;rw[fh,VB] at mM;exact(ahn.1 mM).2.2 _ hm (f,d,x) (by simp) rfl
     ·rw[agI hm] at eB;have iS:=Sr hm;unfold vM at iS;simp only at iS;refine ae λK hK=>?_;simp(disch:=omega)[Bw,C9,yz,np,eB];apply hK;apply aF rfl;apply aq;simp(disch:=omega) ;apply lq;clear lq;refine aC λK hK=>?_;simp(disch:=omega)[Bw,yz,np,iS];apply hK;have hR2:∀y∈sk++[(f,d,x)],QG y:=λy hy=>by
       rcases agR.1 hy with h1|h1
       ·exact k3 y h1
       ·rw[ahl.1 h1];exact hR
      have aee:(sk++[(f,d,x)]).Nodup:=ahn.2 ⟨k2,by simp,λa ha b hb=>by rw[ahl.1 hb];exact λe=>hm (e▸ha)⟩;have AX:bN (H++[.cells (dA s),.map (pe (sk++[(f,d,x)])),.cells (o8 ⟨f,w,l⟩),.cells [.int .i64 d,.sl ps.length (ints ps) .none]]) T:=by
       have:=bN.rK (k:=H.length+1) (es:=pe (sk++[(f,d,x)])) k4 (by simp);simpa using this
      apply lG;clear lG;refine aC λK hK=>?_;simp(disch:=omega) ;apply hK;refine⟨k+1,⟨by show k+1<=_;omega,?_,?_,?_⟩,by show ps.length-(k+1)<ps.length-k;omega,?_⟩
      ·rw[Gb];exact aee
      ·rw[Gb];exact hR2
      ·rw[Gb];exact AX
      ·refine ag [.cells [.int .i64 f,.int .i64 d,.int .i64 x]] [] ?_ ?_ ?_ ?_ (by rw[Gb];exact AX) ?_
       all_goals simp[Gb]
       all_goals (try omega)
    ·simp  at yx;have Jp:k=ps.length:=by omega
     have hsk:=yL Jp;apply aG;simp(disch:=omega) ;apply bp;clear bp;refine aC λK hK=>?_;simp(disch:=omega) ;apply hK;rw[hsk,<-YI] at k2 k3;have MF:bN (H++[.cells (dA s),.map (pe (seen++(l.take (j+1)).flatMap (eW f))),.cells (o8 ⟨f,w,l⟩)]) T:=by
      have:=bN.rK (k:=H.length+1) (es:=pe (seen++(l.take (j+1)).flatMap (eW f))) j4 (by simp);simpa using this
     refine⟨j+1,⟨by show j+1<=_;omega,k2,k3,MF⟩,by show l.length-(j+1)<l.length-j;omega,?_⟩;refine ag [.cells [.int .i64 d,.sl ps.length (ints ps) .none]] [] ?_ ?_ ?_ ?_ MF ?_
     all_goals simp[hsk,YI]
     all_goals (try omega)
  ·simp  at hk;have Qx:j=l.length:=by omega
   have AO:seen++ph ⟨f,w,l⟩=sj:=by rw[fh,Qx,ahH];simp
   apply aG;simp(disch:=omega) ;rw[<-AO] at j2 j3 j4 ⊢;exact go j2 j3 j4 _ (by simp;try omega)
attribute [-simp] List.getD_eq_getElem?_getD in
theorem J6 (aB:List Int)(bO:List Tm)(aO:List Cl)(f:Int)(x:List Nm)(i:Nat)(Rt:kn aB)(mN:aB.length<=1000)(FD:x.length<=1000)(es:List (cS×AV))(H:List aA)(T:au)
  (fj:bN (H++[.cells (dA ⟨aB,bO,aO⟩),.map es,.cells (ru ⟨f,x⟩)]) T) (Q:Exit->St->Prop)
  (bad:∀k,k<x.length->sn aB x k=false->∀(e:Env)(rH:List aA)(rT:au),bH e 2=.bool false->Q .ret ⟨e,H++rH,T++rT⟩)
  (go:(∀k,k<x.length->sn aB x k=true)->∀e:Env,bC (H.length+3) T.length e [(1,.ptr H.length 0),(113,.sl aO.length (dH aO) .none),(114,.int .i64 (aO.length:Nat)),(115,.int .i64 (i:Nat))]->Q .normal ⟨e,H++[.cells (dA ⟨aB,bO,aO⟩),.map es,.cells (ru ⟨f,x⟩)],T⟩) :
  AW ⟨prog,195,154,H.length,T.length,[]⟩ (dX [1,1,1,1,0,1,0,0,1,1,0,0,1,1] (Tryz.f60.body.getD .skip)) Q ⟨[(1,.ptr H.length 0),(12,.ptr (H.length+2) 0),(113,.sl aO.length (dH aO) .none),(114,.int .i64 (aO.length:Nat)),(115,.int .i64 (i:Nat))],H++[.cells (dA ⟨aB,bO,aO⟩),.map es,.cells (ru ⟨f,x⟩)],T⟩:=by
 conv=>arg 2;whnf
 have adX:x.length<=9223372036854775807:=by omega
 apply ae;intro K Z;simp(disch:=omega);apply Z;apply aj;refine aJ (X:=Nat) (λk=>⟨[(1,.ptr H.length 0),(12,.ptr (H.length+2) 0),(113,.sl aO.length (dH aO) .none),(114,.int .i64 (aO.length:Nat)),(115,.int .i64 (i:Nat)),(151,.sl x.length (bA x) .none),(152,.int .i64 (x.length:Nat)),(153,.int .i64 (k:Nat))],H++[.cells (dA ⟨aB,bO,aO⟩),.map es,.cells (ru ⟨f,x⟩)],T⟩)
  (λk=>k<=x.length/\∀j,j<k->sn aB x j=true) (λk=>x.length-k) 0 ?_ ?_ ?_
 ·exact⟨agP _,λj hj=>absurd hj (ag9 _)⟩
 ·refine ag [] [] ?_ ?_ ?_ ?_ fj ?_
  all_goals simp
 ·rintro m ⟨m1,m2⟩;apply ae;intro K Z;simp(disch:=omega);apply Z;refine af λK5 lq=>?_;refine aU rfl (λfX=>?_) (λfX=>?_)
  ·simp  at fX;have yC:=gV x m fX;have gD:sn aB x m=((decide ((x.getD m n0).2∈aB)&&decide (0<=(x.getD m n0).1/\(x.getD m n0).1<=1000000000000))&&(decide (m=0)||dh (x.getD (m-1) n0) (x.getD m n0))):=rfl;have cn:=λH T=>vu (x.getD (m-1) n0) (x.getD m n0) H T;have od:=I7 (x.getD (m-1) n0) (x.getD m n0);generalize wK (x.getD (m-1) n0) (x.getD m n0)=cq at *;have FW:=λh=>gV x (m-1) h;generalize x.getD (m-1) n0=y at *;generalize UT:x.getD m n0=z at *;obtain⟨x1,x2⟩:=z;obtain⟨y1,y2⟩:=y;simp only at yC FW gD;apply aq;simp(disch:=omega) ;apply lq;clear lq;refine af λK6 oe=>?_;apply aj;refine ae λK hK=>?_;simp(disch:=omega)[yC,cL];apply hK;have AX:bN (H++[.cells (dA ⟨aB,bO,aO⟩),.map es,.cells (ru ⟨f,x⟩),.cells [.int .i64 x1,.int .i64 x2]]) T:=by
    have:=bN.snoc (vs:=[.int .i64 x1,.int .i64 x2]) fj (by simp);simpa using this
   have cb:=HR aB x2 Rt (by omega) (H++[.cells (dA ⟨aB,bO,aO⟩),.map es,.cells (ru ⟨f,x⟩),.cells [.int .i64 x1,.int .i64 x2]]) T .none;have c:=cn (H++[.cells (dA ⟨aB,bO,aO⟩),.map es,.cells (ru ⟨f,x⟩),.cells [.int .i64 x1,.int .i64 x2]]) T;refine ae λK hK=>?_;simp(disch:=omega) ;refine⟨_,cb,?_⟩;rintro r H' T' ⟨rfl,rfl,ii,rfl⟩;simp(disch:=omega) ;apply hK;clear cb;refine aK [] [] [] aw (by kernel_rfl) (by kernel_rfl) λK hK=>?_;have kQ:∀e b,b=sn aB x m->bC (H.length+4) T'.length e [(1,.ptr H.length 0),(12,.ptr (H.length+2) 0),(113,.sl aO.length (dH aO) .none),(114,.int .i64 (aO.length:Nat)),(115,.int .i64 (i:Nat)),(151,.sl x.length (bA x) .none),(152,.int .i64 (x.length:Nat)),(153,.int .i64 (m:Nat)),(192,.bool (!b))]->K ⟨e,H++[.cells (dA ⟨aB,bO,aO⟩),.map es,.cells (ru ⟨f,x⟩),.cells [.int .i64 x1,.int .i64 x2]],T'⟩:=by
    intro e b2 kK yA;refine hK _ (aI ⟨[(1,.ptr H.length 0),(12,.ptr (H.length+2) 0),(113,.sl aO.length (dH aO) .none),(114,.int .i64 (aO.length:Nat)),(115,.int .i64 (i:Nat)),(151,.sl x.length (bA x) .none),(152,.int .i64 (x.length:Nat)),(153,.int .i64 (m:Nat)),(192,.bool (!b2))],H++[.cells (dA ⟨aB,bO,aO⟩),.map es,.cells (ru ⟨f,x⟩)],T'⟩ (ag [.cells [.int .i64 x1,.int .i64 x2]] [] (by simp) (by simp) (by simp) (by simp) fj (by simpa using yA)) ?_)
    cases b2 with
    |false=>
     apply aH rfl;apply ae;intro K Z;simp(disch:=omega);apply Z;apply az;rw[<-List.append_nil T'];exact bad m fX kK.symm _ _ _ rfl
    |true=>
     apply aF rfl;apply aq;simp(disch:=omega) ;apply oe;clear oe;refine aC λK hK=>?_;simp(disch:=omega) ;apply hK;refine⟨m+1,⟨by show m+1<=_;omega,λj hj=>?_⟩,by show x.length-(m+1)<x.length-m;omega,?_⟩
     ·rcases agM j m with h|h
      ·exact m2 j h
      ·have:j=m:=by omega
       subst this;exact kK.symm
     ·refine ag [] [] ?_ ?_ ?_ ?_ fj ?_
      all_goals simp
   clear hK
   by_cases v0:x2∈aB
   rotate_left
   ·simp(disch:=omega)[v0];refine kQ _ false (by rw[gD,agI v0];rfl) (by simp)
   rw[agH v0,ahM] at gD
   by_cases v3:x1<0
   ·have w3:decide (x1<0)=true:=agH v3;simp(disch:=omega)[v0,w3,v3];refine kQ _ false (by rw[gD,agI (by omega:¬(0<=x1/\x1<=1000000000000))];rfl) (by simp)
   have w3:decide (x1<0)=false:=agI v3
   by_cases v4:1000000000000<x1
   ·have w4:decide (1000000000000<x1)=true:=agH v4;simp(disch:=omega)[v0,w3,v3,w4,v4];refine kQ _ false (by rw[gD,agI (by omega:¬(0<=x1/\x1<=1000000000000))];rfl) (by simp)
   have w4:decide (1000000000000<x1)=false:=agI v4;rw[agH (by omega:0<=x1/\x1<=1000000000000),ahM] at gD;rcases ahc m with h5|h5
   ·subst h5;simp(disch:=omega)[v0,w3,v3,w4,v4];refine kQ _ true (by rw[gD];rfl) (by simp)
   ·have e6:((m:Int)-1)=((m-1:Nat):Int):=by omega
    have b5:decide ((0:Int)<(m:Int))=true:=agH (by omega);have tS:=FW (by omega);rw[agI (by omega:¬m=0),aim] at gD
    cases aZ:dh (y1,y2) (x1,x2) with
    |false=>
     have b7:decide (0<=cq)=true:=agH (od.2 aZ);have n7:=od.2 aZ;rw[aZ] at gD;simp(disch:=omega)[v0,w3,v3,w4,v4,b5,h5,e6,tS,cL];refine aD (c) rfl ?_;simp(disch:=omega)[b7,n7];refine kQ _ false gD.symm (by simp)
    |true=>
     have n7:¬0<=cq:=λe=>by rw[od.1 e] at aZ;cases aZ
     have b7:decide (0<=cq)=false:=agI n7;rw[aZ] at gD;simp(disch:=omega)[v0,w3,v3,w4,v4,b5,h5,e6,tS,cL];refine aD (c) rfl ?_;simp(disch:=omega)[b7,n7];refine kQ _ true gD.symm (by simp)
  ·simp  at fX;apply aG;simp(disch:=omega) ;exact go (λk h=>m2 k (by omega)) _ (by simp)
attribute [-simp] List.getD_eq_getElem?_getD in
theorem J9 (s:Sg)(hs:uX s)(hd:oX s.aB 1 1000000000=true)(ZH:s.aB.length<=2000)(ht:(∀i,i<s.bO.length->rz s.bO i=true/\H4 s.aB (s.bO.getD i t0).l=true)/\(qH s.bO).Nodup)(es:List (cS×AV))
  (H:List aA) (T:au) (HO:bN (H++[.cells (dA s),.map es]) T) :
  AW ⟨prog,195,154,H.length,T.length,[]⟩ (dX [1,1,1,1] (Tryz.f60.body.getD .skip)) (sy prog Tryz.f60.results.toList λr H' T'=>(∃rH,H'=H++rH)/\(∃rT,T'=T++rT)/\(r=.bool (aY s)\/cK r=.bool (aY s))) ⟨[(1,.ptr H.length 0),(3,.aQ (H.length+1))],H++[.cells (dA s),.map es],T⟩:=by
 conv=>arg 2;whnf
 have Rt:=kg hd;have mN:s.aB.length<=1000:=agJ hs.d (by omega);have gC:=hs.c;have hx:=hs.x;have bad:=λi h=>Kd (s:=s) (i:=i) h;have A8:=λi k h=>Ox (s:=s) (i:=i) (k:=k) h;have wI:=u9 hd ZH ht.1 ht.2;obtain⟨aB,bO,aO⟩:=s;simp only at Rt mN gC hx bad A8 wI;generalize hq:aY ⟨aB,bO,aO⟩=q at *;have agw:aO.length<=9223372036854775807:=by omega
 refine af λK1 aP=>?_;apply ae;intro K Z;simp(disch:=omega);apply Z;apply aj;refine aJ (X:=Nat) (λi=>⟨[(1,.ptr H.length 0),(113,.sl aO.length (dH aO) .none),(114,.int .i64 (aO.length:Nat)),(115,.int .i64 (i:Nat))],H++[.cells (dA ⟨aB,bO,aO⟩),.map es],T⟩)
  (λi=>i<=aO.length/\∀j,j<i->wF aO j=true/\∀k,k<(aO.getD j c0).x.length->sn aB (aO.getD j c0).x k=true) (λi=>aO.length-i) 0 ?_ ?_ ?_
 ·exact⟨agP _,λj hj=>absurd hj (ag9 _)⟩
 ·refine ag [] [] ?_ ?_ ?_ ?_ HO ?_
  all_goals simp
 ·rintro i ⟨g1,g2⟩;apply ae;intro K Z;simp(disch:=omega);apply Z;refine af λK2 bp=>?_;refine aU rfl (λhk=>?_) (λhk=>?_)
  ·simp  at hk;have bu:=xK aO i hk;have FD:=hx _ (aT aO i c0 hk);have ny:wF aO i=((decide (5<=(aO.getD i c0).f/\(aO.getD i c0).f<=7)&&decide ((aO.getD i c0).x≠[]))&&(decide (i=0)||decide ((aO.getD (i-1) c0).f<(aO.getD i c0).f))):=rfl;have jl:=λh=>(Tg aO (i-1) h).1;generalize (aO.getD (i-1) c0).f=fp at *;replace A8:=λk=>A8 i k hk;have sq:(∀k,k<(aO.getD i c0).x.length->sn aB (aO.getD i c0).x k=true)->wF aO i=true->∀j,j<i+1->wF aO j=true/\∀k,k<(aO.getD j c0).x.length->sn aB (aO.getD j c0).x k=true:=λh1 h2 j hj=>by
    rcases agM j i with h|h
    ·exact g2 j h
    ·have:j=i:=by omega
     subst this;exact⟨h2,h1⟩
   generalize aO.getD i c0=c at *;obtain⟨f,x⟩:=c;simp only at bu FD ny A8 sq;have adX:x.length<=9223372036854775807:=by omega
   apply aq;simp(disch:=omega) ;apply bp;clear bp;refine af λK3 bG=>?_;apply aj;refine ae λK hK=>?_;simp(disch:=omega)[bu,nI];apply hK;have fj:bN (H++[.cells (dA ⟨aB,bO,aO⟩),.map es,.cells (ru ⟨f,x⟩)]) T:=by
    have:=bN.snoc (vs:=ru ⟨f,x⟩) HO (by simp);simpa using this
   refine af λK4 lG=>?_;refine aK [] [] [] aw (by kernel_rfl) (by kernel_rfl) λK hK=>?_;have key:∀e b,b=wF aO i->bC (H.length+3) T.length e [(1,.ptr H.length 0),(12,.ptr (H.length+2) 0),(113,.sl aO.length (dH aO) .none),(114,.int .i64 (aO.length:Nat)),(115,.int .i64 (i:Nat)),(149,.bool (!b))]->K ⟨e,H++[.cells (dA ⟨aB,bO,aO⟩),.map es,.cells (ru ⟨f,x⟩)],T⟩:=by
    intro e b hb he;refine hK _ (aI ⟨[(1,.ptr H.length 0),(12,.ptr (H.length+2) 0),(113,.sl aO.length (dH aO) .none),(114,.int .i64 (aO.length:Nat)),(115,.int .i64 (i:Nat)),(149,.bool (!b))],H++[.cells (dA ⟨aB,bO,aO⟩),.map es,.cells (ru ⟨f,x⟩)],T⟩ (ag [] [] (by simp) (by simp) (by simp) (by simp) fj (by simpa using he)) ?_)
    cases b with
    |false=>
     apply aH rfl;apply ae;intro K Z;simp(disch:=omega);apply Z;apply az;simp(disch:=omega) ;rw[bad i hk hb.symm]
    |true=>
    apply aF rfl;apply aq;simp(disch:=omega) ;apply lG;clear lG;refine aI ⟨[(1,.ptr H.length 0),(12,.ptr (H.length+2) 0),(113,.sl aO.length (dH aO) .none),(114,.int .i64 (aO.length:Nat)),(115,.int .i64 (i:Nat))],H++[.cells (dA ⟨aB,bO,aO⟩),.map es,.cells (ru ⟨f,x⟩)],T⟩ (ag [] [] (by simp) (by simp) (by simp) (by simp) fj (by simp)) ?_;refine J6 aB bO aO f x i Rt mN FD es H T fj _ (λk yx U4 e rH rT he=>?_) λhg e he=>?_
    ·show sy prog Tryz.f60.results.toList (λr H' T'=>(∃rH,H'=H++rH)/\(∃rT,T'=T++rT)/\(r=.bool q\/cK r=.bool q)) .ret _;simp[he,A8 k yx U4]
    ·refine bG _ (aI ⟨[(1,.ptr H.length 0),(113,.sl aO.length (dH aO) .none),(114,.int .i64 (aO.length:Nat)),(115,.int .i64 (i:Nat))],H++[.cells (dA ⟨aB,bO,aO⟩),.map es],T⟩ (ag [.cells (ru ⟨f,x⟩)] [] (by simp) (by simp) (by simp) (by simp) HO (by simpa using he)) ?_);refine aC λK hK=>?_;simp(disch:=omega) ;apply hK;refine⟨i+1,⟨by show i+1<=_;omega,sq hg hb.symm⟩,by show aO.length-(i+1)<aO.length-i;omega,?_⟩;refine ag [] [] ?_ ?_ ?_ ?_ HO ?_
     all_goals simp
   by_cases v1:f<5
   ·have w1:decide (f<5)=true:=agH v1;simp(disch:=omega)[w1,v1];refine key _ false (by rw[ny,agI (by omega:¬(5<=f/\f<=7))];rfl) (by simp)
   have w1:decide (f<5)=false:=agI v1
   by_cases v2:7<f
   ·have w2:decide (7<f)=true:=agH v2;simp(disch:=omega)[w1,v1,w2,v2];refine key _ false (by rw[ny,agI (by omega:¬(5<=f/\f<=7))];rfl) (by simp)
   have w2:decide (7<f)=false:=agI v2;rw[agH (by omega:5<=f/\f<=7),ahM] at ny
   by_cases v3:x.length=0
   ·have e3:x=[]:=aho.1 v3;subst e3;simp(disch:=omega)[w1,v1,w2,v2];refine key _ false (by rw[ny];rfl) (by simp)
   have w3:((x.length:Int)==0)=false:=ahq.2 (by omega);have n3:x≠[]:=λe=>v3 (by rw[e];rfl);rw[agH n3,ahM] at ny;rcases ahc i with h5|h5
   ·subst h5;simp(disch:=omega)[w1,v1,w2,v2,w3,n3];refine key _ true (by rw[ny];rfl) (by simp)
   ·have e6:((i:Int)-1)=((i-1:Nat):Int):=by omega
    have b5:decide ((0:Int)<(i:Int))=true:=agH (by omega);have CL:=jl (by omega);rw[agI (by omega:¬i=0),aim] at ny
    by_cases v4:f<=fp
    ·have w4:decide (f<=fp)=true:=agH v4;simp(disch:=omega)[w1,v1,w2,v2,w3,n3,b5,h5,e6,CL,nI,w4,v4];refine key _ false (by rw[ny,agI (by omega:¬fp<f)]) (by simp)
    ·have w4:decide (f<=fp)=false:=agI v4;simp(disch:=omega)[v1,v2,w3,h5,e6,CL,nI,v4];refine key _ true (by rw[ny,agH (by omega:fp<f)]) (by simp)
  ·simp  at hk;apply aG;simp(disch:=omega) ;apply aP;clear aP;apply ae;intro K Z;simp(disch:=omega);apply Z;apply az;simp(disch:=omega) ;rw[wI (λj hj=>g2 j (by omega))]
def VW {a b:List Int}(ha:oX a 1 1000000000=true)(hb:oX b 1 1000000000=true):(comb (λ_ q=>!q) a b).length=0↔∀x∈a,x∈b:=by
 obtain⟨_,h⟩:=jc (λ_ q=>!q) (a:=a) (b:=b) ha hb
 constructor
 ·intro h0 x hx;have e:=aho.1 h0;rw[e] at h
  by_cases hb:x∈b
  ·exact hb
  ·exact absurd ((h x).2 (.inl ⟨hx,hb,rfl⟩)) (by simp)
 ·intro h1;refine aho.2 (ah3.2 λx hx=>?_);rcases (h x).1 hx with h2|h2|h2
  ·exact h2.2.1 (h1 x h2.1)
  ·simp at h2
  ·simp at h2
attribute [-simp] List.getD_eq_getElem?_getD in
def JX (a b:List Int)(ha:a.length<=1000)(hb:b.length<=1000)(H:List aA)(T:au):ar prog 112 [.sl a.length (ints a) .none,.sl b.length (ints b) .none] H T (Is (.bool (decide ((comb (λ_ q=>!q) a b).length=0))) H T):=by
 have c:=oG a b ha hb H T .none .none;have hl:=tr (λ_ q=>!q) a b;generalize comb (λ_ q=>!q) a b=r at *;have e:((r.length:Int)==0)=decide (r.length=0):=by
  rw[ajc];simp
 refine ah 12 [] Tryz.ntmps112 Tryz.func112 rfl (λ_ _=>Tryz.call112 _ _) (by simp) (λHO=>?_);apply ae;intro K Z;simp(disch:=omega);apply Z;refine ae λK hK=>?_;simp(disch:=omega) ;refine ak (c) ?_;simp(disch:=omega)[e];apply hK;apply az;simp(disch:=omega) ;exact⟨by simp[e],rfl,rfl⟩
attribute [-simp] List.getD_eq_getElem?_getD in
theorem jQ (s:Sg)(hs:uX s)(H:List aA)(T:au):ar prog 60 [jM s] H T (Is (.bool (aY s)) H T):=by
 refine ar.bZ ?_ (by simp);have eV:bN H T->bN (H++[.cells (dA s)]) T:=λh=>h.snoc (by simp);have c1:=λH=>iu s.aB (agJ hs.d (by decide)) H T .none;have hd:=hs.d;have vC:=hs.t;have agh:s.bO.length<=9223372036854775807:=by omega
 have n2:¬(2000:Int)<s.aB.length:=by omega
 have b2:decide ((2000:Int)<s.aB.length)=false:=agI n2;refine ah 154 [] Tryz.ntmps60 Tryz.func60 rfl (λ_ _=>Tryz.call60 _ _) (by simp) (λHO=>?_);apply ae;intro K Z;simp(disch:=omega);apply Z;refine af λK1 aP=>?_;have HOa:bN (H++[.cells (dA s)]) T:=HO.snoc (by simp)
 cases TU:oX s.aB 1 1000000000 with
 |false=>
  rw[TU] at c1;refine ae λK hK=>?_;simp(disch:=omega) ;refine ak (c1 _) ?_;simp(disch:=omega) ;apply hK;apply aH rfl;apply ae;intro K Z;simp(disch:=omega);apply Z;apply az;simp(disch:=omega) ;rw[EU TU]
 |true=>
 rw[TU] at c1;refine ae λK hK=>?_;simp(disch:=omega) ;refine ak (c1 _) ?_;simp(disch:=omega)[b2,n2];apply hK;apply aF rfl;apply aq;simp(disch:=omega) ;apply aP;clear aP;apply ae;intro K Z;simp(disch:=omega);apply Z;have HOb:bN (H++[.cells (dA s),.map []]) T:=by
  have:=bN.rK (k:=H.length+1) (es:=[]) (HOa.snoc (vs:=[]) (by simp)) (by simp);simpa using this
 refine af λK1 aP=>?_;apply ae;intro K Z;simp(disch:=omega);apply Z;apply aj;refine aJ (X:=Nat) (λi=>⟨[(1,.ptr H.length 0),(3,.aQ (H.length+1)),(29,.sl s.bO.length (du s.bO) .none),(30,.int .i64 (s.bO.length:Nat)),(31,.int .i64 (i:Nat))],H++[.cells (dA s),.map (pe (qH (s.bO.take i)))],T⟩)
  (λi=>i<=s.bO.length/\(∀j,j<i->rz s.bO j=true/\H4 s.aB (s.bO.getD j t0).l=true)/\(qH (s.bO.take i)).Nodup/\(∀k∈qH (s.bO.take i),QG k)/\bN (H++[.cells (dA s),.map (pe (qH (s.bO.take i)))]) T) (λi=>s.bO.length-i) 0 ?_ ?_ ?_
 ·exact⟨agP _,λj hj=>absurd hj (ag9 _),.nil,by simp[qH],HOb⟩
 ·refine ag [] [] ?_ ?_ ?_ ?_ HOb ?_
  all_goals simp[qH,pe]
 ·rintro i ⟨g1,g2,g3,g4,g5⟩;have np:=λh=>qw s.bO ph t0 i h;apply ae;intro K Z;simp(disch:=omega);apply Z;refine af λK2 bp=>?_;refine aU rfl (λhk=>?_) (λhk=>?_)
  ·simp  at hk;have bu:=nG s.bO i hk;obtain⟨q1,q2,q3⟩:=hs.w _ (aT s.bO i t0 hk);apply aq;simp(disch:=omega) ;apply bp;clear bp;refine af λK3 bG=>?_;apply aj;refine ae λK hK=>?_;simp(disch:=omega)[bu,gk];apply hK;have HOc:bN (H++[.cells (dA s),.map (pe (qH (s.bO.take i))),.cells (o8 (s.bO.getD i t0))]) T:=by
    have:=bN.snoc (vs:=o8 (s.bO.getD i t0)) g5 (by simp);simpa using this
   have aeT:rz s.bO i=false->aY s=false:=λh=>Kb hk h;have Y2:H4 s.aB (s.bO.getD i t0).l=false->aY s=false:=λh=>Ow hk h;have ny:rz s.bO i=((decide (1<=(s.bO.getD i t0).f/\(s.bO.getD i t0).f<=4)&&okW (s.bO.getD i t0).w)&&(decide (i=0)||bT (s.bO.getD (i-1) t0).k (s.bO.getD i t0).k)):=rfl;have FW:=λh=>nG s.bO (i-1) h;have sq:rz s.bO i=true->H4 s.aB (s.bO.getD i t0).l=true->∀j,j<i+1->rz s.bO j=true/\H4 s.aB (s.bO.getD j t0).l=true:=λh1 h2 j hj=>by
    rcases agM j i with h|h
    ·exact g2 j h
    ·have:j=i:=by omega
     subst this;exact⟨h1,h2⟩
   have zb:qH (s.bO.take (i+1))=qH (s.bO.take i)++ph (s.bO.getD i t0):=np hk;have Na:¬(qH (s.bO.take i)++ph (s.bO.getD i t0)).Nodup->aY s=false:=λh=>Kc λhn=>h (by
    rw[<-zb];refine List.Nodup.sublist ?_ hn;have:qH s.bO=qH (s.bO.take (i+1))++qH (s.bO.drop (i+1)):=by unfold qH;rw[<-List.flatMap_append,ag7]
    rw[this];exact List.sublist_append_left _ _)
   have yN:H4 s.aB (s.bO.getD i t0).l=((decide ((s.bO.getD i t0).l≠[])&&dS (s.bO.getD i t0).l)&&decide (∀p∈(s.bO.getD i t0).l,p.1∈s.aB)):=rfl;generalize s.bO.getD (i-1) t0=tp at *;generalize af0:qH (s.bO.take i)=seen at *;generalize s.bO.getD i t0=t at *;clear np;have cw:=λH=>Df t.w q1 H T;have ck:=λH=>qB tp.k t.k (.sl tp.l.length (bD tp.l) .none) (.sl t.l.length (bD t.l) .none) H T;have od:=Tf tp.k t.k;generalize rF tp.k t.k=cq at *;generalize bT tp.k t.k=bq at *;obtain⟨f,w,l⟩:=t;simp only at q1 q2 q3 bu cw ck ny yN Y2 sq;refine af λK4 lG=>?_;refine aK [] [] [] aw (by kernel_rfl) (by kernel_rfl) λK hK=>?_;have key:∀e b,b=rz s.bO i->bC (H.length+3) T.length e [(1,.ptr H.length 0),(3,.aQ (H.length+1)),(5,.ptr (H.length+2) 0),(29,.sl s.bO.length (du s.bO) .none),(30,.int .i64 (s.bO.length:Nat)),(31,.int .i64 (i:Nat)),(64,.bool (!b))]->K ⟨e,H++[.cells (dA s),.map (pe seen),.cells (o8 ⟨f,w,l⟩)],T⟩:=by
    intro e b hb he;refine hK _ (aI ⟨[(1,.ptr H.length 0),(3,.aQ (H.length+1)),(5,.ptr (H.length+2) 0),(29,.sl s.bO.length (du s.bO) .none),(30,.int .i64 (s.bO.length:Nat)),(31,.int .i64 (i:Nat)),(64,.bool (!b))],H++[.cells (dA s),.map (pe seen),.cells (o8 ⟨f,w,l⟩)],T⟩ (ag [] [] (by simp) (by simp) (by simp) (by simp) HOc (by simpa using he)) ?_)
    cases b with
    |false=>
     apply aH rfl;apply ae;intro K Z;simp(disch:=omega);apply Z;apply az;simp(disch:=omega) ;rw[aeT hb.symm]
    |true=>
    apply aF rfl;apply aq;simp(disch:=omega) ;apply lG;clear lG;have hf:1<=f/\f<=4:=by
     rw[<-hb] at ny;have:=ny.symm;simp only[agO,agQ] at this;exact this.1.1
    refine af λK5 lq=>?_;refine aK [] [] [] aw (by kernel_rfl) (by kernel_rfl) λK hK=>?_;have kQ:∀e b,b=H4 s.aB l->bC (H.length+3) T.length e [(1,.ptr H.length 0),(3,.aQ (H.length+1)),(5,.ptr (H.length+2) 0),(29,.sl s.bO.length (du s.bO) .none),(30,.int .i64 (s.bO.length:Nat)),(31,.int .i64 (i:Nat)),(83,.bool (!b))]->K ⟨e,H++[.cells (dA s),.map (pe seen),.cells (o8 ⟨f,w,l⟩)],T⟩:=by
     intro e b2 kK yA;refine hK _ (aI ⟨[(1,.ptr H.length 0),(3,.aQ (H.length+1)),(5,.ptr (H.length+2) 0),(29,.sl s.bO.length (du s.bO) .none),(30,.int .i64 (s.bO.length:Nat)),(31,.int .i64 (i:Nat)),(83,.bool (!b2))],H++[.cells (dA s),.map (pe seen),.cells (o8 ⟨f,w,l⟩)],T⟩ (ag [] [] (by simp) (by simp) (by simp) (by simp) HOc (by simpa using yA)) ?_)
     cases b2 with
     |false=>
      apply aH rfl;apply ae;intro K Z;simp(disch:=omega);apply Z;apply az;simp(disch:=omega) ;rw[Y2 kK.symm]
     |true=>
     have Qq:dS l=true:=by
      rw[<-kK] at yN;have:=yN.symm;simp only[agO,agQ] at this;exact this.1.2
     apply aF rfl;apply aq;simp(disch:=omega) ;apply lq;clear lq;refine aI ⟨[(1,.ptr H.length 0),(3,.aQ (H.length+1)),(5,.ptr (H.length+2) 0),(29,.sl s.bO.length (du s.bO) .none),(30,.int .i64 (s.bO.length:Nat)),(31,.int .i64 (i:Nat))],H++[.cells (dA s),.map (pe seen),.cells (o8 ⟨f,w,l⟩)],T⟩ (ag [] [] (by simp) (by simp) (by simp) (by simp) HOc (by simp)) ?_;refine JZ s ⟨f,w,l⟩ i q2 q3 hf Qq seen g4 g3 H T HOc _ (λhn e rH rT he=>?_) λhn hp hO e he=>?_
     ·show sy prog Tryz.f60.results.toList (λr H' T'=>(∃rH,H'=H++rH)/\(∃rT,T'=T++rT)/\(r=.bool (aY s)\/cK r=.bool (aY s))) .ret _;simp[he,Na hn]
     ·rw[<-zb] at hn hp hO ⊢;have MB:bN (H++[.cells (dA s),.map (pe (qH (s.bO.take (i+1))))]) T:=by
       have:=bN.rK (k:=H.length+1) (es:=pe (qH (s.bO.take (i+1)))) g5 (by simp);simpa using this
      refine bG _ (aI ⟨[(1,.ptr H.length 0),(3,.aQ (H.length+1)),(29,.sl s.bO.length (du s.bO) .none),(30,.int .i64 (s.bO.length:Nat)),(31,.int .i64 (i:Nat))],H++[.cells (dA s),.map (pe (qH (s.bO.take (i+1))))],T⟩ (ag [.cells (o8 ⟨f,w,l⟩)] [] (by simp) (by simp) (by simp) (by simp) MB (by simpa using he)) ?_);refine aC λK hK=>?_;simp(disch:=omega) ;apply hK;refine⟨i+1,⟨by show i+1<=_;omega,sq hb.symm kK.symm,hn,hp,MB⟩,by show s.bO.length-(i+1)<s.bO.length-i;omega,?_⟩;refine ag [] [] ?_ ?_ ?_ ?_ MB ?_
      all_goals simp
    clear hK
    by_cases v3:l.length=0
    ·have e3:l=[]:=aho.1 v3;subst e3;simp(disch:=omega) ;refine kQ _ false (by rw[yN];rfl) (by simp)
    have w3:((l.length:Int)==0)=false:=ahq.2 (by omega);have n3:l≠[]:=λe=>v3 (by rw[e];rfl);rw[agH n3,ahM] at yN;have hm4:1000<=maxLen:=by decide
    have cv:=λH=>ju l (agJ q2 (by omega)) (λp hp=>agJ (q3 p hp) hm4) H T .none;have cd:=λH=>Ek l (agJ q2 (by omega)) (λp hp=>agJ (q3 p hp) hm4) H T .none
    cases Qq:dS l with
    |false=>
     rw[Qq] at cv yN;simp(disch:=omega)[w3,n3];refine aD (cv _) rfl ?_;simp(disch:=omega) ;refine kQ _ false (by rw[yN];rfl) (by simp)
    |true=>
     rw[Qq] at cv yN;have mN:sH l=aB l:=by unfold sH;rw[agN Qq]
     rw[mN] at cd;have cwi:=λH=>JX (aB l) s.aB (by simp[aB];exact q2) hd H T;have Cs:oX (aB l) 1 1000000000=true:=by unfold dS at Qq;rw[agO] at Qq;exact Qq.1
     have hwd:decide ((comb (λ_ q=>!q) (aB l) s.aB).length=0)=decide (∀p∈l,p.1∈s.aB):=by
      rw[ajc,agQ,agQ,VW Cs TU];simp only[aB,agG,forall_exists_index,and_imp,forall_apply_eq_imp_iff₂]
     rw[hwd] at cwi;rw[ahM] at yN;generalize decide (∀p∈l,p.1∈s.aB)=bb at *;simp(disch:=omega)[w3,n3];refine aD (cv _) rfl ?_;simp(disch:=omega) ;refine aD (cd _) rfl ?_;simp(disch:=omega) ;refine aD (cwi _) rfl ?_;simp(disch:=omega) ;refine kQ _ bb yN.symm (by simp)
   clear hK
   by_cases v1:f<1
   ·have w1:decide (f<1)=true:=agH v1;simp(disch:=omega)[w1,v1];refine key _ false (by rw[ny,agI (by omega:¬(1<=f/\f<=4))];rfl) (by simp)
   have w1:decide (f<1)=false:=agI v1
   by_cases v2:4<f
   ·have w2:decide (4<f)=true:=agH v2;simp(disch:=omega)[w1,v1,w2,v2];refine key _ false (by rw[ny,agI (by omega:¬(1<=f/\f<=4))];rfl) (by simp)
   have w2:decide (4<f)=false:=agI v2;rw[agH (by omega:1<=f/\f<=4),ahM] at ny
   cases hw:okW w with
   |false=>
    rw[hw] at cw ny;simp(disch:=omega)[w1,v1,w2,v2];refine aD (cw _) rfl ?_;simp(disch:=omega) ;refine key _ false (by rw[ny];rfl) (by simp)
   |true=>
   rw[hw] at cw ny;rcases ahc i with h5|h5
   ·subst h5;simp(disch:=omega)[w1,v1,w2,v2];refine aD (cw _) rfl ?_;simp(disch:=omega) ;refine key _ true (by rw[ny];rfl) (by simp)
   ·have e6:((i:Int)-1)=((i-1:Nat):Int):=by omega
    have b5:decide ((0:Int)<(i:Int))=true:=agH (by omega);have tS:=FW (by omega);rw[agI (by omega:¬i=0),aim,ahM] at ny
    cases bq with
    |false=>
     have n7:=od.2 rfl;have b7:decide (0<=cq)=true:=agH n7;simp(disch:=omega)[w1,v1,w2,v2];refine aD (cw _) rfl ?_;simp(disch:=omega)[b5,h5,e6,tS,gk];refine aD (ck _) rfl ?_;simp(disch:=omega)[b7,n7];refine key _ false (by rw[ny]) (by simp)
    |true=>
     have n7:¬0<=cq:=λe=>by have:=od.1 e;cases this
     have b7:decide (0<=cq)=false:=agI n7;simp(disch:=omega)[w1,v1,w2,v2];refine aD (cw _) rfl ?_;simp(disch:=omega)[b5,h5,e6,tS,gk];refine aD (ck _) rfl ?_;simp(disch:=omega)[b7,n7];refine key _ true (by rw[ny]) (by simp)
  ·simp  at hk;apply aG;simp(disch:=omega) ;apply aP;clear aP;have hi:i=s.bO.length:=by omega
   subst hi;rw[agZ] at g3 g4 g5 ⊢;refine aI ⟨[(1,.ptr H.length 0),(3,.aQ (H.length+1))],H++[.cells (dA s),.map (pe (qH s.bO))],T⟩ (ag [] [] (by simp) (by simp) (by simp) (by simp) g5 (by simp)) ?_;exact J9 s hs TU (by omega) ⟨g2,g3⟩ (pe (qH s.bO)) H T g5
end Go.Proofs.YtoejlmpbebjemaaGreat
