/- Lists of rows as cells: lengths, rows, beginnings, one row changed. Documents and segments (layers 37, 39) as cells. Words of documents (layer 37).
  Conditions: lengths below 400 or 1000, as each theorem says. -/
import Derived.Test.YtoejlmpbebjemaaGreatAmFacts
import Derived.Test.YtoejlmpbebjemaaGreatAmC
import Derived.Test.YtoejlmpbebjemaaGreatPB
import Derived.Test.YtoejlmpbebjemaaGreatSPl
set_option linter.all false
set_option maxRecDepth 100000
open List (getD_eq_getElem?_getD)
namespace Go.Am
open Go
def dX:List Nat->Code->Code
 |[],c=>c
 |0::p,.seq x _=>dX p x
 |1::p,.seq _ y=>dX p y
 |0::p,.cond _ x _=>dX p x
 |1::p,.cond _ _ y=>dX p y
 |0::p,.block _ x=>dX p x
 |0::p,.loop x=>dX p x
 |_,c=>c
def ep {α:Type}(f:α->List AV)(k:Nat):Prop:=∀x,(f x).length=k
section
variable {α : Type} {f : α -> List AV} {k : Nat}
theorem bY (h:ep f k):∀l:List α,(l.flatMap f).length=l.length*k
 |[]=>by simp
 |x::r=>by rw[agT,agF,bY h r,h x,ahd,ahU,Nat.one_mul];omega
theorem jT (h:ep f k):∀(l:List α)(i:Nat),(l.flatMap f).drop (i*k)=(l.drop i).flatMap f
 |l,0=>by simp
 |[],i+1=>by simp
 |x::r,i+1=>by
  rw[List.drop_succ_cons,<-jT h r i,agT,ahU,Nat.one_mul,List.drop_append,h x,aiW (by rw[h x];omega),aic]
  congr 1;omega
theorem nK (h:ep f k):∀(l:List α)(i:Nat),(l.flatMap f).take (i*k)=(l.take i).flatMap f
 |l,0=>by simp
 |[],i+1=>by simp
 |x::r,i+1=>by
  rw[List.take_succ_cons,agT,agT,<-nK h r i,ahU,Nat.one_mul,List.take_append,h x,aih (by rw[h x];omega)]
  congr 2;omega
def dM {β:Type}(l:List β)(i:Nat)(d:β)(hi:i<l.length):l.drop i=l.getD i d::l.drop (i+1):=by
 rw[ah5 hi,agB,agD hi];rfl
def fO (h:ep f k)(l:List α)(i:Nat)(d:α)(hi:i<l.length):((l.flatMap f).drop (i*k)).take k=f (l.getD i d):=by
 rw[jT h,dM l i d hi,agT,List.take_append,h,ah1,aih (by rw[h];omega),List.take_zero,ag2]
def eJ (h:ep f k)(l:List α)(i j:Nat)(d:α)(hi:i<l.length)(hj:j<k):(l.flatMap f).getD (i*k+j) .top=(f (l.getD i d)).getD j .top:=by
 have e:=fO h l i d hi;rw[<-e,agB,agB,ahu,agN hj,aii]
def nL (l:List α)(x:α):l.flatMap f++f x=(l++[x]).flatMap f:=by simp
def aV {β:Type}(l:List β)(i:Nat)(d:β)(hi:i<l.length):l.take (i+1)=l.take i++[l.getD i d]:=by
 rw[ah0 hi,agB,agD hi];rfl
def fG {n t:Nat}(h:∀x,aM n t (f x))(l:List α):aM n t (l.flatMap f):=by
 intro v hv;obtain⟨x,_,hv⟩:=ahm.1 hv;exact h x v hv
end
def dj (zs:List AV):gh zs 0=[]:=rfl
def aT {β:Type}(l:List β)(i:Nat)(d:β)(hi:i<l.length):l.getD i d∈l:=by
 rw[agB,agD hi];exact ahb hi
def bK {β:Type}{l:List β}{x:β}(d:β)(h:x∈l):∃i,i<l.length/\l.getD i d=x:=by
 obtain⟨i,hi,e⟩:=agW.1 h;exact⟨i,hi,by rw[agB,agD hi];exact e⟩
end Go.Am
namespace eN
abbrev Bs:=List UInt8
abbrev Wd:=Bs×Int
abbrev Nm:=Int×Int
abbrev Ps:=Int×List Int
structure Zn where
 f:Int
 ws:List Wd
 deriving DecidableEq
structure Dc where
 id:Int
 zs:List Zn
 ns:List Nm
 deriving DecidableEq
structure Tm where
 f:Int
 w:Bs
 l:List Ps
 deriving DecidableEq
structure Cl where
 f:Int
 x:List Nm
 deriving DecidableEq
structure Sg where
 aB:List Int
 bO:List Tm
 aO:List Cl
 deriving DecidableEq
abbrev w0:Wd:=([],0)
abbrev n0:Nm:=(0,0)
abbrev p0:Ps:=(0,[])
abbrev z0:Zn:=⟨0,[]⟩
abbrev d0:Dc:=⟨0,[],[]⟩
abbrev t0:Tm:=⟨0,[],[]⟩
abbrev c0:Cl:=⟨0,[]⟩
def bV:Sg:=⟨[],[],[]⟩
end eN
namespace Go.Proofs.YtoejlmpbebjemaaGreat
open Go Go.Am eN
abbrev QM (x:Wd):List AV:=[.str x.1,.int .i64 x.2]
def dQ (l:List Wd):List AV:=l.flatMap λx=>[.str x.1,.int .i64 x.2]
def v7:ep QM 2:=λ_=>rfl
def Ov:dQ []=[]:=rfl
def gj (l:List Wd):(dQ l).length=l.length*2:=bY v7 l
def Bm (l:List Wd)(i:Nat)(h:i<l.length):(dQ l).getD (i*2) .top=.str (l.getD i w0).1/\(dQ l).getD (i*2+1) .top=.int .i64 (l.getD i w0).2:=
 ⟨eJ v7 l i 0 w0 h (by omega),eJ v7 l i 1 w0 h (by omega)⟩
def sS (l:List Wd)(i:Nat)(h:i<l.length):((dQ l).drop (i*2)).take 2=[.str (l.getD i w0).1,.int .i64 (l.getD i w0).2]:=fO v7 l i w0 h
def JY (l:List Wd)(x:Wd):dQ l++[.str x.1,.int .i64 x.2]=dQ (l++[x]):=nL (f:=QM) l x
@[simp] theorem abT (n t:Nat) (l:List Wd):aM n t (dQ l):=fG (f:=QM) (λx=>by simp) l
abbrev y4 (x:Nm):List AV:=[.int .i64 x.1,.int .i64 x.2]
def bA (l:List Nm):List AV:=l.flatMap λx=>[.int .i64 x.1,.int .i64 x.2]
def qf:ep y4 2:=λ_=>rfl
def DN:bA []=[]:=rfl
def cL (l:List Nm):(bA l).length=l.length*2:=bY qf l
def SA (l:List Nm)(i:Nat)(h:i<l.length):(bA l).getD (i*2) .top=.int .i64 (l.getD i n0).1/\(bA l).getD (i*2+1) .top=.int .i64 (l.getD i n0).2:=
 ⟨eJ qf l i 0 n0 h (by omega),eJ qf l i 1 n0 h (by omega)⟩
def gV (l:List Nm)(i:Nat)(h:i<l.length):((bA l).drop (i*2)).take 2=[.int .i64 (l.getD i n0).1,.int .i64 (l.getD i n0).2]:=fO qf l i n0 h
def ux (l:List Nm)(x:Nm):bA l++[.int .i64 x.1,.int .i64 x.2]=bA (l++[x]):=nL (f:=y4) l x
def Lj (l:List Nm)(i:Nat):(bA l).drop (i*2)=bA (l.drop i):=jT qf l i
def Sz (l:List Nm)(i:Nat):(bA l).take (i*2)=bA (l.take i):=nK qf l i
@[simp] theorem xP (n t:Nat) (l:List Nm):aM n t (bA l):=fG (f:=y4) (λx=>by simp) l
abbrev psC (x:Ps):List AV:=[.int .i64 x.1,.sl x.2.length (ints x.2) .none]
abbrev oN (x:Zn):List AV:=[.int .i64 x.f,.sl x.ws.length (dQ x.ws) .none]
def fg (l:List Zn):List AV:=l.flatMap λx=>[.int .i64 x.f,.sl x.ws.length (dQ x.ws) .none]
def vY:ep oN 2:=λ_=>rfl
def On:fg []=[]:=rfl
def fN (l:List Zn):(fg l).length=l.length*2:=bY vY l
def vZ (l:List Zn)(i:Nat)(h:i<l.length):(fg l).getD (i*2) .top=.int .i64 (l.getD i z0).f/\(fg l).getD (i*2+1) .top=.sl (l.getD i z0).ws.length (dQ (l.getD i z0).ws) .none:=
 ⟨eJ vY l i 0 z0 h (by omega),eJ vY l i 1 z0 h (by omega)⟩
def sQ (l:List Zn)(i:Nat)(h:i<l.length):((fg l).drop (i*2)).take 2=[.int .i64 (l.getD i z0).f,.sl (l.getD i z0).ws.length (dQ (l.getD i z0).ws) .none]:=fO vY l i z0 h
@[simp] theorem abS (n t:Nat) (l:List Zn):aM n t (fg l):=fG (f:=oN) (λx=>by simp) l
abbrev dO (x:Dc):List AV:=[.int .i64 x.id,.sl x.zs.length (fg x.zs) .none,.sl x.ns.length (bA x.ns) .none]
def aN (l:List Dc):List AV:=l.flatMap λx=>[.int .i64 x.id,.sl x.zs.length (fg x.zs) .none,.sl x.ns.length (bA x.ns) .none]
def jY:ep dO 3:=λ_=>rfl
def tn:aN []=[]:=rfl
def bf (l:List Dc):(aN l).length=l.length*3:=bY jY l
def iO (l:List Dc)(i:Nat)(h:i<l.length):(aN l).getD (i*3) .top=.int .i64 (l.getD i d0).id/\(aN l).getD (i*3+1) .top=.sl (l.getD i d0).zs.length (fg (l.getD i d0).zs) .none/\(aN l).getD (i*3+2) .top=.sl (l.getD i d0).ns.length (bA (l.getD i d0).ns) .none:=
 ⟨eJ jY l i 0 d0 h (by omega),eJ jY l i 1 d0 h (by omega),eJ jY l i 2 d0 h (by omega)⟩
def fC (l:List Dc)(i:Nat)(h:i<l.length):((aN l).drop (i*3)).take 3=[.int .i64 (l.getD i d0).id,.sl (l.getD i d0).zs.length (fg (l.getD i d0).zs) .none,.sl (l.getD i d0).ns.length (bA (l.getD i d0).ns) .none]:=fO jY l i d0 h
def Eo (a b:List Dc):aN a++aN b=aN (a++b):=by simp[aN]
def LZ (l:List Dc)(i:Nat):(aN l).drop (i*3)=aN (l.drop i):=jT jY l i
def Tc (l:List Dc)(i:Nat):(aN l).take (i*3)=aN (l.take i):=nK jY l i
@[simp] theorem xQ (n t:Nat) (l:List Dc):aM n t (aN l):=fG (f:=dO) (λx=>by simp) l
abbrev o8 (x:Tm):List AV:=[.int .i64 x.f,.str x.w,.sl x.l.length (bD x.l) .none]
def du (l:List Tm):List AV:=l.flatMap λx=>[.int .i64 x.f,.str x.w,.sl x.l.length (bD x.l) .none]
def qd:ep o8 3:=λ_=>rfl
def sV:du []=[]:=rfl
def gk (l:List Tm):(du l).length=l.length*3:=bY qd l
def R7 (l:List Tm)(i:Nat)(h:i<l.length):(du l).getD (i*3) .top=.int .i64 (l.getD i t0).f/\(du l).getD (i*3+1) .top=.str (l.getD i t0).w/\(du l).getD (i*3+2) .top=.sl (l.getD i t0).l.length (bD (l.getD i t0).l) .none:=
 ⟨eJ qd l i 0 t0 h (by omega),eJ qd l i 1 t0 h (by omega),eJ qd l i 2 t0 h (by omega)⟩
def nG (l:List Tm)(i:Nat)(h:i<l.length):((du l).drop (i*3)).take 3=[.int .i64 (l.getD i t0).f,.str (l.getD i t0).w,.sl (l.getD i t0).l.length (bD (l.getD i t0).l) .none]:=fO qd l i t0 h
def Ki (l:List Tm)(i:Nat):(du l).drop (i*3)=du (l.drop i):=jT qd l i
@[simp] theorem abU (n t:Nat) (l:List Tm):aM n t (du l):=fG (f:=o8) (λx=>by simp) l
abbrev ru (x:Cl):List AV:=[.int .i64 x.f,.sl x.x.length (bA x.x) .none]
def dH (l:List Cl):List AV:=l.flatMap λx=>[.int .i64 x.f,.sl x.x.length (bA x.x) .none]
def wk:ep ru 2:=λ_=>rfl
def Ew:dH []=[]:=rfl
def nI (l:List Cl):(dH l).length=l.length*2:=bY wk l
def Tg (l:List Cl)(i:Nat)(h:i<l.length):(dH l).getD (i*2) .top=.int .i64 (l.getD i c0).f/\(dH l).getD (i*2+1) .top=.sl (l.getD i c0).x.length (bA (l.getD i c0).x) .none:=
 ⟨eJ wk l i 0 c0 h (by omega),eJ wk l i 1 c0 h (by omega)⟩
def xK (l:List Cl)(i:Nat)(h:i<l.length):((dH l).drop (i*2)).take 2=[.int .i64 (l.getD i c0).f,.sl (l.getD i c0).x.length (bA (l.getD i c0).x) .none]:=fO wk l i c0 h
def L8 (l:List Cl)(x:Cl):dH l++[.int .i64 x.f,.sl x.x.length (bA x.x) .none]=dH (l++[x]):=nL (f:=ru) l x
@[simp] theorem ab0 (n t:Nat) (l:List Cl):aM n t (dH l):=fG (f:=ru) (λx=>by simp) l
abbrev jM (s:Sg):AV:=.agg [.sl s.aB.length (ints s.aB) .none,.sl s.bO.length (du s.bO) .none,.sl s.aO.length (dH s.aO) .none]
open ia
def IK {s:wD}{k:Nat}(hk:k<s.length)(h:(s.getD k 0).toNat<=32):okW s=false:=by
 have hm:=vJ s k 0 hk;have:s.all (λc=>decide (32<c.toNat))=false:=by
  rw[List.all_eq_false];exact⟨_,hm,by simp only[agQ];omega⟩
 simp only[okW,this,Bool.false_and]
def DL {s:wD}(h:∀j,j<s.length->32<(s.getD j 0).toNat):okW s=decide (1<=s.length/\s.length<=100):=by
 have:s.all (λc=>decide (32<c.toNat))=true:=by
  rw[aha];intro c hc;obtain⟨j,hj,e⟩:=mc 0 hc;have:=h j hj;rw[e] at this;simpa using this
 simp only[okW,this,ahM]
attribute [-simp] getD_eq_getElem?_getD in
def Df (s:wD)(hs:s.length<=maxLen)(H:List aA)(T:au):ar Tryz.prog 110 [.str s] H T (Is (.bool (okW s)) H T):=by
 have kC:maxLen<=9223372036854775807:=by decide
 have uS:=agJ hs kC;generalize hq:okW s=q;refine ah 7 [] Tryz.ntmps110 Tryz.func110 rfl (λ_ _=>Tryz.call110 _ _) (by simp) (λHO=>?_);apply ae;intro K Z;simp(disch:=omega);apply Z;refine af λK1 aP=>?_;apply ae;intro K Z;simp(disch:=omega);apply Z;apply aj;refine aJ (X:=Nat) (λk=>⟨[(0,.str s),(5,.int .i64 (s.length:Nat)),(6,.int .i64 (k:Nat))],H,T⟩) (λk=>k<=s.length/\∀j,j<k->32<(s.getD j 0).toNat) (λk=>s.length-k) 0 ?_ ?_ ?_
 ·exact⟨agP _,λj hj=>absurd hj (ag9 _)⟩
 ·refine ag [] [] ?_ ?_ ?_ ?_ HO ?_
  all_goals simp
 ·rintro k ⟨h1,h2⟩;apply ae;intro K Z;simp(disch:=omega);apply Z;refine af λK2 bp=>?_;refine aU rfl (λhk=>?_) (λhk=>?_)
  ·simp  at hk;apply aq;simp(disch:=omega) ;apply bp;clear bp;refine af λK3 bG=>?_;apply aj;apply ae;intro K Z;simp(disch:=omega);apply Z
   by_cases hc:(s.getD k 0).toNat<=32
   ·have b:decide (((s.getD k 0).toNat:Int)<=32)=true:=by simp ;omega
    refine ae λK hK=>?_;simp(disch:=omega)[b,hc,hk];apply hK;apply aH rfl;apply ae;intro K Z;simp(disch:=omega);apply Z;apply az;simp(disch:=omega) ;rw[<-hq,IK hk hc];exact⟨rfl,rfl,rfl⟩
   ·have b:decide (((s.getD k 0).toNat:Int)<=32)=false:=by simp ;omega
    refine ae λK hK=>?_;simp(disch:=omega)[b,hc,hk];apply hK;apply aF rfl;apply aq;simp(disch:=omega) ;apply bG;clear bG;refine aC λK hK=>?_;simp(disch:=omega) ;apply hK;refine⟨k+1,⟨by show k+1<=_;omega,λj hj=>?_⟩,by show s.length-(k+1)<s.length-k;omega,?_⟩
    ·rcases agM j k with h3|h3
     ·exact h2 j h3
     ·have:j=k:=by omega
      subst this;omega
    ·refine ag [] [] ?_ ?_ ?_ ?_ HO ?_
     all_goals simp
  ·simp  at hk;have hn:=DL (s:=s) (λj hj=>h2 j (by omega));rw[hq] at hn;subst hn;apply aG;simp(disch:=omega) ;apply aP;clear aP
   by_cases h3:1<=s.length
   ·have b3:decide ((1:Int)<=s.length)=true:=by simp;omega
    by_cases h4:s.length<=100
    ·have b4:decide ((s.length:Int)<=100)=true:=by simp;omega
     refine ae λK hK=>?_;simp(disch:=omega)[b3,b4,h3,h4];apply hK;apply az;simp(disch:=omega) ;exact⟨by simp[h3,h4],rfl,rfl⟩
    ·have b4:decide ((s.length:Int)<=100)=false:=by simp;omega
     refine ae λK hK=>?_;simp(disch:=omega)[b3,b4,h3,h4];apply hK;apply az;simp(disch:=omega) ;exact⟨by simp[h3,h4],rfl,rfl⟩
   ·have b3:decide ((1:Int)<=s.length)=false:=by simp;omega
    refine ae λK hK=>?_;simp(disch:=omega)[b3,h3];apply hK;apply az;simp(disch:=omega) ;exact⟨by simp[h3],rfl,rfl⟩
attribute [-simp] getD_eq_getElem?_getD in
def Oq (s:wD)(hs:s.length<=maxLen)(H:List aA)(T:au):ar Tryz.prog 134 [.str s] H T (Is (.bool (okW s)) H T):=by
 have kC:maxLen<=9223372036854775807:=by decide
 have uS:=agJ hs kC;generalize hq:okW s=q;refine ah 7 [] Tryz.ntmps134 Tryz.func134 rfl (λ_ _=>Tryz.call134 _ _) (by simp) (λHO=>?_);apply ae;intro K Z;simp(disch:=omega);apply Z;refine af λK1 aP=>?_;apply ae;intro K Z;simp(disch:=omega);apply Z;apply aj;refine aJ (X:=Nat) (λk=>⟨[(0,.str s),(3,.int .i64 (k:Nat))],H,T⟩) (λk=>k<=s.length/\∀j,j<k->32<(s.getD j 0).toNat) (λk=>s.length-k) 0 ?_ ?_ ?_
 ·exact⟨agP _,λj hj=>absurd hj (ag9 _)⟩
 ·refine ag [] [] ?_ ?_ ?_ ?_ HO ?_
  all_goals simp
 ·rintro k ⟨h1,h2⟩;refine af λK2 bp=>?_;apply ae;intro K Z;simp(disch:=omega);apply Z;refine aU rfl (λhk=>?_) (λhk=>?_)
  ·simp  at hk;apply aq;simp(disch:=omega) ;apply bp;clear bp;refine af λK3 bG=>?_;apply aj
   by_cases hc:(s.getD k 0).toNat<=32
   ·have b:decide (((s.getD k 0).toNat:Int)<=32)=true:=by simp ;omega
    refine ae λK hK=>?_;simp(disch:=omega)[b,hc,hk];apply hK;apply aH rfl;apply ae;intro K Z;simp(disch:=omega);apply Z;apply az;simp(disch:=omega) ;rw[<-hq,IK hk hc];exact⟨rfl,rfl,rfl⟩
   ·have b:decide (((s.getD k 0).toNat:Int)<=32)=false:=by simp ;omega
    refine ae λK hK=>?_;simp(disch:=omega)[b,hc,hk];apply hK;apply aF rfl;apply aq;simp(disch:=omega) ;apply bG;clear bG;refine aC λK hK=>?_;simp(disch:=omega) ;apply hK;refine⟨k+1,⟨by show k+1<=_;omega,λj hj=>?_⟩,by show s.length-(k+1)<s.length-k;omega,?_⟩
    ·rcases agM j k with h3|h3
     ·exact h2 j h3
     ·have:j=k:=by omega
      subst this;omega
    ·refine ag [] [] ?_ ?_ ?_ ?_ HO ?_
     all_goals simp
  ·simp  at hk;have hn:=DL (s:=s) (λj hj=>h2 j (by omega));rw[hq] at hn;subst hn;apply aG;simp(disch:=omega) ;apply aP;clear aP
   by_cases h3:1<=s.length
   ·have b3:decide ((1:Int)<=s.length)=true:=by simp;omega
    by_cases h4:s.length<=100
    ·have b4:decide ((s.length:Int)<=100)=true:=by simp;omega
     refine ae λK hK=>?_;simp(disch:=omega)[b3,b4,h3,h4];apply hK;apply az;simp(disch:=omega) ;exact⟨by simp[h3,h4],rfl,rfl⟩
    ·have b4:decide ((s.length:Int)<=100)=false:=by simp;omega
     refine ae λK hK=>?_;simp(disch:=omega)[b3,b4,h3,h4];apply hK;apply az;simp(disch:=omega) ;exact⟨by simp[h3,h4],rfl,rfl⟩
   ·have b3:decide ((1:Int)<=s.length)=false:=by simp;omega
    refine ae λK hK=>?_;simp(disch:=omega)[b3,h3];apply hK;apply az;simp(disch:=omega) ;exact⟨by simp[h3],rfl,rfl⟩
end Go.Proofs.YtoejlmpbebjemaaGreat
