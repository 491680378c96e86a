/- Lists of rows as cells: lengths, rows, beginnings, one row changed. Documents and segments (layers 37, 39) as cells. Words of documents (layer 37).
  Conditions: lengths below 400 or 1000, as each theorem says. -/
import Derived.Test.YtoejlmpbebjemaaGreatAmFacts
import Derived.Test.YtoejlmpbebjemaaGreatAmC
import Derived.Test.YtoejlmpbebjemaaGreatPB
import Derived.Test.YtoejlmpbebjemaaGreatSPl
set_option linter.all false
set_option maxRecDepth 100000
open List (getD_eq_getElem?_getD)
namespace Go.Am
open Go
def dZ:List Nat->Code->Code
 |[],c=>c
 |0::p,.seq x _=>dZ p x
 |1::p,.seq _ y=>dZ p y
 |0::p,.cond _ x _=>dZ p x
 |1::p,.cond _ _ y=>dZ p y
 |0::p,.block _ x=>dZ p x
 |0::p,.loop x=>dZ p x
 |_,c=>c
def eE {α:Type}(f:α->List AV)(k:Nat):Prop:=∀x,(f x).length=k
section
variable {α : Type} {f : α -> List AV} {k : Nat}
theorem cj (h:eE f k):∀l:List α,(l.flatMap f).length=l.length*k
 |[]=>by simp
 |x::r=>by rw[ahK,ahw,cj h r,h x,ahY,aiM,Nat.one_mul];omega
theorem kq (h:eE f k):∀(l:List α)(i:Nat),(l.flatMap f).drop (i*k)=(l.drop i).flatMap f
 |l,0=>by simp
 |[],i+1=>by simp
 |x::r,i+1=>by
  rw[List.drop_succ_cons,<-kq h r i,ahK,aiM,Nat.one_mul,List.drop_append,h x,ajN (by rw[h x];omega),ai3]
  congr 1;omega
theorem oe (h:eE f k):∀(l:List α)(i:Nat),(l.flatMap f).take (i*k)=(l.take i).flatMap f
 |l,0=>by simp
 |[],i+1=>by simp
 |x::r,i+1=>by
  rw[List.take_succ_cons,ahK,ahK,<-oe h r i,aiM,Nat.one_mul,List.take_append,h x,ajh (by rw[h x];omega)]
  congr 2;omega
def dF {β:Type}(l:List β)(i:Nat)(d:β)(hi:i<l.length):l.drop i=l.getD i d::l.drop (i+1):=by
 rw[aiW hi,ahs,ahu hi];rfl
def fX (h:eE f k)(l:List α)(i:Nat)(d:α)(hi:i<l.length):((l.flatMap f).drop (i*k)).take k=f (l.getD i d):=by
 rw[kq h,dF l i d hi,ahK,List.take_append,h,aiT,ajh (by rw[h];omega),List.take_zero,ahS]
def eP (h:eE f k)(l:List α)(i j:Nat)(d:α)(hi:i<l.length)(hj:j<k):(l.flatMap f).getD (i*k+j) .top=(f (l.getD i d)).getD j .top:=by
 have e:=fX h l i d hi;rw[<-e,ahs,ahs,aim,ahF hj,aja]
def og (l:List α)(x:α):l.flatMap f++f x=(l++[x]).flatMap f:=zS
def aX {β:Type}(l:List β)(i:Nat)(d:β)(hi:i<l.length):l.take (i+1)=l.take i++[l.getD i d]:=by
 rw[aiS hi,ahs,ahu hi];rfl
def fO {n t:Nat}(h:∀x,aL n t (f x))(l:List α):aL n t (l.flatMap f):=by
 intro v hv;obtain⟨x,_,hv⟩:=ah7.1 hv;exact h x v hv
end
def dx (zs:List AV):iq zs 0=[]:=rfl
def aQ {β:Type}(l:List β)(i:Nat)(d:β)(hi:i<l.length):l.getD i d∈l:=by
 rw[ahs,ahu hi];exact ah2 hi
def bP {β:Type}{l:List β}{x:β}(d:β)(h:x∈l):∃i,i<l.length/\l.getD i d=x:=by
 obtain⟨i,hi,e⟩:=ahN.1 h;exact⟨i,hi,by rw[ahs,ahu hi];exact e⟩
end Go.Am
namespace eN
abbrev Bs:=List UInt8
abbrev Wd:=Bs×Int
abbrev Nm:=Int×Int
abbrev Ps:=Int×List Int
structure Zn where
 f:Int
 ws:List Wd
 deriving DecidableEq
structure Dc where
 id:Int
 zs:List Zn
 ns:List Nm
 deriving DecidableEq
structure Tm where
 f:Int
 w:Bs
 l:List Ps
 deriving DecidableEq
structure Cl where
 f:Int
 x:List Nm
 deriving DecidableEq
structure Sg where
 aw:List Int
 aW:List Tm
 aH:List Cl
 deriving DecidableEq
abbrev w0:Wd:=([],0)
abbrev n0:Nm:=(0,0)
abbrev p0:Ps:=(0,[])
abbrev z0:Zn:=⟨0,[]⟩
abbrev d0:Dc:=⟨0,[],[]⟩
abbrev t0:Tm:=⟨0,[],[]⟩
abbrev c0:Cl:=⟨0,[]⟩
def bY:Sg:=⟨[],[],[]⟩
end eN
namespace Go.Proofs.YtoejlmpbebjemaaGreat
open Go Go.Am eN
abbrev Ry (x:Wd):List AV:=[.str x.1,.int .i64 x.2]
def dX (l:List Wd):List AV:=l.flatMap λx=>[.str x.1,.int .i64 x.2]
def wG:eE Ry 2:=λ_=>rfl
def O9:dX []=[]:=rfl
def gG (l:List Wd):(dX l).length=l.length*2:=cj wG l
def BZ (l:List Wd)(i:Nat)(h:i<l.length):(dX l).getD (i*2) .top=.str (l.getD i w0).1/\(dX l).getD (i*2+1) .top=.int .i64 (l.getD i w0).2:=
 ⟨eP wG l i 0 w0 h zO,eP wG l i 1 w0 h zO⟩
def tE (l:List Wd)(i:Nat)(h:i<l.length):((dX l).drop (i*2)).take 2=[.str (l.getD i w0).1,.int .i64 (l.getD i w0).2]:=fX wG l i w0 h
def KN (l:List Wd)(x:Wd):dX l++[.str x.1,.int .i64 x.2]=dX (l++[x]):=og (f:=Ry) l x
@[simp] theorem acK (n t:Nat) (l:List Wd):aL n t (dX l):=fO (f:=Ry) (λx=>by simp) l
abbrev wA (x:Nm):List AV:=[.int .i64 x.1,.int .i64 x.2]
def bG (l:List Nm):List AV:=l.flatMap λx=>[.int .i64 x.1,.int .i64 x.2]
def qH:eE wA 2:=λ_=>rfl
def EA:bG []=[]:=rfl
def cE (l:List Nm):(bG l).length=l.length*2:=cj qH l
def Tu (l:List Nm)(i:Nat)(h:i<l.length):(bG l).getD (i*2) .top=.int .i64 (l.getD i n0).1/\(bG l).getD (i*2+1) .top=.int .i64 (l.getD i n0).2:=
 ⟨eP qH l i 0 n0 h zO,eP qH l i 1 n0 h zO⟩
def fH (l:List Nm)(i:Nat)(h:i<l.length):((bG l).drop (i*2)).take 2=[.int .i64 (l.getD i n0).1,.int .i64 (l.getD i n0).2]:=fX qH l i n0 h
def uR (l:List Nm)(x:Nm):bG l++[.int .i64 x.1,.int .i64 x.2]=bG (l++[x]):=og (f:=wA) l x
def LW (l:List Nm)(i:Nat):(bG l).drop (i*2)=bG (l.drop i):=kq qH l i
def Tt (l:List Nm)(i:Nat):(bG l).take (i*2)=bG (l.take i):=oe qH l i
@[simp] theorem yl (n t:Nat) (l:List Nm):aL n t (bG l):=fO (f:=wA) (λx=>by simp) l
abbrev psC (x:Ps):List AV:=[.int .i64 x.1,.sl x.2.length (ints x.2) .none]
abbrev o8 (x:Zn):List AV:=[.int .i64 x.f,.sl x.ws.length (dX x.ws) .none]
def fy (l:List Zn):List AV:=l.flatMap λx=>[.int .i64 x.f,.sl x.ws.length (dX x.ws) .none]
def wE:eE o8 2:=λ_=>rfl
def O5:fy []=[]:=rfl
def fW (l:List Zn):(fy l).length=l.length*2:=cj wE l
def wF (l:List Zn)(i:Nat)(h:i<l.length):(fy l).getD (i*2) .top=.int .i64 (l.getD i z0).f/\(fy l).getD (i*2+1) .top=.sl (l.getD i z0).ws.length (dX (l.getD i z0).ws) .none:=
 ⟨eP wE l i 0 z0 h zO,eP wE l i 1 z0 h zO⟩
def tC (l:List Zn)(i:Nat)(h:i<l.length):((fy l).drop (i*2)).take 2=[.int .i64 (l.getD i z0).f,.sl (l.getD i z0).ws.length (dX (l.getD i z0).ws) .none]:=fX wE l i z0 h
@[simp] theorem acJ (n t:Nat) (l:List Zn):aL n t (fy l):=fO (f:=o8) (λx=>by simp) l
abbrev dY (x:Dc):List AV:=[.int .i64 x.id,.sl x.zs.length (fy x.zs) .none,.sl x.ns.length (bG x.ns) .none]
def aM (l:List Dc):List AV:=l.flatMap λx=>[.int .i64 x.id,.sl x.zs.length (fy x.zs) .none,.sl x.ns.length (bG x.ns) .none]
def kE:eE dY 3:=λ_=>rfl
def oc:aM []=[]:=rfl
def bI (l:List Dc):(aM l).length=l.length*3:=cj kE l
def kF (l:List Dc)(i:Nat)(h:i<l.length):(aM l).getD (i*3) .top=.int .i64 (l.getD i d0).id/\(aM l).getD (i*3+1) .top=.sl (l.getD i d0).zs.length (fy (l.getD i d0).zs) .none/\(aM l).getD (i*3+2) .top=.sl (l.getD i d0).ns.length (bG (l.getD i d0).ns) .none:=
 ⟨eP kE l i 0 d0 h zO,eP kE l i 1 d0 h zO,eP kE l i 2 d0 h zO⟩
def iw (l:List Dc)(i:Nat)(h:i<l.length):((aM l).drop (i*3)).take 3=[.int .i64 (l.getD i d0).id,.sl (l.getD i d0).zs.length (fy (l.getD i d0).zs) .none,.sl (l.getD i d0).ns.length (bG (l.getD i d0).ns) .none]:=fX kE l i d0 h
def Ba (l:List Dc)(x:Dc):aM l++[.int .i64 x.id,.sl x.zs.length (fy x.zs) .none,.sl x.ns.length (bG x.ns) .none]=aM (l++[x]):=og (f:=dY) l x
def E9 (a b:List Dc):aM a++aM b=aM (a++b):=by simp[aM]
def MJ (l:List Dc)(i:Nat):(aM l).drop (i*3)=aM (l.drop i):=kq kE l i
def T5 (l:List Dc)(i:Nat):(aM l).take (i*3)=aM (l.take i):=oe kE l i
@[simp] theorem ym (n t:Nat) (l:List Dc):aL n t (aM l):=fO (f:=dY) (λx=>by simp) l
abbrev mg (x:Tm):List AV:=[.int .i64 x.f,.str x.w,.sl x.l.length (bD x.l) .none]
def dB (l:List Tm):List AV:=l.flatMap λx=>[.int .i64 x.f,.str x.w,.sl x.l.length (bD x.l) .none]
def qF:eE mg 3:=λ_=>rfl
def tH:dB []=[]:=rfl
def cT (l:List Tm):(dB l).length=l.length*3:=cj qF l
def wH (l:List Tm)(i:Nat)(h:i<l.length):(dB l).getD (i*3) .top=.int .i64 (l.getD i t0).f/\(dB l).getD (i*3+1) .top=.str (l.getD i t0).w/\(dB l).getD (i*3+2) .top=.sl (l.getD i t0).l.length (bD (l.getD i t0).l) .none:=
 ⟨eP qF l i 0 t0 h zO,eP qF l i 1 t0 h zO,eP qF l i 2 t0 h zO⟩
def kN (l:List Tm)(i:Nat)(h:i<l.length):((dB l).drop (i*3)).take 3=[.int .i64 (l.getD i t0).f,.str (l.getD i t0).w,.sl (l.getD i t0).l.length (bD (l.getD i t0).l) .none]:=fX qF l i t0 h
def KW (l:List Tm)(i:Nat):(dB l).drop (i*3)=dB (l.drop i):=kq qF l i
@[simp] theorem acL (n t:Nat) (l:List Tm):aL n t (dB l):=fO (f:=mg) (λx=>by simp) l
abbrev mW (x:Cl):List AV:=[.int .i64 x.f,.sl x.x.length (bG x.x) .none]
def dP (l:List Cl):List AV:=l.flatMap λx=>[.int .i64 x.f,.sl x.x.length (bG x.x) .none]
def wQ:eE mW 2:=λ_=>rfl
def Fg:dP []=[]:=rfl
def fl (l:List Cl):(dP l).length=l.length*2:=cj wQ l
def Co (l:List Cl)(i:Nat)(h:i<l.length):(dP l).getD (i*2) .top=.int .i64 (l.getD i c0).f/\(dP l).getD (i*2+1) .top=.sl (l.getD i c0).x.length (bG (l.getD i c0).x) .none:=
 ⟨eP wQ l i 0 c0 h zO,eP wQ l i 1 c0 h zO⟩
def tU (l:List Cl)(i:Nat)(h:i<l.length):((dP l).drop (i*2)).take 2=[.int .i64 (l.getD i c0).f,.sl (l.getD i c0).x.length (bG (l.getD i c0).x) .none]:=fX wQ l i c0 h
def MR (l:List Cl)(x:Cl):dP l++[.int .i64 x.f,.sl x.x.length (bG x.x) .none]=dP (l++[x]):=og (f:=mW) l x
@[simp] theorem acR (n t:Nat) (l:List Cl):aL n t (dP l):=fO (f:=mW) (λx=>by simp) l
abbrev jh (s:Sg):AV:=.agg [.sl s.aw.length (ints s.aw) .none,.sl s.aW.length (dB s.aW) .none,.sl s.aH.length (dP s.aH) .none]
open ie
def Jl {s:w9}{k:Nat}(hk:k<s.length)(h:(s.getD k 0).toNat<=32):okW s=false:=by
 have hm:=sQ s k 0 hk;have:s.all (λc=>decide (32<c.toNat))=false:=by
  rw[List.all_eq_false];exact⟨_,hm,by simp only[ahH];omega⟩
 simp only[okW,this,ajQ]
def Ey {s:w9}(h:∀j,j<s.length->32<(s.getD j 0).toNat):okW s=decide (1<=s.length/\s.length<=100):=by
 have:s.all (λc=>decide (32<c.toNat))=true:=by
  rw[ah3];intro c hc;obtain⟨j,hj,e⟩:=jQ 0 hc;have:=h j hj;rw[e] at this;simpa using this
 simp only[okW,this,aio]
attribute [-simp] getD_eq_getElem?_getD in
def DY (s:w9)(hs:s.length<=maxLen)(H:List aA)(T:au):aq Tryz.prog 110 [.str s] H T (Is (.bool (okW s)) H T):=by
 have jU:maxLen<=9223372036854775807:=zD;have vp:=ahA hs jU;generalize hq:okW s=q;refine ah 7 [] Tryz.ntmps110 Tryz.func110 rfl (λ_ _=>Tryz.call110 _ _) zS (λHO=>?_);refine af ?_;refine ae λK1 aN=>?_;refine af ?_;apply ag;refine aG (X:=Nat) (λk=>⟨[(0,.str s),(5,.int .i64 (s.length:Nat)),(6,.int .i64 (k:Nat))],H,T⟩) (λk=>k<=s.length/\∀j,j<k->32<(s.getD j 0).toNat) (λk=>s.length-k) 0 ?_ ?_ ?_
 ·exact⟨ahE _,λj hj=>absurd hj (ahT _)⟩
 ·exact wk HO
 ·rintro k ⟨h1,h2⟩;refine af ?_;refine ae λK2 ba=>?_;refine aV rfl (λhk=>?_) (λhk=>?_)
  ·simp  at hk;apply aj;refine zQ ?_;apply ba;clear ba;refine ae λK3 bH=>?_;apply ag;refine af ?_
   by_cases hc:(s.getD k 0).toNat<=32
   ·have b:decide (((s.getD k 0).toNat:Int)<=32)=true:=by simp ;omega
    apply ar;simp(disch:=omega)[b,hc,hk];apply aC rfl;refine af ?_;refine aI ?_;rw[<-hq,Jl hk hc];exact⟨rfl,rfl,rfl⟩
   ·have b:decide (((s.getD k 0).toNat:Int)<=32)=false:=by simp ;omega
    apply ar;simp(disch:=omega)[b,hc,hk];apply aB rfl;apply aj;refine zQ ?_;apply bH;clear bH;refine aJ ?_;refine⟨k+1,⟨by show k+1<=_;omega,λj hj=>?_⟩,by show s.length-(k+1)<s.length-k;omega,?_⟩
    ·rcases ahD j k with h3|h3
     ·exact h2 j h3
     ·have:j=k:=zO;subst this;omega
    ·exact wk HO
  ·simp  at hk;have hn:=Ey (s:=s) (λj hj=>h2 j zO);rw[hq] at hn;subst hn;apply aD;refine zQ ?_;apply aN;clear aN
   by_cases h3:1<=s.length
   ·have b3:decide ((1:Int)<=s.length)=true:=by simp;omega
    by_cases h4:s.length<=100
    ·have b4:decide ((s.length:Int)<=100)=true:=by simp;omega
     apply ar;simp(disch:=omega)[b3,b4,h3,h4];refine aI ?_;exact⟨by simp[h3,h4],rfl,rfl⟩
    ·have b4:decide ((s.length:Int)<=100)=false:=by simp;omega
     apply ar;simp(disch:=omega)[b3,b4,h3,h4];refine aI ?_;exact⟨by simp[h3,h4],rfl,rfl⟩
   ·have b3:decide ((1:Int)<=s.length)=false:=by simp;omega
    apply ar;simp(disch:=omega)[b3,h3];refine aI ?_;exact⟨by simp[h3],rfl,rfl⟩
attribute [-simp] getD_eq_getElem?_getD in
def DX (s:w9)(hs:s.length<=maxLen)(H:List aA)(T:au):aq Tryz.prog 134 [.str s] H T (Is (.bool (okW s)) H T):=by
 have jU:maxLen<=9223372036854775807:=zD;have vp:=ahA hs jU;generalize hq:okW s=q;refine ah 7 [] Tryz.ntmps134 Tryz.func134 rfl (λ_ _=>Tryz.call134 _ _) zS (λHO=>?_);refine af ?_;refine ae λK1 aN=>?_;refine af ?_;apply ag;refine aG (X:=Nat) (λk=>⟨[(0,.str s),(3,.int .i64 (k:Nat))],H,T⟩) (λk=>k<=s.length/\∀j,j<k->32<(s.getD j 0).toNat) (λk=>s.length-k) 0 ?_ ?_ ?_
 ·exact⟨ahE _,λj hj=>absurd hj (ahT _)⟩
 ·exact wk HO
 ·rintro k ⟨h1,h2⟩;refine ae λK2 ba=>?_;refine af ?_;refine aV rfl (λhk=>?_) (λhk=>?_)
  ·simp  at hk;apply aj;refine zQ ?_;apply ba;clear ba;refine ae λK3 bH=>?_;apply ag
   by_cases hc:(s.getD k 0).toNat<=32
   ·have b:decide (((s.getD k 0).toNat:Int)<=32)=true:=by simp ;omega
    apply ar;simp(disch:=omega)[b,hc,hk];apply aC rfl;refine af ?_;refine aI ?_;rw[<-hq,Jl hk hc];exact⟨rfl,rfl,rfl⟩
   ·have b:decide (((s.getD k 0).toNat:Int)<=32)=false:=by simp ;omega
    apply ar;simp(disch:=omega)[b,hc,hk];apply aB rfl;apply aj;refine zQ ?_;apply bH;clear bH;refine aJ ?_;refine⟨k+1,⟨by show k+1<=_;omega,λj hj=>?_⟩,by show s.length-(k+1)<s.length-k;omega,?_⟩
    ·rcases ahD j k with h3|h3
     ·exact h2 j h3
     ·have:j=k:=zO;subst this;omega
    ·exact wk HO
  ·simp  at hk;have hn:=Ey (s:=s) (λj hj=>h2 j zO);rw[hq] at hn;subst hn;apply aD;refine zQ ?_;apply aN;clear aN
   by_cases h3:1<=s.length
   ·have b3:decide ((1:Int)<=s.length)=true:=by simp;omega
    by_cases h4:s.length<=100
    ·have b4:decide ((s.length:Int)<=100)=true:=by simp;omega
     apply ar;simp(disch:=omega)[b3,b4,h3,h4];refine aI ?_;exact⟨by simp[h3,h4],rfl,rfl⟩
    ·have b4:decide ((s.length:Int)<=100)=false:=by simp;omega
     apply ar;simp(disch:=omega)[b3,b4,h3,h4];refine aI ?_;exact⟨by simp[h3,h4],rfl,rfl⟩
   ·have b3:decide ((1:Int)<=s.length)=false:=by simp;omega
    apply ar;simp(disch:=omega)[b3,h3];refine aI ?_;exact⟨by simp[h3],rfl,rfl⟩
end Go.Proofs.YtoejlmpbebjemaaGreat
