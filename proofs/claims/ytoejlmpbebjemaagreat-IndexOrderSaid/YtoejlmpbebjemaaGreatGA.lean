/- Lists of rows as cells: lengths, rows, beginnings, one row changed. Documents and segments (layers 37, 39) as cells. Words of documents (layer 37).
  Conditions: lengths below 400 or 1000, as each theorem says. -/
import Derived.Test.YtoejlmpbebjemaaGreatAmFacts
import Derived.Test.YtoejlmpbebjemaaGreatAmC
import Derived.Test.YtoejlmpbebjemaaGreatPB
import Derived.Test.YtoejlmpbebjemaaGreatSPl
set_option linter.all false
set_option maxRecDepth 100000
open List (getD_eq_getElem?_getD)
namespace Go.Am
open Go
def dY:List Nat->Code->Code
 |[],c=>c
 |0::p,.seq x _=>dY p x
 |1::p,.seq _ y=>dY p y
 |0::p,.cond _ x _=>dY p x
 |1::p,.cond _ _ y=>dY p y
 |0::p,.block _ x=>dY p x
 |0::p,.loop x=>dY p x
 |_,c=>c
def eu {α:Type}(f:α->List AV)(k:Nat):Prop:=∀x,(f x).length=k
section
variable {α : Type} {f : α -> List AV} {k : Nat}
theorem bU (h:eu f k):∀l:List α,(l.flatMap f).length=l.length*k
 |[]=>by simp
 |x::r=>by rw[ahy,ahk,bU h r,h x,ahS,aiA,Nat.one_mul];omega
theorem jZ (h:eu f k):∀(l:List α)(i:Nat),(l.flatMap f).drop (i*k)=(l.drop i).flatMap f
 |l,0=>by simp
 |[],i+1=>by simp
 |x::r,i+1=>by
  rw[List.drop_succ_cons,<-jZ h r i,ahy,aiA,Nat.one_mul,List.drop_append,h x,ajB (by rw[h x];omega),aiQ]
  congr 1;omega
theorem nN (h:eu f k):∀(l:List α)(i:Nat),(l.flatMap f).take (i*k)=(l.take i).flatMap f
 |l,0=>by simp
 |[],i+1=>by simp
 |x::r,i+1=>by
  rw[List.take_succ_cons,ahy,ahy,<-nN h r i,aiA,Nat.one_mul,List.take_append,h x,aiV (by rw[h x];omega)]
  congr 2;omega
def dO {β:Type}(l:List β)(i:Nat)(d:β)(hi:i<l.length):l.drop i=l.getD i d::l.drop (i+1):=by
 rw[aiK hi,ahg,ahi hi];rfl
def fW (h:eu f k)(l:List α)(i:Nat)(d:α)(hi:i<l.length):((l.flatMap f).drop (i*k)).take k=f (l.getD i d):=by
 rw[jZ h,dO l i d hi,ahy,List.take_append,h,aiH,aiV (by rw[h];omega),List.take_zero,ahH]
def eP (h:eu f k)(l:List α)(i j:Nat)(d:α)(hi:i<l.length)(hj:j<k):(l.flatMap f).getD (i*k+j) .top=(f (l.getD i d)).getD j .top:=by
 have e:=fW h l i d hi;rw[<-e,ahg,ahg,ah9,ahs hj,aiX]
def nO (l:List α)(x:α):l.flatMap f++f x=(l++[x]).flatMap f:=by simp
def aU {β:Type}(l:List β)(i:Nat)(d:β)(hi:i<l.length):l.take (i+1)=l.take i++[l.getD i d]:=by
 rw[aiG hi,ahg,ahi hi];rfl
def fN {n t:Nat}(h:∀x,aK n t (f x))(l:List α):aK n t (l.flatMap f):=by
 intro v hv;obtain⟨x,_,hv⟩:=ah1.1 hv;exact h x v hv
end
def dm (zs:List AV):gA zs 0=[]:=rfl
def aS {β:Type}(l:List β)(i:Nat)(d:β)(hi:i<l.length):l.getD i d∈l:=by
 rw[ahg,ahi hi];exact ahP hi
def bH {β:Type}{l:List β}{x:β}(d:β)(h:x∈l):∃i,i<l.length/\l.getD i d=x:=by
 obtain⟨i,hi,e⟩:=ahB.1 h;exact⟨i,hi,by rw[ahg,ahi hi];exact e⟩
end Go.Am
namespace eT
abbrev Bs:=List UInt8
abbrev Wd:=Bs×Int
abbrev Nm:=Int×Int
abbrev Ps:=Int×List Int
structure Zn where
 f:Int
 ws:List Wd
 deriving DecidableEq
structure Dc where
 id:Int
 zs:List Zn
 ns:List Nm
 deriving DecidableEq
structure Tm where
 f:Int
 w:Bs
 l:List Ps
 deriving DecidableEq
structure Cl where
 f:Int
 x:List Nm
 deriving DecidableEq
structure Sg where
 aA:List Int
 bK:List Tm
 aN:List Cl
 deriving DecidableEq
abbrev w0:Wd:=([],0)
abbrev n0:Nm:=(0,0)
abbrev p0:Ps:=(0,[])
abbrev z0:Zn:=⟨0,[]⟩
abbrev d0:Dc:=⟨0,[],[]⟩
abbrev t0:Tm:=⟨0,[],[]⟩
abbrev c0:Cl:=⟨0,[]⟩
def bR:Sg:=⟨[],[],[]⟩
end eT
namespace Go.Proofs.YtoejlmpbebjemaaGreat
open Go Go.Am eT
abbrev RG (x:Wd):List AV:=[.str x.1,.int .i64 x.2]
def dR (l:List Wd):List AV:=l.flatMap λx=>[.str x.1,.int .i64 x.2]
def wm:eu RG 2:=λ_=>rfl
def Pm:dR []=[]:=rfl
def gB (l:List Wd):(dR l).length=l.length*2:=bU wm l
def BG (l:List Wd)(i:Nat)(h:i<l.length):(dR l).getD (i*2) .top=.str (l.getD i w0).1/\(dR l).getD (i*2+1) .top=.int .i64 (l.getD i w0).2:=
 ⟨eP wm l i 0 w0 h (by omega),eP wm l i 1 w0 h (by omega)⟩
def tm (l:List Wd)(i:Nat)(h:i<l.length):((dR l).drop (i*2)).take 2=[.str (l.getD i w0).1,.int .i64 (l.getD i w0).2]:=fW wm l i w0 h
def KT (l:List Wd)(x:Wd):dR l++[.str x.1,.int .i64 x.2]=dR (l++[x]):=nO (f:=RG) l x
@[simp] theorem acF (n t:Nat) (l:List Wd):aK n t (dR l):=fN (f:=RG) (λx=>by simp) l
abbrev zk (x:Nm):List AV:=[.int .i64 x.1,.int .i64 x.2]
def br (l:List Nm):List AV:=l.flatMap λx=>[.int .i64 x.1,.int .i64 x.2]
def qj:eu zk 2:=λ_=>rfl
def Ej:br []=[]:=rfl
def cH (l:List Nm):(br l).length=l.length*2:=bU qj l
def TF (l:List Nm)(i:Nat)(h:i<l.length):(br l).getD (i*2) .top=.int .i64 (l.getD i n0).1/\(br l).getD (i*2+1) .top=.int .i64 (l.getD i n0).2:=
 ⟨eP qj l i 0 n0 h (by omega),eP qj l i 1 n0 h (by omega)⟩
def ia (l:List Nm)(i:Nat)(h:i<l.length):((br l).drop (i*2)).take 2=[.int .i64 (l.getD i n0).1,.int .i64 (l.getD i n0).2]:=fW qj l i n0 h
def uI (l:List Nm)(x:Nm):br l++[.int .i64 x.1,.int .i64 x.2]=br (l++[x]):=nO (f:=zk) l x
def L9 (l:List Nm)(i:Nat):(br l).drop (i*2)=br (l.drop i):=jZ qj l i
def TE (l:List Nm)(i:Nat):(br l).take (i*2)=br (l.take i):=nN qj l i
@[simp] theorem x8 (n t:Nat) (l:List Nm):aK n t (br l):=fN (f:=zk) (λx=>by simp) l
abbrev psC (x:Ps):List AV:=[.int .i64 x.1,.sl x.2.length (ints x.2) .none]
abbrev oR (x:Zn):List AV:=[.int .i64 x.f,.sl x.ws.length (dR x.ws) .none]
def fu (l:List Zn):List AV:=l.flatMap λx=>[.int .i64 x.f,.sl x.ws.length (dR x.ws) .none]
def wj:eu oR 2:=λ_=>rfl
def Pf:fu []=[]:=rfl
def fV (l:List Zn):(fu l).length=l.length*2:=bU wj l
def wk (l:List Zn)(i:Nat)(h:i<l.length):(fu l).getD (i*2) .top=.int .i64 (l.getD i z0).f/\(fu l).getD (i*2+1) .top=.sl (l.getD i z0).ws.length (dR (l.getD i z0).ws) .none:=
 ⟨eP wj l i 0 z0 h (by omega),eP wj l i 1 z0 h (by omega)⟩
def th (l:List Zn)(i:Nat)(h:i<l.length):((fu l).drop (i*2)).take 2=[.int .i64 (l.getD i z0).f,.sl (l.getD i z0).ws.length (dR (l.getD i z0).ws) .none]:=fW wj l i z0 h
@[simp] theorem acE (n t:Nat) (l:List Zn):aK n t (fu l):=fN (f:=oR) (λx=>by simp) l
abbrev dP (x:Dc):List AV:=[.int .i64 x.id,.sl x.zs.length (fu x.zs) .none,.sl x.ns.length (br x.ns) .none]
def aM (l:List Dc):List AV:=l.flatMap λx=>[.int .i64 x.id,.sl x.zs.length (fu x.zs) .none,.sl x.ns.length (br x.ns) .none]
def j7:eu dP 3:=λ_=>rfl
def tH:aM []=[]:=rfl
def ba (l:List Dc):(aM l).length=l.length*3:=bU j7 l
def iU (l:List Dc)(i:Nat)(h:i<l.length):(aM l).getD (i*3) .top=.int .i64 (l.getD i d0).id/\(aM l).getD (i*3+1) .top=.sl (l.getD i d0).zs.length (fu (l.getD i d0).zs) .none/\(aM l).getD (i*3+2) .top=.sl (l.getD i d0).ns.length (br (l.getD i d0).ns) .none:=
 ⟨eP j7 l i 0 d0 h (by omega),eP j7 l i 1 d0 h (by omega),eP j7 l i 2 d0 h (by omega)⟩
def fJ (l:List Dc)(i:Nat)(h:i<l.length):((aM l).drop (i*3)).take 3=[.int .i64 (l.getD i d0).id,.sl (l.getD i d0).zs.length (fu (l.getD i d0).zs) .none,.sl (l.getD i d0).ns.length (br (l.getD i d0).ns) .none]:=fW j7 l i d0 h
def ES (a b:List Dc):aM a++aM b=aM (a++b):=by simp[aM]
def MR (l:List Dc)(i:Nat):(aM l).drop (i*3)=aM (l.drop i):=jZ j7 l i
def Uh (l:List Dc)(i:Nat):(aM l).take (i*3)=aM (l.take i):=nN j7 l i
@[simp] theorem ya (n t:Nat) (l:List Dc):aK n t (aM l):=fN (f:=dP) (λx=>by simp) l
abbrev ph (x:Tm):List AV:=[.int .i64 x.f,.str x.w,.sl x.l.length (bA x.l) .none]
def dx (l:List Tm):List AV:=l.flatMap λx=>[.int .i64 x.f,.str x.w,.sl x.l.length (bA x.l) .none]
def qh:eu ph 3:=λ_=>rfl
def tr:dx []=[]:=rfl
def gC (l:List Tm):(dx l).length=l.length*3:=bU qh l
def Td (l:List Tm)(i:Nat)(h:i<l.length):(dx l).getD (i*3) .top=.int .i64 (l.getD i t0).f/\(dx l).getD (i*3+1) .top=.str (l.getD i t0).w/\(dx l).getD (i*3+2) .top=.sl (l.getD i t0).l.length (bA (l.getD i t0).l) .none:=
 ⟨eP qh l i 0 t0 h (by omega),eP qh l i 1 t0 h (by omega),eP qh l i 2 t0 h (by omega)⟩
def nJ (l:List Tm)(i:Nat)(h:i<l.length):((dx l).drop (i*3)).take 3=[.int .i64 (l.getD i t0).f,.str (l.getD i t0).w,.sl (l.getD i t0).l.length (bA (l.getD i t0).l) .none]:=fW qh l i t0 h
def Lc (l:List Tm)(i:Nat):(dx l).drop (i*3)=dx (l.drop i):=jZ qh l i
@[simp] theorem acG (n t:Nat) (l:List Tm):aK n t (dx l):=fN (f:=ph) (λx=>by simp) l
abbrev ry (x:Cl):List AV:=[.int .i64 x.f,.sl x.x.length (br x.x) .none]
def dJ (l:List Cl):List AV:=l.flatMap λx=>[.int .i64 x.f,.sl x.x.length (br x.x) .none]
def wE:eu ry 2:=λ_=>rfl
def EY:dJ []=[]:=rfl
def nL (l:List Cl):(dJ l).length=l.length*2:=bU wE l
def Ul (l:List Cl)(i:Nat)(h:i<l.length):(dJ l).getD (i*2) .top=.int .i64 (l.getD i c0).f/\(dJ l).getD (i*2+1) .top=.sl (l.getD i c0).x.length (br (l.getD i c0).x) .none:=
 ⟨eP wE l i 0 c0 h (by omega),eP wE l i 1 c0 h (by omega)⟩
def xY (l:List Cl)(i:Nat)(h:i<l.length):((dJ l).drop (i*2)).take 2=[.int .i64 (l.getD i c0).f,.sl (l.getD i c0).x.length (br (l.getD i c0).x) .none]:=fW wE l i c0 h
def MX (l:List Cl)(x:Cl):dJ l++[.int .i64 x.f,.sl x.x.length (br x.x) .none]=dJ (l++[x]):=nO (f:=ry) l x
@[simp] theorem acM (n t:Nat) (l:List Cl):aK n t (dJ l):=fN (f:=ry) (λx=>by simp) l
abbrev jS (s:Sg):AV:=.agg [.sl s.aA.length (ints s.aA) .none,.sl s.bK.length (dx s.bK) .none,.sl s.aN.length (dJ s.aN) .none]
open im
def Jz {s:wO}{k:Nat}(hk:k<s.length)(h:(s.getD k 0).toNat<=32):okW s=false:=by
 have hm:=vS s k 0 hk;have:s.all (λc=>decide (32<c.toNat))=false:=by
  rw[List.all_eq_false];exact⟨_,hm,by simp only[ahv];omega⟩
 simp only[okW,this,Bool.false_and]
def Eh {s:wO}(h:∀j,j<s.length->32<(s.getD j 0).toNat):okW s=decide (1<=s.length/\s.length<=100):=by
 have:s.all (λc=>decide (32<c.toNat))=true:=by
  rw[ahQ];intro c hc;obtain⟨j,hj,e⟩:=ml 0 hc;have:=h j hj;rw[e] at this;simpa using this
 simp only[okW,this,ais]
attribute [-simp] getD_eq_getElem?_getD in
def DH (s:wO)(hs:s.length<=maxLen)(H:List az)(T:au):ar Tryz.prog 110 [.str s] H T (Is (.bool (okW s)) H T):=by
 have kH:maxLen<=9223372036854775807:=by decide
 have hs':=aho hs kH;generalize hq:okW s=q;refine ah 7 [] Tryz.ntmps110 Tryz.func110 rfl (λ_ _=>Tryz.call110 _ _) (by simp) (λHO=>?_);apply ae;intro K Z;simp(disch:=omega);apply Z;refine af λK1 aO=>?_;apply ae;intro K Z;simp(disch:=omega);apply Z;apply aj;refine aI (X:=Nat) (λk=>⟨[(0,.str s),(5,.int .i64 (s.length:Nat)),(6,.int .i64 (k:Nat))],H,T⟩) (λk=>k<=s.length/\∀j,j<k->32<(s.getD j 0).toNat) (λk=>s.length-k) 0 ?_ ?_ ?_
 ·exact⟨ahu _,λj hj=>absurd hj (ahO _)⟩
 ·refine ag [] [] ?_ ?_ ?_ ?_ HO ?_
  all_goals simp
 ·rintro k ⟨h1,h2⟩;apply ae;intro K Z;simp(disch:=omega);apply Z;refine af λK2 bc=>?_;refine aT rfl (λhk=>?_) (λhk=>?_)
  ·simp  at hk;apply aq;simp(disch:=omega) ;apply bc;clear bc;refine af λK3 bD=>?_;apply aj;apply ae;intro K Z;simp(disch:=omega);apply Z
   by_cases hc:(s.getD k 0).toNat<=32
   ·have b:decide (((s.getD k 0).toNat:Int)<=32)=true:=by simp ;omega
    refine ae λK hK=>?_;simp(disch:=omega)[b,hc,hk];apply hK;apply aG rfl;apply ae;intro K Z;simp(disch:=omega);apply Z;apply ay;simp(disch:=omega) ;rw[<-hq,Jz hk hc];exact⟨rfl,rfl,rfl⟩
   ·have b:decide (((s.getD k 0).toNat:Int)<=32)=false:=by simp ;omega
    refine ae λK hK=>?_;simp(disch:=omega)[b,hc,hk];apply hK;apply aD rfl;apply aq;simp(disch:=omega) ;apply bD;clear bD;refine aB λK hK=>?_;simp(disch:=omega) ;apply hK;refine⟨k+1,⟨by show k+1<=_;omega,λj hj=>?_⟩,by show s.length-(k+1)<s.length-k;omega,?_⟩
    ·rcases ahr j k with h3|h3
     ·exact h2 j h3
     ·have:j=k:=by omega
      subst this;omega
    ·refine ag [] [] ?_ ?_ ?_ ?_ HO ?_
     all_goals simp
  ·simp  at hk;have hn:=Eh (s:=s) (λj hj=>h2 j (by omega));rw[hq] at hn;subst hn;apply aF;simp(disch:=omega) ;apply aO;clear aO
   by_cases h3:1<=s.length
   ·have b3:decide ((1:Int)<=s.length)=true:=by simp;omega
    by_cases h4:s.length<=100
    ·have b4:decide ((s.length:Int)<=100)=true:=by simp;omega
     refine ae λK hK=>?_;simp(disch:=omega)[b3,b4,h3,h4];apply hK;apply ay;simp(disch:=omega) ;exact⟨by simp[h3,h4],rfl,rfl⟩
    ·have b4:decide ((s.length:Int)<=100)=false:=by simp;omega
     refine ae λK hK=>?_;simp(disch:=omega)[b3,b4,h3,h4];apply hK;apply ay;simp(disch:=omega) ;exact⟨by simp[h3,h4],rfl,rfl⟩
   ·have b3:decide ((1:Int)<=s.length)=false:=by simp;omega
    refine ae λK hK=>?_;simp(disch:=omega)[b3,h3];apply hK;apply ay;simp(disch:=omega) ;exact⟨by simp[h3],rfl,rfl⟩
attribute [-simp] getD_eq_getElem?_getD in
def Ph (s:wO)(hs:s.length<=maxLen)(H:List az)(T:au):ar Tryz.prog 134 [.str s] H T (Is (.bool (okW s)) H T):=by
 have kH:maxLen<=9223372036854775807:=by decide
 have hs':=aho hs kH;generalize hq:okW s=q;refine ah 7 [] Tryz.ntmps134 Tryz.func134 rfl (λ_ _=>Tryz.call134 _ _) (by simp) (λHO=>?_);apply ae;intro K Z;simp(disch:=omega);apply Z;refine af λK1 aO=>?_;apply ae;intro K Z;simp(disch:=omega);apply Z;apply aj;refine aI (X:=Nat) (λk=>⟨[(0,.str s),(3,.int .i64 (k:Nat))],H,T⟩) (λk=>k<=s.length/\∀j,j<k->32<(s.getD j 0).toNat) (λk=>s.length-k) 0 ?_ ?_ ?_
 ·exact⟨ahu _,λj hj=>absurd hj (ahO _)⟩
 ·refine ag [] [] ?_ ?_ ?_ ?_ HO ?_
  all_goals simp
 ·rintro k ⟨h1,h2⟩;refine af λK2 bc=>?_;apply ae;intro K Z;simp(disch:=omega);apply Z;refine aT rfl (λhk=>?_) (λhk=>?_)
  ·simp  at hk;apply aq;simp(disch:=omega) ;apply bc;clear bc;refine af λK3 bD=>?_;apply aj
   by_cases hc:(s.getD k 0).toNat<=32
   ·have b:decide (((s.getD k 0).toNat:Int)<=32)=true:=by simp ;omega
    refine ae λK hK=>?_;simp(disch:=omega)[b,hc,hk];apply hK;apply aG rfl;apply ae;intro K Z;simp(disch:=omega);apply Z;apply ay;simp(disch:=omega) ;rw[<-hq,Jz hk hc];exact⟨rfl,rfl,rfl⟩
   ·have b:decide (((s.getD k 0).toNat:Int)<=32)=false:=by simp ;omega
    refine ae λK hK=>?_;simp(disch:=omega)[b,hc,hk];apply hK;apply aD rfl;apply aq;simp(disch:=omega) ;apply bD;clear bD;refine aB λK hK=>?_;simp(disch:=omega) ;apply hK;refine⟨k+1,⟨by show k+1<=_;omega,λj hj=>?_⟩,by show s.length-(k+1)<s.length-k;omega,?_⟩
    ·rcases ahr j k with h3|h3
     ·exact h2 j h3
     ·have:j=k:=by omega
      subst this;omega
    ·refine ag [] [] ?_ ?_ ?_ ?_ HO ?_
     all_goals simp
  ·simp  at hk;have hn:=Eh (s:=s) (λj hj=>h2 j (by omega));rw[hq] at hn;subst hn;apply aF;simp(disch:=omega) ;apply aO;clear aO
   by_cases h3:1<=s.length
   ·have b3:decide ((1:Int)<=s.length)=true:=by simp;omega
    by_cases h4:s.length<=100
    ·have b4:decide ((s.length:Int)<=100)=true:=by simp;omega
     refine ae λK hK=>?_;simp(disch:=omega)[b3,b4,h3,h4];apply hK;apply ay;simp(disch:=omega) ;exact⟨by simp[h3,h4],rfl,rfl⟩
    ·have b4:decide ((s.length:Int)<=100)=false:=by simp;omega
     refine ae λK hK=>?_;simp(disch:=omega)[b3,b4,h3,h4];apply hK;apply ay;simp(disch:=omega) ;exact⟨by simp[h3,h4],rfl,rfl⟩
   ·have b3:decide ((1:Int)<=s.length)=false:=by simp;omega
    refine ae λK hK=>?_;simp(disch:=omega)[b3,h3];apply hK;apply ay;simp(disch:=omega) ;exact⟨by simp[h3],rfl,rfl⟩
end Go.Proofs.YtoejlmpbebjemaaGreat
