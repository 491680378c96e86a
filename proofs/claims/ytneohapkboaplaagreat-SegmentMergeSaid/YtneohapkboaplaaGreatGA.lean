/- Lists of rows as cells: lengths, rows, beginnings, one row changed. Documents and segments (layers 37, 39) as cells. Words of documents (layer 37).
  Conditions: lengths below 400 or 1000, as each theorem says. -/
import Derived.Test.YtneohapkboaplaaGreatAmFacts
import Derived.Test.YtneohapkboaplaaGreatAmC
import Derived.Test.YtneohapkboaplaaGreatPB
import Derived.Test.YtneohapkboaplaaGreatSPl
set_option linter.all false
set_option maxRecDepth 100000
open List (getD_eq_getElem?_getD flatMap_cons)
namespace Go.Am
open Go
def du:List Nat→Code→Code
 |[],c=>c
 |0::p,.seq x _=>du p x
 |1::p,.seq _ y=>du p y
 |0::p,.cond _ x _=>du p x
 |1::p,.cond _ _ y=>du p y
 |0::p,.block _ x=>du p x
 |0::p,.loop x=>du p x
 |_,c=>c
def eC {α:Type}(f:α→List AV)(k:Nat):Prop:=∀x,(f x).length=k
section
variable {α : Type} {f : α → List AV} {k : Nat}
theorem b9 (h:eC f k):∀l:List α,(l.flatMap f).length=l.length*k
 |[]=>by simp
 |x::r=>by rw[flatMap_cons,List.length_append,b9 h r,h x,List.length_cons,Nat.add_mul,Nat.one_mul];omega
theorem iX (h:eC f k):∀(l:List α)(i:Nat),(l.flatMap f).drop (i*k)=(l.drop i).flatMap f
 |l,0=>by simp
 |[],i+1=>by simp
 |x::r,i+1=>by
  rw[List.drop_succ_cons,←iX h r i,flatMap_cons,Nat.add_mul,Nat.one_mul,List.drop_append,h x,List.drop_of_length_le (by rw[h x];omega),List.nil_append]
  congr 1;omega
theorem lS (h:eC f k):∀(l:List α)(i:Nat),(l.flatMap f).take (i*k)=(l.take i).flatMap f
 |l,0=>by simp
 |[],i+1=>by simp
 |x::r,i+1=>by
  rw[List.take_succ_cons,flatMap_cons,flatMap_cons,←lS h r i,Nat.add_mul,Nat.one_mul,List.take_append,h x,List.take_of_length_le (by rw[h x];omega)]
  congr 2;omega
theorem da {β:Type}(l:List β)(i:Nat)(d:β)(hi:i<l.length):l.drop i=l.getD i d::l.drop (i+1):=by
 rw[List.drop_eq_getElem_cons hi,getD_eq_getElem?_getD,List.getElem?_eq_getElem hi];rfl
theorem fX (h:eC f k)(l:List α)(i:Nat)(d:α)(hi:i<l.length):((l.flatMap f).drop (i*k)).take k=f (l.getD i d):=by
 rw[iX h,da l i d hi,flatMap_cons,List.take_append,h,Nat.sub_self,List.take_of_length_le (by rw[h];omega),List.take_zero,List.append_nil]
theorem fI (h:eC f k)(l:List α)(i j:Nat)(d:α)(hi:i<l.length)(hj:j<k):(l.flatMap f).getD (i*k+j) .top=(f (l.getD i d)).getD j .top:=by
 have e:=fX h l i d hi;rw[←e,getD_eq_getElem?_getD,getD_eq_getElem?_getD,List.getElem?_take,if_pos hj,List.getElem?_drop]
theorem iW (l:List α)(x:α):l.flatMap f++f x=(l++[x]).flatMap f:=by simp
theorem bf {β:Type}(l:List β)(i:Nat)(d:β)(hi:i<l.length):l.take (i+1)=l.take i++[l.getD i d]:=by
 rw[List.take_succ_eq_append_getElem hi,getD_eq_getElem?_getD,List.getElem?_eq_getElem hi];rfl
theorem xg (l:List α)(i:Nat)(d:α)(hi:i<l.length):(l.take i).flatMap f++f (l.getD i d)=(l.take (i+1)).flatMap f:=by
 rw[bf l i d hi,iW]
theorem gd {n t:Nat}(h:∀x,aJ n t (f x))(l:List α):aJ n t (l.flatMap f):=by
 intro v hv;obtain⟨x,_,hv⟩:=List.mem_flatMap.1 hv;exact h x v hv
end
theorem dR (zs:List AV):fH zs 0=[]:=rfl
theorem aR {β:Type}(l:List β)(i:Nat)(d:β)(hi:i<l.length):l.getD i d∈l:=by
 rw[getD_eq_getElem?_getD,List.getElem?_eq_getElem hi];exact List.getElem_mem hi
theorem bS {β:Type}{l:List β}{x:β}(d:β)(h:x∈l):∃i,i<l.length∧l.getD i d=x:=by
 obtain⟨i,hi,e⟩:=List.mem_iff_getElem.1 h;exact⟨i,hi,by rw[getD_eq_getElem?_getD,List.getElem?_eq_getElem hi];exact e⟩
end Go.Am
namespace eJ
abbrev Bs:=List UInt8
abbrev Wd:=Bs×Int
abbrev Nm:=Int×Int
abbrev Ps:=Int×List Int
structure Zn where
 f:Int
 ws:List Wd
 deriving DecidableEq
structure Dc where
 id:Int
 zs:List Zn
 ns:List Nm
 deriving DecidableEq
structure Tm where
 f:Int
 w:Bs
 l:List Ps
 deriving DecidableEq
structure Cl where
 f:Int
 x:List Nm
 deriving DecidableEq
structure Sg where
 an:List Int
 aK:List Tm
 aw:List Cl
 deriving DecidableEq
abbrev w0:Wd:=([],0)
abbrev n0:Nm:=(0,0)
abbrev p0:Ps:=(0,[])
abbrev z0:Zn:=⟨0,[]⟩
abbrev d0:Dc:=⟨0,[],[]⟩
abbrev t0:Tm:=⟨0,[],[]⟩
abbrev c0:Cl:=⟨0,[]⟩
def fl:Sg:=⟨[],[],[]⟩
end eJ
namespace Go.Proofs.YtneohapkboaplaaGreat
open Go Go.Am eJ
abbrev Ph (x:Wd):List AV:=[.str x.1,.int .i64 x.2]
def cJ (l:List Wd):List AV:=l.flatMap fun x=>[.str x.1,.int .i64 x.2]
theorem oK:eC Ph 2:=fun _=>rfl
theorem Ao:cJ []=[]:=rfl
theorem dV (l:List Wd):(cJ l).length=l.length*2:=b9 oK l
theorem tM (l:List Wd)(i:Nat)(h:i<l.length):(cJ l).getD (i*2) .top=.str (l.getD i w0).1∧(cJ l).getD (i*2+1) .top=.int .i64 (l.getD i w0).2:=
 ⟨fI oK l i 0 w0 h (by omega),fI oK l i 1 w0 h (by omega)⟩
theorem uO (l:List Wd)(i:Nat)(h:i<l.length):((cJ l).drop (i*2)).take 2=[.str (l.getD i w0).1,.int .i64 (l.getD i w0).2]:=fX oK l i w0 h
theorem Gt (l:List Wd)(x:Wd):cJ l++[.str x.1,.int .i64 x.2]=cJ (l++[x]):=iW (f:=Ph) l x
theorem Gu (l:List Wd)(i:Nat):(cJ l).drop (i*2)=cJ (l.drop i):=iX oK l i
theorem Nj (l:List Wd)(i:Nat):(cJ l).take (i*2)=cJ (l.take i):=lS oK l i
@[simp] theorem WE (n t:Nat) (l:List Wd):aJ n t (cJ l):=gd (f:=Ph) (fun x=>by simp) l
abbrev vQ (x:Nm):List AV:=[.int .i64 x.1,.int .i64 x.2]
def aU (l:List Nm):List AV:=l.flatMap fun x=>[.int .i64 x.1,.int .i64 x.2]
theorem oM:eC vQ 2:=fun _=>rfl
theorem uT:aU []=[]:=rfl
theorem bG (l:List Nm):(aU l).length=l.length*2:=b9 oM l
theorem E0 (l:List Nm)(i:Nat)(h:i<l.length):(aU l).getD (i*2) .top=.int .i64 (l.getD i n0).1∧(aU l).getD (i*2+1) .top=.int .i64 (l.getD i n0).2:=
 ⟨fI oM l i 0 n0 h (by omega),fI oM l i 1 n0 h (by omega)⟩
theorem eA (l:List Nm)(i:Nat)(h:i<l.length):((aU l).drop (i*2)).take 2=[.int .i64 (l.getD i n0).1,.int .i64 (l.getD i n0).2]:=fX oM l i n0 h
theorem oV (l:List Nm)(x:Nm):aU l++[.int .i64 x.1,.int .i64 x.2]=aU (l++[x]):=iW (f:=vQ) l x
theorem xr (l:List Nm)(i:Nat)(h:i<l.length):aU (l.take i)++[.int .i64 (l.getD i n0).1,.int .i64 (l.getD i n0).2]=aU (l.take (i+1)):=xg (f:=vQ) l i n0 h
theorem Hs (l:List Nm)(i:Nat):(aU l).drop (i*2)=aU (l.drop i):=iX oM l i
theorem NK (l:List Nm)(i:Nat):(aU l).take (i*2)=aU (l.take i):=lS oM l i
@[simp] theorem ri (n t:Nat) (l:List Nm):aJ n t (aU l):=gd (f:=vQ) (fun x=>by simp) l
abbrev Sb (x:Ps):List AV:=[.int .i64 x.1,.sl x.2.length (ints x.2) .none]
abbrev mX (x:Zn):List AV:=[.int .i64 x.f,.sl x.ws.length (cJ x.ws) .none]
def dS (l:List Zn):List AV:=l.flatMap fun x=>[.int .i64 x.f,.sl x.ws.length (cJ x.ws) .none]
theorem tL:eC mX 2:=fun _=>rfl
theorem Ae:dS []=[]:=rfl
theorem fm (l:List Zn):(dS l).length=l.length*2:=b9 tL l
theorem ET (l:List Zn)(i:Nat)(h:i<l.length):(dS l).getD (i*2) .top=.int .i64 (l.getD i z0).f∧(dS l).getD (i*2+1) .top=.sl (l.getD i z0).ws.length (cJ (l.getD i z0).ws) .none:=
 ⟨fI tL l i 0 z0 h (by omega),fI tL l i 1 z0 h (by omega)⟩
theorem qQ (l:List Zn)(i:Nat)(h:i<l.length):((dS l).drop (i*2)).take 2=[.int .i64 (l.getD i z0).f,.sl (l.getD i z0).ws.length (cJ (l.getD i z0).ws) .none]:=fX tL l i z0 h
theorem Gm (l:List Zn)(x:Zn):dS l++[.int .i64 x.f,.sl x.ws.length (cJ x.ws) .none]=dS (l++[x]):=iW (f:=mX) l x
@[simp] theorem LM (n t:Nat) (l:List Zn):aJ n t (dS l):=gd (f:=mX) (fun x=>by simp) l
abbrev fw (x:Dc):List AV:=[.int .i64 x.id,.sl x.zs.length (dS x.zs) .none,.sl x.ns.length (aU x.ns) .none]
def aM (l:List Dc):List AV:=l.flatMap fun x=>[.int .i64 x.id,.sl x.zs.length (dS x.zs) .none,.sl x.ns.length (aU x.ns) .none]
theorem mB:eC fw 3:=fun _=>rfl
theorem kC:aM []=[]:=rfl
theorem bD (l:List Dc):(aM l).length=l.length*3:=b9 mB l
theorem jc (l:List Dc)(i:Nat)(h:i<l.length):(aM l).getD (i*3) .top=.int .i64 (l.getD i d0).id∧(aM l).getD (i*3+1) .top=.sl (l.getD i d0).zs.length (dS (l.getD i d0).zs) .none∧(aM l).getD (i*3+2) .top=.sl (l.getD i d0).ns.length (aU (l.getD i d0).ns) .none:=
 ⟨fI mB l i 0 d0 h (by omega),fI mB l i 1 d0 h (by omega),fI mB l i 2 d0 h (by omega)⟩
theorem iz (l:List Dc)(i:Nat)(h:i<l.length):((aM l).drop (i*3)).take 3=[.int .i64 (l.getD i d0).id,.sl (l.getD i d0).zs.length (dS (l.getD i d0).zs) .none,.sl (l.getD i d0).ns.length (aU (l.getD i d0).ns) .none]:=fX mB l i d0 h
theorem xS (l:List Dc)(x:Dc):aM l++[.int .i64 x.id,.sl x.zs.length (dS x.zs) .none,.sl x.ns.length (aU x.ns) .none]=aM (l++[x]):=iW (f:=fw) l x
theorem vb (a b:List Dc):aM a++aM b=aM (a++b):=by simp[aM]
theorem Ia (l:List Dc)(i:Nat):(aM l).drop (i*3)=aM (l.drop i):=iX mB l i
theorem N6 (l:List Dc)(i:Nat):(aM l).take (i*3)=aM (l.take i):=lS mB l i
@[simp] theorem vl (n t:Nat) (l:List Dc):aJ n t (aM l):=gd (f:=fw) (fun x=>by simp) l
abbrev js (x:Tm):List AV:=[.int .i64 x.f,.str x.w,.sl x.l.length (bp x.l) .none]
def bO (l:List Tm):List AV:=l.flatMap fun x=>[.int .i64 x.f,.str x.w,.sl x.l.length (bp x.l) .none]
theorem oL:eC js 3:=fun _=>rfl
theorem qV:bO []=[]:=rfl
theorem bU (l:List Tm):(bO l).length=l.length*3:=b9 oL l
theorem qI (l:List Tm)(i:Nat)(h:i<l.length):(bO l).getD (i*3) .top=.int .i64 (l.getD i t0).f∧(bO l).getD (i*3+1) .top=.str (l.getD i t0).w∧(bO l).getD (i*3+2) .top=.sl (l.getD i t0).l.length (bp (l.getD i t0).l) .none:=
 ⟨fI oL l i 0 t0 h (by omega),fI oL l i 1 t0 h (by omega),fI oL l i 2 t0 h (by omega)⟩
theorem gH (l:List Tm)(i:Nat)(h:i<l.length):((bO l).drop (i*3)).take 3=[.int .i64 (l.getD i t0).f,.str (l.getD i t0).w,.sl (l.getD i t0).l.length (bp (l.getD i t0).l) .none]:=fX oL l i t0 h
theorem w8 (l:List Tm)(i:Nat)(h:i<l.length):bO (l.take i)++[.int .i64 (l.getD i t0).f,.str (l.getD i t0).w,.sl (l.getD i t0).l.length (bp (l.getD i t0).l) .none]=bO (l.take (i+1)):=xg (f:=js) l i t0 h
theorem GB (l:List Tm)(i:Nat):(bO l).drop (i*3)=bO (l.drop i):=iX oL l i
@[simp] theorem WG (n t:Nat) (l:List Tm):aJ n t (bO l):=gd (f:=js) (fun x=>by simp) l
abbrev fL (x:Cl):List AV:=[.int .i64 x.f,.sl x.x.length (aU x.x) .none]
def cR (l:List Cl):List AV:=l.flatMap fun x=>[.int .i64 x.f,.sl x.x.length (aU x.x) .none]
theorem tX:eC fL 2:=fun _=>rfl
theorem Bn:cR []=[]:=rfl
theorem cE (l:List Cl):(cR l).length=l.length*2:=b9 tX l
theorem oN (l:List Cl)(i:Nat)(h:i<l.length):(cR l).getD (i*2) .top=.int .i64 (l.getD i c0).f∧(cR l).getD (i*2+1) .top=.sl (l.getD i c0).x.length (aU (l.getD i c0).x) .none:=
 ⟨fI tX l i 0 c0 h (by omega),fI tX l i 1 c0 h (by omega)⟩
theorem ot (l:List Cl)(i:Nat)(h:i<l.length):((cR l).drop (i*2)).take 2=[.int .i64 (l.getD i c0).f,.sl (l.getD i c0).x.length (aU (l.getD i c0).x) .none]:=fX tX l i c0 h
theorem Ii (l:List Cl)(x:Cl):cR l++[.int .i64 x.f,.sl x.x.length (aU x.x) .none]=cR (l++[x]):=iW (f:=fL) l x
@[simp] theorem WK (n t:Nat) (l:List Cl):aJ n t (cR l):=gd (f:=fL) (fun x=>by simp) l
abbrev ec (s:Sg):AV:=.agg [.sl s.an.length (ints s.an) .none,.sl s.aK.length (bO s.aK) .none,.sl s.aw.length (cR s.aw) .none]
open iF
theorem EZ {s:ud}{k:Nat}(hk:k<s.length)(h:(s.getD k 0).toNat≤32):okW s=false:=by
 have hm:=tn s k 0 hk;have:s.all (fun c=>decide (32<c.toNat))=false:=by
  rw[List.all_eq_false];exact⟨_,hm,by simp only[decide_eq_true_eq];omega⟩
 simp only[okW,this,Bool.false_and]
theorem AP {s:ud}(h:∀j,j<s.length→32<(s.getD j 0).toNat):okW s=decide (1≤s.length∧s.length≤100):=by
 have:s.all (fun c=>decide (32<c.toNat))=true:=by
  rw[List.all_eq_true];intro c hc;obtain⟨j,hj,e⟩:=iv 0 hc;have:=h j hj;rw[e] at this;simpa using this
 simp only[okW,this,Bool.true_and]
attribute [-simp] getD_eq_getElem?_getD in
theorem Al (s:ud)(hs:s.length≤maxLen)(H:List aA)(T:ar):aq Tryz.prog 72 [.str s] H T (Is (.bool (okW s)) H T):=by
 have hY:maxLen≤9223372036854775807:=by decide
 have vU:=Nat.le_trans hs hY;generalize hq:okW s=q;refine aj 7 [] Tryz.ntmps72 Tryz.func72 rfl (fun _ _=>Tryz.call72 _ _) (by simp) (fun HO=>?_);apply ae;intro K h;simp(disch:=omega);apply h;clear h K;refine af fun K1 aQ=>?_;apply ae;intro K h;simp(disch:=omega);apply h;clear h K;apply ah;refine aG (X:=Nat) (fun k=>⟨[(0,.str s),(5,.int .i64 (s.length:Nat)),(6,.int .i64 (k:Nat))],H,T⟩) (fun k=>k≤s.length∧∀j,j<k→32<(s.getD j 0).toNat) (fun k=>s.length-k) 0 ?_ ?_ ?_
 ·exact⟨Nat.zero_le _,fun j hj=>absurd hj (Nat.not_lt_zero _)⟩
 ·refine ag [] [] ?_ ?_ ?_ ?_ HO ?_
  all_goals simp
 ·rintro k ⟨h1,h2⟩;apply ae;intro K h;simp(disch:=omega);apply h;clear h K;refine af fun K2 aW=>?_;refine aN rfl (fun hk=>?_) (fun hk=>?_)
  ·simp  at hk;apply ai;simp(disch:=omega) ;apply aW;clear aW;refine af fun K3 bz=>?_;apply ah;apply ae;intro K h;simp(disch:=omega);apply h;clear h K
   by_cases hc:(s.getD k 0).toNat≤32
   ·have b:decide (((s.getD k 0).toNat:Int)≤32)=true:=by simp ;omega
    refine ae fun K hK=>?_;simp(disch:=omega)[b,hc,hk];apply hK;clear hK K;apply aF rfl;apply ae;intro K h;simp(disch:=omega);apply h;clear h K;apply az;simp(disch:=omega) ;rw[←hq,EZ hk hc];exact⟨rfl,rfl,rfl⟩
   ·have b:decide (((s.getD k 0).toNat:Int)≤32)=false:=by simp ;omega
    refine ae fun K hK=>?_;simp(disch:=omega)[b,hc,hk];apply hK;clear hK K;apply aD rfl;apply ai;simp(disch:=omega) ;apply bz;clear bz;refine au fun K hK=>?_;simp(disch:=omega) ;apply hK;clear hK K;refine⟨k+1,⟨by show k+1≤_;omega,fun j hj=>?_⟩,by show s.length-(k+1)<s.length-k;omega,?_⟩
    ·rcases Nat.lt_or_ge j k with h3|h3
     ·exact h2 j h3
     ·have:j=k:=by omega
      subst this;omega
    ·refine ag [] [] ?_ ?_ ?_ ?_ HO ?_
     all_goals simp
  ·simp  at hk;have hn:=AP (s:=s) (fun j hj=>h2 j (by omega));rw[hq] at hn;subst hn;apply aC;simp(disch:=omega) ;apply aQ;clear aQ
   by_cases h3:1≤s.length
   ·have b3:decide ((1:Int)≤s.length)=true:=by simp;omega
    by_cases h4:s.length≤100
    ·have b4:decide ((s.length:Int)≤100)=true:=by simp;omega
     refine ae fun K hK=>?_;simp(disch:=omega)[b3,b4,h3,h4];apply hK;clear hK K;apply az;simp(disch:=omega) ;exact⟨by simp[h3,h4],rfl,rfl⟩
    ·have b4:decide ((s.length:Int)≤100)=false:=by simp;omega
     refine ae fun K hK=>?_;simp(disch:=omega)[b3,b4,h3,h4];apply hK;clear hK K;apply az;simp(disch:=omega) ;exact⟨by simp[h3,h4],rfl,rfl⟩
   ·have b3:decide ((1:Int)≤s.length)=false:=by simp;omega
    refine ae fun K hK=>?_;simp(disch:=omega)[b3,h3];apply hK;clear hK K;apply az;simp(disch:=omega) ;exact⟨by simp[h3],rfl,rfl⟩
attribute [-simp] getD_eq_getElem?_getD in
theorem Ak (s:ud)(hs:s.length≤maxLen)(H:List aA)(T:ar):aq Tryz.prog 85 [.str s] H T (Is (.bool (okW s)) H T):=by
 have hY:maxLen≤9223372036854775807:=by decide
 have vU:=Nat.le_trans hs hY;generalize hq:okW s=q;refine aj 7 [] Tryz.ntmps85 Tryz.func85 rfl (fun _ _=>Tryz.call85 _ _) (by simp) (fun HO=>?_);apply ae;intro K h;simp(disch:=omega);apply h;clear h K;refine af fun K1 aQ=>?_;apply ae;intro K h;simp(disch:=omega);apply h;clear h K;apply ah;refine aG (X:=Nat) (fun k=>⟨[(0,.str s),(3,.int .i64 (k:Nat))],H,T⟩) (fun k=>k≤s.length∧∀j,j<k→32<(s.getD j 0).toNat) (fun k=>s.length-k) 0 ?_ ?_ ?_
 ·exact⟨Nat.zero_le _,fun j hj=>absurd hj (Nat.not_lt_zero _)⟩
 ·refine ag [] [] ?_ ?_ ?_ ?_ HO ?_
  all_goals simp
 ·rintro k ⟨h1,h2⟩;refine af fun K2 aW=>?_;apply ae;intro K h;simp(disch:=omega);apply h;clear h K;refine aN rfl (fun hk=>?_) (fun hk=>?_)
  ·simp  at hk;apply ai;simp(disch:=omega) ;apply aW;clear aW;refine af fun K3 bz=>?_;apply ah
   by_cases hc:(s.getD k 0).toNat≤32
   ·have b:decide (((s.getD k 0).toNat:Int)≤32)=true:=by simp ;omega
    refine ae fun K hK=>?_;simp(disch:=omega)[b,hc,hk];apply hK;clear hK K;apply aF rfl;apply ae;intro K h;simp(disch:=omega);apply h;clear h K;apply az;simp(disch:=omega) ;rw[←hq,EZ hk hc];exact⟨rfl,rfl,rfl⟩
   ·have b:decide (((s.getD k 0).toNat:Int)≤32)=false:=by simp ;omega
    refine ae fun K hK=>?_;simp(disch:=omega)[b,hc,hk];apply hK;clear hK K;apply aD rfl;apply ai;simp(disch:=omega) ;apply bz;clear bz;refine au fun K hK=>?_;simp(disch:=omega) ;apply hK;clear hK K;refine⟨k+1,⟨by show k+1≤_;omega,fun j hj=>?_⟩,by show s.length-(k+1)<s.length-k;omega,?_⟩
    ·rcases Nat.lt_or_ge j k with h3|h3
     ·exact h2 j h3
     ·have:j=k:=by omega
      subst this;omega
    ·refine ag [] [] ?_ ?_ ?_ ?_ HO ?_
     all_goals simp
  ·simp  at hk;have hn:=AP (s:=s) (fun j hj=>h2 j (by omega));rw[hq] at hn;subst hn;apply aC;simp(disch:=omega) ;apply aQ;clear aQ
   by_cases h3:1≤s.length
   ·have b3:decide ((1:Int)≤s.length)=true:=by simp;omega
    by_cases h4:s.length≤100
    ·have b4:decide ((s.length:Int)≤100)=true:=by simp;omega
     refine ae fun K hK=>?_;simp(disch:=omega)[b3,b4,h3,h4];apply hK;clear hK K;apply az;simp(disch:=omega) ;exact⟨by simp[h3,h4],rfl,rfl⟩
    ·have b4:decide ((s.length:Int)≤100)=false:=by simp;omega
     refine ae fun K hK=>?_;simp(disch:=omega)[b3,b4,h3,h4];apply hK;clear hK K;apply az;simp(disch:=omega) ;exact⟨by simp[h3,h4],rfl,rfl⟩
   ·have b3:decide ((1:Int)≤s.length)=false:=by simp;omega
    refine ae fun K hK=>?_;simp(disch:=omega)[b3,h3];apply hK;clear hK K;apply az;simp(disch:=omega) ;exact⟨by simp[h3],rfl,rfl⟩
end Go.Proofs.YtneohapkboaplaaGreat
