/- Lists of rows as cells: lengths, rows, beginnings, one row changed. Documents and segments (layers 37, 39) as cells. Words of documents (layer 37).
  Conditions: lengths below 400 or 1000, as each theorem says. -/
import Derived.Test.YtneohapkboaplaaGreatAmFacts
import Derived.Test.YtneohapkboaplaaGreatAmC
import Derived.Test.YtneohapkboaplaaGreatPB
import Derived.Test.YtneohapkboaplaaGreatSPl
set_option linter.all false
set_option maxRecDepth 100000
namespace Go.Am
open Go
def iN:List Nat→Code→Code
 |[],c=>c
 |0::p,.seq x _=>iN p x
 |1::p,.seq _ y=>iN p y
 |0::p,.cond _ x _=>iN p x
 |1::p,.cond _ _ y=>iN p y
 |0::p,.block _ x=>iN p x
 |0::p,.loop x=>iN p x
 |_,c=>c
def fI {α:Type}(f:α→List AV)(k:Nat):Prop:=∀x,(f x).length=k
section
variable {α : Type} {f : α → List AV} {k : Nat}
theorem dm (h:fI f k):∀l:List α,(l.flatMap f).length=l.length*k
 |[]=>by simp
 |x::r=>by rw[List.flatMap_cons,List.length_append,dm h r,h x,List.length_cons,Nat.add_mul,Nat.one_mul];omega
theorem rI (h:fI f k):∀(l:List α)(i:Nat),(l.flatMap f).drop (i*k)=(l.drop i).flatMap f
 |l,0=>by simp
 |[],i+1=>by simp
 |x::r,i+1=>by
  rw[List.drop_succ_cons,←rI h r i,List.flatMap_cons,Nat.add_mul,Nat.one_mul,List.drop_append,h x,List.drop_of_length_le (by rw[h x];omega),List.nil_append]
  congr 1;omega
theorem ij {β:Type}(l:List β)(i:Nat)(d:β)(hi:i<l.length):l.drop i=l.getD i d::l.drop (i+1):=by
 rw[List.drop_eq_getElem_cons hi,List.getD_eq_getElem?_getD,List.getElem?_eq_getElem hi];rfl
theorem iR (h:fI f k)(l:List α)(i:Nat)(d:α)(hi:i<l.length):((l.flatMap f).drop (i*k)).take k=f (l.getD i d):=by
 rw[rI h,ij l i d hi,List.flatMap_cons,List.take_append,h,Nat.sub_self,List.take_of_length_le (by rw[h];omega),List.take_zero,List.append_nil]
theorem iE (h:fI f k)(l:List α)(i j:Nat)(d:α)(hi:i<l.length)(hj:j<k):(l.flatMap f).getD (i*k+j) .top=(f (l.getD i d)).getD j .top:=by
 have e:=iR h l i d hi;rw[←e,List.getD_eq_getElem?_getD,List.getD_eq_getElem?_getD,List.getElem?_take,if_pos hj,List.getElem?_drop]
theorem oi (l:List α)(x:α):l.flatMap f++f x=(l++[x]).flatMap f:=by simp
theorem dx {β:Type}(l:List β)(i:Nat)(d:β)(hi:i<l.length):l.take (i+1)=l.take i++[l.getD i d]:=by
 rw[List.take_succ_eq_append_getElem hi,List.getD_eq_getElem?_getD,List.getElem?_eq_getElem hi];rfl
theorem wy (l:List α)(i:Nat)(d:α)(hi:i<l.length):(l.take i).flatMap f++f (l.getD i d)=(l.take (i+1)).flatMap f:=by
 rw[dx l i d hi,oi]
theorem gF {n t:Nat}(h:∀x,aL n t (f x))(l:List α):aL n t (l.flatMap f):=by
 intro v hv;obtain⟨x,_,hv⟩:=List.mem_flatMap.1 hv;exact h x v hv
end
theorem vn (zs:List AV):gj zs 0=[]:=rfl
theorem aR {β:Type}(l:List β)(i:Nat)(d:β)(hi:i<l.length):l.getD i d∈l:=by
 rw[List.getD_eq_getElem?_getD,List.getElem?_eq_getElem hi];exact List.getElem_mem hi
theorem bP {β:Type}{l:List β}{x:β}(d:β)(h:x∈l):∃i,i<l.length∧l.getD i d=x:=by
 obtain⟨i,hi,e⟩:=List.mem_iff_getElem.1 h;exact⟨i,hi,by rw[List.getD_eq_getElem?_getD,List.getElem?_eq_getElem hi];exact e⟩
end Go.Am
namespace eB
abbrev Bs:=List UInt8
abbrev Wd:=Bs×Int
abbrev Nm:=Int×Int
abbrev Ps:=Int×List Int
structure Zn where
 f:Int
 ws:List Wd
 deriving DecidableEq
structure Dc where
 id:Int
 zs:List Zn
 ns:List Nm
 deriving DecidableEq
structure Tm where
 f:Int
 w:Bs
 l:List Ps
 deriving DecidableEq
structure Cl where
 f:Int
 x:List Nm
 deriving DecidableEq
structure Sg where
 aw:List Int
 aJ:List Tm
 az:List Cl
 deriving DecidableEq
abbrev w0:Wd:=([],0)
abbrev n0:Nm:=(0,0)
abbrev p0:Ps:=(0,[])
abbrev z0:Zn:=⟨0,[]⟩
abbrev d0:Dc:=⟨0,[],[]⟩
abbrev t0:Tm:=⟨0,[],[]⟩
abbrev c0:Cl:=⟨0,[]⟩
def gh:Sg:=⟨[],[],[]⟩
end eB
namespace Go.Proofs.YtneohapkboaplaaGreat
open Go Go.Am eB
abbrev wdC (x:Wd):List AV:=[.str x.1,.int .i64 x.2]
def gS (l:List Wd):List AV:=l.flatMap fun x=>[.str x.1,.int .i64 x.2]
theorem Eb:fI wdC 2:=fun _=>rfl
theorem zj (l:List Wd):(gS l).length=l.length*2:=dm Eb l
theorem zk (l:List Wd)(i:Nat)(h:i<l.length):((gS l).drop (i*2)).take 2=[.str (l.getD i w0).1,.int .i64 (l.getD i w0).2]:=iR Eb l i w0 h
@[simp] theorem WA (n t:Nat) (l:List Wd):aL n t (gS l):=gF (f:=wdC) (fun x=>by simp) l
abbrev BR (x:Nm):List AV:=[.int .i64 x.1,.int .i64 x.2]
def br (l:List Nm):List AV:=l.flatMap fun x=>[.int .i64 x.1,.int .i64 x.2]
theorem tF:fI BR 2:=fun _=>rfl
theorem cj (l:List Nm):(br l).length=l.length*2:=dm tF l
theorem Na (l:List Nm)(i:Nat)(h:i<l.length):(br l).getD (i*2) .top=.int .i64 (l.getD i n0).1∧(br l).getD (i*2+1) .top=.int .i64 (l.getD i n0).2:=
 ⟨iE tF l i 0 n0 h (by omega),iE tF l i 1 n0 h (by omega)⟩
theorem fh (l:List Nm)(i:Nat)(h:i<l.length):((br l).drop (i*2)).take 2=[.int .i64 (l.getD i n0).1,.int .i64 (l.getD i n0).2]:=iR tF l i n0 h
theorem ow (l:List Nm)(x:Nm):br l++[.int .i64 x.1,.int .i64 x.2]=br (l++[x]):=oi (f:=BR) l x
theorem wK (l:List Nm)(i:Nat)(h:i<l.length):br (l.take i)++[.int .i64 (l.getD i n0).1,.int .i64 (l.getD i n0).2]=br (l.take (i+1)):=wy (f:=BR) l i n0 h
@[simp] theorem AG (n t:Nat) (l:List Nm):aL n t (br l):=gF (f:=BR) (fun x=>by simp) l
abbrev RG (x:Ps):List AV:=[.int .i64 x.1,.sl x.2.length (ints x.2) .none]
abbrev OU (x:Zn):List AV:=[.int .i64 x.f,.sl x.ws.length (gS x.ws) .none]
def fN (l:List Zn):List AV:=l.flatMap fun x=>[.int .i64 x.f,.sl x.ws.length (gS x.ws) .none]
theorem D9:fI OU 2:=fun _=>rfl
theorem za (l:List Zn):(fN l).length=l.length*2:=dm D9 l
theorem zb (l:List Zn)(i:Nat)(h:i<l.length):((fN l).drop (i*2)).take 2=[.int .i64 (l.getD i z0).f,.sl (l.getD i z0).ws.length (gS (l.getD i z0).ws) .none]:=iR D9 l i z0 h
@[simp] theorem Wy (n t:Nat) (l:List Zn):aL n t (fN l):=gF (f:=OU) (fun x=>by simp) l
abbrev nh (x:Dc):List AV:=[.int .i64 x.id,.sl x.zs.length (fN x.zs) .none,.sl x.ns.length (br x.ns) .none]
def bC (l:List Dc):List AV:=l.flatMap fun x=>[.int .i64 x.id,.sl x.zs.length (fN x.zs) .none,.sl x.ns.length (br x.ns) .none]
theorem qn:fI nh 3:=fun _=>rfl
theorem Av:bC []=[]:=rfl
theorem kb (l:List Dc):(bC l).length=l.length*3:=dm qn l
theorem Ns (l:List Dc)(i:Nat)(h:i<l.length):(bC l).getD (i*3) .top=.int .i64 (l.getD i d0).id∧(bC l).getD (i*3+1) .top=.sl (l.getD i d0).zs.length (fN (l.getD i d0).zs) .none∧(bC l).getD (i*3+2) .top=.sl (l.getD i d0).ns.length (br (l.getD i d0).ns) .none:=
 ⟨iE qn l i 0 d0 h (by omega),iE qn l i 1 d0 h (by omega),iE qn l i 2 d0 h (by omega)⟩
theorem Aw (l:List Dc)(i:Nat)(h:i<l.length):((bC l).drop (i*3)).take 3=[.int .i64 (l.getD i d0).id,.sl (l.getD i d0).zs.length (fN (l.getD i d0).zs) .none,.sl (l.getD i d0).ns.length (br (l.getD i d0).ns) .none]:=iR qn l i d0 h
@[simp] theorem WG (n t:Nat) (l:List Dc):aL n t (bC l):=gF (f:=nh) (fun x=>by simp) l
abbrev jb (x:Tm):List AV:=[.int .i64 x.f,.str x.w,.sl x.l.length (bp x.l) .none]
def bX (l:List Tm):List AV:=l.flatMap fun x=>[.int .i64 x.f,.str x.w,.sl x.l.length (bp x.l) .none]
theorem oa:fI jb 3:=fun _=>rfl
theorem uH:bX []=[]:=rfl
theorem bH (l:List Tm):(bX l).length=l.length*3:=dm oa l
theorem qf (l:List Tm)(i:Nat)(h:i<l.length):(bX l).getD (i*3) .top=.int .i64 (l.getD i t0).f∧(bX l).getD (i*3+1) .top=.str (l.getD i t0).w∧(bX l).getD (i*3+2) .top=.sl (l.getD i t0).l.length (bp (l.getD i t0).l) .none:=
 ⟨iE oa l i 0 t0 h (by omega),iE oa l i 1 t0 h (by omega),iE oa l i 2 t0 h (by omega)⟩
theorem gk (l:List Tm)(i:Nat)(h:i<l.length):((bX l).drop (i*3)).take 3=[.int .i64 (l.getD i t0).f,.str (l.getD i t0).w,.sl (l.getD i t0).l.length (bp (l.getD i t0).l) .none]:=iR oa l i t0 h
theorem wh (l:List Tm)(x:Tm):bX l++[.int .i64 x.f,.str x.w,.sl x.l.length (bp x.l) .none]=bX (l++[x]):=oi (f:=jb) l x
theorem wg (l:List Tm)(i:Nat)(h:i<l.length):bX (l.take i)++[.int .i64 (l.getD i t0).f,.str (l.getD i t0).w,.sl (l.getD i t0).l.length (bp (l.getD i t0).l) .none]=bX (l.take (i+1)):=wy (f:=jb) l i t0 h
theorem F0 (l:List Tm)(i:Nat):(bX l).drop (i*3)=bX (l.drop i):=rI oa l i
@[simp] theorem WB (n t:Nat) (l:List Tm):aL n t (bX l):=gF (f:=jb) (fun x=>by simp) l
abbrev e7 (x:Cl):List AV:=[.int .i64 x.f,.sl x.x.length (br x.x) .none]
def eA (l:List Cl):List AV:=l.flatMap fun x=>[.int .i64 x.f,.sl x.x.length (br x.x) .none]
theorem tN:fI e7 2:=fun _=>rfl
theorem KX:eA []=[]:=rfl
theorem de (l:List Cl):(eA l).length=l.length*2:=dm tN l
theorem qo (l:List Cl)(i:Nat)(h:i<l.length):(eA l).getD (i*2) .top=.int .i64 (l.getD i c0).f∧(eA l).getD (i*2+1) .top=.sl (l.getD i c0).x.length (br (l.getD i c0).x) .none:=
 ⟨iE tN l i 0 c0 h (by omega),iE tN l i 1 c0 h (by omega)⟩
theorem lK (l:List Cl)(i:Nat)(h:i<l.length):((eA l).drop (i*2)).take 2=[.int .i64 (l.getD i c0).f,.sl (l.getD i c0).x.length (br (l.getD i c0).x) .none]:=iR tN l i c0 h
@[simp] theorem WH (n t:Nat) (l:List Cl):aL n t (eA l):=gF (f:=e7) (fun x=>by simp) l
abbrev il (s:Sg):AV:=.agg [.sl s.aw.length (ints s.aw) .none,.sl s.aJ.length (bX s.aJ) .none,.sl s.az.length (eA s.az) .none]
open gH
theorem Em {s:tT}{k:Nat}(hk:k<s.length)(h:(s.getD k 0).toNat≤32):okW s=false:=by
 have hm:=oN s k 0 hk;have:s.all (fun c=>decide (32<c.toNat))=false:=by
  rw[List.all_eq_false];exact⟨_,hm,by simp only[decide_eq_true_eq];omega⟩
 simp only[okW,this,Bool.false_and]
theorem zS {s:tT}(h:∀j,j<s.length→32<(s.getD j 0).toNat):okW s=decide (1≤s.length∧s.length≤100):=by
 have:s.all (fun c=>decide (32<c.toNat))=true:=by
  rw[List.all_eq_true];intro c hc;obtain⟨j,hj,e⟩:=ic 0 hc;have:=h j hj;rw[e] at this;simpa using this
 simp only[okW,this,Bool.true_and]
attribute [-simp] List.getD_eq_getElem?_getD in
theorem zi (s:tT)(hs:s.length≤maxLen)(H:List aG)(T:ay):al Tryz.prog 72 [.str s] H T (Is (.bool (okW s)) H T):=by
 have ik:maxLen≤9223372036854775807:=by decide
 have BD:=Nat.le_trans hs ik;generalize hq:okW s=q;refine aj 7 [] Tryz.ntmps72 Tryz.func72 rfl (fun _ _=>Tryz.call72 _ _) (by simp) (fun HO=>?_);apply ae;intro K h;simp(disch:=omega);apply h;clear h K;refine af fun K1 aO=>?_;apply ae;intro K h;simp(disch:=omega);apply h;clear h K;apply ai;refine aK (X:=Nat) (fun k=>⟨[(0,.str s),(5,.int .i64 (s.length:Nat)),(6,.int .i64 (k:Nat))],H,T⟩) (fun k=>k≤s.length∧∀j,j<k→32<(s.getD j 0).toNat) (fun k=>s.length-k) 0 ?_ ?_ ?_
 ·exact⟨Nat.zero_le _,fun j hj=>absurd hj (Nat.not_lt_zero _)⟩
 ·refine ag [] [] ?_ ?_ ?_ ?_ HO ?_
  all_goals simp
 ·rintro k ⟨h1,h2⟩;apply ae;intro K h;simp(disch:=omega);apply h;clear h K;refine af fun K2 aY=>?_;refine aP rfl (fun hk=>?_) (fun hk=>?_)
  ·simp  at hk;apply ak;simp(disch:=omega) ;apply aY;clear aY;refine af fun K3 bA=>?_;apply ai;apply ae;intro K h;simp(disch:=omega);apply h;clear h K
   by_cases hc:(s.getD k 0).toNat≤32
   ·have b:decide (((s.getD k 0).toNat:Int)≤32)=true:=by simp ;omega
    refine ae fun K hK=>?_;simp(disch:=omega)[b,hc,hk];apply hK;clear hK K;apply aH rfl;apply ae;intro K h;simp(disch:=omega);apply h;clear h K;apply an;simp(disch:=omega) ;rw[←hq,Em hk hc];exact⟨rfl,rfl,rfl⟩
   ·have b:decide (((s.getD k 0).toNat:Int)≤32)=false:=by simp ;omega
    refine ae fun K hK=>?_;simp(disch:=omega)[b,hc,hk];apply hK;clear hK K;apply aC rfl;apply ak;simp(disch:=omega) ;apply bA;clear bA;refine ar fun K hK=>?_;simp(disch:=omega) ;apply hK;clear hK K;refine⟨k+1,⟨by show k+1≤_;omega,fun j hj=>?_⟩,by show s.length-(k+1)<s.length-k;omega,?_⟩
    ·rcases Nat.lt_or_ge j k with h3|h3
     ·exact h2 j h3
     ·have:j=k:=by omega
      subst this;omega
    ·refine ag [] [] ?_ ?_ ?_ ?_ HO ?_
     all_goals simp
  ·simp  at hk;have hn:=zS (s:=s) (fun j hj=>h2 j (by omega));rw[hq] at hn;subst hn;apply aD;simp(disch:=omega) ;apply aO;clear aO
   by_cases h3:1≤s.length
   ·have b3:decide ((1:Int)≤s.length)=true:=by simp;omega
    by_cases h4:s.length≤100
    ·have b4:decide ((s.length:Int)≤100)=true:=by simp;omega
     refine ae fun K hK=>?_;simp(disch:=omega)[b3,b4,h3,h4];apply hK;clear hK K;apply an;simp(disch:=omega) ;exact⟨by simp[h3,h4],rfl,rfl⟩
    ·have b4:decide ((s.length:Int)≤100)=false:=by simp;omega
     refine ae fun K hK=>?_;simp(disch:=omega)[b3,b4,h3,h4];apply hK;clear hK K;apply an;simp(disch:=omega) ;exact⟨by simp[h3,h4],rfl,rfl⟩
   ·have b3:decide ((1:Int)≤s.length)=false:=by simp;omega
    refine ae fun K hK=>?_;simp(disch:=omega)[b3,h3];apply hK;clear hK K;apply an;simp(disch:=omega) ;exact⟨by simp[h3],rfl,rfl⟩
attribute [-simp] List.getD_eq_getElem?_getD in
theorem Ji (s:tT)(hs:s.length≤maxLen)(H:List aG)(T:ay):al Tryz.prog 85 [.str s] H T (Is (.bool (okW s)) H T):=by
 have ik:maxLen≤9223372036854775807:=by decide
 have BD:=Nat.le_trans hs ik;generalize hq:okW s=q;refine aj 7 [] Tryz.ntmps85 Tryz.func85 rfl (fun _ _=>Tryz.call85 _ _) (by simp) (fun HO=>?_);apply ae;intro K h;simp(disch:=omega);apply h;clear h K;refine af fun K1 aO=>?_;apply ae;intro K h;simp(disch:=omega);apply h;clear h K;apply ai;refine aK (X:=Nat) (fun k=>⟨[(0,.str s),(3,.int .i64 (k:Nat))],H,T⟩) (fun k=>k≤s.length∧∀j,j<k→32<(s.getD j 0).toNat) (fun k=>s.length-k) 0 ?_ ?_ ?_
 ·exact⟨Nat.zero_le _,fun j hj=>absurd hj (Nat.not_lt_zero _)⟩
 ·refine ag [] [] ?_ ?_ ?_ ?_ HO ?_
  all_goals simp
 ·rintro k ⟨h1,h2⟩;refine af fun K2 aY=>?_;apply ae;intro K h;simp(disch:=omega);apply h;clear h K;refine aP rfl (fun hk=>?_) (fun hk=>?_)
  ·simp  at hk;apply ak;simp(disch:=omega) ;apply aY;clear aY;refine af fun K3 bA=>?_;apply ai
   by_cases hc:(s.getD k 0).toNat≤32
   ·have b:decide (((s.getD k 0).toNat:Int)≤32)=true:=by simp ;omega
    refine ae fun K hK=>?_;simp(disch:=omega)[b,hc,hk];apply hK;clear hK K;apply aH rfl;apply ae;intro K h;simp(disch:=omega);apply h;clear h K;apply an;simp(disch:=omega) ;rw[←hq,Em hk hc];exact⟨rfl,rfl,rfl⟩
   ·have b:decide (((s.getD k 0).toNat:Int)≤32)=false:=by simp ;omega
    refine ae fun K hK=>?_;simp(disch:=omega)[b,hc,hk];apply hK;clear hK K;apply aC rfl;apply ak;simp(disch:=omega) ;apply bA;clear bA;refine ar fun K hK=>?_;simp(disch:=omega) ;apply hK;clear hK K;refine⟨k+1,⟨by show k+1≤_;omega,fun j hj=>?_⟩,by show s.length-(k+1)<s.length-k;omega,?_⟩
    ·rcases Nat.lt_or_ge j k with h3|h3
     ·exact h2 j h3
     ·have:j=k:=by omega
      subst this;omega
    ·refine ag [] [] ?_ ?_ ?_ ?_ HO ?_
     all_goals simp
  ·simp  at hk;have hn:=zS (s:=s) (fun j hj=>h2 j (by omega));rw[hq] at hn;subst hn;apply aD;simp(disch:=omega) ;apply aO;clear aO
   by_cases h3:1≤s.length
   ·have b3:decide ((1:Int)≤s.length)=true:=by simp;omega
    by_cases h4:s.length≤100
    ·have b4:decide ((s.length:Int)≤100)=true:=by simp;omega
     refine ae fun K hK=>?_;simp(disch:=omega)[b3,b4,h3,h4];apply hK;clear hK K;apply an;simp(disch:=omega) ;exact⟨by simp[h3,h4],rfl,rfl⟩
    ·have b4:decide ((s.length:Int)≤100)=false:=by simp;omega
     refine ae fun K hK=>?_;simp(disch:=omega)[b3,b4,h3,h4];apply hK;clear hK K;apply an;simp(disch:=omega) ;exact⟨by simp[h3,h4],rfl,rfl⟩
   ·have b3:decide ((1:Int)≤s.length)=false:=by simp;omega
    refine ae fun K hK=>?_;simp(disch:=omega)[b3,h3];apply hK;clear hK K;apply an;simp(disch:=omega) ;exact⟨by simp[h3],rfl,rfl⟩
end Go.Proofs.YtneohapkboaplaaGreat
