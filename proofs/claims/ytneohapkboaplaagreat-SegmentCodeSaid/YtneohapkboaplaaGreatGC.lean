/- Comparing numbers, strings, terms, items. Valid documents (layer 37). Valid documents: the program's test (layer 37). Copies of lists of documents, sorting them by their IDs, testing them.
  Conditions: lengths below 400 or 1000, as each theorem says. -/
import Derived.Test.YtneohapkboaplaaGreatGA
import Derived.Test.YtneohapkboaplaaGreatGSt
set_option linter.all false
set_option maxRecDepth 100000
set_option maxHeartbeats 8000000
open Nat (zero_le not_lt_zero lt_or_ge le_trans)
open List (getD_eq_getElem?_getD getElem?_eq_getElem)
namespace gH
def mg (x y:Int):Int:=if x<y then -1 else if y<x then 1 else 0
def uc (a b:tT):Int:=if slt a b=true then -1 else if slt b a=true then 1 else 0
theorem oF (x y:Int):mg x y=0↔x=y:=by unfold mg;split<;>(try split)<;>omega
theorem qE (x y:Int):mg x y<0↔x<y:=by unfold mg;split<;>(try split)<;>omega
theorem KV (a b:tT):uc a b<0↔slt a b=true:=by
 unfold uc
 split
 ·rename_i h;simp[h]
 ·rename_i h;split<;>simp[h]
theorem Nv (a b:tT):slt b a=(!(slt a b||a==b)):=by
 cases h1:slt a b with
 |true=>rw[Gg _ _ h1];rfl
 |false=>
  cases h2:slt b a with
  |true=>have:=Co h2;simp[Ne.symm this]
  |false=>rw[rG _ _ h1 h2];simp
theorem Ho (a b:tT):uc a b=0↔a=b:=by
 unfold uc
 split
 ·rename_i h;simp[Co h]
 ·rename_i h;split
  ·rename_i h2;simp[Ne.symm (Co h2)]
  ·rename_i h2;simp only[true_iff];exact rG _ _ (by simpa using h) (by simpa using h2)
end gH
namespace Go.Proofs.YtneohapkboaplaaGreat
open Go Go.Am gH
attribute [-simp] getD_eq_getElem?_getD in
theorem lI (x y:Int)(H:List aG)(T:ay):al Tryz.prog 58 [.int .i64 x,.int .i64 y] H T (Is (.int .i64 (mg x y)) H T):=by
 have n1:∀z,al Tryz.prog 138 [.int .i64 z] H T (Is (.bool false) H T):=fun z=>by
  refine aj 3 [] Tryz.ntmps138 Tryz.func138 rfl (fun _ _=>Tryz.call138 _ _) (by simp) (fun HO=>?_);apply ae;intro K h;simp(disch:=omega);apply h;clear h K;apply ae;intro K h;simp(disch:=omega);apply h;clear h K;apply an;simp(disch:=omega) ;exact⟨rfl,rfl,rfl⟩
 generalize hq:mg x y=q;refine aj 7 [] Tryz.ntmps58 Tryz.func58 rfl (fun _ _=>Tryz.call58 _ _) (by simp) (fun HO=>?_);apply ae;intro K h;simp(disch:=omega);apply h;clear h K;refine ae fun K hK=>?_;simp(disch:=omega) ;refine ah (n1 x) ?_;simp(disch:=omega) ;apply hK;clear hK K;refine ae fun K hK=>?_;simp(disch:=omega) ;refine ah (n1 y) ?_;simp(disch:=omega) ;apply hK;clear hK K;refine af fun K1 aO=>?_;apply ae;intro K h;simp(disch:=omega);apply h;clear h K;apply aC rfl;apply ak;simp(disch:=omega) ;apply aO;clear aO;refine af fun K1 aO=>?_;apply ae;intro K h;simp(disch:=omega);apply h;clear h K;apply aC rfl;apply ak;simp(disch:=omega) ;apply aO;clear aO;refine af fun K1 aO=>?_
 by_cases h1:x<y
 ·have b1:decide (x<y)=true:=decide_eq_true h1;refine ae fun K hK=>?_;simp(disch:=omega)[b1,h1];apply hK;clear hK K;apply aH rfl;apply ae;intro K h;simp(disch:=omega);apply h;clear h K;apply an;simp(disch:=omega) ;rw[←hq,mg,if_pos h1];exact⟨rfl,rfl,rfl⟩
 ·have b1:decide (x<y)=false:=decide_eq_false h1;refine ae fun K hK=>?_;simp(disch:=omega)[b1,h1];apply hK;clear hK K;apply aC rfl;apply ak;simp(disch:=omega) ;apply aO;clear aO;refine af fun K1 aO=>?_
  by_cases h2:y<x
  ·have b2:decide (y<x)=true:=decide_eq_true h2;refine ae fun K hK=>?_;simp(disch:=omega)[b2,h2];apply hK;clear hK K;apply aH rfl;apply ae;intro K h;simp(disch:=omega);apply h;clear h K;apply an;simp(disch:=omega) ;rw[←hq,mg,if_neg h1,if_pos h2];exact⟨rfl,rfl,rfl⟩
  ·have b2:decide (y<x)=false:=decide_eq_false h2;refine ae fun K hK=>?_;simp(disch:=omega)[b2,h2];apply hK;clear hK K;apply aC rfl;apply ak;simp(disch:=omega) ;apply aO;clear aO;apply ae;intro K h;simp(disch:=omega);apply h;clear h K;apply an;simp(disch:=omega) ;rw[←hq,mg,if_neg h1,if_neg h2];exact⟨rfl,rfl,rfl⟩
attribute [-simp] getD_eq_getElem?_getD in
theorem KT (x y:tT)(H:List aG)(T:ay):al Tryz.prog 144 [.str x,.str y] H T (Is (.int .i64 (uc x y)) H T):=by
 have n1:∀z,al Tryz.prog 188 [.str z] H T (Is (.bool false) H T):=fun z=>by
  refine aj 3 [] Tryz.ntmps188 Tryz.func188 rfl (fun _ _=>Tryz.call188 _ _) (by simp) (fun HO=>?_);apply ae;intro K h;simp(disch:=omega);apply h;clear h K;apply ae;intro K h;simp(disch:=omega);apply h;clear h K;apply an;simp(disch:=omega) ;exact⟨rfl,rfl,rfl⟩
 have Lt:=Nv x y;generalize hq:uc x y=q;refine aj 7 [] Tryz.ntmps144 Tryz.func144 rfl (fun _ _=>Tryz.call144 _ _) (by simp) (fun HO=>?_);apply ae;intro K h;simp(disch:=omega);apply h;clear h K;refine ae fun K hK=>?_;simp(disch:=omega) ;refine ah (n1 x) ?_;simp(disch:=omega) ;apply hK;clear hK K;refine ae fun K hK=>?_;simp(disch:=omega) ;refine ah (n1 y) ?_;simp(disch:=omega) ;apply hK;clear hK K;refine af fun K1 aO=>?_;apply ae;intro K h;simp(disch:=omega);apply h;clear h K;apply aC rfl;apply ak;simp(disch:=omega) ;apply aO;clear aO;refine af fun K1 aO=>?_;apply ae;intro K h;simp(disch:=omega);apply h;clear h K;apply aC rfl;apply ak;simp(disch:=omega) ;apply aO;clear aO;refine af fun K1 aO=>?_;unfold slt at Lt
 cases h1:Op.bytesLess x y with
 |true=>
  refine ae fun K hK=>?_;simp(disch:=omega)[h1];apply hK;clear hK K;apply aH rfl;apply ae;intro K h;simp(disch:=omega);apply h;clear h K;apply an;simp(disch:=omega) ;rw[←hq,uc,if_pos h1];exact⟨rfl,rfl,rfl⟩
 |false=>
  refine ae fun K hK=>?_;simp(disch:=omega)[h1];apply hK;clear hK K;apply aC rfl;apply ak;simp(disch:=omega) ;apply aO;clear aO;refine af fun K1 aO=>?_;rw[h1,Bool.false_or] at Lt
  cases h2:(x==y) with
  |false=>
   rw[h2] at Lt;refine ae fun K hK=>?_;simp(disch:=omega)[h1,h2];apply hK;clear hK K;apply aH rfl;apply ae;intro K h;simp(disch:=omega);apply h;clear h K;apply an;simp(disch:=omega) ;rw[←hq,uc,if_neg (by simp[slt,h1]),if_pos (show slt y x=true from Lt)];exact⟨rfl,rfl,rfl⟩
  |true=>
   rw[h2] at Lt;refine ae fun K hK=>?_;simp(disch:=omega)[h1,h2];apply hK;clear hK K;apply aC rfl;apply ak;simp(disch:=omega) ;apply aO;clear aO;apply ae;intro K h;simp(disch:=omega);apply h;clear h K;apply an;simp(disch:=omega) ;rw[←hq,uc,if_neg (by simp[slt,h1]),if_neg (by simp[slt,Lt])];exact⟨rfl,rfl,rfl⟩
def BP:List Int→Int
 |[]=>0
 |x::r=>if x=0 then BP r else x
theorem zQ:∀(l:List Int)(k:Nat),(∀j,j<k→l.getD j 0=0)→k≤l.length→BP l=BP (l.drop k):=by
 intro l
 induction l with
 |nil=>intro k _ _;simp
 |cons x r ih=>
  intro k h hk
  cases k with
  |zero=>rfl
  |succ k=>
   have h0:x=0:=h 0 (by omega);rw[BP,if_pos h0,ih k (fun j hj=>h (j+1) (by omega)) (by simpa using hk)];rfl
attribute [-simp] getD_eq_getElem?_getD in
theorem Cr (l:List Int)(hl:l.length≤1000)(H:List aG)(T:ay)(tg:Tag):al Tryz.prog 143 [.sl l.length (ints l) tg] H T (Is (.int .i64 (BP l)) H T):=by
 refine al.cg ?_;generalize hq:BP l=q;refine aj 9 [] Tryz.ntmps143 Tryz.func143 rfl (fun _ _=>Tryz.call143 _ _) (by simp) (fun HO=>?_);apply ae;intro K h;simp(disch:=omega);apply h;clear h K;apply ae;intro K h;simp(disch:=omega);apply h;clear h K;refine af fun K1 aO=>?_;apply ae;intro K h;simp(disch:=omega);apply h;clear h K;apply ai;refine aK (X:=Nat) (fun k=>⟨[(0,.sl l.length (ints l) .none),(3,.int .i64 0),(6,.sl l.length (ints l) .none),(7,.int .i64 (l.length:Nat)),(8,.int .i64 (k:Nat))],H,T⟩) (fun k=>k≤l.length∧∀j,j<k→l.getD j 0=0) (fun k=>l.length-k) 0 ?_ ?_ ?_
 ·exact⟨zero_le _,fun j hj=>absurd hj (not_lt_zero _)⟩
 ·refine ag [] [] ?_ ?_ ?_ ?_ HO ?_
  all_goals simp
 ·rintro k ⟨h1,h2⟩;apply ae;intro K h;simp(disch:=omega);apply h;clear h K;refine af fun K2 aY=>?_;refine aP rfl (fun hk=>?_) (fun hk=>?_)
  ·simp  at hk;have hg:=aT (xs:=l) (k:=k) hk;have hd:BP l=BP (l.getD k 0::l.drop (k+1)):=by
    rw[zQ l k h2 (by omega),List.drop_eq_getElem_cons hk,getD_eq_getElem?_getD,getElem?_eq_getElem hk];rfl
   apply ak;simp(disch:=omega) ;apply aY;clear aY;refine af fun K3 bA=>?_;apply ai;refine ae fun K hK=>?_;simp(disch:=omega)[hg];apply hK;clear hK K
   by_cases hc:l.getD k 0=0
   ·have b:(l.getD k 0!=0)=false:=by rw[hc];rfl
    refine ae fun K hK=>?_;simp(disch:=omega)[b,hc];apply hK;clear hK K;apply aC rfl;apply ak;simp(disch:=omega) ;apply bA;clear bA;refine ar fun K hK=>?_;simp(disch:=omega) ;apply hK;clear hK K;refine⟨k+1,⟨by show k+1≤_;omega,fun j hj=>?_⟩,by show l.length-(k+1)<l.length-k;omega,?_⟩
    ·rcases lt_or_ge j k with h3|h3
     ·exact h2 j h3
     ·have:j=k:=by omega
      subst this;exact hc
    ·refine ag [] [] ?_ ?_ ?_ ?_ HO ?_
     all_goals simp
   ·have b:(l.getD k 0!=0)=true:=bne_iff_ne.2 hc;refine ae fun K hK=>?_;simp(disch:=omega)[b,hc];apply hK;clear hK K;apply aH rfl;apply ae;intro K h;simp(disch:=omega);apply h;clear h K;apply an;simp(disch:=omega) ;rw[←hq,hd,BP,if_neg hc];exact⟨rfl,rfl,rfl⟩
  ·simp  at hk;have e:k=l.length:=by omega
   subst e;apply aD;simp(disch:=omega) ;apply aO;clear aO;apply ae;intro K h;simp(disch:=omega);apply h;clear h K;apply an;simp(disch:=omega) ;rw[←hq,zQ l l.length h2 (Nat.le_refl _),List.drop_length];exact⟨rfl,rfl,rfl⟩
end Go.Proofs.YtneohapkboaplaaGreat
namespace eB
open gH Go.Proofs.YtneohapkboaplaaGreat
def dJ (a b:Nm):Bool:=decide (a.1<b.1)||(decide (a.1=b.1)&&decide (a.2<b.2))
def ud (a b:Nm):Int:=BP [mg a.1 b.1,mg a.2 b.2]
theorem Py (x y:Int):BP [x,y]=if x=0 then y else x:=by
 unfold BP;split
 ·unfold BP;split
  ·rename_i h;unfold BP;exact h.symm
  ·rfl
 ·rfl
theorem AA (a b:Nm):ud a b<0↔dJ a b=true:=by
 have h1:=oF a.1 b.1;have h2:=qE a.1 b.1;have h3:=qE a.2 b.2;unfold ud dJ;rw[Py];simp only[Bool.or_eq_true,Bool.and_eq_true,decide_eq_true_eq]
 split
 ·rename_i h;rw[h3];have:=h1.1 h;omega
 ·rename_i h;rw[h2];have:¬a.1=b.1:=fun e=>h (h1.2 e);omega
theorem EH (a b:Nm):0≤ud a b↔dJ a b=false:=by
 have:=AA a b
 cases h:dJ a b with
 |true=>have:=this.2 h;simp;omega
 |false=>rw[h] at this;simp at this;simp;exact this
abbrev Ky:=Int×Bs
def bU (a b:Ky):Bool:=decide (a.1<b.1)||(decide (a.1=b.1)&&slt a.2 b.2)
def ph (a b:Ky):Int:=BP [mg a.1 b.1,uc a.2 b.2]
theorem qD (a b:Ky):ph a b<0↔bU a b=true:=by
 have h1:=oF a.1 b.1;have h2:=qE a.1 b.1;have h3:=KV a.2 b.2;unfold ph bU;rw[Py];simp only[Bool.or_eq_true,Bool.and_eq_true,decide_eq_true_eq]
 split
 ·rename_i h;rw[h3];have:=h1.1 h
  constructor
  ·exact fun q=>.inr ⟨this,q⟩
  ·rintro (q|q)
   ·omega
   ·exact q.2
 ·rename_i h;rw[h2];have:¬a.1=b.1:=fun e=>h (h1.2 e)
  constructor
  ·exact .inl
  ·rintro (q|q)
   ·exact q
   ·exact absurd q.1 this
theorem xd (a b:Ky):ph a b=0↔a=b:=by
 unfold ph;rw[Py]
 split
 ·rename_i h;rw[Ho]
  constructor
  ·exact fun q=>Prod.ext ((oF _ _).1 h) q
  ·rintro rfl;rfl
 ·rename_i h
  constructor
  ·exact fun q=>absurd q h
  ·rintro rfl;exact absurd ((oF _ _).2 rfl) h
theorem Nw (a b:Ky):0≤ph a b↔bU a b=false:=by
 have:=qD a b
 cases h:bU a b with
 |true=>have:=this.2 h;simp;omega
 |false=>rw[h] at this;simp at this;simp;exact this
end eB
namespace Go.Proofs.YtneohapkboaplaaGreat
open Go Go.Am gH eB
attribute [-simp] getD_eq_getElem?_getD in
theorem J6 (x y:Nm)(H:List aG)(T:ay):al Tryz.prog 140 [.agg [.int .i64 x.1,.int .i64 x.2],.agg [.int .i64 y.1,.int .i64 y.2]] H T (Is (.int .i64 (ud x y)) H T):=by
 refine al.dS ?_ (by simp);have c1:=fun H T=>lI x.1 y.1 H T;have c2:=fun H T=>lI x.2 y.2 H T;unfold ud;generalize mg x.1 y.1=a at *;generalize mg x.2 y.2=b at *;have c4:=fun H T=>Cr [a,b] (by simp) H T;refine aj 5 [] Tryz.ntmps140 Tryz.func140 rfl (fun _ _=>Tryz.call140 _ _) (by simp) (fun HO=>?_);apply ae;intro K h;simp(disch:=omega);apply h;clear h K;refine aM [] [] [] au (by kernel_rfl) (by kernel_rfl) fun K hK=>?_;simp(disch:=omega) ;refine aB (c1 _ _) rfl ?_;simp(disch:=omega) ;refine aB (c2 _ _) rfl ?_;simp(disch:=omega) ;refine aB (c4 _ _ _) rfl ?_;simp(disch:=omega) ;apply hK;clear hK K;apply an;simp(disch:=omega) 
attribute [-simp] getD_eq_getElem?_getD in
theorem sH (x y:Nm)(H:List aG)(T:ay):al Tryz.prog 65 [.agg [.int .i64 x.1,.int .i64 x.2],.agg [.int .i64 y.1,.int .i64 y.2]] H T (Is (.int .i64 (ud x y)) H T):=by
 refine al.dS ?_ (by simp);have c1:=fun H T=>lI x.1 y.1 H T;have c2:=fun H T=>lI x.2 y.2 H T;unfold ud;generalize mg x.1 y.1=a at *;generalize mg x.2 y.2=b at *;have c4:=fun H T=>Cr [a,b] (by simp) H T;refine aj 5 [] Tryz.ntmps65 Tryz.func65 rfl (fun _ _=>Tryz.call65 _ _) (by simp) (fun HO=>?_);apply ae;intro K h;simp(disch:=omega);apply h;clear h K;refine aM [] [] [] au (by kernel_rfl) (by kernel_rfl) fun K hK=>?_;simp(disch:=omega) ;refine aB (c1 _ _) rfl ?_;simp(disch:=omega) ;refine aB (c2 _ _) rfl ?_;simp(disch:=omega) ;refine aB (c4 _ _ _) rfl ?_;simp(disch:=omega) ;apply hK;clear hK K;apply an;simp(disch:=omega) 
attribute [-simp] getD_eq_getElem?_getD in
theorem oG (x y:Ky)(u v:AV)(H:List aG)(T:ay):al Tryz.prog 63 [.agg [.int .i64 x.1,.str x.2,u],.agg [.int .i64 y.1,.str y.2,v]] H T (Is (.int .i64 (ph x y)) H T):=by
 refine al.dS ?_ (by simp);have c1:=fun H T=>lI x.1 y.1 H T;have c2:=fun H T=>KT x.2 y.2 H T;unfold ph;generalize mg x.1 y.1=a at *;generalize uc x.2 y.2=b at *;have c4:=fun H T=>Cr [a,b] (by simp) H T;refine aj 5 [] Tryz.ntmps63 Tryz.func63 rfl (fun _ _=>Tryz.call63 _ _) (by simp) (fun HO=>?_);apply ae;intro K h;simp(disch:=omega);apply h;clear h K;refine aM [] [] [] au (by kernel_rfl) (by kernel_rfl) fun K hK=>?_;simp(disch:=omega) ;refine aB (c1 _ _) rfl ?_;simp(disch:=omega) ;refine aB (c2 _ _) rfl ?_;simp(disch:=omega) ;refine aB (c4 _ _ _) rfl ?_;simp(disch:=omega) ;apply hK;clear hK K;apply an;simp(disch:=omega) 
attribute [-simp] getD_eq_getElem?_getD in
theorem Nz:s9 57:=by
 intro x y H T;refine⟨mg x.id y.id,?_,qE _ _⟩;refine al.dS ?_ (by simp);have c1:=fun H T=>lI x.id y.id H T;generalize mg x.id y.id=a at *;refine aj 5 [] Tryz.ntmps57 Tryz.func57 rfl (fun _ _=>Tryz.call57 _ _) (by simp) (fun HO=>?_);apply ae;intro K h;simp(disch:=omega);apply h;clear h K;refine ae fun K hK=>?_;simp(disch:=omega) ;refine ah (c1 _ _) ?_;simp(disch:=omega) ;apply hK;clear hK K;apply an;simp(disch:=omega) 
end Go.Proofs.YtneohapkboaplaaGreat
namespace eB
open gH Go.Am
def nC (ws:List Wd)(k:Nat):Int:=if k=0 then -1 else (ws.getD (k-1) w0).2
def tU (ws:List Wd)(k:Nat):Bool:=okW (ws.getD k w0).1&&(decide (nC ws k<(ws.getD k w0).2)&&decide ((ws.getD k w0).2≤1000000))
def PA (ws:List Wd):Bool:=(List.range ws.length).all (tU ws)
def lz (zs:List Zn)(i:Nat):Int:=if i=0 then 0 else (zs.getD (i-1) z0).f
def nq (zs:List Zn)(i:Nat):Bool:=(decide (lz zs i<(zs.getD i z0).f)&&decide ((zs.getD i z0).f≤4))&&(decide ((zs.getD i z0).ws.length≠0)&&PA (zs.getD i z0).ws)
def Pz (zs:List Zn):Bool:=(List.range zs.length).all (nq zs)
def xw (x:Nm):Bool:=decide (5≤x.1∧x.1≤7)&&decide (0≤x.2∧x.2≤1000000000000)
def sP (ns:List Nm)(i:Nat):Bool:=xw (ns.getD i n0)&&(decide (i=0)||dJ (ns.getD (i-1) n0) (ns.getD i n0))
def PB (ns:List Nm):Bool:=(List.range ns.length).all (sP ns)
def bG (d:Dc):Bool:=decide (1≤d.id∧d.id≤1000000000)&&(Pz d.zs&&PB d.ns)
structure Oe (d:Dc):Prop where
 z:d.zs.length≤Go.maxLen
 w:∀z∈d.zs,z.ws.length≤Go.maxLen∧∀w∈z.ws,w.1.length≤Go.maxLen
 n:d.ns.length≤Go.maxLen
theorem iI {n:Nat}{p:Nat→Bool}{k:Nat}(hk:k<n)(h:p k=false):(List.range n).all p=false:=by
 rw[List.all_eq_false];exact⟨k,List.mem_range.2 hk,by simp[h]⟩
theorem fj {n:Nat}{p:Nat→Bool}(h:∀j,j<n→p j=true):(List.range n).all p=true:=by
 rw[List.all_eq_true];intro j hj;exact h j (List.mem_range.1 hj)
theorem lj {n:Nat}{p:Nat→Bool}(h:(List.range n).all p=true){j:Nat}(hj:j<n):p j=true:=by
 rw[List.all_eq_true] at h;exact h j (List.mem_range.2 hj)
theorem wb {d:Dc}(h:¬(1≤d.id∧d.id≤1000000000)):bG d=false:=by
 unfold bG;rw[decide_eq_false h];rfl
theorem lE {d:Dc}{i:Nat}(hi:i<d.zs.length)(h:nq d.zs i=false):bG d=false:=by
 unfold bG Pz;rw[iI hi h];simp
theorem Jm {d:Dc}{i:Nat}(hi:i<d.ns.length)(h:sP d.ns i=false):bG d=false:=by
 unfold bG PB;rw[iI hi h];simp
theorem AY {d:Dc}(h1:1≤d.id∧d.id≤1000000000)(h2:∀i,i<d.zs.length→nq d.zs i=true)(h3:∀i,i<d.ns.length→sP d.ns i=true):bG d=true:=by
 unfold bG Pz PB;rw[decide_eq_true h1,fj h2,fj h3];rfl
theorem J9 {zs:List Zn}{i:Nat}(h:¬(lz zs i<(zs.getD i z0).f∧(zs.getD i z0).f≤4∧(zs.getD i z0).ws.length≠0)):nq zs i=false:=by
 cases hk:nq zs i with
 |false=>rfl
 |true=>
  unfold nq at hk;simp only[Bool.and_eq_true,decide_eq_true_eq] at hk;exact absurd ⟨hk.1.1,hk.1.2,hk.2.1⟩ h
theorem Qn {zs:List Zn}{i k:Nat}(hk:k<(zs.getD i z0).ws.length)(h:tU (zs.getD i z0).ws k=false):nq zs i=false:=by
 unfold nq PA;rw[iI hk h];simp
theorem GF {zs:List Zn}{i:Nat}(h1:lz zs i<(zs.getD i z0).f)(h2:(zs.getD i z0).f≤4)(h3:(zs.getD i z0).ws.length≠0)(h:∀k,k<(zs.getD i z0).ws.length→tU (zs.getD i z0).ws k=true):nq zs i=true:=by
 unfold nq PA;rw[fj h,decide_eq_true h1,decide_eq_true h2,decide_eq_true h3];rfl
end eB
namespace Go.Proofs.YtneohapkboaplaaGreat
open Go Go.Am gH eB
attribute [-simp] getD_eq_getElem?_getD in
theorem Np (d:Dc)(hs:Oe d)(H:List aG)(T:ay):al Tryz.prog 61 [.agg (nh d)] H T (Is (.bool (bG d)) H T):=by
 refine al.dS ?_ (by simp);have ik:maxLen≤9223372036854775807:=by decide
 obtain⟨id,zs,ns⟩:=d;obtain⟨hz,hw,hn⟩:=hs;simp only at hz hw hn ⊢;have LK:=le_trans hz ik;have hn':=le_trans hn ik;generalize hq:bG ⟨id,zs,ns⟩=q;refine aj 73 [] Tryz.ntmps61 Tryz.func61 rfl (fun _ _=>Tryz.call61 _ _) (by simp) (fun HO=>?_);apply ae;intro K h;simp(disch:=omega);apply h;clear h K;refine af fun K1 aO=>?_;have kx:bM (H++[.cells (nh ⟨id,zs,ns⟩)]) T:=HO.snoc (by simp)
 by_cases h1:id<1
 ·have b1:decide (id<1)=true:=decide_eq_true h1;refine ae fun K hK=>?_;simp(disch:=omega)[b1,h1];apply hK;clear hK K;apply aH rfl;apply ae;intro K h;simp(disch:=omega);apply h;clear h K;apply an;simp(disch:=omega) ;rw[←hq,wb (by simp only;omega)]
 have b1:decide (id<1)=false:=decide_eq_false h1
 by_cases h2:1000000000<id
 ·have b2:decide (1000000000<id)=true:=decide_eq_true h2;refine ae fun K hK=>?_;simp(disch:=omega)[b1,h1,b2,h2];apply hK;clear hK K;apply aH rfl;apply ae;intro K h;simp(disch:=omega);apply h;clear h K;apply an;simp(disch:=omega) ;rw[←hq,wb (by simp only;omega)]
 have b2:decide (1000000000<id)=false:=decide_eq_false h2;refine ae fun K hK=>?_;simp(disch:=omega)[b1,h1,b2,h2];apply hK;clear hK K;apply aC rfl;apply ak;simp(disch:=omega) ;apply aO;clear aO;apply ae;intro K h;simp(disch:=omega);apply h;clear h K;refine af fun K1 aO=>?_;apply ae;intro K h;simp(disch:=omega);apply h;clear h K;apply ai;refine aK (X:=Nat) (fun i=>⟨[(1,.ptr H.length 0),(3,.int .i64 (lz zs i)),(20,.sl zs.length (fN zs) .none),(21,.int .i64 (zs.length:Nat)),(22,.int .i64 (i:Nat))],H++[.cells (nh ⟨id,zs,ns⟩)],T⟩)
  (fun i=>i≤zs.length∧∀j,j<i→nq zs j=true) (fun i=>zs.length-i) 0 ?_ ?_ ?_
 ·exact⟨zero_le _,fun j hj=>absurd hj (not_lt_zero _)⟩
 ·refine ag [] [] ?_ ?_ ?_ ?_ kx ?_
  all_goals simp[lz]
 ·rintro i ⟨g1,g2⟩;apply ae;intro K h;simp(disch:=omega);apply h;clear h K;refine af fun K2 aY=>?_;refine aP rfl (fun hk=>?_) (fun hk=>?_)
  ·simp  at hk;have bY:=zb zs i hk;obtain⟨yD,NP⟩:=hw _ (aR zs i z0 hk);have NS:lz zs (i+1)=(zs.getD i z0).f:=by simp[lz]
   have Mo:=J9 (zs:=zs) (i:=i);have Xm:=fun k=>Qn (zs:=zs) (i:=i) (k:=k);have OI:=GF (zs:=zs) (i:=i);generalize tj:zs.getD i z0=z at *;obtain⟨f,ws⟩:=z;simp only at bY yD NP NS Mo Xm OI;have hw':=le_trans yD ik;generalize hl:lz zs i=la at *;apply ak;simp(disch:=omega) ;apply aY;clear aY;refine af fun K3 bA=>?_;apply ai;refine ae fun K hK=>?_;simp(disch:=omega)[bY,za];apply hK;clear hK K;refine af fun K4 ec=>?_;have fD:bM (H++[.cells (nh ⟨id,zs,ns⟩),.cells (OU ⟨f,ws⟩)]) T:=by
    have:=bM.snoc (vs:=OU ⟨f,ws⟩) kx (by simp);simpa using this
   by_cases h3:f≤la
   ·have b3:decide (f≤la)=true:=decide_eq_true h3;refine ae fun K hK=>?_;simp(disch:=omega)[b3,h3];apply hK;clear hK K;apply aH rfl;apply ae;intro K h;simp(disch:=omega);apply h;clear h K;apply an;simp(disch:=omega) ;rw[←hq,lE hk (Mo (by omega))]
   have b3:decide (f≤la)=false:=decide_eq_false h3
   by_cases h4:4<f
   ·have b4:decide (4<f)=true:=decide_eq_true h4;refine ae fun K hK=>?_;simp(disch:=omega)[b3,h3,b4,h4];apply hK;clear hK K;apply aH rfl;apply ae;intro K h;simp(disch:=omega);apply h;clear h K;apply an;simp(disch:=omega) ;rw[←hq,lE hk (Mo (by omega))]
   have b4:decide (4<f)=false:=decide_eq_false h4
   by_cases h5:ws.length=0
   ·have e5:ws=[]:=List.length_eq_zero_iff.1 h5;refine ae fun K hK=>?_;simp(disch:=omega)[b3,h3,b4,h4,e5];apply hK;clear hK K;apply aH rfl;apply ae;intro K h;simp(disch:=omega);apply h;clear h K;apply an;simp(disch:=omega) ;rw[←hq,lE hk (Mo (by omega))]
   have e5:((ws.length:Int)==0)=false:=beq_eq_false_iff_ne.2 (by omega);have n5:ws≠[]:=fun e=>h5 (by rw[e];rfl);refine ae fun K hK=>?_;simp(disch:=omega)[b3,h3,b4,h4,e5,n5];apply hK;clear hK K;apply aC rfl;apply ak;simp(disch:=omega) ;apply ec;clear ec;apply ae;intro K h;simp(disch:=omega);apply h;clear h K;apply ae;intro K h;simp(disch:=omega);apply h;clear h K;apply ae;intro K h;simp(disch:=omega);apply h;clear h K;apply ai;refine aK (X:=Nat) (fun k=>⟨[(1,.ptr H.length 0),(3,.int .i64 f),(20,.sl zs.length (fN zs) .none),(21,.int .i64 (zs.length:Nat)),(22,.int .i64 (i:Nat)),(6,.int .i64 (nC ws k)),(44,.sl ws.length (gS ws) .none),(45,.int .i64 (ws.length:Nat)),(46,.int .i64 (k:Nat))],H++[.cells (nh ⟨id,zs,ns⟩),.cells (OU ⟨f,ws⟩)],T⟩)
    (fun k=>k≤ws.length∧∀j,j<k→tU ws j=true) (fun k=>ws.length-k) 0 ?_ ?_ ?_
   ·exact⟨zero_le _,fun j hj=>absurd hj (not_lt_zero _)⟩
   ·refine ag [] [] ?_ ?_ ?_ ?_ fD ?_
    all_goals simp[nC]
   ·rintro k ⟨k1,k2⟩;apply ae;intro K h;simp(disch:=omega);apply h;clear h K;refine af fun K5 gO=>?_;refine aP rfl (fun tR=>?_) (fun tR=>?_)
    ·simp  at tR;have hcw:=zk ws k tR;have Lk:=NP _ (aR ws k w0 tR);have mY:nC ws (k+1)=(ws.getD k w0).2:=by simp[nC]
     have fX:tU ws k=(okW (ws.getD k w0).1&&(decide (nC ws k<(ws.getD k w0).2)&&decide ((ws.getD k w0).2≤1000000))):=rfl;generalize hww:ws.getD k w0=x at *;obtain⟨s,p⟩:=x;simp only at hcw Lk mY fX;generalize hla:nC ws k=lw at *;apply ak;simp(disch:=omega) ;apply gO;clear gO;refine af fun K6 lp=>?_;apply ai;refine ae fun K hK=>?_;simp(disch:=omega)[hcw,zj];apply hK;clear hK K;refine af fun K7 NZ=>?_;have c:=zi s Lk (H++[.cells (nh ⟨id,zs,ns⟩),.cells (OU ⟨f,ws⟩),.cells [.str s,.int .i64 p]]) T
     cases fC:okW s with
     |false=>
      rw[fC] at c fX;refine ae fun K hK=>?_;simp(disch:=omega) ;refine ah (c) ?_;simp(disch:=omega) ;apply hK;clear hK K;apply aH rfl;apply ae;intro K h;simp(disch:=omega);apply h;clear h K;apply an;simp(disch:=omega) ;rw[←hq,lE hk (Xm k tR (by rw[fX];rfl))]
     |true=>
     rw[fC] at c fX
     by_cases h6:p≤lw
     ·have b6:decide (p≤lw)=true:=decide_eq_true h6;refine ae fun K hK=>?_;simp(disch:=omega) ;refine ah (c) ?_;simp(disch:=omega)[b6,h6];apply hK;clear hK K;apply aH rfl;apply ae;intro K h;simp(disch:=omega);apply h;clear h K;apply an;simp(disch:=omega) ;rw[←hq,lE hk (Xm k tR (by rw[fX,decide_eq_false (by omega:¬lw<p)];rfl))]
     have b6:decide (p≤lw)=false:=decide_eq_false h6
     by_cases h7:1000000<p
     ·have b7:decide (1000000<p)=true:=decide_eq_true h7;refine ae fun K hK=>?_;simp(disch:=omega) ;refine ah (c) ?_;simp(disch:=omega)[b6,h6,b7,h7];apply hK;clear hK K;apply aH rfl;apply ae;intro K h;simp(disch:=omega);apply h;clear h K;apply an;simp(disch:=omega) ;rw[←hq,lE hk (Xm k tR (by rw[fX,decide_eq_false (by omega:¬p≤1000000)];simp))]
     have b7:decide (1000000<p)=false:=decide_eq_false h7;refine ae fun K hK=>?_;simp(disch:=omega) ;refine ah (c) ?_;simp(disch:=omega)[b6,h6,b7,h7];apply hK;clear hK K;apply aC rfl;apply ak;simp(disch:=omega) ;apply NZ;clear NZ;refine ar fun K hK=>?_;simp(disch:=omega) ;apply hK;clear hK K;apply lp;clear lp;refine ar fun K hK=>?_;simp(disch:=omega) ;apply hK;clear hK K;refine⟨k+1,⟨by show k+1≤_;omega,fun j hj=>?_⟩,by show ws.length-(k+1)<ws.length-k;omega,?_⟩
     ·rcases lt_or_ge j k with h|h
      ·exact k2 j h
      ·have:j=k:=by omega
       subst this;rw[fX,decide_eq_true (by omega:lw<p),decide_eq_true (by omega:p≤1000000)];rfl
     ·refine ag [.cells [.str s,.int .i64 p]] [] ?_ ?_ ?_ ?_ fD ?_
      all_goals simp[mY]
    ·simp  at tR;apply aD;simp(disch:=omega) ;apply bA;clear bA;refine ar fun K hK=>?_;simp(disch:=omega) ;apply hK;clear hK K;refine⟨i+1,⟨by show i+1≤_;omega,fun j hj=>?_⟩,by show zs.length-(i+1)<zs.length-i;omega,?_⟩
     ·rcases lt_or_ge j i with h|h
      ·exact g2 j h
      ·have:j=i:=by omega
       subst this;exact OI (by omega) (by omega) h5 (fun k hk=>k2 k (by omega))
     ·refine ag [.cells (OU ⟨f,ws⟩)] [] ?_ ?_ ?_ ?_ kx ?_
      all_goals simp[NS]
  ·simp  at hk;apply aD;simp(disch:=omega) ;apply aO;clear aO;refine af fun K1 aO=>?_;apply ae;intro K h;simp(disch:=omega);apply h;clear h K;apply ai;refine aK (X:=Nat) (fun i=>⟨[(1,.ptr H.length 0),(70,.sl ns.length (br ns) .none),(71,.int .i64 (ns.length:Nat)),(72,.int .i64 (i:Nat))],H++[.cells (nh ⟨id,zs,ns⟩)],T⟩)
    (fun i=>i≤ns.length∧∀j,j<i→sP ns j=true) (fun i=>ns.length-i) 0 ?_ ?_ ?_
   ·exact⟨zero_le _,fun j hj=>absurd hj (not_lt_zero _)⟩
   ·refine ag [] [] ?_ ?_ ?_ ?_ kx ?_
    all_goals simp
   ·rintro m ⟨m1,m2⟩;apply ae;intro K h;simp(disch:=omega);apply h;clear h K;refine af fun K2 aY=>?_;refine aP rfl (fun da=>?_) (fun da=>?_)
    ·simp  at da;have sN:=fh ns m da;have fX:sP ns m=(xw (ns.getD m n0)&&(decide (m=0)||dJ (ns.getD (m-1) n0) (ns.getD m n0))):=rfl;have cn:=fun H T=>J6 (ns.getD (m-1) n0) (ns.getD m n0) H T;have ku:=EH (ns.getD (m-1) n0) (ns.getD m n0);generalize ud (ns.getD (m-1) n0) (ns.getD m n0)=cq at *;have DP:=fun h=>fh ns (m-1) h;generalize ns.getD (m-1) n0=y at *;generalize DJ:ns.getD m n0=x at *;obtain⟨x1,x2⟩:=x;obtain⟨y1,y2⟩:=y;simp only at sN DP;apply ak;simp(disch:=omega) ;apply aY;clear aY;refine af fun K3 bA=>?_;apply ai;refine ae fun K hK=>?_;simp(disch:=omega)[sN,cj];apply hK;clear hK K;refine aM [] [] [] au (by kernel_rfl) (by kernel_rfl) fun K hK=>?_;have key:∀e b,b=sP ns m→b9 H.length.succ T.length e [(1,.ptr H.length 0),(70,.sl ns.length (br ns) .none),(71,.int .i64 (ns.length:Nat)),(72,.int .i64 (m:Nat)),(109,.bool (!b))]→K ⟨e,H++[.cells (nh ⟨id,zs,ns⟩),.cells [.int .i64 x1,.int .i64 x2]],T⟩:=by
      intro e b hb he;refine hK _ (aQ ⟨[(1,.ptr H.length 0),(70,.sl ns.length (br ns) .none),(71,.int .i64 (ns.length:Nat)),(72,.int .i64 (m:Nat)),(109,.bool (!b))],H++[.cells (nh ⟨id,zs,ns⟩)],T⟩ (ag [.cells [.int .i64 x1,.int .i64 x2]] [] (by simp) (by simp) (by simp) (by simp) kx (by simpa using he)) ?_)
      cases b with
      |false=>
       apply aH rfl;apply ae;intro K h;simp(disch:=omega);apply h;clear h K;apply an;simp(disch:=omega) ;rw[←hq,Jm da hb.symm]
      |true=>
       apply aC rfl;apply ak;simp(disch:=omega) ;apply bA;clear bA;refine ar fun K hK=>?_;simp(disch:=omega) ;apply hK;clear hK K;refine⟨m+1,⟨by show m+1≤_;omega,fun j hj=>?_⟩,by show ns.length-(m+1)<ns.length-m;omega,?_⟩
       ·rcases lt_or_ge j m with h|h
        ·exact m2 j h
        ·have:j=m:=by omega
         subst this;exact hb.symm
       ·refine ag [] [] ?_ ?_ ?_ ?_ kx ?_
        all_goals simp
     clear hK;have c:=cn (H++[.cells (nh ⟨id,zs,ns⟩),.cells [.int .i64 x1,.int .i64 x2]]) T;have Xn:¬((5≤x1∧x1≤7)∧0≤x2∧x2≤1000000000000)→sP ns m=false:=fun h=>by
      have:xw (x1,x2)=false:=by
       unfold xw;simp only[Bool.and_eq_false_iff,decide_eq_false_iff_not];rcases Classical.em (5≤x1∧x1≤7) with h'|h'
       ·exact .inr fun h2=>h ⟨h',h2⟩
       ·exact .inl h'
      rw[fX,this];rfl
     by_cases v1:x1<5
     ·have w1:decide (x1<5)=true:=decide_eq_true v1;simp(disch:=omega)[w1,v1];refine key _ false (Xn (by omega)).symm (by simp)
     have w1:decide (x1<5)=false:=decide_eq_false v1
     by_cases v2:7<x1
     ·have w2:decide (7<x1)=true:=decide_eq_true v2;simp(disch:=omega)[w1,v1,w2,v2];refine key _ false (Xn (by omega)).symm (by simp)
     have w2:decide (7<x1)=false:=decide_eq_false v2
     by_cases v3:x2<0
     ·have w3:decide (x2<0)=true:=decide_eq_true v3;simp(disch:=omega)[w1,v1,w2,v2,w3,v3];refine key _ false (Xn (by omega)).symm (by simp)
     have w3:decide (x2<0)=false:=decide_eq_false v3
     by_cases v4:1000000000000<x2
     ·have w4:decide (1000000000000<x2)=true:=decide_eq_true v4;simp(disch:=omega)[w1,v1,w2,v2,w3,v3,w4,v4];refine key _ false (Xn (by omega)).symm (by simp)
     have w4:decide (1000000000000<x2)=false:=decide_eq_false v4;have eo:xw (x1,x2)=true:=by
      unfold xw;rw[decide_eq_true (by omega:5≤x1∧x1≤7),decide_eq_true (by omega:0≤x2∧x2≤1000000000000)];rfl
     rw[eo,Bool.true_and] at fX;rcases Nat.eq_zero_or_pos m with h5|h5
     ·subst h5;simp(disch:=omega)[w1,v1,w2,v2,w3,v3,w4,v4];refine key _ true (by rw[fX];rfl) (by simp)
     ·have e6:((m:Int)-1)=((m-1:Nat):Int):=by omega
      have b5:decide ((0:Int)<(m:Int))=true:=decide_eq_true (by omega);have sV:=DP (by omega);rw[decide_eq_false (by omega:¬m=0),Bool.false_or] at fX
      cases bh:dJ (y1,y2) (x1,x2) with
      |false=>
       have b7:decide (0≤cq)=true:=decide_eq_true (ku.2 bh);have n7:=ku.2 bh;rw[bh] at fX;simp(disch:=omega)[w1,v1,w2,v2,w3,v3,w4,v4,b5,h5,e6,sV,cj];refine aB (c) rfl ?_;simp(disch:=omega)[b7,n7];refine key _ false fX.symm (by simp)
      |true=>
       have n7:¬0≤cq:=fun e=>by rw[ku.1 e] at bh;cases bh
       have b7:decide (0≤cq)=false:=decide_eq_false n7;rw[bh] at fX;simp(disch:=omega)[w1,v1,w2,v2,w3,v3,w4,v4,b5,h5,e6,sV,cj];refine aB (c) rfl ?_;simp(disch:=omega)[b7,n7];refine key _ true fX.symm (by simp)
    ·simp  at da;apply aD;simp(disch:=omega) ;apply aO;clear aO;apply ae;intro K h;simp(disch:=omega);apply h;clear h K;apply an;simp(disch:=omega) ;rw[←hq,AY (by simp only;omega) (fun i hi=>g2 i (by simp only at hi;omega)) (fun i hi=>m2 i (by simp only at hi;omega))]
end Go.Proofs.YtneohapkboaplaaGreat
namespace eB
open Fo
structure qd (l l':List Dc):Prop where
 perm:l'.Perm l
 ord:l'.Pairwise fun x y=>x.id≤y.id
theorem qd.len {l l':List Dc}(h:qd l l'):l'.length=l.length:=h.perm.length_eq
theorem qd.nil:qd [] []:=⟨.refl _,.nil⟩
def idx (l:List Dc):List GE:=(List.range l.length).map fun i=>(i,l.getD i d0)
theorem qm (l:List Dc):(idx l).length=l.length:=by simp[idx]
theorem Ez (l:List Dc){i:Nat}(hi:i<l.length):(idx l).getD i ze=(i,l.getD i d0):=by
 rw[getD_eq_getElem?_getD,getElem?_eq_getElem (by rw[qm];exact hi)];simp[idx]
theorem Ey (l:List Dc):(idx l).map (·.2)=l:=by
 apply List.ext_getElem
 ·simp[idx]
 ·intro i h1 h2;simp only[idx,List.getElem_map,List.getElem_range];rw[getD_eq_getElem?_getD,getElem?_eq_getElem h2];rfl
end eB
namespace Go.Proofs.YtneohapkboaplaaGreat
open Go Go.Am gH eB Fo
theorem CN {g:Nat}(hg:s9 g)(l:List Dc)(rest:List AV)(i:Nat)(hl:l.length≤40)(H:List aG)(T:ay)(hi:H[i]?=some (.cells (bC l++rest)))(hr:aL H.length T.length rest) :
  al Tryz.prog 56 [.cO i 0 l.length,.fn g [] []] H T (fun r H' T'=>r=.cJ []∧T'=T∧∃l',H'=H.set i (.cells (bC l'++rest))∧qd l l'):=by
 have hm:du (idx l)=bC l:=by rw[Ad,Ey]
 have hw:Wg (idx l) 0 (idx l).length:=fun p q _ h2 h3=>by
  rw[qm] at h3;rw[Ez l (by omega),Ez l h3];exact decide_eq_true h2
 have c:=F6 hg (idx l).length (by rw[qm];exact hl) (idx l) rest i rfl hw H T (by rw[hm];exact hi) hr;rw[qm] at c;refine aj 3 [] Tryz.ntmps56 Tryz.func56 rfl (fun _ _=>Tryz.call56 _ _) (by simp) (fun HO=>?_);refine ar fun K hK=>?_;simp(disch:=omega)[-getD_eq_getElem?_getD];refine⟨_,c,?_⟩;rintro v H' T' ⟨rfl,rfl,d',rfl,k1,k2⟩;simp(disch:=omega)[-getD_eq_getElem?_getD];apply hK;clear hK K;refine⟨rfl,rfl,d'.map (·.2),by rw[Ad],?_,?_⟩
 ·have:=k1.perm.map (·.2)
  rwa [Ey] at this
 ·rw[List.pairwise_map,List.pairwise_iff_getElem];intro a b ha hb jA;have hlen:=k1.len;rw[qm] at hlen;have:=IP (k2 a b (zero_le _) jA (by omega));rw[getD_eq_getElem?_getD,getD_eq_getElem?_getD,getElem?_eq_getElem ha,getElem?_eq_getElem hb] at this;simp only[Option.getD_some,ky] at this;omega
attribute [-simp] getD_eq_getElem?_getD in
theorem A0 (g:Nat)(H:List aG)(T:ay)(tg:Tag) :
  al Tryz.prog 56 [.sl 0 [] tg,.fn g [] []] H T (Is (.cJ []) H T):=by
 refine al.cg ?_;have c1:al Tryz.prog 176 [.sl 0 [] .none,.int .i64 0,.int .i64 0,.fn g [] []] H T (Is (.cJ []) H T):=by
  refine aj 10 [] Tryz.ntmps176 Tryz.func176 rfl (fun _ _=>Tryz.call176 _ _) (by simp) (fun HO=>?_);apply ae;intro K h;simp(disch:=omega);apply h;clear h K;apply ai;refine aK (X:=Unit) (fun _=>⟨[(2,.int .i64 0),(8,.int .i64 1)],H,T⟩) (fun _=>True) (fun _=>0) () trivial ?_ ?_
  ·refine ag [] [] ?_ ?_ ?_ ?_ HO ?_
   all_goals simp
  ·rintro _ _;refine af fun K2 aY=>?_;apply ae;intro K h;simp(disch:=omega);apply h;clear h K;apply aC rfl;apply aD;simp(disch:=omega) ;exact⟨rfl,rfl,rfl⟩
 have c:al Tryz.prog 137 [.sl 0 [] .none,.int .i64 0,.fn g [] []] H T (Is (.cJ []) H T):=by
  refine aj 10 [] Tryz.ntmps137 Tryz.func137 rfl (fun _ _=>Tryz.call137 _ _) (by simp) (fun HO=>?_);apply ae;intro K h;simp(disch:=omega);apply h;clear h K;apply ae;intro K h;simp(disch:=omega);apply h;clear h K;refine af fun K1 aO=>?_;apply ai;refine aK (X:=Unit) (fun _=>⟨[(0,.sl 0 [] .none),(1,.int .i64 0),(2,.fn g [] []),(6,.int .i64 20),(7,.int .i64 0),(8,.int .i64 20)],H,T⟩) (fun _=>True) (fun _=>0) () trivial ?_ ?_
  ·refine ag [] [] ?_ ?_ ?_ ?_ HO ?_
   all_goals simp
  ·rintro _ _;refine af fun K2 aY=>?_;apply ae;intro K h;simp(disch:=omega);apply h;clear h K;apply aC rfl;apply aD;simp(disch:=omega) ;apply aO;clear aO;refine ae fun K hK=>?_;simp(disch:=omega) ;refine ah (c1) ?_;simp(disch:=omega) ;apply hK;clear hK K;apply ai;refine aK (X:=Unit) (fun _=>⟨[(1,.int .i64 0),(6,.int .i64 20)],H,T⟩) (fun _=>True) (fun _=>0) () trivial ?_ ?_
   ·refine ag [] [] ?_ ?_ ?_ ?_ HO ?_
    all_goals simp
   ·rintro _ _;refine af fun K3 bA=>?_;apply ae;intro K h;simp(disch:=omega);apply h;clear h K;apply aC rfl;apply aD;simp(disch:=omega) ;exact⟨rfl,rfl,rfl⟩
 refine aj 3 [] Tryz.ntmps56 Tryz.func56 rfl (fun _ _=>Tryz.call56 _ _) (by simp) (fun HO=>?_);refine ar fun K hK=>?_;simp(disch:=omega) ;refine ah (c) ?_;simp(disch:=omega) ;apply hK;clear hK K;exact⟨rfl,rfl,rfl⟩
attribute [-simp] getD_eq_getElem?_getD in
theorem Hp (l:List Dc)(h0:l≠[])(hl:l.length≤1000)(H:List aG)(T:ay)(tg:Tag) :
  al Tryz.prog 55 [.sl l.length (bC l) tg] H T (fun r H' T'=>T'=T∧∃k,H'=H++[.cells (bC l++List.replicate k .top)]∧r=.cO H.length 0 l.length):=by
 refine al.cg ?_;have kE:0<l.length:=List.length_pos_iff.2 h0;have dW:¬l=[]:=h0;have hlen:=kb l;have hd:¬bC l=[]:=fun e=>by rw[e] at hlen;simp at hlen;omega
 refine aj 3 [7] Tryz.ntmps55 Tryz.func55 rfl (fun _ _=>Tryz.call55 _ _) (by simp) (fun HO=>?_);apply ae;intro K h;simp(disch:=omega);apply h;clear h K;refine af fun K1 aO=>?_;refine ae fun K hK=>?_;simp(disch:=omega) ;refine⟨?_,fun he=>absurd he (by first|exact dW|exact hd)⟩;apply hK;clear hK K;apply aC rfl;apply ak;simp(disch:=omega) ;apply aO;clear aO;refine ae fun K hK=>?_;simp(disch:=omega)[vn,kb,kE];intro k;apply hK;clear hK K;apply an;simp(disch:=omega) 
attribute [-simp] getD_eq_getElem?_getD in
theorem Dt (H:List aG)(T:ay)(tg:Tag) :
  al Tryz.prog 55 [.sl 0 [] tg] H T (Is (.sl 0 [] .none) H T):=by
 refine al.cg ?_;refine al.dS ?_ (by simp);refine aj 3 [] Tryz.ntmps55 Tryz.func55 rfl (fun _ _=>Tryz.call55 _ _) (by simp) (fun HO=>?_);apply ae;intro K h;simp(disch:=omega);apply h;clear h K;refine af fun K1 aO=>?_;refine ae fun K hK=>?_;simp(disch:=omega) 
 constructor
 ·apply hK;clear hK K;apply aC rfl;apply ak;simp(disch:=omega) ;apply aO;clear aO;refine ae fun K hK=>?_;simp(disch:=omega)[vn];apply hK;clear hK K;apply an;simp(disch:=omega) 
 ·apply hK;clear hK K;apply aH rfl;apply ae;intro K h;simp(disch:=omega);apply h;clear h K;apply an;simp(disch:=omega) 
attribute [-simp] getD_eq_getElem?_getD in
theorem NC (d:Dc)(hs:Oe d)(H:List aG)(T:ay):al Tryz.prog 60 [.agg (nh d)] H T (Is (.bool (!bG d)) H T):=by
 refine al.dS ?_ (by simp);have c:=fun H T=>Np d hs H T;generalize bG d=q at *;refine aj 3 [] Tryz.ntmps60 Tryz.func60 rfl (fun _ _=>Tryz.call60 _ _) (by simp) (fun HO=>?_);apply ae;intro K h;simp(disch:=omega);apply h;clear h K;refine ae fun K hK=>?_;simp(disch:=omega) ;refine ah (c _ _) ?_;simp(disch:=omega) ;apply hK;clear hK K;apply an;simp(disch:=omega) 
attribute [-simp] getD_eq_getElem?_getD in
theorem G0 (l:List Dc)(hl:l.length≤maxLen)(hs:∀d∈l,Oe d)(H:List aG)(T:ay) :
  al Tryz.prog 139 [.sl l.length (bC l) .none,.fn 60 [] []] H T (fun r H' T'=>H'=H∧T'=T∧∃v:Int,r=.int .i64 v∧decide (0≤v)=l.any (fun d=>!bG d)):=by
 have ik:maxLen≤9223372036854775807:=by decide
 have oM:=le_trans hl ik;generalize hq:l.any (fun d=>!bG d)=q;refine aj 9 [] Tryz.ntmps139 Tryz.func139 rfl (fun _ _=>Tryz.call139 _ _) (by simp) (fun HO=>?_);apply ae;intro K h;simp(disch:=omega);apply h;clear h K;refine af fun K1 aO=>?_;apply ae;intro K h;simp(disch:=omega);apply h;clear h K;apply ai;refine aK (X:=Nat) (fun k=>⟨[(0,.sl l.length (bC l) .none),(1,.fn 60 [] []),(7,.int .i64 (l.length:Nat)),(8,.int .i64 (k:Nat))],H,T⟩) (fun k=>k≤l.length∧∀j,j<k→bG (l.getD j d0)=true) (fun k=>l.length-k) 0 ?_ ?_ ?_
 ·exact⟨zero_le _,fun j hj=>absurd hj (not_lt_zero _)⟩
 ·refine ag [] [] ?_ ?_ ?_ ?_ HO ?_
  all_goals simp
 ·rintro k ⟨h1,h2⟩;apply ae;intro K h;simp(disch:=omega);apply h;clear h K;refine af fun K2 aY=>?_;refine aP rfl (fun hk=>?_) (fun hk=>?_)
  ·simp  at hk;have bY:=Aw l k hk;have hm:=aR l k d0 hk;have c:=NC (l.getD k d0) (hs _ hm) H T;apply ak;simp(disch:=omega) ;apply aY;clear aY;refine af fun K3 bA=>?_;apply ai;apply ae;intro K h;simp(disch:=omega);apply h;clear h K
   cases hb:bG (l.getD k d0) with
   |false=>
    rw[hb] at c;refine ae fun K hK=>?_;simp(disch:=omega)[bY,kb];refine ah (c) ?_;simp(disch:=omega) ;apply hK;clear hK K;apply aH rfl;apply ae;intro K h;simp(disch:=omega);apply h;clear h K;apply an;simp(disch:=omega) ;have:l.any (fun d=>!bG d)=true:=List.any_eq_true.2 ⟨_,hm,by rw[hb];rfl⟩;rw[hq] at this;simp[this]
   |true=>
    rw[hb] at c;refine ae fun K hK=>?_;simp(disch:=omega)[bY,kb];refine ah (c) ?_;simp(disch:=omega) ;apply hK;clear hK K;apply aC rfl;apply ak;simp(disch:=omega) ;apply bA;clear bA;refine ar fun K hK=>?_;simp(disch:=omega) ;apply hK;clear hK K;refine⟨k+1,⟨by show k+1≤_;omega,fun j hj=>?_⟩,by show l.length-(k+1)<l.length-k;omega,?_⟩
    ·rcases lt_or_ge j k with h3|h3
     ·exact h2 j h3
     ·have:j=k:=by omega
      subst this;exact hb
    ·refine ag [] [] ?_ ?_ ?_ ?_ HO ?_
     all_goals simp
  ·simp  at hk;have hn:l.any (fun d=>!bG d)=false:=by
    rw[List.any_eq_false];intro p ZL;obtain⟨j,hj,e⟩:=bP d0 ZL;have:=h2 j (by omega);rw[e] at this;simp[this]
   apply aD;simp(disch:=omega) ;apply aO;clear aO;apply ae;intro K h;simp(disch:=omega);apply h;clear h K;apply an;simp(disch:=omega) ;rw[hq] at hn;simp[hn]
attribute [-simp] getD_eq_getElem?_getD in
theorem yn (l:List Dc)(hl:l.length≤maxLen)(hs:∀d∈l,Oe d)(H:List aG)(T:ay)(tg:Tag) :
  al Tryz.prog 59 [.sl l.length (bC l) tg,.fn 60 [] []] H T (Is (.bool (l.any (fun d=>!bG d))) H T):=by
 refine al.cg ?_;have c:=G0 l hl hs H T;generalize l.any (fun d=>!bG d)=q at *;refine aj 5 [] Tryz.ntmps59 Tryz.func59 rfl (fun _ _=>Tryz.call59 _ _) (by simp) (fun HO=>?_);apply ae;intro K h;simp(disch:=omega);apply h;clear h K;refine ae fun K hK=>?_;simp(disch:=omega) ;refine⟨_,c,?_⟩;rintro r H' T' ⟨rfl,rfl,v,rfl,hv⟩;simp(disch:=omega)[hv];apply hK;clear hK K;apply an;simp(disch:=omega) ;exact⟨rfl,rfl,rfl⟩
end Go.Proofs.YtneohapkboaplaaGreat
