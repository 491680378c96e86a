/- Comparing numbers, strings, terms, items. Valid documents (layer 37). Valid documents: the program's test (layer 37). Copies of lists of documents, sorting them by their IDs, testing them.
  Conditions: lengths below 400 or 1000, as each theorem says. -/
import Derived.Test.YtneohapkboaplaaGreatGA
import Derived.Test.YtneohapkboaplaaGreatGSt
set_option linter.all false
set_option maxRecDepth 100000
set_option maxHeartbeats 8000000
open Nat (zero_le not_lt_zero lt_or_ge le_trans)
open List (getD_eq_getElem?_getD getElem?_eq_getElem)
namespace iF
def ke (x y:Int):Int:=if x<y then -1 else if y<x then 1 else 0
def um (a b:ud):Int:=if slt a b=true then -1 else if slt b a=true then 1 else 0
theorem o5 (x y:Int):ke x y=0↔x=y:=by unfold ke;split<;>(try split)<;>omega
theorem oq (x y:Int):ke x y<0↔x<y:=by unfold ke;split<;>(try split)<;>omega
theorem LF (a b:ud):um a b<0↔slt a b=true:=by
 unfold um
 split
 ·rename_i h;simp[h]
 ·rename_i h;split<;>simp[h]
theorem N8 (a b:ud):slt b a=(!(slt a b||a==b)):=by
 cases h1:slt a b with
 |true=>rw[GU _ _ h1];rfl
 |false=>
  cases h2:slt b a with
  |true=>have:=CX h2;simp[Ne.symm this]
  |false=>rw[rS _ _ h1 h2];simp
theorem Ig (a b:ud):um a b=0↔a=b:=by
 unfold um
 split
 ·rename_i h;simp[CX h]
 ·rename_i h;split
  ·rename_i h2;simp[Ne.symm (CX h2)]
  ·rename_i h2;simp only[true_iff];exact rS _ _ (by simpa using h) (by simpa using h2)
end iF
namespace Go.Proofs.YtneohapkboaplaaGreat
open Go Go.Am iF
attribute [-simp] getD_eq_getElem?_getD in
theorem kD (x y:Int)(H:List aA)(T:ar):aq Tryz.prog 58 [.int .i64 x,.int .i64 y] H T (Is (.int .i64 (ke x y)) H T):=by
 have n1:∀z,aq Tryz.prog 138 [.int .i64 z] H T (Is (.bool false) H T):=fun z=>by
  refine aj 3 [] Tryz.ntmps138 Tryz.func138 rfl (fun _ _=>Tryz.call138 _ _) (by simp) (fun HO=>?_);apply ae;intro K h;simp(disch:=omega);apply h;clear h K;apply ae;intro K h;simp(disch:=omega);apply h;clear h K;apply az;simp(disch:=omega) ;exact⟨rfl,rfl,rfl⟩
 generalize hq:ke x y=q;refine aj 7 [] Tryz.ntmps58 Tryz.func58 rfl (fun _ _=>Tryz.call58 _ _) (by simp) (fun HO=>?_);apply ae;intro K h;simp(disch:=omega);apply h;clear h K;refine ae fun K hK=>?_;simp(disch:=omega) ;refine ak (n1 x) ?_;simp(disch:=omega) ;apply hK;clear hK K;refine ae fun K hK=>?_;simp(disch:=omega) ;refine ak (n1 y) ?_;simp(disch:=omega) ;apply hK;clear hK K;refine af fun K1 aQ=>?_;apply ae;intro K h;simp(disch:=omega);apply h;clear h K;apply aD rfl;apply ai;simp(disch:=omega) ;apply aQ;clear aQ;refine af fun K1 aQ=>?_;apply ae;intro K h;simp(disch:=omega);apply h;clear h K;apply aD rfl;apply ai;simp(disch:=omega) ;apply aQ;clear aQ;refine af fun K1 aQ=>?_
 by_cases h1:x<y
 ·have b1:decide (x<y)=true:=decide_eq_true h1;refine ae fun K hK=>?_;simp(disch:=omega)[b1,h1];apply hK;clear hK K;apply aF rfl;apply ae;intro K h;simp(disch:=omega);apply h;clear h K;apply az;simp(disch:=omega) ;rw[←hq,ke,if_pos h1];exact⟨rfl,rfl,rfl⟩
 ·have b1:decide (x<y)=false:=decide_eq_false h1;refine ae fun K hK=>?_;simp(disch:=omega)[b1,h1];apply hK;clear hK K;apply aD rfl;apply ai;simp(disch:=omega) ;apply aQ;clear aQ;refine af fun K1 aQ=>?_
  by_cases h2:y<x
  ·have b2:decide (y<x)=true:=decide_eq_true h2;refine ae fun K hK=>?_;simp(disch:=omega)[b2,h2];apply hK;clear hK K;apply aF rfl;apply ae;intro K h;simp(disch:=omega);apply h;clear h K;apply az;simp(disch:=omega) ;rw[←hq,ke,if_neg h1,if_pos h2];exact⟨rfl,rfl,rfl⟩
  ·have b2:decide (y<x)=false:=decide_eq_false h2;refine ae fun K hK=>?_;simp(disch:=omega)[b2,h2];apply hK;clear hK K;apply aD rfl;apply ai;simp(disch:=omega) ;apply aQ;clear aQ;apply ae;intro K h;simp(disch:=omega);apply h;clear h K;apply az;simp(disch:=omega) ;rw[←hq,ke,if_neg h1,if_neg h2];exact⟨rfl,rfl,rfl⟩
attribute [-simp] getD_eq_getElem?_getD in
theorem LB (x y:ud)(H:List aA)(T:ar):aq Tryz.prog 144 [.str x,.str y] H T (Is (.int .i64 (um x y)) H T):=by
 have n1:∀z,aq Tryz.prog 188 [.str z] H T (Is (.bool false) H T):=fun z=>by
  refine aj 3 [] Tryz.ntmps188 Tryz.func188 rfl (fun _ _=>Tryz.call188 _ _) (by simp) (fun HO=>?_);apply ae;intro K h;simp(disch:=omega);apply h;clear h K;apply ae;intro K h;simp(disch:=omega);apply h;clear h K;apply az;simp(disch:=omega) ;exact⟨rfl,rfl,rfl⟩
 have L6:=N8 x y;generalize hq:um x y=q;refine aj 7 [] Tryz.ntmps144 Tryz.func144 rfl (fun _ _=>Tryz.call144 _ _) (by simp) (fun HO=>?_);apply ae;intro K h;simp(disch:=omega);apply h;clear h K;refine ae fun K hK=>?_;simp(disch:=omega) ;refine ak (n1 x) ?_;simp(disch:=omega) ;apply hK;clear hK K;refine ae fun K hK=>?_;simp(disch:=omega) ;refine ak (n1 y) ?_;simp(disch:=omega) ;apply hK;clear hK K;refine af fun K1 aQ=>?_;apply ae;intro K h;simp(disch:=omega);apply h;clear h K;apply aD rfl;apply ai;simp(disch:=omega) ;apply aQ;clear aQ;refine af fun K1 aQ=>?_;apply ae;intro K h;simp(disch:=omega);apply h;clear h K;apply aD rfl;apply ai;simp(disch:=omega) ;apply aQ;clear aQ;refine af fun K1 aQ=>?_;unfold slt at L6
 cases h1:Op.bytesLess x y with
 |true=>
  refine ae fun K hK=>?_;simp(disch:=omega)[h1];apply hK;clear hK K;apply aF rfl;apply ae;intro K h;simp(disch:=omega);apply h;clear h K;apply az;simp(disch:=omega) ;rw[←hq,um,if_pos h1];exact⟨rfl,rfl,rfl⟩
 |false=>
  refine ae fun K hK=>?_;simp(disch:=omega)[h1];apply hK;clear hK K;apply aD rfl;apply ai;simp(disch:=omega) ;apply aQ;clear aQ;refine af fun K1 aQ=>?_;rw[h1,Bool.false_or] at L6
  cases h2:(x==y) with
  |false=>
   rw[h2] at L6;refine ae fun K hK=>?_;simp(disch:=omega)[h1,h2];apply hK;clear hK K;apply aF rfl;apply ae;intro K h;simp(disch:=omega);apply h;clear h K;apply az;simp(disch:=omega) ;rw[←hq,um,if_neg (by simp[slt,h1]),if_pos (show slt y x=true from L6)];exact⟨rfl,rfl,rfl⟩
  |true=>
   rw[h2] at L6;refine ae fun K hK=>?_;simp(disch:=omega)[h1,h2];apply hK;clear hK K;apply aD rfl;apply ai;simp(disch:=omega) ;apply aQ;clear aQ;apply ae;intro K h;simp(disch:=omega);apply h;clear h K;apply az;simp(disch:=omega) ;rw[←hq,um,if_neg (by simp[slt,h1]),if_neg (by simp[slt,L6])];exact⟨rfl,rfl,rfl⟩
def Cv:List Int→Int
 |[]=>0
 |x::r=>if x=0 then Cv r else x
theorem AM:∀(l:List Int)(k:Nat),(∀j,j<k→l.getD j 0=0)→k≤l.length→Cv l=Cv (l.drop k):=by
 intro l
 induction l with
 |nil=>intro k _ _;simp
 |cons x r ih=>
  intro k h hk
  cases k with
  |zero=>rfl
  |succ k=>
   have h0:x=0:=h 0 (by omega);rw[Cv,if_pos h0,ih k (fun j hj=>h (j+1) (by omega)) (by simpa using hk)];rfl
attribute [-simp] getD_eq_getElem?_getD in
theorem C0 (l:List Int)(hl:l.length≤1000)(H:List aA)(T:ar)(tg:Tag):aq Tryz.prog 143 [.sl l.length (ints l) tg] H T (Is (.int .i64 (Cv l)) H T):=by
 refine aq.cD ?_;generalize hq:Cv l=q;refine aj 9 [] Tryz.ntmps143 Tryz.func143 rfl (fun _ _=>Tryz.call143 _ _) (by simp) (fun HO=>?_);apply ae;intro K h;simp(disch:=omega);apply h;clear h K;apply ae;intro K h;simp(disch:=omega);apply h;clear h K;refine af fun K1 aQ=>?_;apply ae;intro K h;simp(disch:=omega);apply h;clear h K;apply ah;refine aG (X:=Nat) (fun k=>⟨[(0,.sl l.length (ints l) .none),(3,.int .i64 0),(6,.sl l.length (ints l) .none),(7,.int .i64 (l.length:Nat)),(8,.int .i64 (k:Nat))],H,T⟩) (fun k=>k≤l.length∧∀j,j<k→l.getD j 0=0) (fun k=>l.length-k) 0 ?_ ?_ ?_
 ·exact⟨zero_le _,fun j hj=>absurd hj (not_lt_zero _)⟩
 ·refine ag [] [] ?_ ?_ ?_ ?_ HO ?_
  all_goals simp
 ·rintro k ⟨h1,h2⟩;apply ae;intro K h;simp(disch:=omega);apply h;clear h K;refine af fun K2 aW=>?_;refine aN rfl (fun hk=>?_) (fun hk=>?_)
  ·simp  at hk;have hg:=aS (xs:=l) (k:=k) hk;have hd:Cv l=Cv (l.getD k 0::l.drop (k+1)):=by
    rw[AM l k h2 (by omega),List.drop_eq_getElem_cons hk,getD_eq_getElem?_getD,getElem?_eq_getElem hk];rfl
   apply ai;simp(disch:=omega) ;apply aW;clear aW;refine af fun K3 bz=>?_;apply ah;refine ae fun K hK=>?_;simp(disch:=omega)[hg];apply hK;clear hK K
   by_cases hc:l.getD k 0=0
   ·have b:(l.getD k 0!=0)=false:=by rw[hc];rfl
    refine ae fun K hK=>?_;simp(disch:=omega)[b,hc];apply hK;clear hK K;apply aD rfl;apply ai;simp(disch:=omega) ;apply bz;clear bz;refine au fun K hK=>?_;simp(disch:=omega) ;apply hK;clear hK K;refine⟨k+1,⟨by show k+1≤_;omega,fun j hj=>?_⟩,by show l.length-(k+1)<l.length-k;omega,?_⟩
    ·rcases lt_or_ge j k with h3|h3
     ·exact h2 j h3
     ·have:j=k:=by omega
      subst this;exact hc
    ·refine ag [] [] ?_ ?_ ?_ ?_ HO ?_
     all_goals simp
   ·have b:(l.getD k 0!=0)=true:=bne_iff_ne.2 hc;refine ae fun K hK=>?_;simp(disch:=omega)[b,hc];apply hK;clear hK K;apply aF rfl;apply ae;intro K h;simp(disch:=omega);apply h;clear h K;apply az;simp(disch:=omega) ;rw[←hq,hd,Cv,if_neg hc];exact⟨rfl,rfl,rfl⟩
  ·simp  at hk;have e:k=l.length:=by omega
   subst e;apply aC;simp(disch:=omega) ;apply aQ;clear aQ;apply ae;intro K h;simp(disch:=omega);apply h;clear h K;apply az;simp(disch:=omega) ;rw[←hq,AM l l.length h2 (Nat.le_refl _),List.drop_length];exact⟨rfl,rfl,rfl⟩
end Go.Proofs.YtneohapkboaplaaGreat
namespace eJ
open iF Go.Proofs.YtneohapkboaplaaGreat
def cP (a b:Nm):Bool:=decide (a.1<b.1)||(decide (a.1=b.1)&&decide (a.2<b.2))
def uo (a b:Nm):Int:=Cv [ke a.1 b.1,ke a.2 b.2]
theorem PU (x y:Int):Cv [x,y]=if x=0 then y else x:=by
 unfold Cv;split
 ·unfold Cv;split
  ·rename_i h;unfold Cv;exact h.symm
  ·rfl
 ·rfl
theorem Bm (a b:Nm):uo a b<0↔cP a b=true:=by
 have h1:=o5 a.1 b.1;have h2:=oq a.1 b.1;have h3:=oq a.2 b.2;unfold uo cP;rw[PU];simp only[Bool.or_eq_true,Bool.and_eq_true,decide_eq_true_eq]
 split
 ·rename_i h;rw[h3];have:=h1.1 h;omega
 ·rename_i h;rw[h2];have:¬a.1=b.1:=fun e=>h (h1.2 e);omega
theorem Fp (a b:Nm):0≤uo a b↔cP a b=false:=by
 have:=Bm a b
 cases h:cP a b with
 |true=>have:=this.2 h;simp;omega
 |false=>rw[h] at this;simp at this;simp;exact this
abbrev Ky:=Int×Bs
def bM (a b:Ky):Bool:=decide (a.1<b.1)||(decide (a.1=b.1)&&slt a.2 b.2)
def pT (a b:Ky):Int:=Cv [ke a.1 b.1,um a.2 b.2]
theorem rf (a b:Ky):pT a b<0↔bM a b=true:=by
 have h1:=o5 a.1 b.1;have h2:=oq a.1 b.1;have h3:=LF a.2 b.2;unfold pT bM;rw[PU];simp only[Bool.or_eq_true,Bool.and_eq_true,decide_eq_true_eq]
 split
 ·rename_i h;rw[h3];have:=h1.1 h
  constructor
  ·exact fun q=>.inr ⟨this,q⟩
  ·rintro (q|q)
   ·omega
   ·exact q.2
 ·rename_i h;rw[h2];have:¬a.1=b.1:=fun e=>h (h1.2 e)
  constructor
  ·exact .inl
  ·rintro (q|q)
   ·exact q
   ·exact absurd q.1 this
theorem xW (a b:Ky):pT a b=0↔a=b:=by
 unfold pT;rw[PU]
 split
 ·rename_i h;rw[Ig]
  constructor
  ·exact fun q=>Prod.ext ((o5 _ _).1 h) q
  ·rintro rfl;rfl
 ·rename_i h
  constructor
  ·exact fun q=>absurd q h
  ·rintro rfl;exact absurd ((o5 _ _).2 rfl) h
theorem N9 (a b:Ky):0≤pT a b↔bM a b=false:=by
 have:=rf a b
 cases h:bM a b with
 |true=>have:=this.2 h;simp;omega
 |false=>rw[h] at this;simp at this;simp;exact this
end eJ
namespace Go.Proofs.YtneohapkboaplaaGreat
open Go Go.Am iF eJ
attribute [-simp] getD_eq_getElem?_getD in
theorem KR (x y:Nm)(H:List aA)(T:ar):aq Tryz.prog 140 [.agg [.int .i64 x.1,.int .i64 x.2],.agg [.int .i64 y.1,.int .i64 y.2]] H T (Is (.int .i64 (uo x y)) H T):=by
 refine aq.cH ?_ (by simp);have c1:=fun H T=>kD x.1 y.1 H T;have c2:=fun H T=>kD x.2 y.2 H T;unfold uo;generalize ke x.1 y.1=a at *;generalize ke x.2 y.2=b at *;have c4:=fun H T=>C0 [a,b] (by simp) H T;refine aj 5 [] Tryz.ntmps140 Tryz.func140 rfl (fun _ _=>Tryz.call140 _ _) (by simp) (fun HO=>?_);apply ae;intro K h;simp(disch:=omega);apply h;clear h K;refine aI [] [] [] al (by kernel_rfl) (by kernel_rfl) fun K hK=>?_;simp(disch:=omega) ;refine aB (c1 _ _) rfl ?_;simp(disch:=omega) ;refine aB (c2 _ _) rfl ?_;simp(disch:=omega) ;refine aB (c4 _ _ _) rfl ?_;simp(disch:=omega) ;apply hK;clear hK K;apply az;simp(disch:=omega) 
attribute [-simp] getD_eq_getElem?_getD in
theorem sQ (x y:Nm)(H:List aA)(T:ar):aq Tryz.prog 65 [.agg [.int .i64 x.1,.int .i64 x.2],.agg [.int .i64 y.1,.int .i64 y.2]] H T (Is (.int .i64 (uo x y)) H T):=by
 refine aq.cH ?_ (by simp);have c1:=fun H T=>kD x.1 y.1 H T;have c2:=fun H T=>kD x.2 y.2 H T;unfold uo;generalize ke x.1 y.1=a at *;generalize ke x.2 y.2=b at *;have c4:=fun H T=>C0 [a,b] (by simp) H T;refine aj 5 [] Tryz.ntmps65 Tryz.func65 rfl (fun _ _=>Tryz.call65 _ _) (by simp) (fun HO=>?_);apply ae;intro K h;simp(disch:=omega);apply h;clear h K;refine aI [] [] [] al (by kernel_rfl) (by kernel_rfl) fun K hK=>?_;simp(disch:=omega) ;refine aB (c1 _ _) rfl ?_;simp(disch:=omega) ;refine aB (c2 _ _) rfl ?_;simp(disch:=omega) ;refine aB (c4 _ _ _) rfl ?_;simp(disch:=omega) ;apply hK;clear hK K;apply az;simp(disch:=omega) 
attribute [-simp] getD_eq_getElem?_getD in
theorem o6 (x y:Ky)(u v:AV)(H:List aA)(T:ar):aq Tryz.prog 63 [.agg [.int .i64 x.1,.str x.2,u],.agg [.int .i64 y.1,.str y.2,v]] H T (Is (.int .i64 (pT x y)) H T):=by
 refine aq.cH ?_ (by simp);have c1:=fun H T=>kD x.1 y.1 H T;have c2:=fun H T=>LB x.2 y.2 H T;unfold pT;generalize ke x.1 y.1=a at *;generalize um x.2 y.2=b at *;have c4:=fun H T=>C0 [a,b] (by simp) H T;refine aj 5 [] Tryz.ntmps63 Tryz.func63 rfl (fun _ _=>Tryz.call63 _ _) (by simp) (fun HO=>?_);apply ae;intro K h;simp(disch:=omega);apply h;clear h K;refine aI [] [] [] al (by kernel_rfl) (by kernel_rfl) fun K hK=>?_;simp(disch:=omega) ;refine aB (c1 _ _) rfl ?_;simp(disch:=omega) ;refine aB (c2 _ _) rfl ?_;simp(disch:=omega) ;refine aB (c4 _ _ _) rfl ?_;simp(disch:=omega) ;apply hK;clear hK K;apply az;simp(disch:=omega) 
attribute [-simp] getD_eq_getElem?_getD in
theorem Oc:tE 57:=by
 intro x y H T;refine⟨ke x.id y.id,?_,oq _ _⟩;refine aq.cH ?_ (by simp);have c1:=fun H T=>kD x.id y.id H T;generalize ke x.id y.id=a at *;refine aj 5 [] Tryz.ntmps57 Tryz.func57 rfl (fun _ _=>Tryz.call57 _ _) (by simp) (fun HO=>?_);apply ae;intro K h;simp(disch:=omega);apply h;clear h K;refine ae fun K hK=>?_;simp(disch:=omega) ;refine ak (c1 _ _) ?_;simp(disch:=omega) ;apply hK;clear hK K;apply az;simp(disch:=omega) 
attribute [-simp] getD_eq_getElem?_getD in
theorem LK (x y:Int)(u v:AV)(H:List aA)(T:ar):aq Tryz.prog 103 [.agg [u,.int .i64 x],.agg [v,.int .i64 y]] H T (Is (.int .i64 (ke x y)) H T):=by
 refine aq.cH ?_ (by simp);have c1:=fun H T=>kD x y H T;generalize ke x y=a at *;refine aj 5 [] Tryz.ntmps103 Tryz.func103 rfl (fun _ _=>Tryz.call103 _ _) (by simp) (fun HO=>?_);apply ae;intro K h;simp(disch:=omega);apply h;clear h K;refine ae fun K hK=>?_;simp(disch:=omega) ;refine ak (c1 _ _) ?_;simp(disch:=omega) ;apply hK;clear hK K;apply az;simp(disch:=omega) 
end Go.Proofs.YtneohapkboaplaaGreat
namespace eJ
open iF Go.Am
def gF (ws:List Wd)(k:Nat):Int:=if k=0 then -1 else (ws.getD (k-1) w0).2
def nm (ws:List Wd)(k:Nat):Bool:=okW (ws.getD k w0).1&&(decide (gF ws k<(ws.getD k w0).2)&&decide ((ws.getD k w0).2≤1000000))
def PW (ws:List Wd):Bool:=(List.range ws.length).all (nm ws)
def gy (zs:List Zn)(i:Nat):Int:=if i=0 then 0 else (zs.getD (i-1) z0).f
def kO (zs:List Zn)(i:Nat):Bool:=(decide (gy zs i<(zs.getD i z0).f)&&decide ((zs.getD i z0).f≤4))&&(decide ((zs.getD i z0).ws.length≠0)&&PW (zs.getD i z0).ws)
def PV (zs:List Zn):Bool:=(List.range zs.length).all (kO zs)
def uh (x:Nm):Bool:=decide (5≤x.1∧x.1≤7)&&decide (0≤x.2∧x.2≤1000000000000)
def pN (ns:List Nm)(i:Nat):Bool:=uh (ns.getD i n0)&&(decide (i=0)||cP (ns.getD (i-1) n0) (ns.getD i n0))
def PX (ns:List Nm):Bool:=(List.range ns.length).all (pN ns)
def aX (d:Dc):Bool:=decide (1≤d.id∧d.id≤1000000000)&&(PV d.zs&&PX d.ns)
structure wa (d:Dc):Prop where
 z:d.zs.length≤Go.maxLen
 w:∀z∈d.zs,z.ws.length≤Go.maxLen∧∀w∈z.ws,w.1.length≤Go.maxLen
 n:d.ns.length≤Go.maxLen
theorem jd {n:Nat}{p:Nat→Bool}{k:Nat}(hk:k<n)(h:p k=false):(List.range n).all p=false:=by
 rw[List.all_eq_false];exact⟨k,List.mem_range.2 hk,by simp[h]⟩
theorem fq {n:Nat}{p:Nat→Bool}(h:∀j,j<n→p j=true):(List.range n).all p=true:=by
 rw[List.all_eq_true];intro j hj;exact h j (List.mem_range.1 hj)
theorem lG {n:Nat}{p:Nat→Bool}(h:(List.range n).all p=true){j:Nat}(hj:j<n):p j=true:=by
 rw[List.all_eq_true] at h;exact h j (List.mem_range.2 hj)
theorem rP {d:Dc}(h:¬(1≤d.id∧d.id≤1000000000)):aX d=false:=by
 unfold aX;rw[decide_eq_false h];rfl
theorem ku {d:Dc}{i:Nat}(hi:i<d.zs.length)(h:kO d.zs i=false):aX d=false:=by
 unfold aX PV;rw[jd hi h];simp
theorem Au {d:Dc}{i:Nat}(hi:i<d.ns.length)(h:pN d.ns i=false):aX d=false:=by
 unfold aX PX;rw[jd hi h];simp
theorem sC {d:Dc}(h1:1≤d.id∧d.id≤1000000000)(h2:∀i,i<d.zs.length→kO d.zs i=true)(h3:∀i,i<d.ns.length→pN d.ns i=true):aX d=true:=by
 unfold aX PV PX;rw[decide_eq_true h1,fq h2,fq h3];rfl
theorem AO {zs:List Zn}{i:Nat}(h:¬(gy zs i<(zs.getD i z0).f∧(zs.getD i z0).f≤4∧(zs.getD i z0).ws.length≠0)):kO zs i=false:=by
 cases hk:kO zs i with
 |false=>rfl
 |true=>
  unfold kO at hk;simp only[Bool.and_eq_true,decide_eq_true_eq] at hk;exact absurd ⟨hk.1.1,hk.1.2,hk.2.1⟩ h
theorem JT {zs:List Zn}{i k:Nat}(hk:k<(zs.getD i z0).ws.length)(h:nm (zs.getD i z0).ws k=false):kO zs i=false:=by
 unfold kO PW;rw[jd hk h];simp
theorem xo {zs:List Zn}{i:Nat}(h1:gy zs i<(zs.getD i z0).f)(h2:(zs.getD i z0).f≤4)(h3:(zs.getD i z0).ws.length≠0)(h:∀k,k<(zs.getD i z0).ws.length→nm (zs.getD i z0).ws k=true):kO zs i=true:=by
 unfold kO PW;rw[fq h,decide_eq_true h1,decide_eq_true h2,decide_eq_true h3];rfl
end eJ
namespace Go.Proofs.YtneohapkboaplaaGreat
open Go Go.Am iF eJ
attribute [-simp] getD_eq_getElem?_getD in
theorem N3 (d:Dc)(hs:wa d)(H:List aA)(T:ar):aq Tryz.prog 61 [.agg (fw d)] H T (Is (.bool (aX d)) H T):=by
 refine aq.cH ?_ (by simp);have hY:maxLen≤9223372036854775807:=by decide
 obtain⟨id,zs,ns⟩:=d;obtain⟨hz,hw,hn⟩:=hs;simp only at hz hw hn ⊢;have Ep:=le_trans hz hY;have Zq:=le_trans hn hY;generalize hq:aX ⟨id,zs,ns⟩=q;refine aj 73 [] Tryz.ntmps61 Tryz.func61 rfl (fun _ _=>Tryz.call61 _ _) (by simp) (fun HO=>?_);apply ae;intro K h;simp(disch:=omega);apply h;clear h K;refine af fun K1 aQ=>?_;have eX:bC (H++[.cells (fw ⟨id,zs,ns⟩)]) T:=HO.snoc (by simp)
 by_cases h1:id<1
 ·have b1:decide (id<1)=true:=decide_eq_true h1;refine ae fun K hK=>?_;simp(disch:=omega)[b1,h1];apply hK;clear hK K;apply aF rfl;apply ae;intro K h;simp(disch:=omega);apply h;clear h K;apply az;simp(disch:=omega) ;rw[←hq,rP (by simp only;omega)]
 have b1:decide (id<1)=false:=decide_eq_false h1
 by_cases h2:1000000000<id
 ·have b2:decide (1000000000<id)=true:=decide_eq_true h2;refine ae fun K hK=>?_;simp(disch:=omega)[b1,h1,b2,h2];apply hK;clear hK K;apply aF rfl;apply ae;intro K h;simp(disch:=omega);apply h;clear h K;apply az;simp(disch:=omega) ;rw[←hq,rP (by simp only;omega)]
 have b2:decide (1000000000<id)=false:=decide_eq_false h2;refine ae fun K hK=>?_;simp(disch:=omega)[b1,h1,b2,h2];apply hK;clear hK K;apply aD rfl;apply ai;simp(disch:=omega) ;apply aQ;clear aQ;apply ae;intro K h;simp(disch:=omega);apply h;clear h K;refine af fun K1 aQ=>?_;apply ae;intro K h;simp(disch:=omega);apply h;clear h K;apply ah;refine aG (X:=Nat) (fun i=>⟨[(1,.ptr H.length 0),(3,.int .i64 (gy zs i)),(20,.sl zs.length (dS zs) .none),(21,.int .i64 (zs.length:Nat)),(22,.int .i64 (i:Nat))],H++[.cells (fw ⟨id,zs,ns⟩)],T⟩)
  (fun i=>i≤zs.length∧∀j,j<i→kO zs j=true) (fun i=>zs.length-i) 0 ?_ ?_ ?_
 ·exact⟨zero_le _,fun j hj=>absurd hj (not_lt_zero _)⟩
 ·refine ag [] [] ?_ ?_ ?_ ?_ eX ?_
  all_goals simp[gy]
 ·rintro i ⟨g1,g2⟩;apply ae;intro K h;simp(disch:=omega);apply h;clear h K;refine af fun K2 aW=>?_;refine aN rfl (fun hk=>?_) (fun hk=>?_)
  ·simp  at hk;have bA:=qQ zs i hk;obtain⟨zy,LZ⟩:=hw _ (aR zs i z0 hk);have IC:gy zs (i+1)=(zs.getD i z0).f:=by simp[gy]
   have tB:=AO (zs:=zs) (i:=i);have PI:=fun k=>JT (zs:=zs) (i:=i) (k:=k);have Ad:=xo (zs:=zs) (i:=i);generalize rv:zs.getD i z0=z at *;obtain⟨f,ws⟩:=z;simp only at bA zy LZ IC tB PI Ad;have hw':=le_trans zy hY;generalize hl:gy zs i=la at *;apply ai;simp(disch:=omega) ;apply aW;clear aW;refine af fun K3 bz=>?_;apply ah;refine ae fun K hK=>?_;simp(disch:=omega)[bA,fm];apply hK;clear hK K;refine af fun K4 eV=>?_;have dy:bC (H++[.cells (fw ⟨id,zs,ns⟩),.cells (mX ⟨f,ws⟩)]) T:=by
    have:=bC.snoc (vs:=mX ⟨f,ws⟩) eX (by simp);simpa using this
   by_cases h3:f≤la
   ·have b3:decide (f≤la)=true:=decide_eq_true h3;refine ae fun K hK=>?_;simp(disch:=omega)[b3,h3];apply hK;clear hK K;apply aF rfl;apply ae;intro K h;simp(disch:=omega);apply h;clear h K;apply az;simp(disch:=omega) ;rw[←hq,ku hk (tB (by omega))]
   have b3:decide (f≤la)=false:=decide_eq_false h3
   by_cases h4:4<f
   ·have b4:decide (4<f)=true:=decide_eq_true h4;refine ae fun K hK=>?_;simp(disch:=omega)[b3,h3,b4,h4];apply hK;clear hK K;apply aF rfl;apply ae;intro K h;simp(disch:=omega);apply h;clear h K;apply az;simp(disch:=omega) ;rw[←hq,ku hk (tB (by omega))]
   have b4:decide (4<f)=false:=decide_eq_false h4
   by_cases h5:ws.length=0
   ·have e5:ws=[]:=List.length_eq_zero_iff.1 h5;refine ae fun K hK=>?_;simp(disch:=omega)[b3,h3,b4,h4,e5];apply hK;clear hK K;apply aF rfl;apply ae;intro K h;simp(disch:=omega);apply h;clear h K;apply az;simp(disch:=omega) ;rw[←hq,ku hk (tB (by omega))]
   have e5:((ws.length:Int)==0)=false:=beq_eq_false_iff_ne.2 (by omega);have n5:ws≠[]:=fun e=>h5 (by rw[e];rfl);refine ae fun K hK=>?_;simp(disch:=omega)[b3,h3,b4,h4,e5,n5];apply hK;clear hK K;apply aD rfl;apply ai;simp(disch:=omega) ;apply eV;clear eV;apply ae;intro K h;simp(disch:=omega);apply h;clear h K;apply ae;intro K h;simp(disch:=omega);apply h;clear h K;apply ae;intro K h;simp(disch:=omega);apply h;clear h K;apply ah;refine aG (X:=Nat) (fun k=>⟨[(1,.ptr H.length 0),(3,.int .i64 f),(20,.sl zs.length (dS zs) .none),(21,.int .i64 (zs.length:Nat)),(22,.int .i64 (i:Nat)),(6,.int .i64 (gF ws k)),(44,.sl ws.length (cJ ws) .none),(45,.int .i64 (ws.length:Nat)),(46,.int .i64 (k:Nat))],H++[.cells (fw ⟨id,zs,ns⟩),.cells (mX ⟨f,ws⟩)],T⟩)
    (fun k=>k≤ws.length∧∀j,j<k→nm ws j=true) (fun k=>ws.length-k) 0 ?_ ?_ ?_
   ·exact⟨zero_le _,fun j hj=>absurd hj (not_lt_zero _)⟩
   ·refine ag [] [] ?_ ?_ ?_ ?_ dy ?_
    all_goals simp[gF]
   ·rintro k ⟨k1,k2⟩;apply ae;intro K h;simp(disch:=omega);apply h;clear h K;refine af fun K5 gC=>?_;refine aN rfl (fun fD=>?_) (fun fD=>?_)
    ·simp  at fD;have hcw:=uO ws k fD;have ua:=LZ _ (aR ws k w0 fD);have ql:gF ws (k+1)=(ws.getD k w0).2:=by simp[gF]
     have gD:nm ws k=(okW (ws.getD k w0).1&&(decide (gF ws k<(ws.getD k w0).2)&&decide ((ws.getD k w0).2≤1000000))):=rfl;generalize hww:ws.getD k w0=x at *;obtain⟨s,p⟩:=x;simp only at hcw ua ql gD;generalize hla:gF ws k=lw at *;apply ai;simp(disch:=omega) ;apply gC;clear gC;refine af fun K6 iH=>?_;apply ah;refine ae fun K hK=>?_;simp(disch:=omega)[hcw,dV];apply hK;clear hK K;refine af fun K7 IZ=>?_;have c:=Al s ua (H++[.cells (fw ⟨id,zs,ns⟩),.cells (mX ⟨f,ws⟩),.cells [.str s,.int .i64 p]]) T
     cases iG:okW s with
     |false=>
      rw[iG] at c gD;refine ae fun K hK=>?_;simp(disch:=omega) ;refine ak (c) ?_;simp(disch:=omega) ;apply hK;clear hK K;apply aF rfl;apply ae;intro K h;simp(disch:=omega);apply h;clear h K;apply az;simp(disch:=omega) ;rw[←hq,ku hk (PI k fD (by rw[gD];rfl))]
     |true=>
     rw[iG] at c gD
     by_cases h6:p≤lw
     ·have b6:decide (p≤lw)=true:=decide_eq_true h6;refine ae fun K hK=>?_;simp(disch:=omega) ;refine ak (c) ?_;simp(disch:=omega)[b6,h6];apply hK;clear hK K;apply aF rfl;apply ae;intro K h;simp(disch:=omega);apply h;clear h K;apply az;simp(disch:=omega) ;rw[←hq,ku hk (PI k fD (by rw[gD,decide_eq_false (by omega:¬lw<p)];rfl))]
     have b6:decide (p≤lw)=false:=decide_eq_false h6
     by_cases h7:1000000<p
     ·have b7:decide (1000000<p)=true:=decide_eq_true h7;refine ae fun K hK=>?_;simp(disch:=omega) ;refine ak (c) ?_;simp(disch:=omega)[b6,h6,b7,h7];apply hK;clear hK K;apply aF rfl;apply ae;intro K h;simp(disch:=omega);apply h;clear h K;apply az;simp(disch:=omega) ;rw[←hq,ku hk (PI k fD (by rw[gD,decide_eq_false (by omega:¬p≤1000000)];simp))]
     have b7:decide (1000000<p)=false:=decide_eq_false h7;refine ae fun K hK=>?_;simp(disch:=omega) ;refine ak (c) ?_;simp(disch:=omega)[b6,h6,b7,h7];apply hK;clear hK K;apply aD rfl;apply ai;simp(disch:=omega) ;apply IZ;clear IZ;refine au fun K hK=>?_;simp(disch:=omega) ;apply hK;clear hK K;apply iH;clear iH;refine au fun K hK=>?_;simp(disch:=omega) ;apply hK;clear hK K;refine⟨k+1,⟨by show k+1≤_;omega,fun j hj=>?_⟩,by show ws.length-(k+1)<ws.length-k;omega,?_⟩
     ·rcases lt_or_ge j k with h|h
      ·exact k2 j h
      ·have:j=k:=by omega
       subst this;rw[gD,decide_eq_true (by omega:lw<p),decide_eq_true (by omega:p≤1000000)];rfl
     ·refine ag [.cells [.str s,.int .i64 p]] [] ?_ ?_ ?_ ?_ dy ?_
      all_goals simp[ql]
    ·simp  at fD;apply aC;simp(disch:=omega) ;apply bz;clear bz;refine au fun K hK=>?_;simp(disch:=omega) ;apply hK;clear hK K;refine⟨i+1,⟨by show i+1≤_;omega,fun j hj=>?_⟩,by show zs.length-(i+1)<zs.length-i;omega,?_⟩
     ·rcases lt_or_ge j i with h|h
      ·exact g2 j h
      ·have:j=i:=by omega
       subst this;exact Ad (by omega) (by omega) h5 (fun k hk=>k2 k (by omega))
     ·refine ag [.cells (mX ⟨f,ws⟩)] [] ?_ ?_ ?_ ?_ eX ?_
      all_goals simp[IC]
  ·simp  at hk;apply aC;simp(disch:=omega) ;apply aQ;clear aQ;refine af fun K1 aQ=>?_;apply ae;intro K h;simp(disch:=omega);apply h;clear h K;apply ah;refine aG (X:=Nat) (fun i=>⟨[(1,.ptr H.length 0),(70,.sl ns.length (aU ns) .none),(71,.int .i64 (ns.length:Nat)),(72,.int .i64 (i:Nat))],H++[.cells (fw ⟨id,zs,ns⟩)],T⟩)
    (fun i=>i≤ns.length∧∀j,j<i→pN ns j=true) (fun i=>ns.length-i) 0 ?_ ?_ ?_
   ·exact⟨zero_le _,fun j hj=>absurd hj (not_lt_zero _)⟩
   ·refine ag [] [] ?_ ?_ ?_ ?_ eX ?_
    all_goals simp
   ·rintro m ⟨m1,m2⟩;apply ae;intro K h;simp(disch:=omega);apply h;clear h K;refine af fun K2 aW=>?_;refine aN rfl (fun dg=>?_) (fun dg=>?_)
    ·simp  at dg;have pL:=eA ns m dg;have gD:pN ns m=(uh (ns.getD m n0)&&(decide (m=0)||cP (ns.getD (m-1) n0) (ns.getD m n0))):=rfl;have cn:=fun H T=>KR (ns.getD (m-1) n0) (ns.getD m n0) H T;have jE:=Fp (ns.getD (m-1) n0) (ns.getD m n0);generalize uo (ns.getD (m-1) n0) (ns.getD m n0)=cq at *;have wI:=fun h=>eA ns (m-1) h;generalize ns.getD (m-1) n0=y at *;generalize Rm:ns.getD m n0=x at *;obtain⟨x1,x2⟩:=x;obtain⟨y1,y2⟩:=y;simp only at pL wI;apply ai;simp(disch:=omega) ;apply aW;clear aW;refine af fun K3 bz=>?_;apply ah;refine ae fun K hK=>?_;simp(disch:=omega)[pL,bG];apply hK;clear hK K;refine aI [] [] [] al (by kernel_rfl) (by kernel_rfl) fun K hK=>?_;have key:∀e b,b=pN ns m→bt H.length.succ T.length e [(1,.ptr H.length 0),(70,.sl ns.length (aU ns) .none),(71,.int .i64 (ns.length:Nat)),(72,.int .i64 (m:Nat)),(109,.bool (!b))]→K ⟨e,H++[.cells (fw ⟨id,zs,ns⟩),.cells [.int .i64 x1,.int .i64 x2]],T⟩:=by
      intro e b hb he;refine hK _ (aH ⟨[(1,.ptr H.length 0),(70,.sl ns.length (aU ns) .none),(71,.int .i64 (ns.length:Nat)),(72,.int .i64 (m:Nat)),(109,.bool (!b))],H++[.cells (fw ⟨id,zs,ns⟩)],T⟩ (ag [.cells [.int .i64 x1,.int .i64 x2]] [] (by simp) (by simp) (by simp) (by simp) eX (by simpa using he)) ?_)
      cases b with
      |false=>
       apply aF rfl;apply ae;intro K h;simp(disch:=omega);apply h;clear h K;apply az;simp(disch:=omega) ;rw[←hq,Au dg hb.symm]
      |true=>
       apply aD rfl;apply ai;simp(disch:=omega) ;apply bz;clear bz;refine au fun K hK=>?_;simp(disch:=omega) ;apply hK;clear hK K;refine⟨m+1,⟨by show m+1≤_;omega,fun j hj=>?_⟩,by show ns.length-(m+1)<ns.length-m;omega,?_⟩
       ·rcases lt_or_ge j m with h|h
        ·exact m2 j h
        ·have:j=m:=by omega
         subst this;exact hb.symm
       ·refine ag [] [] ?_ ?_ ?_ ?_ eX ?_
        all_goals simp
     clear hK;have c:=cn (H++[.cells (fw ⟨id,zs,ns⟩),.cells [.int .i64 x1,.int .i64 x2]]) T;have Xk:¬((5≤x1∧x1≤7)∧0≤x2∧x2≤1000000000000)→pN ns m=false:=fun h=>by
      have:uh (x1,x2)=false:=by
       unfold uh;simp only[Bool.and_eq_false_iff,decide_eq_false_iff_not];rcases Classical.em (5≤x1∧x1≤7) with h'|h'
       ·exact .inr fun h2=>h ⟨h',h2⟩
       ·exact .inl h'
      rw[gD,this];rfl
     by_cases v1:x1<5
     ·have w1:decide (x1<5)=true:=decide_eq_true v1;simp(disch:=omega)[w1,v1];refine key _ false (Xk (by omega)).symm (by simp)
     have w1:decide (x1<5)=false:=decide_eq_false v1
     by_cases v2:7<x1
     ·have w2:decide (7<x1)=true:=decide_eq_true v2;simp(disch:=omega)[w1,v1,w2,v2];refine key _ false (Xk (by omega)).symm (by simp)
     have w2:decide (7<x1)=false:=decide_eq_false v2
     by_cases v3:x2<0
     ·have w3:decide (x2<0)=true:=decide_eq_true v3;simp(disch:=omega)[w1,v1,w2,v2,w3,v3];refine key _ false (Xk (by omega)).symm (by simp)
     have w3:decide (x2<0)=false:=decide_eq_false v3
     by_cases v4:1000000000000<x2
     ·have w4:decide (1000000000000<x2)=true:=decide_eq_true v4;simp(disch:=omega)[w1,v1,w2,v2,w3,v3,w4,v4];refine key _ false (Xk (by omega)).symm (by simp)
     have w4:decide (1000000000000<x2)=false:=decide_eq_false v4;have eo:uh (x1,x2)=true:=by
      unfold uh;rw[decide_eq_true (by omega:5≤x1∧x1≤7),decide_eq_true (by omega:0≤x2∧x2≤1000000000000)];rfl
     rw[eo,Bool.true_and] at gD;rcases Nat.eq_zero_or_pos m with h5|h5
     ·subst h5;simp(disch:=omega)[w1,v1,w2,v2,w3,v3,w4,v4];refine key _ true (by rw[gD];rfl) (by simp)
     ·have e6:((m:Int)-1)=((m-1:Nat):Int):=by omega
      have b5:decide ((0:Int)<(m:Int))=true:=decide_eq_true (by omega);have nL:=wI (by omega);rw[decide_eq_false (by omega:¬m=0),Bool.false_or] at gD
      cases aZ:cP (y1,y2) (x1,x2) with
      |false=>
       have b7:decide (0≤cq)=true:=decide_eq_true (jE.2 aZ);have n7:=jE.2 aZ;rw[aZ] at gD;simp(disch:=omega)[w1,v1,w2,v2,w3,v3,w4,v4,b5,h5,e6,nL,bG];refine aB (c) rfl ?_;simp(disch:=omega)[b7,n7];refine key _ false gD.symm (by simp)
      |true=>
       have n7:¬0≤cq:=fun e=>by rw[jE.1 e] at aZ;cases aZ
       have b7:decide (0≤cq)=false:=decide_eq_false n7;rw[aZ] at gD;simp(disch:=omega)[w1,v1,w2,v2,w3,v3,w4,v4,b5,h5,e6,nL,bG];refine aB (c) rfl ?_;simp(disch:=omega)[b7,n7];refine key _ true gD.symm (by simp)
    ·simp  at dg;apply aC;simp(disch:=omega) ;apply aQ;clear aQ;apply ae;intro K h;simp(disch:=omega);apply h;clear h K;apply az;simp(disch:=omega) ;rw[←hq,sC (by simp only;omega) (fun i hi=>g2 i (by simp only at hi;omega)) (fun i hi=>m2 i (by simp only at hi;omega))]
end Go.Proofs.YtneohapkboaplaaGreat
namespace eJ
open FU
structure qH (l l':List Dc):Prop where
 perm:l'.Perm l
 ord:l'.Pairwise fun x y=>x.id≤y.id
theorem qH.len {l l':List Dc}(h:qH l l'):l'.length=l.length:=h.perm.length_eq
theorem qH.nil:qH [] []:=⟨.refl _,.nil⟩
def idx (l:List Dc):List GE:=(List.range l.length).map fun i=>(i,l.getD i d0)
theorem qO (l:List Dc):(idx l).length=l.length:=by simp[idx]
theorem Fh (l:List Dc){i:Nat}(hi:i<l.length):(idx l).getD i ze=(i,l.getD i d0):=by
 rw[getD_eq_getElem?_getD,getElem?_eq_getElem (by rw[qO];exact hi)];simp[idx]
theorem Fg (l:List Dc):(idx l).map (·.2)=l:=by
 apply List.ext_getElem
 ·simp[idx]
 ·intro i h1 h2;simp only[idx,List.getElem_map,List.getElem_range];rw[getD_eq_getElem?_getD,getElem?_eq_getElem h2];rfl
end eJ
namespace Go.Proofs.YtneohapkboaplaaGreat
open Go Go.Am iF eJ FU
theorem Dp {g:Nat}(hg:tE g)(l:List Dc)(rest:List AV)(i:Nat)(hl:l.length≤40)(H:List aA)(T:ar)(hi:H[i]?=some (.cells (aM l++rest)))(hr:aJ H.length T.length rest) :
  aq Tryz.prog 56 [.bV i 0 l.length,.fn g [] []] H T (fun r H' T'=>r=.df []∧T'=T∧∃l',H'=H.set i (.cells (aM l'++rest))∧qH l l'):=by
 have hm:dw (idx l)=aM l:=by rw[A7,Fg]
 have hw:Wg (idx l) 0 (idx l).length:=fun p q _ h2 h3=>by
  rw[qO] at h3;rw[Fh l (by omega),Fh l h3];exact decide_eq_true h2
 have c:=GG hg (idx l).length (by rw[qO];exact hl) (idx l) rest i rfl hw H T (by rw[hm];exact hi) hr;rw[qO] at c;refine aj 3 [] Tryz.ntmps56 Tryz.func56 rfl (fun _ _=>Tryz.call56 _ _) (by simp) (fun HO=>?_);refine au fun K hK=>?_;simp(disch:=omega)[-getD_eq_getElem?_getD];refine⟨_,c,?_⟩;rintro v H' T' ⟨rfl,rfl,d',rfl,k1,k2⟩;simp(disch:=omega)[-getD_eq_getElem?_getD];apply hK;clear hK K;refine⟨rfl,rfl,d'.map (·.2),by rw[A7],?_,?_⟩
 ·have:=k1.perm.map (·.2)
  rwa [Fg] at this
 ·rw[List.pairwise_map,List.pairwise_iff_getElem];intro a b ha hb iZ;have hlen:=k1.len;rw[qO] at hlen;have:=JG (k2 a b (zero_le _) iZ (by omega));rw[getD_eq_getElem?_getD,getD_eq_getElem?_getD,getElem?_eq_getElem ha,getElem?_eq_getElem hb] at this;simp only[Option.getD_some,ky] at this;omega
attribute [-simp] getD_eq_getElem?_getD in
theorem BL (g:Nat)(H:List aA)(T:ar)(tg:Tag) :
  aq Tryz.prog 56 [.sl 0 [] tg,.fn g [] []] H T (Is (.df []) H T):=by
 refine aq.cD ?_;have c1:aq Tryz.prog 176 [.sl 0 [] .none,.int .i64 0,.int .i64 0,.fn g [] []] H T (Is (.df []) H T):=by
  refine aj 10 [] Tryz.ntmps176 Tryz.func176 rfl (fun _ _=>Tryz.call176 _ _) (by simp) (fun HO=>?_);apply ae;intro K h;simp(disch:=omega);apply h;clear h K;apply ah;refine aG (X:=Unit) (fun _=>⟨[(2,.int .i64 0),(8,.int .i64 1)],H,T⟩) (fun _=>True) (fun _=>0) () trivial ?_ ?_
  ·refine ag [] [] ?_ ?_ ?_ ?_ HO ?_
   all_goals simp
  ·rintro _ _;refine af fun K2 aW=>?_;apply ae;intro K h;simp(disch:=omega);apply h;clear h K;apply aD rfl;apply aC;simp(disch:=omega) ;exact⟨rfl,rfl,rfl⟩
 have c:aq Tryz.prog 137 [.sl 0 [] .none,.int .i64 0,.fn g [] []] H T (Is (.df []) H T):=by
  refine aj 10 [] Tryz.ntmps137 Tryz.func137 rfl (fun _ _=>Tryz.call137 _ _) (by simp) (fun HO=>?_);apply ae;intro K h;simp(disch:=omega);apply h;clear h K;apply ae;intro K h;simp(disch:=omega);apply h;clear h K;refine af fun K1 aQ=>?_;apply ah;refine aG (X:=Unit) (fun _=>⟨[(0,.sl 0 [] .none),(1,.int .i64 0),(2,.fn g [] []),(6,.int .i64 20),(7,.int .i64 0),(8,.int .i64 20)],H,T⟩) (fun _=>True) (fun _=>0) () trivial ?_ ?_
  ·refine ag [] [] ?_ ?_ ?_ ?_ HO ?_
   all_goals simp
  ·rintro _ _;refine af fun K2 aW=>?_;apply ae;intro K h;simp(disch:=omega);apply h;clear h K;apply aD rfl;apply aC;simp(disch:=omega) ;apply aQ;clear aQ;refine ae fun K hK=>?_;simp(disch:=omega) ;refine ak (c1) ?_;simp(disch:=omega) ;apply hK;clear hK K;apply ah;refine aG (X:=Unit) (fun _=>⟨[(1,.int .i64 0),(6,.int .i64 20)],H,T⟩) (fun _=>True) (fun _=>0) () trivial ?_ ?_
   ·refine ag [] [] ?_ ?_ ?_ ?_ HO ?_
    all_goals simp
   ·rintro _ _;refine af fun K3 bz=>?_;apply ae;intro K h;simp(disch:=omega);apply h;clear h K;apply aD rfl;apply aC;simp(disch:=omega) ;exact⟨rfl,rfl,rfl⟩
 refine aj 3 [] Tryz.ntmps56 Tryz.func56 rfl (fun _ _=>Tryz.call56 _ _) (by simp) (fun HO=>?_);refine au fun K hK=>?_;simp(disch:=omega) ;refine ak (c) ?_;simp(disch:=omega) ;apply hK;clear hK K;exact⟨rfl,rfl,rfl⟩
attribute [-simp] getD_eq_getElem?_getD in
theorem Ih (l:List Dc)(h0:l≠[])(hl:l.length≤1000)(H:List aA)(T:ar)(tg:Tag) :
  aq Tryz.prog 55 [.sl l.length (aM l) tg] H T (fun r H' T'=>T'=T∧∃k,H'=H++[.cells (aM l++List.replicate k .top)]∧r=.bV H.length 0 l.length):=by
 refine aq.cD ?_;have ji:0<l.length:=List.length_pos_iff.2 h0;have dA:¬l=[]:=h0;have hlen:=bD l;have hd:¬aM l=[]:=fun e=>by rw[e] at hlen;simp at hlen;omega
 refine aj 3 [7] Tryz.ntmps55 Tryz.func55 rfl (fun _ _=>Tryz.call55 _ _) (by simp) (fun HO=>?_);apply ae;intro K h;simp(disch:=omega);apply h;clear h K;refine af fun K1 aQ=>?_;refine ae fun K hK=>?_;simp(disch:=omega) ;refine⟨?_,fun he=>absurd he (by first|exact dA|exact hd)⟩;apply hK;clear hK K;apply aD rfl;apply ai;simp(disch:=omega) ;apply aQ;clear aQ;refine ae fun K hK=>?_;simp(disch:=omega)[dR,bD,ji];intro k;apply hK;clear hK K;apply az;simp(disch:=omega) 
attribute [-simp] getD_eq_getElem?_getD in
theorem D8 (H:List aA)(T:ar)(tg:Tag) :
  aq Tryz.prog 55 [.sl 0 [] tg] H T (Is (.sl 0 [] .none) H T):=by
 refine aq.cD ?_;refine aq.cH ?_ (by simp);refine aj 3 [] Tryz.ntmps55 Tryz.func55 rfl (fun _ _=>Tryz.call55 _ _) (by simp) (fun HO=>?_);apply ae;intro K h;simp(disch:=omega);apply h;clear h K;refine af fun K1 aQ=>?_;refine ae fun K hK=>?_;simp(disch:=omega) 
 constructor
 ·apply hK;clear hK K;apply aD rfl;apply ai;simp(disch:=omega) ;apply aQ;clear aQ;refine ae fun K hK=>?_;simp(disch:=omega)[dR];apply hK;clear hK K;apply az;simp(disch:=omega) 
 ·apply hK;clear hK K;apply aF rfl;apply ae;intro K h;simp(disch:=omega);apply h;clear h K;apply az;simp(disch:=omega) 
attribute [-simp] getD_eq_getElem?_getD in
theorem Og (d:Dc)(hs:wa d)(H:List aA)(T:ar):aq Tryz.prog 60 [.agg (fw d)] H T (Is (.bool (!aX d)) H T):=by
 refine aq.cH ?_ (by simp);have c:=fun H T=>N3 d hs H T;generalize aX d=q at *;refine aj 3 [] Tryz.ntmps60 Tryz.func60 rfl (fun _ _=>Tryz.call60 _ _) (by simp) (fun HO=>?_);apply ae;intro K h;simp(disch:=omega);apply h;clear h K;refine ae fun K hK=>?_;simp(disch:=omega) ;refine ak (c _ _) ?_;simp(disch:=omega) ;apply hK;clear hK K;apply az;simp(disch:=omega) 
attribute [-simp] getD_eq_getElem?_getD in
theorem HR (l:List Dc)(hl:l.length≤maxLen)(hs:∀d∈l,wa d)(H:List aA)(T:ar) :
  aq Tryz.prog 139 [.sl l.length (aM l) .none,.fn 60 [] []] H T (fun r H' T'=>H'=H∧T'=T∧∃v:Int,r=.int .i64 v∧decide (0≤v)=l.any (fun d=>!aX d)):=by
 have hY:maxLen≤9223372036854775807:=by decide
 have mO:=le_trans hl hY;generalize hq:l.any (fun d=>!aX d)=q;refine aj 9 [] Tryz.ntmps139 Tryz.func139 rfl (fun _ _=>Tryz.call139 _ _) (by simp) (fun HO=>?_);apply ae;intro K h;simp(disch:=omega);apply h;clear h K;refine af fun K1 aQ=>?_;apply ae;intro K h;simp(disch:=omega);apply h;clear h K;apply ah;refine aG (X:=Nat) (fun k=>⟨[(0,.sl l.length (aM l) .none),(1,.fn 60 [] []),(7,.int .i64 (l.length:Nat)),(8,.int .i64 (k:Nat))],H,T⟩) (fun k=>k≤l.length∧∀j,j<k→aX (l.getD j d0)=true) (fun k=>l.length-k) 0 ?_ ?_ ?_
 ·exact⟨zero_le _,fun j hj=>absurd hj (not_lt_zero _)⟩
 ·refine ag [] [] ?_ ?_ ?_ ?_ HO ?_
  all_goals simp
 ·rintro k ⟨h1,h2⟩;apply ae;intro K h;simp(disch:=omega);apply h;clear h K;refine af fun K2 aW=>?_;refine aN rfl (fun hk=>?_) (fun hk=>?_)
  ·simp  at hk;have bA:=iz l k hk;have hm:=aR l k d0 hk;have c:=Og (l.getD k d0) (hs _ hm) H T;apply ai;simp(disch:=omega) ;apply aW;clear aW;refine af fun K3 bz=>?_;apply ah;apply ae;intro K h;simp(disch:=omega);apply h;clear h K
   cases hb:aX (l.getD k d0) with
   |false=>
    rw[hb] at c;refine ae fun K hK=>?_;simp(disch:=omega)[bA,bD];refine ak (c) ?_;simp(disch:=omega) ;apply hK;clear hK K;apply aF rfl;apply ae;intro K h;simp(disch:=omega);apply h;clear h K;apply az;simp(disch:=omega) ;have:l.any (fun d=>!aX d)=true:=List.any_eq_true.2 ⟨_,hm,by rw[hb];rfl⟩;rw[hq] at this;simp[this]
   |true=>
    rw[hb] at c;refine ae fun K hK=>?_;simp(disch:=omega)[bA,bD];refine ak (c) ?_;simp(disch:=omega) ;apply hK;clear hK K;apply aD rfl;apply ai;simp(disch:=omega) ;apply bz;clear bz;refine au fun K hK=>?_;simp(disch:=omega) ;apply hK;clear hK K;refine⟨k+1,⟨by show k+1≤_;omega,fun j hj=>?_⟩,by show l.length-(k+1)<l.length-k;omega,?_⟩
    ·rcases lt_or_ge j k with h3|h3
     ·exact h2 j h3
     ·have:j=k:=by omega
      subst this;exact hb
    ·refine ag [] [] ?_ ?_ ?_ ?_ HO ?_
     all_goals simp
  ·simp  at hk;have hn:l.any (fun d=>!aX d)=false:=by
    rw[List.any_eq_false];intro p Zm;obtain⟨j,hj,e⟩:=bS d0 Zm;have:=h2 j (by omega);rw[e] at this;simp[this]
   apply aC;simp(disch:=omega) ;apply aQ;clear aQ;apply ae;intro K h;simp(disch:=omega);apply h;clear h K;apply az;simp(disch:=omega) ;rw[hq] at hn;simp[hn]
attribute [-simp] getD_eq_getElem?_getD in
theorem zj (l:List Dc)(hl:l.length≤maxLen)(hs:∀d∈l,wa d)(H:List aA)(T:ar)(tg:Tag) :
  aq Tryz.prog 59 [.sl l.length (aM l) tg,.fn 60 [] []] H T (Is (.bool (l.any (fun d=>!aX d))) H T):=by
 refine aq.cD ?_;have c:=HR l hl hs H T;generalize l.any (fun d=>!aX d)=q at *;refine aj 5 [] Tryz.ntmps59 Tryz.func59 rfl (fun _ _=>Tryz.call59 _ _) (by simp) (fun HO=>?_);apply ae;intro K h;simp(disch:=omega);apply h;clear h K;refine ae fun K hK=>?_;simp(disch:=omega) ;refine⟨_,c,?_⟩;rintro r H' T' ⟨rfl,rfl,v,rfl,hv⟩;simp(disch:=omega)[hv];apply hK;clear hK K;apply az;simp(disch:=omega) ;exact⟨rfl,rfl,rfl⟩
end Go.Proofs.YtneohapkboaplaaGreat
