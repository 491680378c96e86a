/- Comparing numbers, strings, terms, items. Valid documents (layer 37). Valid documents: the program's test (layer 37). Copies of lists of documents, sorting them by their IDs, testing them.
  Conditions: lengths below 400 or 1000, as each theorem says. -/
import Derived.Test.YtoejlmpbebjemaaGreatGA
import Derived.Test.YtoejlmpbebjemaaGreatGSi
set_option linter.all false
set_option maxRecDepth 100000
set_option maxHeartbeats 8000000

open List (getD_eq_getElem?_getD)
namespace ia
def lO (x y:Int):Int:=if x<y then -1 else if y<x then 1 else 0
def wJ (a b:wD):Int:=if slt a b=true then -1 else if slt b a=true then 1 else 0
def qA (x y:Int):lO x y=0↔x=y:=by unfold lO;split<;>(try split)<;>omega
def pR (x y:Int):lO x y<0↔x<y:=by unfold lO;split<;>(try split)<;>omega
def P1 (a b:wD):wJ a b<0↔slt a b=true:=by
 unfold wJ
 split
 ·rename_i h;simp[h]
 ·rename_i h;split<;>simp[h]
theorem Te (a b:wD):slt b a=(!(slt a b||a==b)):=by
 cases h1:slt a b with
 |true=>rw[uq _ _ h1];rfl
 |false=>
  cases h2:slt b a with
  |true=>have:=A9 h2;simp[Ne.symm this]
  |false=>rw[lu _ _ h1 h2];simp
def L6 (a b:wD):wJ a b=0↔a=b:=by
 unfold wJ
 split
 ·rename_i h;simp[A9 h]
 ·rename_i h;split
  ·rename_i h2;simp[Ne.symm (A9 h2)]
  ·rename_i h2;simp only[true_iff];exact lu _ _ (by simpa using h) (by simpa using h2)
end ia
namespace Go.Proofs.YtoejlmpbebjemaaGreat
open Go.Proofs.Tryz(prog)
open Go Go.Am ia
attribute [-simp] getD_eq_getElem?_getD in
def mg (x y:Int)(H:List aA)(T:au):ar prog 124 [.int .i64 x,.int .i64 y] H T (Is (.int .i64 (lO x y)) H T):=by
 have n1:∀z,ar prog 174 [.int .i64 z] H T (Is (.bool false) H T):=λz=>by
  refine ah 3 [] Tryz.ntmps174 Tryz.func174 rfl (λ_ _=>Tryz.call174 _ _) (by simp) (λHO=>?_);apply ae;intro K Z;simp(disch:=omega);apply Z;apply ae;intro K Z;simp(disch:=omega);apply Z;apply az;simp(disch:=omega) ;exact⟨rfl,rfl,rfl⟩
 generalize hq:lO x y=q;refine ah 7 [] Tryz.ntmps124 Tryz.func124 rfl (λ_ _=>Tryz.call124 _ _) (by simp) (λHO=>?_);apply ae;intro K Z;simp(disch:=omega);apply Z;refine ae λK hK=>?_;simp(disch:=omega) ;refine ak (n1 x) ?_;simp(disch:=omega) ;apply hK;refine ae λK hK=>?_;simp(disch:=omega) ;refine ak (n1 y) ?_;simp(disch:=omega) ;apply hK;refine af λK1 aP=>?_;apply ae;intro K Z;simp(disch:=omega);apply Z;apply aF rfl;apply aq;simp(disch:=omega) ;apply aP;clear aP;refine af λK1 aP=>?_;apply ae;intro K Z;simp(disch:=omega);apply Z;apply aF rfl;apply aq;simp(disch:=omega) ;apply aP;clear aP;refine af λK1 aP=>?_
 by_cases h1:x<y
 ·have b1:decide (x<y)=true:=agH h1;refine ae λK hK=>?_;simp(disch:=omega)[b1,h1];apply hK;apply aH rfl;apply ae;intro K Z;simp(disch:=omega);apply Z;apply az;simp(disch:=omega) ;rw[<-hq,lO,agN h1];exact⟨rfl,rfl,rfl⟩
 ·have b1:decide (x<y)=false:=agI h1;refine ae λK hK=>?_;simp(disch:=omega)[b1,h1];apply hK;apply aF rfl;apply aq;simp(disch:=omega) ;apply aP;clear aP;refine af λK1 aP=>?_
  by_cases h2:y<x
  ·have b2:decide (y<x)=true:=agH h2;refine ae λK hK=>?_;simp(disch:=omega)[b2,h2];apply hK;apply aH rfl;apply ae;intro K Z;simp(disch:=omega);apply Z;apply az;simp(disch:=omega) ;rw[<-hq,lO,agL h1,agN h2];exact⟨rfl,rfl,rfl⟩
  ·have b2:decide (y<x)=false:=agI h2;refine ae λK hK=>?_;simp(disch:=omega)[b2,h2];apply hK;apply aF rfl;apply aq;simp(disch:=omega) ;apply aP;clear aP;apply ae;intro K Z;simp(disch:=omega);apply Z;apply az;simp(disch:=omega) ;rw[<-hq,lO,agL h1,agL h2];exact⟨rfl,rfl,rfl⟩
attribute [-simp] getD_eq_getElem?_getD in
theorem PZ (x y:wD)(H:List aA)(T:au):ar prog 168 [.str x,.str y] H T (Is (.int .i64 (wJ x y)) H T):=by
 have n1:∀z,ar prog 200 [.str z] H T (Is (.bool false) H T):=λz=>by
  refine ah 3 [] Tryz.ntmps200 Tryz.func200 rfl (λ_ _=>Tryz.call200 _ _) (by simp) (λHO=>?_);apply ae;intro K Z;simp(disch:=omega);apply Z;apply ae;intro K Z;simp(disch:=omega);apply Z;apply az;simp(disch:=omega) ;exact⟨rfl,rfl,rfl⟩
 have TQ:=Te x y;generalize hq:wJ x y=q;refine ah 7 [] Tryz.ntmps168 Tryz.func168 rfl (λ_ _=>Tryz.call168 _ _) (by simp) (λHO=>?_);apply ae;intro K Z;simp(disch:=omega);apply Z;refine ae λK hK=>?_;simp(disch:=omega) ;refine ak (n1 x) ?_;simp(disch:=omega) ;apply hK;refine ae λK hK=>?_;simp(disch:=omega) ;refine ak (n1 y) ?_;simp(disch:=omega) ;apply hK;refine af λK1 aP=>?_;apply ae;intro K Z;simp(disch:=omega);apply Z;apply aF rfl;apply aq;simp(disch:=omega) ;apply aP;clear aP;refine af λK1 aP=>?_;apply ae;intro K Z;simp(disch:=omega);apply Z;apply aF rfl;apply aq;simp(disch:=omega) ;apply aP;clear aP;refine af λK1 aP=>?_;unfold slt at TQ
 cases h1:Op.bytesLess x y with
 |true=>
  refine ae λK hK=>?_;simp(disch:=omega)[h1];apply hK;apply aH rfl;apply ae;intro K Z;simp(disch:=omega);apply Z;apply az;simp(disch:=omega) ;rw[<-hq,wJ,agN h1];exact⟨rfl,rfl,rfl⟩
 |false=>
  refine ae λK hK=>?_;simp(disch:=omega)[h1];apply hK;apply aF rfl;apply aq;simp(disch:=omega) ;apply aP;clear aP;refine af λK1 aP=>?_;rw[h1,aim] at TQ
  cases h2:(x==y) with
  |false=>
   rw[h2] at TQ;refine ae λK hK=>?_;simp(disch:=omega)[h1,h2];apply hK;apply aH rfl;apply ae;intro K Z;simp(disch:=omega);apply Z;apply az;simp(disch:=omega) ;rw[<-hq,wJ,agL (by simp[slt,h1]),agN (show slt y x=true from TQ)];exact⟨rfl,rfl,rfl⟩
  |true=>
   rw[h2] at TQ;refine ae λK hK=>?_;simp(disch:=omega)[h1,h2];apply hK;apply aF rfl;apply aq;simp(disch:=omega) ;apply aP;clear aP;apply ae;intro K Z;simp(disch:=omega);apply Z;apply az;simp(disch:=omega) ;rw[<-hq,wJ,agL (by simp[slt,h1]),agL (by simp[slt,TQ])];exact⟨rfl,rfl,rfl⟩
def FM:List Int->Int
 |[]=>0
 |x::r=>if x=0 then FM r else x
theorem DG:∀(l:List Int)(k:Nat),(∀j,j<k->l.getD j 0=0)->k<=l.length->FM l=FM (l.drop k):=by
 intro l
 induction l with
 |nil=>intro k _ _;simp
 |cons x r ih=>
  intro k h hk
  cases k with
  |zero=>rfl
  |succ k=>
   have h0:x=0:=h 0 (by omega);rw[FM,agN h0,ih k (λj hj=>h (j+1) (by omega)) (by simpa using hk)];rfl
attribute [-simp] getD_eq_getElem?_getD in
def Gq (l:List Int)(hl:l.length<=1000)(H:List aA)(T:au)(tg:Tag):ar prog 167 [.sl l.length (ints l) tg] H T (Is (.int .i64 (FM l)) H T):=by
 refine ar.cF ?_;generalize hq:FM l=q;refine ah 9 [] Tryz.ntmps167 Tryz.func167 rfl (λ_ _=>Tryz.call167 _ _) (by simp) (λHO=>?_);apply ae;intro K Z;simp(disch:=omega);apply Z;apply ae;intro K Z;simp(disch:=omega);apply Z;refine af λK1 aP=>?_;apply ae;intro K Z;simp(disch:=omega);apply Z;apply aj;refine aJ (X:=Nat) (λk=>⟨[(0,.sl l.length (ints l) .none),(3,.int .i64 0),(6,.sl l.length (ints l) .none),(7,.int .i64 (l.length:Nat)),(8,.int .i64 (k:Nat))],H,T⟩) (λk=>k<=l.length/\∀j,j<k->l.getD j 0=0) (λk=>l.length-k) 0 ?_ ?_ ?_
 ·exact⟨agP _,λj hj=>absurd hj (ag9 _)⟩
 ·refine ag [] [] ?_ ?_ ?_ ?_ HO ?_
  all_goals simp
 ·rintro k ⟨h1,h2⟩;apply ae;intro K Z;simp(disch:=omega);apply Z;refine af λK2 bp=>?_;refine aU rfl (λhk=>?_) (λhk=>?_)
  ·simp  at hk;have hg:=bM (xs:=l) (k:=k) hk;have hd:FM l=FM (l.getD k 0::l.drop (k+1)):=by
    rw[DG l k h2 (by omega),ah5 hk,agB,agD hk];rfl
   apply aq;simp(disch:=omega) ;apply bp;clear bp;refine af λK3 bG=>?_;apply aj;refine ae λK hK=>?_;simp(disch:=omega)[hg];apply hK
   by_cases hc:l.getD k 0=0
   ·have b:(l.getD k 0!=0)=false:=by rw[hc];rfl
    refine ae λK hK=>?_;simp(disch:=omega)[b,hc];apply hK;apply aF rfl;apply aq;simp(disch:=omega) ;apply bG;clear bG;refine aC λK hK=>?_;simp(disch:=omega) ;apply hK;refine⟨k+1,⟨by show k+1<=_;omega,λj hj=>?_⟩,by show l.length-(k+1)<l.length-k;omega,?_⟩
    ·rcases agM j k with h3|h3
     ·exact h2 j h3
     ·have:j=k:=by omega
      subst this;exact hc
    ·refine ag [] [] ?_ ?_ ?_ ?_ HO ?_
     all_goals simp
   ·have b:(l.getD k 0!=0)=true:=bne_iff_ne.2 hc;refine ae λK hK=>?_;simp(disch:=omega)[b,hc];apply hK;apply aH rfl;apply ae;intro K Z;simp(disch:=omega);apply Z;apply az;simp(disch:=omega) ;rw[<-hq,hd,FM,agL hc];exact⟨rfl,rfl,rfl⟩
  ·simp  at hk;have e:k=l.length:=by omega
   subst e;apply aG;simp(disch:=omega) ;apply aP;clear aP;apply ae;intro K Z;simp(disch:=omega);apply Z;apply az;simp(disch:=omega) ;rw[<-hq,DG l l.length h2 (agE _),ahH];exact⟨rfl,rfl,rfl⟩
end Go.Proofs.YtoejlmpbebjemaaGreat
namespace eN
open ia Go.Proofs.YtoejlmpbebjemaaGreat
def dh (a b:Nm):Bool:=decide (a.1<b.1)||(decide (a.1=b.1)&&decide (a.2<b.2))
def wK (a b:Nm):Int:=FM [lO a.1 b.1,lO a.2 b.2]
def Vg (x y:Int):FM [x,y]=if x=0 then y else x:=by
 unfold FM;split
 ·unfold FM;split
  ·rename_i h;unfold FM;exact h.symm
  ·rfl
 ·rfl
def Eu (a b:Nm):wK a b<0↔dh a b=true:=by
 have h1:=qA a.1 b.1;have h2:=pR a.1 b.1;have h3:=pR a.2 b.2;unfold wK dh;rw[Vg];simp only[ahx,agO,agQ]
 split
 ·rename_i h;rw[h3];have:=h1.1 h;omega
 ·rename_i h;rw[h2];have:¬a.1=b.1:=λe=>h (h1.2 e);omega
theorem I7 (a b:Nm):0<=wK a b↔dh a b=false:=by
 have:=Eu a b
 cases h:dh a b with
 |true=>have:=this.2 h;simp;omega
 |false=>rw[h] at this;simp at this;simp;exact this
abbrev Ky:=Int×Bs
def bT (a b:Ky):Bool:=decide (a.1<b.1)||(decide (a.1=b.1)&&slt a.2 b.2)
def rF (a b:Ky):Int:=FM [lO a.1 b.1,wJ a.2 b.2]
def tt (a b:Ky):rF a b<0↔bT a b=true:=by
 have h1:=qA a.1 b.1;have h2:=pR a.1 b.1;have h3:=P1 a.2 b.2;unfold rF bT;rw[Vg];simp only[ahx,agO,agQ]
 split
 ·rename_i h;rw[h3];have:=h1.1 h
  constructor
  ·exact λq=>.inr ⟨this,q⟩
  ·rintro (q|q)
   ·omega
   ·exact q.2
 ·rename_i h;rw[h2];have:¬a.1=b.1:=λe=>h (h1.2 e)
  constructor
  ·exact .inl
  ·rintro (q|q)
   ·exact q
   ·exact absurd q.1 this
def AA (a b:Ky):rF a b=0↔a=b:=by
 unfold rF;rw[Vg]
 split
 ·rename_i h;rw[L6]
  constructor
  ·exact λq=>Prod.ext ((qA _ _).1 h) q
  ·rintro rfl;rfl
 ·rename_i h
  constructor
  ·exact λq=>absurd q h
  ·rintro rfl;exact absurd ((qA _ _).2 rfl) h
theorem Tf (a b:Ky):0<=rF a b↔bT a b=false:=by
 have:=tt a b
 cases h:bT a b with
 |true=>have:=this.2 h;simp;omega
 |false=>rw[h] at this;simp at this;simp;exact this
end eN
namespace Go.Proofs.YtoejlmpbebjemaaGreat
open Go Go.Am ia eN
attribute [-simp] getD_eq_getElem?_getD in
def Pb (x y:Nm)(H:List aA)(T:au):ar Tryz.prog 120 [.agg [.int .i64 x.1,.int .i64 x.2],.agg [.int .i64 y.1,.int .i64 y.2]] H T (Is (.int .i64 (wK x y)) H T):=by
 refine ar.bZ ?_ (by simp);have c1:=λH T=>mg x.1 y.1 H T;have c2:=λH T=>mg x.2 y.2 H T;unfold wK;generalize lO x.1 y.1=a at *;generalize lO x.2 y.2=b at *;have c4:=λH T=>Gq [a,b] (by simp) H T;refine ah 5 [] Tryz.ntmps120 Tryz.func120 rfl (λ_ _=>Tryz.call120 _ _) (by simp) (λHO=>?_);apply ae;intro K Z;simp(disch:=omega);apply Z;refine aK [] [] [] aw (by kernel_rfl) (by kernel_rfl) λK hK=>?_;simp(disch:=omega) ;refine aD (c1 _ _) rfl ?_;simp(disch:=omega) ;refine aD (c2 _ _) rfl ?_;simp(disch:=omega) ;refine aD (c4 _ _ _) rfl ?_;simp(disch:=omega) ;apply hK;apply az;simp(disch:=omega) 
attribute [-simp] getD_eq_getElem?_getD in
def vu (x y:Nm)(H:List aA)(T:au):ar Tryz.prog 114 [.agg [.int .i64 x.1,.int .i64 x.2],.agg [.int .i64 y.1,.int .i64 y.2]] H T (Is (.int .i64 (wK x y)) H T):=by
 refine ar.bZ ?_ (by simp);have c1:=λH T=>mg x.1 y.1 H T;have c2:=λH T=>mg x.2 y.2 H T;unfold wK;generalize lO x.1 y.1=a at *;generalize lO x.2 y.2=b at *;have c4:=λH T=>Gq [a,b] (by simp) H T;refine ah 5 [] Tryz.ntmps114 Tryz.func114 rfl (λ_ _=>Tryz.call114 _ _) (by simp) (λHO=>?_);apply ae;intro K Z;simp(disch:=omega);apply Z;refine aK [] [] [] aw (by kernel_rfl) (by kernel_rfl) λK hK=>?_;simp(disch:=omega) ;refine aD (c1 _ _) rfl ?_;simp(disch:=omega) ;refine aD (c2 _ _) rfl ?_;simp(disch:=omega) ;refine aD (c4 _ _ _) rfl ?_;simp(disch:=omega) ;apply hK;apply az;simp(disch:=omega) 
attribute [-simp] getD_eq_getElem?_getD in
def qB (x y:Ky)(u v:AV)(H:List aA)(T:au):ar Tryz.prog 111 [.agg [.int .i64 x.1,.str x.2,u],.agg [.int .i64 y.1,.str y.2,v]] H T (Is (.int .i64 (rF x y)) H T):=by
 refine ar.bZ ?_ (by simp);have c1:=λH T=>mg x.1 y.1 H T;have c2:=λH T=>PZ x.2 y.2 H T;unfold rF;generalize lO x.1 y.1=a at *;generalize wJ x.2 y.2=b at *;have c4:=λH T=>Gq [a,b] (by simp) H T;refine ah 5 [] Tryz.ntmps111 Tryz.func111 rfl (λ_ _=>Tryz.call111 _ _) (by simp) (λHO=>?_);apply ae;intro K Z;simp(disch:=omega);apply Z;refine aK [] [] [] aw (by kernel_rfl) (by kernel_rfl) λK hK=>?_;simp(disch:=omega) ;refine aD (c1 _ _) rfl ?_;simp(disch:=omega) ;refine aD (c2 _ _) rfl ?_;simp(disch:=omega) ;refine aD (c4 _ _ _) rfl ?_;simp(disch:=omega) ;apply hK;apply az;simp(disch:=omega) 
attribute [-simp] getD_eq_getElem?_getD in
def Tj:Gk (λ_=>True) 123:=by
 intro x y _ _ H T;refine⟨lO x.id y.id,?_,pR _ _⟩;refine ar.bZ ?_ (by simp);have c1:=λH T=>mg x.id y.id H T;generalize lO x.id y.id=a at *;refine ah 5 [] Tryz.ntmps123 Tryz.func123 rfl (λ_ _=>Tryz.call123 _ _) (by simp) (λHO=>?_);apply ae;intro K Z;simp(disch:=omega);apply Z;refine ae λK hK=>?_;simp(disch:=omega) ;refine ak (c1 _ _) ?_;simp(disch:=omega) ;apply hK;apply az;simp(disch:=omega) 
attribute [-simp] getD_eq_getElem?_getD in
def P6 (x y:Int)(u v:AV)(H:List aA)(T:au):ar Tryz.prog 154 [.agg [u,.int .i64 x],.agg [v,.int .i64 y]] H T (Is (.int .i64 (lO x y)) H T):=by
 refine ar.bZ ?_ (by simp);have c1:=λH T=>mg x y H T;generalize lO x y=a at *;refine ah 5 [] Tryz.ntmps154 Tryz.func154 rfl (λ_ _=>Tryz.call154 _ _) (by simp) (λHO=>?_);apply ae;intro K Z;simp(disch:=omega);apply Z;refine ae λK hK=>?_;simp(disch:=omega) ;refine ak (c1 _ _) ?_;simp(disch:=omega) ;apply hK;apply az;simp(disch:=omega) 
end Go.Proofs.YtoejlmpbebjemaaGreat
namespace eN
open ia Go.Am
def iG (ws:List Wd)(k:Nat):Int:=if k=0 then -1 else (ws.getD (k-1) w0).2
def o3 (ws:List Wd)(k:Nat):Bool:=okW (ws.getD k w0).1&&(decide (iG ws k<(ws.getD k w0).2)&&decide ((ws.getD k w0).2<=1000000))
def Vi (ws:List Wd):Bool:=(List.range ws.length).all (o3 ws)
def iw (zs:List Zn)(i:Nat):Int:=if i=0 then 0 else (zs.getD (i-1) z0).f
def mB (zs:List Zn)(i:Nat):Bool:=(decide (iw zs i<(zs.getD i z0).f)&&decide ((zs.getD i z0).f<=4))&&(decide ((zs.getD i z0).ws.length≠0)&&Vi (zs.getD i z0).ws)
def Vh (zs:List Zn):Bool:=(List.range zs.length).all (mB zs)
def vH (x:Nm):Bool:=decide (5<=x.1/\x.1<=7)&&decide (0<=x.2/\x.2<=1000000000000)
def qN (ns:List Nm)(i:Nat):Bool:=vH (ns.getD i n0)&&(decide (i=0)||dh (ns.getD (i-1) n0) (ns.getD i n0))
def Vj (ns:List Nm):Bool:=(List.range ns.length).all (qN ns)
def aS (d:Dc):Bool:=decide (1<=d.id/\d.id<=1000000000)&&(Vh d.zs&&Vj d.ns)
structure oY (d:Dc):Prop where
 z:d.zs.length<=Go.maxLen
 w:∀z∈d.zs,z.ws.length<=Go.maxLen/\∀w∈z.ws,w.1.length<=Go.maxLen
 n:d.ns.length<=Go.maxLen
def mI {n:Nat}{p:Nat->Bool}{k:Nat}(hk:k<n)(h:p k=false):(List.range n).all p=false:=by
 rw[List.all_eq_false];exact⟨k,ag3.2 hk,by simp[h]⟩
def iJ {n:Nat}{p:Nat->Bool}(h:∀j,j<n->p j=true):(List.range n).all p=true:=by
 rw[aha];intro j hj;exact h j (ag3.1 hj)
def ow {n:Nat}{p:Nat->Bool}(h:(List.range n).all p=true){j:Nat}(hj:j<n):p j=true:=by
 rw[aha] at h;exact h j (ag3.2 hj)
def qj {d:Dc}(h:¬(1<=d.id/\d.id<=1000000000)):aS d=false:=by
 unfold aS;rw[agI h];rfl
def lZ {d:Dc}{i:Nat}(hi:i<d.zs.length)(h:mB d.zs i=false):aS d=false:=by
 unfold aS Vh;rw[mI hi h];simp
def Dk {d:Dc}{i:Nat}(hi:i<d.ns.length)(h:qN d.ns i=false):aS d=false:=by
 unfold aS Vj;rw[mI hi h];simp
def va {d:Dc}(h1:1<=d.id/\d.id<=1000000000)(h2:∀i,i<d.zs.length->mB d.zs i=true)(h3:∀i,i<d.ns.length->qN d.ns i=true):aS d=true:=by
 unfold aS Vh Vj;rw[agH h1,iJ h2,iJ h3];rfl
theorem DK {zs:List Zn}{i:Nat}(h:¬(iw zs i<(zs.getD i z0).f/\(zs.getD i z0).f<=4/\(zs.getD i z0).ws.length≠0)):mB zs i=false:=by
 cases hk:mB zs i with
 |false=>rfl
 |true=>
  unfold mB at hk;simp only[agO,agQ] at hk;exact absurd ⟨hk.1.1,hk.1.2,hk.2.1⟩ h
def NV {zs:List Zn}{i k:Nat}(hk:k<(zs.getD i z0).ws.length)(h:o3 (zs.getD i z0).ws k=false):mB zs i=false:=by
 unfold mB Vi;rw[mI hk h];simp
def Ae {zs:List Zn}{i:Nat}(h1:iw zs i<(zs.getD i z0).f)(h2:(zs.getD i z0).f<=4)(h3:(zs.getD i z0).ws.length≠0)(h:∀k,k<(zs.getD i z0).ws.length->o3 (zs.getD i z0).ws k=true):mB zs i=true:=by
 unfold mB Vi;rw[iJ h,agH h1,agH h2,agH h3];rfl
end eN
namespace Go.Proofs.YtoejlmpbebjemaaGreat
open Go Go.Am ia eN
attribute [-simp] getD_eq_getElem?_getD in
theorem BD (d:Dc)(hs:oY d)(H:List aA)(T:au):ar Tryz.prog 66 [.agg (dO d)] H T (Is (.bool (aS d)) H T):=by
 refine ar.bZ ?_ (by simp);have kC:maxLen<=9223372036854775807:=by decide
 obtain⟨id,zs,ns⟩:=d;obtain⟨hz,hw,hn⟩:=hs;simp only at hz hw hn ⊢;have Jn:=agJ hz kC;have XK:=agJ hn kC;generalize hq:aS ⟨id,zs,ns⟩=q;refine ah 73 [] Tryz.ntmps66 Tryz.func66 rfl (λ_ _=>Tryz.call66 _ _) (by simp) (λHO=>?_);apply ae;intro K Z;simp(disch:=omega);apply Z;refine af λK1 aP=>?_;have eV:bN (H++[.cells (dO ⟨id,zs,ns⟩)]) T:=HO.snoc (by simp)
 by_cases h1:id<1
 ·have b1:decide (id<1)=true:=agH h1;refine ae λK hK=>?_;simp(disch:=omega)[b1,h1];apply hK;apply aH rfl;apply ae;intro K Z;simp(disch:=omega);apply Z;apply az;simp(disch:=omega) ;rw[<-hq,qj (by simp only;omega)]
 have b1:decide (id<1)=false:=agI h1
 by_cases h2:1000000000<id
 ·have b2:decide (1000000000<id)=true:=agH h2;refine ae λK hK=>?_;simp(disch:=omega)[b1,h1,b2,h2];apply hK;apply aH rfl;apply ae;intro K Z;simp(disch:=omega);apply Z;apply az;simp(disch:=omega) ;rw[<-hq,qj (by simp only;omega)]
 have b2:decide (1000000000<id)=false:=agI h2;refine ae λK hK=>?_;simp(disch:=omega)[b1,h1,b2,h2];apply hK;apply aF rfl;apply aq;simp(disch:=omega) ;apply aP;clear aP;apply ae;intro K Z;simp(disch:=omega);apply Z;refine af λK1 aP=>?_;apply ae;intro K Z;simp(disch:=omega);apply Z;apply aj;refine aJ (X:=Nat) (λi=>⟨[(1,.ptr H.length 0),(3,.int .i64 (iw zs i)),(20,.sl zs.length (fg zs) .none),(21,.int .i64 (zs.length:Nat)),(22,.int .i64 (i:Nat))],H++[.cells (dO ⟨id,zs,ns⟩)],T⟩)
  (λi=>i<=zs.length/\∀j,j<i->mB zs j=true) (λi=>zs.length-i) 0 ?_ ?_ ?_
 ·exact⟨agP _,λj hj=>absurd hj (ag9 _)⟩
 ·refine ag [] [] ?_ ?_ ?_ ?_ eV ?_
  all_goals simp[iw]
 ·rintro i ⟨g1,g2⟩;apply ae;intro K Z;simp(disch:=omega);apply Z;refine af λK2 bp=>?_;refine aU rfl (λhk=>?_) (λhk=>?_)
  ·simp  at hk;have bu:=sQ zs i hk;obtain⟨yu,Mu⟩:=hw _ (aT zs i z0 hk);have AQ:iw zs (i+1)=(zs.getD i z0).f:=by simp[iw]
   have qR:=DK (zs:=zs) (i:=i);have U8:=λk=>NV (zs:=zs) (i:=i) (k:=k);have C7:=Ae (zs:=zs) (i:=i);generalize uR:zs.getD i z0=z at *;obtain⟨f,ws⟩:=z;simp only at bu yu Mu AQ qR U8 C7;have hw':=agJ yu kC;generalize hl:iw zs i=la at *;apply aq;simp(disch:=omega) ;apply bp;clear bp;refine af λK3 bG=>?_;apply aj;refine ae λK hK=>?_;simp(disch:=omega)[bu,fN];apply hK;refine af λK4 lG=>?_;have fj:bN (H++[.cells (dO ⟨id,zs,ns⟩),.cells (oN ⟨f,ws⟩)]) T:=by
    have:=bN.snoc (vs:=oN ⟨f,ws⟩) eV (by simp);simpa using this
   by_cases h3:f<=la
   ·have b3:decide (f<=la)=true:=agH h3;refine ae λK hK=>?_;simp(disch:=omega)[b3,h3];apply hK;apply aH rfl;apply ae;intro K Z;simp(disch:=omega);apply Z;apply az;simp(disch:=omega) ;rw[<-hq,lZ hk (qR (by omega))]
   have b3:decide (f<=la)=false:=agI h3
   by_cases h4:4<f
   ·have b4:decide (4<f)=true:=agH h4;refine ae λK hK=>?_;simp(disch:=omega)[b3,h3,b4,h4];apply hK;apply aH rfl;apply ae;intro K Z;simp(disch:=omega);apply Z;apply az;simp(disch:=omega) ;rw[<-hq,lZ hk (qR (by omega))]
   have b4:decide (4<f)=false:=agI h4
   by_cases h5:ws.length=0
   ·have e5:ws=[]:=aho.1 h5;refine ae λK hK=>?_;simp(disch:=omega)[b3,h3,b4,h4,e5];apply hK;apply aH rfl;apply ae;intro K Z;simp(disch:=omega);apply Z;apply az;simp(disch:=omega) ;rw[<-hq,lZ hk (qR (by omega))]
   have e5:((ws.length:Int)==0)=false:=ahq.2 (by omega);have n5:ws≠[]:=λe=>h5 (by rw[e];rfl);refine ae λK hK=>?_;simp(disch:=omega)[b3,h3,b4,h4,e5,n5];apply hK;apply aF rfl;apply aq;simp(disch:=omega) ;apply lG;clear lG;apply ae;intro K Z;simp(disch:=omega);apply Z;apply ae;intro K Z;simp(disch:=omega);apply Z;apply ae;intro K Z;simp(disch:=omega);apply Z;apply aj;refine aJ (X:=Nat) (λk=>⟨[(1,.ptr H.length 0),(3,.int .i64 f),(20,.sl zs.length (fg zs) .none),(21,.int .i64 (zs.length:Nat)),(22,.int .i64 (i:Nat)),(6,.int .i64 (iG ws k)),(44,.sl ws.length (dQ ws) .none),(45,.int .i64 (ws.length:Nat)),(46,.int .i64 (k:Nat))],H++[.cells (dO ⟨id,zs,ns⟩),.cells (oN ⟨f,ws⟩)],T⟩)
    (λk=>k<=ws.length/\∀j,j<k->o3 ws j=true) (λk=>ws.length-k) 0 ?_ ?_ ?_
   ·exact⟨agP _,λj hj=>absurd hj (ag9 _)⟩
   ·refine ag [] [] ?_ ?_ ?_ ?_ fj ?_
    all_goals simp[iG]
   ·rintro k ⟨k1,k2⟩;apply ae;intro K Z;simp(disch:=omega);apply Z;refine af λK5 lq=>?_;refine aU rfl (λgB=>?_) (λgB=>?_)
    ·simp  at gB;have hcw:=sS ws k gB;have sa:=Mu _ (aT ws k w0 gB);have uT:iG ws (k+1)=(ws.getD k w0).2:=by simp[iG]
     have ny:o3 ws k=(okW (ws.getD k w0).1&&(decide (iG ws k<(ws.getD k w0).2)&&decide ((ws.getD k w0).2<=1000000))):=rfl;generalize hww:ws.getD k w0=x at *;obtain⟨s,p⟩:=x;simp only at hcw sa uT ny;generalize hla:iG ws k=lw at *;apply aq;simp(disch:=omega) ;apply lq;clear lq;refine af λK6 oe=>?_;apply aj;refine ae λK hK=>?_;simp(disch:=omega)[hcw,gj];apply hK;refine af λK7 Q4=>?_;have c:=Df s sa (H++[.cells (dO ⟨id,zs,ns⟩),.cells (oN ⟨f,ws⟩),.cells [.str s,.int .i64 p]]) T
     cases jC:okW s with
     |false=>
      rw[jC] at c ny;refine ae λK hK=>?_;simp(disch:=omega) ;refine ak (c) ?_;simp(disch:=omega) ;apply hK;apply aH rfl;apply ae;intro K Z;simp(disch:=omega);apply Z;apply az;simp(disch:=omega) ;rw[<-hq,lZ hk (U8 k gB (by rw[ny];rfl))]
     |true=>
     rw[jC] at c ny
     by_cases h6:p<=lw
     ·have b6:decide (p<=lw)=true:=agH h6;refine ae λK hK=>?_;simp(disch:=omega) ;refine ak (c) ?_;simp(disch:=omega)[b6,h6];apply hK;apply aH rfl;apply ae;intro K Z;simp(disch:=omega);apply Z;apply az;simp(disch:=omega) ;rw[<-hq,lZ hk (U8 k gB (by rw[ny,agI (by omega:¬lw<p)];rfl))]
     have b6:decide (p<=lw)=false:=agI h6
     by_cases h7:1000000<p
     ·have b7:decide (1000000<p)=true:=agH h7;refine ae λK hK=>?_;simp(disch:=omega) ;refine ak (c) ?_;simp(disch:=omega)[b6,h6,b7,h7];apply hK;apply aH rfl;apply ae;intro K Z;simp(disch:=omega);apply Z;apply az;simp(disch:=omega) ;rw[<-hq,lZ hk (U8 k gB (by rw[ny,agI (by omega:¬p<=1000000)];simp))]
     have b7:decide (1000000<p)=false:=agI h7;refine ae λK hK=>?_;simp(disch:=omega) ;refine ak (c) ?_;simp(disch:=omega)[b6,h6,b7,h7];apply hK;apply aF rfl;apply aq;simp(disch:=omega) ;apply Q4;clear Q4;refine aC λK hK=>?_;simp(disch:=omega) ;apply hK;apply oe;clear oe;refine aC λK hK=>?_;simp(disch:=omega) ;apply hK;refine⟨k+1,⟨by show k+1<=_;omega,λj hj=>?_⟩,by show ws.length-(k+1)<ws.length-k;omega,?_⟩
     ·rcases agM j k with h|h
      ·exact k2 j h
      ·have:j=k:=by omega
       subst this;rw[ny,agH (by omega:lw<p),agH (by omega:p<=1000000)];rfl
     ·refine ag [.cells [.str s,.int .i64 p]] [] ?_ ?_ ?_ ?_ fj ?_
      all_goals simp[uT]
    ·simp  at gB;apply aG;simp(disch:=omega) ;apply bG;clear bG;refine aC λK hK=>?_;simp(disch:=omega) ;apply hK;refine⟨i+1,⟨by show i+1<=_;omega,λj hj=>?_⟩,by show zs.length-(i+1)<zs.length-i;omega,?_⟩
     ·rcases agM j i with h|h
      ·exact g2 j h
      ·have:j=i:=by omega
       subst this;exact C7 (by omega) (by omega) h5 (λk hk=>k2 k (by omega))
     ·refine ag [.cells (oN ⟨f,ws⟩)] [] ?_ ?_ ?_ ?_ eV ?_
      all_goals simp[AQ]
  ·simp  at hk;apply aG;simp(disch:=omega) ;apply aP;clear aP;refine af λK1 aP=>?_;apply ae;intro K Z;simp(disch:=omega);apply Z;apply aj;refine aJ (X:=Nat) (λi=>⟨[(1,.ptr H.length 0),(70,.sl ns.length (bA ns) .none),(71,.int .i64 (ns.length:Nat)),(72,.int .i64 (i:Nat))],H++[.cells (dO ⟨id,zs,ns⟩)],T⟩)
    (λi=>i<=ns.length/\∀j,j<i->qN ns j=true) (λi=>ns.length-i) 0 ?_ ?_ ?_
   ·exact⟨agP _,λj hj=>absurd hj (ag9 _)⟩
   ·refine ag [] [] ?_ ?_ ?_ ?_ eV ?_
    all_goals simp
   ·rintro m ⟨m1,m2⟩;apply ae;intro K Z;simp(disch:=omega);apply Z;refine af λK2 bp=>?_;refine aU rfl (λfX=>?_) (λfX=>?_)
    ·simp  at fX;have yC:=gV ns m fX;have ny:qN ns m=(vH (ns.getD m n0)&&(decide (m=0)||dh (ns.getD (m-1) n0) (ns.getD m n0))):=rfl;have cn:=λH T=>Pb (ns.getD (m-1) n0) (ns.getD m n0) H T;have od:=I7 (ns.getD (m-1) n0) (ns.getD m n0);generalize wK (ns.getD (m-1) n0) (ns.getD m n0)=cq at *;have FW:=λh=>gV ns (m-1) h;generalize ns.getD (m-1) n0=y at *;generalize UT:ns.getD m n0=x at *;obtain⟨x1,x2⟩:=x;obtain⟨y1,y2⟩:=y;simp only at yC FW;apply aq;simp(disch:=omega) ;apply bp;clear bp;refine af λK3 bG=>?_;apply aj;refine ae λK hK=>?_;simp(disch:=omega)[yC,cL];apply hK;refine aK [] [] [] aw (by kernel_rfl) (by kernel_rfl) λK hK=>?_;have key:∀e b,b=qN ns m->bC H.length.succ T.length e [(1,.ptr H.length 0),(70,.sl ns.length (bA ns) .none),(71,.int .i64 (ns.length:Nat)),(72,.int .i64 (m:Nat)),(109,.bool (!b))]->K ⟨e,H++[.cells (dO ⟨id,zs,ns⟩),.cells [.int .i64 x1,.int .i64 x2]],T⟩:=by
      intro e b hb he;refine hK _ (aI ⟨[(1,.ptr H.length 0),(70,.sl ns.length (bA ns) .none),(71,.int .i64 (ns.length:Nat)),(72,.int .i64 (m:Nat)),(109,.bool (!b))],H++[.cells (dO ⟨id,zs,ns⟩)],T⟩ (ag [.cells [.int .i64 x1,.int .i64 x2]] [] (by simp) (by simp) (by simp) (by simp) eV (by simpa using he)) ?_)
      cases b with
      |false=>
       apply aH rfl;apply ae;intro K Z;simp(disch:=omega);apply Z;apply az;simp(disch:=omega) ;rw[<-hq,Dk fX hb.symm]
      |true=>
       apply aF rfl;apply aq;simp(disch:=omega) ;apply bG;clear bG;refine aC λK hK=>?_;simp(disch:=omega) ;apply hK;refine⟨m+1,⟨by show m+1<=_;omega,λj hj=>?_⟩,by show ns.length-(m+1)<ns.length-m;omega,?_⟩
       ·rcases agM j m with h|h
        ·exact m2 j h
        ·have:j=m:=by omega
         subst this;exact hb.symm
       ·refine ag [] [] ?_ ?_ ?_ ?_ eV ?_
        all_goals simp
     clear hK;have c:=cn (H++[.cells (dO ⟨id,zs,ns⟩),.cells [.int .i64 x1,.int .i64 x2]]) T;have ebv:¬((5<=x1/\x1<=7)/\0<=x2/\x2<=1000000000000)->qN ns m=false:=λh=>by
      have:vH (x1,x2)=false:=by
       unfold vH;simp only[ai1,ahX];rcases Classical.em (5<=x1/\x1<=7) with h'|h'
       ·exact .inr λh2=>h ⟨h',h2⟩
       ·exact .inl h'
      rw[ny,this];rfl
     by_cases v1:x1<5
     ·have w1:decide (x1<5)=true:=agH v1;simp(disch:=omega)[w1,v1];refine key _ false (ebv (by omega)).symm (by simp)
     have w1:decide (x1<5)=false:=agI v1
     by_cases v2:7<x1
     ·have w2:decide (7<x1)=true:=agH v2;simp(disch:=omega)[w1,v1,w2,v2];refine key _ false (ebv (by omega)).symm (by simp)
     have w2:decide (7<x1)=false:=agI v2
     by_cases v3:x2<0
     ·have w3:decide (x2<0)=true:=agH v3;simp(disch:=omega)[w1,v1,w2,v2,w3,v3];refine key _ false (ebv (by omega)).symm (by simp)
     have w3:decide (x2<0)=false:=agI v3
     by_cases v4:1000000000000<x2
     ·have w4:decide (1000000000000<x2)=true:=agH v4;simp(disch:=omega)[w1,v1,w2,v2,w3,v3,w4,v4];refine key _ false (ebv (by omega)).symm (by simp)
     have w4:decide (1000000000000<x2)=false:=agI v4;have eo:vH (x1,x2)=true:=by
      unfold vH;rw[agH (by omega:5<=x1/\x1<=7),agH (by omega:0<=x2/\x2<=1000000000000)];rfl
     rw[eo,ahM] at ny;rcases ahc m with h5|h5
     ·subst h5;simp(disch:=omega)[w1,v1,w2,v2,w3,v3,w4,v4];refine key _ true (by rw[ny];rfl) (by simp)
     ·have e6:((m:Int)-1)=((m-1:Nat):Int):=by omega
      have b5:decide ((0:Int)<(m:Int))=true:=agH (by omega);have tS:=FW (by omega);rw[agI (by omega:¬m=0),aim] at ny
      cases aZ:dh (y1,y2) (x1,x2) with
      |false=>
       have b7:decide (0<=cq)=true:=agH (od.2 aZ);have n7:=od.2 aZ;rw[aZ] at ny;simp(disch:=omega)[w1,v1,w2,v2,w3,v3,w4,v4,b5,h5,e6,tS,cL];refine aD (c) rfl ?_;simp(disch:=omega)[b7,n7];refine key _ false ny.symm (by simp)
      |true=>
       have n7:¬0<=cq:=λe=>by rw[od.1 e] at aZ;cases aZ
       have b7:decide (0<=cq)=false:=agI n7;rw[aZ] at ny;simp(disch:=omega)[w1,v1,w2,v2,w3,v3,w4,v4,b5,h5,e6,tS,cL];refine aD (c) rfl ?_;simp(disch:=omega)[b7,n7];refine key _ true ny.symm (by simp)
    ·simp  at fX;apply aG;simp(disch:=omega) ;apply aP;clear aP;apply ae;intro K Z;simp(disch:=omega);apply Z;apply az;simp(disch:=omega) ;rw[<-hq,va (by simp only;omega) (λi hi=>g2 i (by simp only at hi;omega)) (λi hi=>m2 i (by simp only at hi;omega))]
end Go.Proofs.YtoejlmpbebjemaaGreat
namespace eN
open Vb
structure re (l l':List Dc):Prop where
 perm:l'.Perm l
 ord:l'.Pairwise λx y=>x.id<=y.id
def re.len {l l':List Dc}(h:re l l'):l'.length=l.length:=h.perm.length_eq
def re.nil:re [] []:=⟨.refl _,.nil⟩
def idx (l:List Dc):List GE:=(List.range l.length).map λi=>(i,l.getD i d0)
def sO (l:List Dc):(idx l).length=l.length:=by simp[idx]
def I1 (l:List Dc){i:Nat}(hi:i<l.length):(idx l).getD i ze=(i,l.getD i d0):=by
 rw[agB,agD (by rw[sO];exact hi)];simp[idx]
def BB (l:List Dc):(idx l).map (·.2)=l:=by
 apply aiy
 ·simp[idx]
 ·intro i h1 h2;simp only[idx,ahv,ai9];rw[agB,agD h2];rfl
end eN
namespace Go.Proofs.YtoejlmpbebjemaaGreat
open Go.Proofs.Tryz(prog)
open Go Go.Am ia eN Vb
def xU {P:Dc->Prop}{g:Nat}(hg:Gk P g)(l:List Dc)(hP:∀d∈l,P d)(rest:List AV)(i:Nat)(hl:l.length<=19)(H:List aA)(T:au)(hi:H[i]?=some (.cells (aN l++rest)))(hr:aM H.length T.length rest) :
  ar prog 91 [.cN i 0 l.length,.fn g [] []] H T (λr H' T'=>r=.df []/\T'=T/\∃l',H'=H.set i (.cells (aN l'++rest))/\re l l'):=by
 have hm:lM (idx l)=aN l:=by rw[Ea,BB]
 have hw:Wg (idx l) 0 (idx l).length:=λp q _ h2 h3=>by
  rw[sO] at h3;rw[I1 l (by omega),I1 l h3];exact agH h2
 have c:=Kr hg (idx l).length (by rw[sO];exact hl) (idx l) (λe he=>hP _ (by rw[<-BB l];exact agG.2 ⟨e,he,rfl⟩)) rest i rfl hw H T (by rw[hm];exact hi) hr;rw[sO] at c;refine ah 3 [] Tryz.ntmps91 Tryz.func91 rfl (λ_ _=>Tryz.call91 _ _) (by simp) (λHO=>?_);refine aC λK hK=>?_;simp(disch:=omega)[-getD_eq_getElem?_getD];refine⟨_,c,?_⟩;rintro v H' T' ⟨rfl,rfl,d',rfl,k1,k2⟩;simp(disch:=omega)[-getD_eq_getElem?_getD];apply hK;refine⟨rfl,rfl,d'.map (·.2),by rw[Ea],?_,?_⟩
 ·have:=k1.perm.map (·.2)
  rwa [BB] at this
 ·rw[ahj,ag8];intro a b ha hb jK;have hlen:=k1.len;rw[sO] at hlen;have:=Uv (k2 a b (agP _) jK (by omega));rw[agB,agB,agD ha,agD hb] at this;simp only[aie,ky] at this;omega
attribute [-simp] getD_eq_getElem?_getD in
def EW (g:Nat)(H:List aA)(T:au)(tg:Tag) :
  ar prog 91 [.sl 0 [] tg,.fn g [] []] H T (Is (.df []) H T):=by
 refine ar.cF ?_;have c1:ar prog 185 [.sl 0 [] .none,.int .i64 0,.int .i64 0,.fn g [] []] H T (Is (.df []) H T):=by
  refine ah 10 [] Tryz.ntmps185 Tryz.func185 rfl (λ_ _=>Tryz.call185 _ _) (by simp) (λHO=>?_);apply ae;intro K Z;simp(disch:=omega);apply Z;apply aj;refine aJ (X:=Unit) (λ_=>⟨[(2,.int .i64 0),(8,.int .i64 1)],H,T⟩) (λ_=>True) (λ_=>0) () trivial ?_ ?_
  ·refine ag [] [] ?_ ?_ ?_ ?_ HO ?_
   all_goals simp
  ·rintro _ _;refine af λK2 bp=>?_;apply ae;intro K Z;simp(disch:=omega);apply Z;apply aF rfl;apply aG;simp(disch:=omega) ;exact⟨rfl,rfl,rfl⟩
 have c:ar prog 156 [.sl 0 [] .none,.int .i64 0,.fn g [] []] H T (Is (.df []) H T):=by
  refine ah 10 [] Tryz.ntmps156 Tryz.func156 rfl (λ_ _=>Tryz.call156 _ _) (by simp) (λHO=>?_);apply ae;intro K Z;simp(disch:=omega);apply Z;apply ae;intro K Z;simp(disch:=omega);apply Z;refine af λK1 aP=>?_;apply aj;refine aJ (X:=Unit) (λ_=>⟨[(0,.sl 0 [] .none),(1,.int .i64 0),(2,.fn g [] []),(6,.int .i64 20),(7,.int .i64 0),(8,.int .i64 20)],H,T⟩) (λ_=>True) (λ_=>0) () trivial ?_ ?_
  ·refine ag [] [] ?_ ?_ ?_ ?_ HO ?_
   all_goals simp
  ·rintro _ _;refine af λK2 bp=>?_;apply ae;intro K Z;simp(disch:=omega);apply Z;apply aF rfl;apply aG;simp(disch:=omega) ;apply aP;clear aP;refine ae λK hK=>?_;simp(disch:=omega) ;refine ak (c1) ?_;simp(disch:=omega) ;apply hK;apply aj;refine aJ (X:=Unit) (λ_=>⟨[(1,.int .i64 0),(6,.int .i64 20)],H,T⟩) (λ_=>True) (λ_=>0) () trivial ?_ ?_
   ·refine ag [] [] ?_ ?_ ?_ ?_ HO ?_
    all_goals simp
   ·rintro _ _;refine af λK3 bG=>?_;apply ae;intro K Z;simp(disch:=omega);apply Z;apply aF rfl;apply aG;simp(disch:=omega) ;exact⟨rfl,rfl,rfl⟩
 refine ah 3 [] Tryz.ntmps91 Tryz.func91 rfl (λ_ _=>Tryz.call91 _ _) (by simp) (λHO=>?_);refine aC λK hK=>?_;simp(disch:=omega) ;refine ak (c) ?_;simp(disch:=omega) ;apply hK;exact⟨rfl,rfl,rfl⟩
attribute [-simp] getD_eq_getElem?_getD in
def L7 (l:List Dc)(h0:l≠[])(hl:l.length<=1000)(H:List aA)(T:au)(tg:Tag) :
  ar prog 122 [.sl l.length (aN l) tg] H T (λr H' T'=>T'=T/\∃k,H'=H++[.cells (aN l++List.replicate k .top)]/\r=.cN H.length 0 l.length):=by
 refine ar.cF ?_;have eO:0<l.length:=ahN.2 h0;have dN:¬l=[]:=h0;have hlen:=bf l;have hd:¬aN l=[]:=λe=>by rw[e] at hlen;simp at hlen;omega
 refine ah 3 [7] Tryz.ntmps122 Tryz.func122 rfl (λ_ _=>Tryz.call122 _ _) (by simp) (λHO=>?_);apply ae;intro K Z;simp(disch:=omega);apply Z;refine af λK1 aP=>?_;refine ae λK hK=>?_;simp(disch:=omega) ;refine⟨?_,λhe=>absurd he (by first|exact dN|exact hd)⟩;apply hK;apply aF rfl;apply aq;simp(disch:=omega) ;apply aP;clear aP;refine ae λK hK=>?_;simp(disch:=omega)[dj,bf,eO];intro k;apply hK;apply az;simp(disch:=omega) 
attribute [-simp] getD_eq_getElem?_getD in
def HM (H:List aA)(T:au)(tg:Tag) :
  ar prog 122 [.sl 0 [] tg] H T (Is (.sl 0 [] .none) H T):=by
 refine ar.cF ?_;refine ar.bZ ?_ (by simp);refine ah 3 [] Tryz.ntmps122 Tryz.func122 rfl (λ_ _=>Tryz.call122 _ _) (by simp) (λHO=>?_);apply ae;intro K Z;simp(disch:=omega);apply Z;refine af λK1 aP=>?_;refine ae λK hK=>?_;simp(disch:=omega) 
 constructor
 ·apply hK;apply aF rfl;apply aq;simp(disch:=omega) ;apply aP;clear aP;refine ae λK hK=>?_;simp(disch:=omega)[dj];apply hK;apply az;simp(disch:=omega) 
 ·apply hK;apply aH rfl;apply ae;intro K Z;simp(disch:=omega);apply Z;apply az;simp(disch:=omega) 
attribute [-simp] getD_eq_getElem?_getD in
def Tp (d:Dc)(hs:oY d)(H:List aA)(T:au):ar prog 126 [.agg (dO d)] H T (Is (.bool (!aS d)) H T):=by
 refine ar.bZ ?_ (by simp);have c:=λH T=>BD d hs H T;generalize aS d=q at *;refine ah 3 [] Tryz.ntmps126 Tryz.func126 rfl (λ_ _=>Tryz.call126 _ _) (by simp) (λHO=>?_);apply ae;intro K Z;simp(disch:=omega);apply Z;refine ae λK hK=>?_;simp(disch:=omega) ;refine ak (c _ _) ?_;simp(disch:=omega) ;apply hK;apply az;simp(disch:=omega) 
attribute [-simp] getD_eq_getElem?_getD in
theorem LI (l:List Dc)(hl:l.length<=maxLen)(hs:∀d∈l,oY d)(H:List aA)(T:au) :
  ar prog 175 [.sl l.length (aN l) .none,.fn 126 [] []] H T (λr H' T'=>H'=H/\T'=T/\∃v:Int,r=.int .i64 v/\decide (0<=v)=l.any (λd=>!aS d)):=by
 have kC:maxLen<=9223372036854775807:=by decide
 have jJ:=agJ hl kC;generalize hq:l.any (λd=>!aS d)=q;refine ah 9 [] Tryz.ntmps175 Tryz.func175 rfl (λ_ _=>Tryz.call175 _ _) (by simp) (λHO=>?_);apply ae;intro K Z;simp(disch:=omega);apply Z;refine af λK1 aP=>?_;apply ae;intro K Z;simp(disch:=omega);apply Z;apply aj;refine aJ (X:=Nat) (λk=>⟨[(0,.sl l.length (aN l) .none),(1,.fn 126 [] []),(7,.int .i64 (l.length:Nat)),(8,.int .i64 (k:Nat))],H,T⟩) (λk=>k<=l.length/\∀j,j<k->aS (l.getD j d0)=true) (λk=>l.length-k) 0 ?_ ?_ ?_
 ·exact⟨agP _,λj hj=>absurd hj (ag9 _)⟩
 ·refine ag [] [] ?_ ?_ ?_ ?_ HO ?_
  all_goals simp
 ·rintro k ⟨h1,h2⟩;apply ae;intro K Z;simp(disch:=omega);apply Z;refine af λK2 bp=>?_;refine aU rfl (λhk=>?_) (λhk=>?_)
  ·simp  at hk;have bu:=fC l k hk;have hm:=aT l k d0 hk;have c:=Tp (l.getD k d0) (hs _ hm) H T;apply aq;simp(disch:=omega) ;apply bp;clear bp;refine af λK3 bG=>?_;apply aj;apply ae;intro K Z;simp(disch:=omega);apply Z
   cases hb:aS (l.getD k d0) with
   |false=>
    rw[hb] at c;refine ae λK hK=>?_;simp(disch:=omega)[bu,bf];refine ak (c) ?_;simp(disch:=omega) ;apply hK;apply aH rfl;apply ae;intro K Z;simp(disch:=omega);apply Z;apply az;simp(disch:=omega) ;have:l.any (λd=>!aS d)=true:=aij.2 ⟨_,hm,by rw[hb];rfl⟩;rw[hq] at this;simp[this]
   |true=>
    rw[hb] at c;refine ae λK hK=>?_;simp(disch:=omega)[bu,bf];refine ak (c) ?_;simp(disch:=omega) ;apply hK;apply aF rfl;apply aq;simp(disch:=omega) ;apply bG;clear bG;refine aC λK hK=>?_;simp(disch:=omega) ;apply hK;refine⟨k+1,⟨by show k+1<=_;omega,λj hj=>?_⟩,by show l.length-(k+1)<l.length-k;omega,?_⟩
    ·rcases agM j k with h3|h3
     ·exact h2 j h3
     ·have:j=k:=by omega
      subst this;exact hb
    ·refine ag [] [] ?_ ?_ ?_ ?_ HO ?_
     all_goals simp
  ·simp  at hk;have hn:l.any (λd=>!aS d)=false:=by
    rw[aiv];intro p QT;obtain⟨j,hj,e⟩:=bK d0 QT;have:=h2 j (by omega);rw[e] at this;simp[this]
   apply aG;simp(disch:=omega) ;apply aP;clear aP;apply ae;intro K Z;simp(disch:=omega);apply Z;apply az;simp(disch:=omega) ;rw[hq] at hn;simp[hn]
attribute [-simp] getD_eq_getElem?_getD in
def B4 (l:List Dc)(hl:l.length<=maxLen)(hs:∀d∈l,oY d)(H:List aA)(T:au)(tg:Tag) :
  ar prog 125 [.sl l.length (aN l) tg,.fn 126 [] []] H T (Is (.bool (l.any (λd=>!aS d))) H T):=by
 refine ar.cF ?_;have c:=LI l hl hs H T;generalize l.any (λd=>!aS d)=q at *;refine ah 5 [] Tryz.ntmps125 Tryz.func125 rfl (λ_ _=>Tryz.call125 _ _) (by simp) (λHO=>?_);apply ae;intro K Z;simp(disch:=omega);apply Z;refine ae λK hK=>?_;simp(disch:=omega) ;refine⟨_,c,?_⟩;rintro r H' T' ⟨rfl,rfl,v,rfl,hv⟩;simp(disch:=omega)[hv];apply hK;apply az;simp(disch:=omega) ;exact⟨rfl,rfl,rfl⟩
end Go.Proofs.YtoejlmpbebjemaaGreat
