/- Comparing numbers, strings, terms, items. Valid documents (layer 37). Valid documents: the program's test (layer 37). Copies of lists of documents, sorting them by their IDs, testing them.
  Conditions: lengths below 400 or 1000, as each theorem says. -/
import Derived.Test.YtoejlmpbebjemaaGreatGA
import Derived.Test.YtoejlmpbebjemaaGreatGSi
set_option linter.all false
set_option maxRecDepth 100000
set_option maxHeartbeats 8000000

open List (getD_eq_getElem?_getD)
namespace im
def lX (x y:Int):Int:=if x<y then -1 else if y<x then 1 else 0
def wU (a b:wO):Int:=if slt a b=true then -1 else if slt b a=true then 1 else 0
def qE (x y:Int):lX x y=0↔x=y:=by unfold lX;split<;>(try split)<;>omega
def pY (x y:Int):lX x y<0↔x<y:=by unfold lX;split<;>(try split)<;>omega
def QR (a b:wO):wU a b<0↔slt a b=true:=by
 unfold wU
 split
 ·rename_i h;simp[h]
 ·rename_i h;split<;>simp[h]
theorem Uj (a b:wO):slt b a=(!(slt a b||a==b)):=by
 cases h1:slt a b with
 |true=>rw[uD _ _ h1];rfl
 |false=>
  cases h2:slt b a with
  |true=>have:=Bp h2;simp[Ne.symm this]
  |false=>rw[lF _ _ h1 h2];simp
def MV (a b:wO):wU a b=0↔a=b:=by
 unfold wU
 split
 ·rename_i h;simp[Bp h]
 ·rename_i h;split
  ·rename_i h2;simp[Ne.symm (Bp h2)]
  ·rename_i h2;simp only[true_iff];exact lF _ _ (by simpa using h) (by simpa using h2)
end im
namespace Go.Proofs.YtoejlmpbebjemaaGreat
open Go.Proofs.Tryz(prog)
open Go Go.Am im
attribute [-simp] getD_eq_getElem?_getD in
def mq (x y:Int)(H:List az)(T:au):ar prog 124 [.int .i64 x,.int .i64 y] H T (Is (.int .i64 (lX x y)) H T):=by
 have n1:∀z,ar prog 174 [.int .i64 z] H T (Is (.bool false) H T):=λz=>by
  refine ah 3 [] Tryz.ntmps174 Tryz.func174 rfl (λ_ _=>Tryz.call174 _ _) (by simp) (λHO=>?_);apply ae;intro K Z;simp(disch:=omega);apply Z;apply ae;intro K Z;simp(disch:=omega);apply Z;apply ay;simp(disch:=omega) ;exact⟨rfl,rfl,rfl⟩
 generalize hq:lX x y=q;refine ah 7 [] Tryz.ntmps124 Tryz.func124 rfl (λ_ _=>Tryz.call124 _ _) (by simp) (λHO=>?_);apply ae;intro K Z;simp(disch:=omega);apply Z;refine ae λK hK=>?_;simp(disch:=omega) ;refine ak (n1 x) ?_;simp(disch:=omega) ;apply hK;refine ae λK hK=>?_;simp(disch:=omega) ;refine ak (n1 y) ?_;simp(disch:=omega) ;apply hK;refine af λK1 aO=>?_;apply ae;intro K Z;simp(disch:=omega);apply Z;apply aD rfl;apply aq;simp(disch:=omega) ;apply aO;clear aO;refine af λK1 aO=>?_;apply ae;intro K Z;simp(disch:=omega);apply Z;apply aD rfl;apply aq;simp(disch:=omega) ;apply aO;clear aO;refine af λK1 aO=>?_
 by_cases h1:x<y
 ·have b1:decide (x<y)=true:=ahm h1;refine ae λK hK=>?_;simp(disch:=omega)[b1,h1];apply hK;apply aG rfl;apply ae;intro K Z;simp(disch:=omega);apply Z;apply ay;simp(disch:=omega) ;rw[<-hq,lX,ahs h1];exact⟨rfl,rfl,rfl⟩
 ·have b1:decide (x<y)=false:=ahn h1;refine ae λK hK=>?_;simp(disch:=omega)[b1,h1];apply hK;apply aD rfl;apply aq;simp(disch:=omega) ;apply aO;clear aO;refine af λK1 aO=>?_
  by_cases h2:y<x
  ·have b2:decide (y<x)=true:=ahm h2;refine ae λK hK=>?_;simp(disch:=omega)[b2,h2];apply hK;apply aG rfl;apply ae;intro K Z;simp(disch:=omega);apply Z;apply ay;simp(disch:=omega) ;rw[<-hq,lX,ahq h1,ahs h2];exact⟨rfl,rfl,rfl⟩
  ·have b2:decide (y<x)=false:=ahn h2;refine ae λK hK=>?_;simp(disch:=omega)[b2,h2];apply hK;apply aD rfl;apply aq;simp(disch:=omega) ;apply aO;clear aO;apply ae;intro K Z;simp(disch:=omega);apply Z;apply ay;simp(disch:=omega) ;rw[<-hq,lX,ahq h1,ahq h2];exact⟨rfl,rfl,rfl⟩
attribute [-simp] getD_eq_getElem?_getD in
theorem QP (x y:wO)(H:List az)(T:au):ar prog 168 [.str x,.str y] H T (Is (.int .i64 (wU x y)) H T):=by
 have n1:∀z,ar prog 200 [.str z] H T (Is (.bool false) H T):=λz=>by
  refine ah 3 [] Tryz.ntmps200 Tryz.func200 rfl (λ_ _=>Tryz.call200 _ _) (by simp) (λHO=>?_);apply ae;intro K Z;simp(disch:=omega);apply Z;apply ae;intro K Z;simp(disch:=omega);apply Z;apply ay;simp(disch:=omega) ;exact⟨rfl,rfl,rfl⟩
 have UO:=Uj x y;generalize hq:wU x y=q;refine ah 7 [] Tryz.ntmps168 Tryz.func168 rfl (λ_ _=>Tryz.call168 _ _) (by simp) (λHO=>?_);apply ae;intro K Z;simp(disch:=omega);apply Z;refine ae λK hK=>?_;simp(disch:=omega) ;refine ak (n1 x) ?_;simp(disch:=omega) ;apply hK;refine ae λK hK=>?_;simp(disch:=omega) ;refine ak (n1 y) ?_;simp(disch:=omega) ;apply hK;refine af λK1 aO=>?_;apply ae;intro K Z;simp(disch:=omega);apply Z;apply aD rfl;apply aq;simp(disch:=omega) ;apply aO;clear aO;refine af λK1 aO=>?_;apply ae;intro K Z;simp(disch:=omega);apply Z;apply aD rfl;apply aq;simp(disch:=omega) ;apply aO;clear aO;refine af λK1 aO=>?_;unfold slt at UO
 cases h1:Op.bytesLess x y with
 |true=>
  refine ae λK hK=>?_;simp(disch:=omega)[h1];apply hK;apply aG rfl;apply ae;intro K Z;simp(disch:=omega);apply Z;apply ay;simp(disch:=omega) ;rw[<-hq,wU,ahs h1];exact⟨rfl,rfl,rfl⟩
 |false=>
  refine ae λK hK=>?_;simp(disch:=omega)[h1];apply hK;apply aD rfl;apply aq;simp(disch:=omega) ;apply aO;clear aO;refine af λK1 aO=>?_;rw[h1,ai2] at UO
  cases h2:(x==y) with
  |false=>
   rw[h2] at UO;refine ae λK hK=>?_;simp(disch:=omega)[h1,h2];apply hK;apply aG rfl;apply ae;intro K Z;simp(disch:=omega);apply Z;apply ay;simp(disch:=omega) ;rw[<-hq,wU,ahq (by simp[slt,h1]),ahs (show slt y x=true from UO)];exact⟨rfl,rfl,rfl⟩
  |true=>
   rw[h2] at UO;refine ae λK hK=>?_;simp(disch:=omega)[h1,h2];apply hK;apply aD rfl;apply aq;simp(disch:=omega) ;apply aO;clear aO;apply ae;intro K Z;simp(disch:=omega);apply Z;apply ay;simp(disch:=omega) ;rw[<-hq,wU,ahq (by simp[slt,h1]),ahq (by simp[slt,UO])];exact⟨rfl,rfl,rfl⟩
def Gh:List Int->Int
 |[]=>0
 |x::r=>if x=0 then Gh r else x
theorem Ec:∀(l:List Int)(k:Nat),(∀j,j<k->l.getD j 0=0)->k<=l.length->Gh l=Gh (l.drop k):=by
 intro l
 induction l with
 |nil=>intro k _ _;simp
 |cons x r ih=>
  intro k h hk
  cases k with
  |zero=>rfl
  |succ k=>
   have h0:x=0:=h 0 (by omega);rw[Gh,ahs h0,ih k (λj hj=>h (j+1) (by omega)) (by simpa using hk)];rfl
attribute [-simp] getD_eq_getElem?_getD in
def GU (l:List Int)(hl:l.length<=1000)(H:List az)(T:au)(tg:Tag):ar prog 167 [.sl l.length (ints l) tg] H T (Is (.int .i64 (Gh l)) H T):=by
 refine ar.cg ?_;generalize hq:Gh l=q;refine ah 9 [] Tryz.ntmps167 Tryz.func167 rfl (λ_ _=>Tryz.call167 _ _) (by simp) (λHO=>?_);apply ae;intro K Z;simp(disch:=omega);apply Z;apply ae;intro K Z;simp(disch:=omega);apply Z;refine af λK1 aO=>?_;apply ae;intro K Z;simp(disch:=omega);apply Z;apply aj;refine aI (X:=Nat) (λk=>⟨[(0,.sl l.length (ints l) .none),(3,.int .i64 0),(6,.sl l.length (ints l) .none),(7,.int .i64 (l.length:Nat)),(8,.int .i64 (k:Nat))],H,T⟩) (λk=>k<=l.length/\∀j,j<k->l.getD j 0=0) (λk=>l.length-k) 0 ?_ ?_ ?_
 ·exact⟨ahu _,λj hj=>absurd hj (ahO _)⟩
 ·refine ag [] [] ?_ ?_ ?_ ?_ HO ?_
  all_goals simp
 ·rintro k ⟨h1,h2⟩;apply ae;intro K Z;simp(disch:=omega);apply Z;refine af λK2 bc=>?_;refine aT rfl (λhk=>?_) (λhk=>?_)
  ·simp  at hk;have hg:=bI (xs:=l) (k:=k) hk;have hd:Gh l=Gh (l.getD k 0::l.drop (k+1)):=by
    rw[Ec l k h2 (by omega),aiK hk,ahg,ahi hk];rfl
   apply aq;simp(disch:=omega) ;apply bc;clear bc;refine af λK3 bD=>?_;apply aj;refine ae λK hK=>?_;simp(disch:=omega)[hg];apply hK
   by_cases hc:l.getD k 0=0
   ·have b:(l.getD k 0!=0)=false:=by rw[hc];rfl
    refine ae λK hK=>?_;simp(disch:=omega)[b,hc];apply hK;apply aD rfl;apply aq;simp(disch:=omega) ;apply bD;clear bD;refine aB λK hK=>?_;simp(disch:=omega) ;apply hK;refine⟨k+1,⟨by show k+1<=_;omega,λj hj=>?_⟩,by show l.length-(k+1)<l.length-k;omega,?_⟩
    ·rcases ahr j k with h3|h3
     ·exact h2 j h3
     ·have:j=k:=by omega
      subst this;exact hc
    ·refine ag [] [] ?_ ?_ ?_ ?_ HO ?_
     all_goals simp
   ·have b:(l.getD k 0!=0)=true:=bne_iff_ne.2 hc;refine ae λK hK=>?_;simp(disch:=omega)[b,hc];apply hK;apply aG rfl;apply ae;intro K Z;simp(disch:=omega);apply Z;apply ay;simp(disch:=omega) ;rw[<-hq,hd,Gh,ahq hc];exact⟨rfl,rfl,rfl⟩
  ·simp  at hk;have e:k=l.length:=by omega
   subst e;apply aF;simp(disch:=omega) ;apply aO;clear aO;apply ae;intro K Z;simp(disch:=omega);apply Z;apply ay;simp(disch:=omega) ;rw[<-hq,Ec l l.length h2 (ahj _),aim];exact⟨rfl,rfl,rfl⟩
end Go.Proofs.YtoejlmpbebjemaaGreat
namespace eT
open im Go.Proofs.YtoejlmpbebjemaaGreat
def dh (a b:Nm):Bool:=decide (a.1<b.1)||(decide (a.1=b.1)&&decide (a.2<b.2))
def wV (a b:Nm):Int:=Gh [lX a.1 b.1,lX a.2 b.2]
def V6 (x y:Int):Gh [x,y]=if x=0 then y else x:=by
 unfold Gh;split
 ·unfold Gh;split
  ·rename_i h;unfold Gh;exact h.symm
  ·rfl
 ·rfl
def EX (a b:Nm):wV a b<0↔dh a b=true:=by
 have h1:=qE a.1 b.1;have h2:=pY a.1 b.1;have h3:=pY a.2 b.2;unfold wV dh;rw[V6];simp only[aic,aht,ahv]
 split
 ·rename_i h;rw[h3];have:=h1.1 h;omega
 ·rename_i h;rw[h2];have:¬a.1=b.1:=λe=>h (h1.2 e);omega
theorem JT (a b:Nm):0<=wV a b↔dh a b=false:=by
 have:=EX a b
 cases h:dh a b with
 |true=>have:=this.2 h;simp;omega
 |false=>rw[h] at this;simp at this;simp;exact this
abbrev Ky:=Int×Bs
def bP (a b:Ky):Bool:=decide (a.1<b.1)||(decide (a.1=b.1)&&slt a.2 b.2)
def rI (a b:Ky):Int:=Gh [lX a.1 b.1,wU a.2 b.2]
def tK (a b:Ky):rI a b<0↔bP a b=true:=by
 have h1:=qE a.1 b.1;have h2:=pY a.1 b.1;have h3:=QR a.2 b.2;unfold rI bP;rw[V6];simp only[aic,aht,ahv]
 split
 ·rename_i h;rw[h3];have:=h1.1 h
  constructor
  ·exact λq=>.inr ⟨this,q⟩
  ·rintro (q|q)
   ·omega
   ·exact q.2
 ·rename_i h;rw[h2];have:¬a.1=b.1:=λe=>h (h1.2 e)
  constructor
  ·exact .inl
  ·rintro (q|q)
   ·exact q
   ·exact absurd q.1 this
def AR (a b:Ky):rI a b=0↔a=b:=by
 unfold rI;rw[V6]
 split
 ·rename_i h;rw[MV]
  constructor
  ·exact λq=>Prod.ext ((qE _ _).1 h) q
  ·rintro rfl;rfl
 ·rename_i h
  constructor
  ·exact λq=>absurd q h
  ·rintro rfl;exact absurd ((qE _ _).2 rfl) h
theorem Uk (a b:Ky):0<=rI a b↔bP a b=false:=by
 have:=tK a b
 cases h:bP a b with
 |true=>have:=this.2 h;simp;omega
 |false=>rw[h] at this;simp at this;simp;exact this
end eT
namespace Go.Proofs.YtoejlmpbebjemaaGreat
open Go Go.Am im eT
attribute [-simp] getD_eq_getElem?_getD in
def P7 (x y:Nm)(H:List az)(T:au):ar Tryz.prog 120 [.agg [.int .i64 x.1,.int .i64 x.2],.agg [.int .i64 y.1,.int .i64 y.2]] H T (Is (.int .i64 (wV x y)) H T):=by
 refine ar.bV ?_ (by simp);have c1:=λH T=>mq x.1 y.1 H T;have c2:=λH T=>mq x.2 y.2 H T;unfold wV;generalize lX x.1 y.1=a at *;generalize lX x.2 y.2=b at *;have c4:=λH T=>GU [a,b] (by simp) H T;refine ah 5 [] Tryz.ntmps120 Tryz.func120 rfl (λ_ _=>Tryz.call120 _ _) (by simp) (λHO=>?_);apply ae;intro K Z;simp(disch:=omega);apply Z;refine aJ [] [] [] aw (by kernel_rfl) (by kernel_rfl) λK hK=>?_;simp(disch:=omega) ;refine aC (c1 _ _) rfl ?_;simp(disch:=omega) ;refine aC (c2 _ _) rfl ?_;simp(disch:=omega) ;refine aC (c4 _ _ _) rfl ?_;simp(disch:=omega) ;apply hK;apply ay;simp(disch:=omega) 
attribute [-simp] getD_eq_getElem?_getD in
def vE (x y:Nm)(H:List az)(T:au):ar Tryz.prog 114 [.agg [.int .i64 x.1,.int .i64 x.2],.agg [.int .i64 y.1,.int .i64 y.2]] H T (Is (.int .i64 (wV x y)) H T):=by
 refine ar.bV ?_ (by simp);have c1:=λH T=>mq x.1 y.1 H T;have c2:=λH T=>mq x.2 y.2 H T;unfold wV;generalize lX x.1 y.1=a at *;generalize lX x.2 y.2=b at *;have c4:=λH T=>GU [a,b] (by simp) H T;refine ah 5 [] Tryz.ntmps114 Tryz.func114 rfl (λ_ _=>Tryz.call114 _ _) (by simp) (λHO=>?_);apply ae;intro K Z;simp(disch:=omega);apply Z;refine aJ [] [] [] aw (by kernel_rfl) (by kernel_rfl) λK hK=>?_;simp(disch:=omega) ;refine aC (c1 _ _) rfl ?_;simp(disch:=omega) ;refine aC (c2 _ _) rfl ?_;simp(disch:=omega) ;refine aC (c4 _ _ _) rfl ?_;simp(disch:=omega) ;apply hK;apply ay;simp(disch:=omega) 
attribute [-simp] getD_eq_getElem?_getD in
def qF (x y:Ky)(u v:AV)(H:List az)(T:au):ar Tryz.prog 111 [.agg [.int .i64 x.1,.str x.2,u],.agg [.int .i64 y.1,.str y.2,v]] H T (Is (.int .i64 (rI x y)) H T):=by
 refine ar.bV ?_ (by simp);have c1:=λH T=>mq x.1 y.1 H T;have c2:=λH T=>QP x.2 y.2 H T;unfold rI;generalize lX x.1 y.1=a at *;generalize wU x.2 y.2=b at *;have c4:=λH T=>GU [a,b] (by simp) H T;refine ah 5 [] Tryz.ntmps111 Tryz.func111 rfl (λ_ _=>Tryz.call111 _ _) (by simp) (λHO=>?_);apply ae;intro K Z;simp(disch:=omega);apply Z;refine aJ [] [] [] aw (by kernel_rfl) (by kernel_rfl) λK hK=>?_;simp(disch:=omega) ;refine aC (c1 _ _) rfl ?_;simp(disch:=omega) ;refine aC (c2 _ _) rfl ?_;simp(disch:=omega) ;refine aC (c4 _ _ _) rfl ?_;simp(disch:=omega) ;apply hK;apply ay;simp(disch:=omega) 
attribute [-simp] getD_eq_getElem?_getD in
def Uo:GM (λ_=>True) 123:=by
 intro x y _ _ H T;refine⟨lX x.id y.id,?_,pY _ _⟩;refine ar.bV ?_ (by simp);have c1:=λH T=>mq x.id y.id H T;generalize lX x.id y.id=a at *;refine ah 5 [] Tryz.ntmps123 Tryz.func123 rfl (λ_ _=>Tryz.call123 _ _) (by simp) (λHO=>?_);apply ae;intro K Z;simp(disch:=omega);apply Z;refine ae λK hK=>?_;simp(disch:=omega) ;refine ak (c1 _ _) ?_;simp(disch:=omega) ;apply hK;apply ay;simp(disch:=omega) 
attribute [-simp] getD_eq_getElem?_getD in
def QW (x y:Int)(u v:AV)(H:List az)(T:au):ar Tryz.prog 154 [.agg [u,.int .i64 x],.agg [v,.int .i64 y]] H T (Is (.int .i64 (lX x y)) H T):=by
 refine ar.bV ?_ (by simp);have c1:=λH T=>mq x y H T;generalize lX x y=a at *;refine ah 5 [] Tryz.ntmps154 Tryz.func154 rfl (λ_ _=>Tryz.call154 _ _) (by simp) (λHO=>?_);apply ae;intro K Z;simp(disch:=omega);apply Z;refine ae λK hK=>?_;simp(disch:=omega) ;refine ak (c1 _ _) ?_;simp(disch:=omega) ;apply hK;apply ay;simp(disch:=omega) 
end Go.Proofs.YtoejlmpbebjemaaGreat
namespace eT
open im Go.Am
def iN (ws:List Wd)(k:Nat):Int:=if k=0 then -1 else (ws.getD (k-1) w0).2
def o7 (ws:List Wd)(k:Nat):Bool:=okW (ws.getD k w0).1&&(decide (iN ws k<(ws.getD k w0).2)&&decide ((ws.getD k w0).2<=1000000))
def V8 (ws:List Wd):Bool:=(List.range ws.length).all (o7 ws)
def iF (zs:List Zn)(i:Nat):Int:=if i=0 then 0 else (zs.getD (i-1) z0).f
def mJ (zs:List Zn)(i:Nat):Bool:=(decide (iF zs i<(zs.getD i z0).f)&&decide ((zs.getD i z0).f<=4))&&(decide ((zs.getD i z0).ws.length≠0)&&V8 (zs.getD i z0).ws)
def V7 (zs:List Zn):Bool:=(List.range zs.length).all (mJ zs)
def vQ (x:Nm):Bool:=decide (5<=x.1/\x.1<=7)&&decide (0<=x.2/\x.2<=1000000000000)
def qR (ns:List Nm)(i:Nat):Bool:=vQ (ns.getD i n0)&&(decide (i=0)||dh (ns.getD (i-1) n0) (ns.getD i n0))
def V9 (ns:List Nm):Bool:=(List.range ns.length).all (qR ns)
def aR (d:Dc):Bool:=decide (1<=d.id/\d.id<=1000000000)&&(V7 d.zs&&V9 d.ns)
structure o5 (d:Dc):Prop where
 z:d.zs.length<=Go.maxLen
 w:∀z∈d.zs,z.ws.length<=Go.maxLen/\∀w∈z.ws,w.1.length<=Go.maxLen
 n:d.ns.length<=Go.maxLen
def mR {n:Nat}{p:Nat->Bool}{k:Nat}(hk:k<n)(h:p k=false):(List.range n).all p=false:=by
 rw[List.all_eq_false];exact⟨k,ahI.2 hk,by simp[h]⟩
def iQ {n:Nat}{p:Nat->Bool}(h:∀j,j<n->p j=true):(List.range n).all p=true:=by
 rw[ahQ];intro j hj;exact h j (ahI.1 hj)
def oC {n:Nat}{p:Nat->Bool}(h:(List.range n).all p=true){j:Nat}(hj:j<n):p j=true:=by
 rw[ahQ] at h;exact h j (ahI.2 hj)
def qn {d:Dc}(h:¬(1<=d.id/\d.id<=1000000000)):aR d=false:=by
 unfold aR;rw[ahn h];rfl
def mg {d:Dc}{i:Nat}(hi:i<d.zs.length)(h:mJ d.zs i=false):aR d=false:=by
 unfold aR V7;rw[mR hi h];simp
def DN {d:Dc}{i:Nat}(hi:i<d.ns.length)(h:qR d.ns i=false):aR d=false:=by
 unfold aR V9;rw[mR hi h];simp
def vq {d:Dc}(h1:1<=d.id/\d.id<=1000000000)(h2:∀i,i<d.zs.length->mJ d.zs i=true)(h3:∀i,i<d.ns.length->qR d.ns i=true):aR d=true:=by
 unfold aR V7 V9;rw[ahm h1,iQ h2,iQ h3];rfl
theorem Eg {zs:List Zn}{i:Nat}(h:¬(iF zs i<(zs.getD i z0).f/\(zs.getD i z0).f<=4/\(zs.getD i z0).ws.length≠0)):mJ zs i=false:=by
 cases hk:mJ zs i with
 |false=>rfl
 |true=>
  unfold mJ at hk;simp only[aht,ahv] at hk;exact absurd ⟨hk.1.1,hk.1.2,hk.2.1⟩ h
def OQ {zs:List Zn}{i k:Nat}(hk:k<(zs.getD i z0).ws.length)(h:o7 (zs.getD i z0).ws k=false):mJ zs i=false:=by
 unfold mJ V8;rw[mR hk h];simp
def Ap {zs:List Zn}{i:Nat}(h1:iF zs i<(zs.getD i z0).f)(h2:(zs.getD i z0).f<=4)(h3:(zs.getD i z0).ws.length≠0)(h:∀k,k<(zs.getD i z0).ws.length->o7 (zs.getD i z0).ws k=true):mJ zs i=true:=by
 unfold mJ V8;rw[iQ h,ahm h1,ahm h2,ahm h3];rfl
end eT
namespace Go.Proofs.YtoejlmpbebjemaaGreat
open Go Go.Am im eT
attribute [-simp] getD_eq_getElem?_getD in
theorem B4 (d:Dc)(hs:o5 d)(H:List az)(T:au):ar Tryz.prog 66 [.agg (dP d)] H T (Is (.bool (aR d)) H T):=by
 refine ar.bV ?_ (by simp);have kH:maxLen<=9223372036854775807:=by decide
 obtain⟨id,zs,ns⟩:=d;obtain⟨hz,hw,hn⟩:=hs;simp only at hz hw hn ⊢;have hz':=aho hz kH;have Yv:=aho hn kH;generalize hq:aR ⟨id,zs,ns⟩=q;refine ah 73 [] Tryz.ntmps66 Tryz.func66 rfl (λ_ _=>Tryz.call66 _ _) (by simp) (λHO=>?_);apply ae;intro K Z;simp(disch:=omega);apply Z;refine af λK1 aO=>?_;have ff:bJ (H++[.cells (dP ⟨id,zs,ns⟩)]) T:=HO.snoc (by simp)
 by_cases h1:id<1
 ·have b1:decide (id<1)=true:=ahm h1;refine ae λK hK=>?_;simp(disch:=omega)[b1,h1];apply hK;apply aG rfl;apply ae;intro K Z;simp(disch:=omega);apply Z;apply ay;simp(disch:=omega) ;rw[<-hq,qn (by simp only;omega)]
 have b1:decide (id<1)=false:=ahn h1
 by_cases h2:1000000000<id
 ·have b2:decide (1000000000<id)=true:=ahm h2;refine ae λK hK=>?_;simp(disch:=omega)[b1,h1,b2,h2];apply hK;apply aG rfl;apply ae;intro K Z;simp(disch:=omega);apply Z;apply ay;simp(disch:=omega) ;rw[<-hq,qn (by simp only;omega)]
 have b2:decide (1000000000<id)=false:=ahn h2;refine ae λK hK=>?_;simp(disch:=omega)[b1,h1,b2,h2];apply hK;apply aD rfl;apply aq;simp(disch:=omega) ;apply aO;clear aO;apply ae;intro K Z;simp(disch:=omega);apply Z;refine af λK1 aO=>?_;apply ae;intro K Z;simp(disch:=omega);apply Z;apply aj;refine aI (X:=Nat) (λi=>⟨[(1,.ptr H.length 0),(3,.int .i64 (iF zs i)),(20,.sl zs.length (fu zs) .none),(21,.int .i64 (zs.length:Nat)),(22,.int .i64 (i:Nat))],H++[.cells (dP ⟨id,zs,ns⟩)],T⟩)
  (λi=>i<=zs.length/\∀j,j<i->mJ zs j=true) (λi=>zs.length-i) 0 ?_ ?_ ?_
 ·exact⟨ahu _,λj hj=>absurd hj (ahO _)⟩
 ·refine ag [] [] ?_ ?_ ?_ ?_ ff ?_
  all_goals simp[iF]
 ·rintro i ⟨g1,g2⟩;apply ae;intro K Z;simp(disch:=omega);apply Z;refine af λK2 bc=>?_;refine aT rfl (λhk=>?_) (λhk=>?_)
  ·simp  at hk;have hcut:=th zs i hk;obtain⟨hw1,hw2⟩:=hw _ (aS zs i z0 hk);have hl0:iF zs (i+1)=(zs.getD i z0).f:=by simp[iF]
   have qV:=Eg (zs:=zs) (i:=i);have VY:=λk=>OQ (zs:=zs) (i:=i) (k:=k);have DA:=Ap (zs:=zs) (i:=i);generalize u6:zs.getD i z0=z at *;obtain⟨f,ws⟩:=z;simp only at hcut hw1 hw2 hl0 qV VY DA;have hw':=aho hw1 kH;generalize hl:iF zs i=la at *;apply aq;simp(disch:=omega) ;apply bc;clear bc;refine af λK3 bD=>?_;apply aj;refine ae λK hK=>?_;simp(disch:=omega)[hcut,fV];apply hK;refine af λK4 lN=>?_;have fx:bJ (H++[.cells (dP ⟨id,zs,ns⟩),.cells (oR ⟨f,ws⟩)]) T:=by
    have:=bJ.snoc (vs:=oR ⟨f,ws⟩) ff (by simp);simpa using this
   by_cases h3:f<=la
   ·have b3:decide (f<=la)=true:=ahm h3;refine ae λK hK=>?_;simp(disch:=omega)[b3,h3];apply hK;apply aG rfl;apply ae;intro K Z;simp(disch:=omega);apply Z;apply ay;simp(disch:=omega) ;rw[<-hq,mg hk (qV (by omega))]
   have b3:decide (f<=la)=false:=ahn h3
   by_cases h4:4<f
   ·have b4:decide (4<f)=true:=ahm h4;refine ae λK hK=>?_;simp(disch:=omega)[b3,h3,b4,h4];apply hK;apply aG rfl;apply ae;intro K Z;simp(disch:=omega);apply Z;apply ay;simp(disch:=omega) ;rw[<-hq,mg hk (qV (by omega))]
   have b4:decide (4<f)=false:=ahn h4
   by_cases h5:ws.length=0
   ·have e5:ws=[]:=ah3.1 h5;refine ae λK hK=>?_;simp(disch:=omega)[b3,h3,b4,h4,e5];apply hK;apply aG rfl;apply ae;intro K Z;simp(disch:=omega);apply Z;apply ay;simp(disch:=omega) ;rw[<-hq,mg hk (qV (by omega))]
   have e5:((ws.length:Int)==0)=false:=ah5.2 (by omega);have n5:ws≠[]:=λe=>h5 (by rw[e];rfl);refine ae λK hK=>?_;simp(disch:=omega)[b3,h3,b4,h4,e5,n5];apply hK;apply aD rfl;apply aq;simp(disch:=omega) ;apply lN;clear lN;apply ae;intro K Z;simp(disch:=omega);apply Z;apply ae;intro K Z;simp(disch:=omega);apply Z;apply ae;intro K Z;simp(disch:=omega);apply Z;apply aj;refine aI (X:=Nat) (λk=>⟨[(1,.ptr H.length 0),(3,.int .i64 f),(20,.sl zs.length (fu zs) .none),(21,.int .i64 (zs.length:Nat)),(22,.int .i64 (i:Nat)),(6,.int .i64 (iN ws k)),(44,.sl ws.length (dR ws) .none),(45,.int .i64 (ws.length:Nat)),(46,.int .i64 (k:Nat))],H++[.cells (dP ⟨id,zs,ns⟩),.cells (oR ⟨f,ws⟩)],T⟩)
    (λk=>k<=ws.length/\∀j,j<k->o7 ws j=true) (λk=>ws.length-k) 0 ?_ ?_ ?_
   ·exact⟨ahu _,λj hj=>absurd hj (ahO _)⟩
   ·refine ag [] [] ?_ ?_ ?_ ?_ fx ?_
    all_goals simp[iN]
   ·rintro k ⟨k1,k2⟩;apply ae;intro K Z;simp(disch:=omega);apply Z;refine af λK5 lD=>?_;refine aT rfl (λgI=>?_) (λgI=>?_)
    ·simp  at gI;have hcw:=tm ws k gI;have sr:=hw2 _ (aS ws k w0 gI);have u7:iN ws (k+1)=(ws.getD k w0).2:=by simp[iN]
     have nC:o7 ws k=(okW (ws.getD k w0).1&&(decide (iN ws k<(ws.getD k w0).2)&&decide ((ws.getD k w0).2<=1000000))):=rfl;generalize hww:ws.getD k w0=x at *;obtain⟨s,p⟩:=x;simp only at hcw sr u7 nC;generalize hla:iN ws k=lw at *;apply aq;simp(disch:=omega) ;apply lD;clear lD;refine af λK6 om=>?_;apply aj;refine ae λK hK=>?_;simp(disch:=omega)[hcw,gB];apply hK;refine af λK7 RX=>?_;have c:=DH s sr (H++[.cells (dP ⟨id,zs,ns⟩),.cells (oR ⟨f,ws⟩),.cells [.str s,.int .i64 p]]) T
     cases jK:okW s with
     |false=>
      rw[jK] at c nC;refine ae λK hK=>?_;simp(disch:=omega) ;refine ak (c) ?_;simp(disch:=omega) ;apply hK;apply aG rfl;apply ae;intro K Z;simp(disch:=omega);apply Z;apply ay;simp(disch:=omega) ;rw[<-hq,mg hk (VY k gI (by rw[nC];rfl))]
     |true=>
     rw[jK] at c nC
     by_cases h6:p<=lw
     ·have b6:decide (p<=lw)=true:=ahm h6;refine ae λK hK=>?_;simp(disch:=omega) ;refine ak (c) ?_;simp(disch:=omega)[b6,h6];apply hK;apply aG rfl;apply ae;intro K Z;simp(disch:=omega);apply Z;apply ay;simp(disch:=omega) ;rw[<-hq,mg hk (VY k gI (by rw[nC,ahn (by omega:¬lw<p)];rfl))]
     have b6:decide (p<=lw)=false:=ahn h6
     by_cases h7:1000000<p
     ·have b7:decide (1000000<p)=true:=ahm h7;refine ae λK hK=>?_;simp(disch:=omega) ;refine ak (c) ?_;simp(disch:=omega)[b6,h6,b7,h7];apply hK;apply aG rfl;apply ae;intro K Z;simp(disch:=omega);apply Z;apply ay;simp(disch:=omega) ;rw[<-hq,mg hk (VY k gI (by rw[nC,ahn (by omega:¬p<=1000000)];simp))]
     have b7:decide (1000000<p)=false:=ahn h7;refine ae λK hK=>?_;simp(disch:=omega) ;refine ak (c) ?_;simp(disch:=omega)[b6,h6,b7,h7];apply hK;apply aD rfl;apply aq;simp(disch:=omega) ;apply RX;clear RX;refine aB λK hK=>?_;simp(disch:=omega) ;apply hK;apply om;clear om;refine aB λK hK=>?_;simp(disch:=omega) ;apply hK;refine⟨k+1,⟨by show k+1<=_;omega,λj hj=>?_⟩,by show ws.length-(k+1)<ws.length-k;omega,?_⟩
     ·rcases ahr j k with h|h
      ·exact k2 j h
      ·have:j=k:=by omega
       subst this;rw[nC,ahm (by omega:lw<p),ahm (by omega:p<=1000000)];rfl
     ·refine ag [.cells [.str s,.int .i64 p]] [] ?_ ?_ ?_ ?_ fx ?_
      all_goals simp[u7]
    ·simp  at gI;apply aF;simp(disch:=omega) ;apply bD;clear bD;refine aB λK hK=>?_;simp(disch:=omega) ;apply hK;refine⟨i+1,⟨by show i+1<=_;omega,λj hj=>?_⟩,by show zs.length-(i+1)<zs.length-i;omega,?_⟩
     ·rcases ahr j i with h|h
      ·exact g2 j h
      ·have:j=i:=by omega
       subst this;exact DA (by omega) (by omega) h5 (λk hk=>k2 k (by omega))
     ·refine ag [.cells (oR ⟨f,ws⟩)] [] ?_ ?_ ?_ ?_ ff ?_
      all_goals simp[hl0]
  ·simp  at hk;apply aF;simp(disch:=omega) ;apply aO;clear aO;refine af λK1 aO=>?_;apply ae;intro K Z;simp(disch:=omega);apply Z;apply aj;refine aI (X:=Nat) (λi=>⟨[(1,.ptr H.length 0),(70,.sl ns.length (br ns) .none),(71,.int .i64 (ns.length:Nat)),(72,.int .i64 (i:Nat))],H++[.cells (dP ⟨id,zs,ns⟩)],T⟩)
    (λi=>i<=ns.length/\∀j,j<i->qR ns j=true) (λi=>ns.length-i) 0 ?_ ?_ ?_
   ·exact⟨ahu _,λj hj=>absurd hj (ahO _)⟩
   ·refine ag [] [] ?_ ?_ ?_ ?_ ff ?_
    all_goals simp
   ·rintro m ⟨m1,m2⟩;apply ae;intro K Z;simp(disch:=omega);apply Z;refine af λK2 bc=>?_;refine aT rfl (λgq=>?_) (λgq=>?_)
    ·simp  at gq;have yO:=ia ns m gq;have nC:qR ns m=(vQ (ns.getD m n0)&&(decide (m=0)||dh (ns.getD (m-1) n0) (ns.getD m n0))):=rfl;have cn:=λH T=>P7 (ns.getD (m-1) n0) (ns.getD m n0) H T;have hge:=JT (ns.getD (m-1) n0) (ns.getD m n0);generalize wV (ns.getD (m-1) n0) (ns.getD m n0)=cq at *;have Gq:=λh=>ia ns (m-1) h;generalize ns.getD (m-1) n0=y at *;generalize VR:ns.getD m n0=x at *;obtain⟨x1,x2⟩:=x;obtain⟨y1,y2⟩:=y;simp only at yO Gq;apply aq;simp(disch:=omega) ;apply bc;clear bc;refine af λK3 bD=>?_;apply aj;refine ae λK hK=>?_;simp(disch:=omega)[yO,cH];apply hK;refine aJ [] [] [] aw (by kernel_rfl) (by kernel_rfl) λK hK=>?_;have key:∀e b,b=qR ns m->bu H.length.succ T.length e [(1,.ptr H.length 0),(70,.sl ns.length (br ns) .none),(71,.int .i64 (ns.length:Nat)),(72,.int .i64 (m:Nat)),(109,.bool (!b))]->K ⟨e,H++[.cells (dP ⟨id,zs,ns⟩),.cells [.int .i64 x1,.int .i64 x2]],T⟩:=by
      intro e b hb he;refine hK _ (aH ⟨[(1,.ptr H.length 0),(70,.sl ns.length (br ns) .none),(71,.int .i64 (ns.length:Nat)),(72,.int .i64 (m:Nat)),(109,.bool (!b))],H++[.cells (dP ⟨id,zs,ns⟩)],T⟩ (ag [.cells [.int .i64 x1,.int .i64 x2]] [] (by simp) (by simp) (by simp) (by simp) ff (by simpa using he)) ?_)
      cases b with
      |false=>
       apply aG rfl;apply ae;intro K Z;simp(disch:=omega);apply Z;apply ay;simp(disch:=omega) ;rw[<-hq,DN gq hb.symm]
      |true=>
       apply aD rfl;apply aq;simp(disch:=omega) ;apply bD;clear bD;refine aB λK hK=>?_;simp(disch:=omega) ;apply hK;refine⟨m+1,⟨by show m+1<=_;omega,λj hj=>?_⟩,by show ns.length-(m+1)<ns.length-m;omega,?_⟩
       ·rcases ahr j m with h|h
        ·exact m2 j h
        ·have:j=m:=by omega
         subst this;exact hb.symm
       ·refine ag [] [] ?_ ?_ ?_ ?_ ff ?_
        all_goals simp
     clear hK;have c:=cn (H++[.cells (dP ⟨id,zs,ns⟩),.cells [.int .i64 x1,.int .i64 x2]]) T;have ebv:¬((5<=x1/\x1<=7)/\0<=x2/\x2<=1000000000000)->qR ns m=false:=λh=>by
      have:vQ (x1,x2)=false:=by
       unfold vQ;simp only[ajD,aiD];rcases Classical.em (5<=x1/\x1<=7) with h'|h'
       ·exact .inr λh2=>h ⟨h',h2⟩
       ·exact .inl h'
      rw[nC,this];rfl
     by_cases v1:x1<5
     ·have w1:decide (x1<5)=true:=ahm v1;simp(disch:=omega)[w1,v1];refine key _ false (ebv (by omega)).symm (by simp)
     have w1:decide (x1<5)=false:=ahn v1
     by_cases v2:7<x1
     ·have w2:decide (7<x1)=true:=ahm v2;simp(disch:=omega)[w1,v1,w2,v2];refine key _ false (ebv (by omega)).symm (by simp)
     have w2:decide (7<x1)=false:=ahn v2
     by_cases v3:x2<0
     ·have w3:decide (x2<0)=true:=ahm v3;simp(disch:=omega)[w1,v1,w2,v2,w3,v3];refine key _ false (ebv (by omega)).symm (by simp)
     have w3:decide (x2<0)=false:=ahn v3
     by_cases v4:1000000000000<x2
     ·have w4:decide (1000000000000<x2)=true:=ahm v4;simp(disch:=omega)[w1,v1,w2,v2,w3,v3,w4,v4];refine key _ false (ebv (by omega)).symm (by simp)
     have w4:decide (1000000000000<x2)=false:=ahn v4;have eo:vQ (x1,x2)=true:=by
      unfold vQ;rw[ahm (by omega:5<=x1/\x1<=7),ahm (by omega:0<=x2/\x2<=1000000000000)];rfl
     rw[eo,ais] at nC;rcases ahR m with h5|h5
     ·subst h5;simp(disch:=omega)[w1,v1,w2,v2,w3,v3,w4,v4];refine key _ true (by rw[nC];rfl) (by simp)
     ·have e6:((m:Int)-1)=((m-1:Nat):Int):=by omega
      have b5:decide ((0:Int)<(m:Int))=true:=ahm (by omega);have ud:=Gq (by omega);rw[ahn (by omega:¬m=0),ai2] at nC
      cases hlt:dh (y1,y2) (x1,x2) with
      |false=>
       have b7:decide (0<=cq)=true:=ahm (hge.2 hlt);have n7:=hge.2 hlt;rw[hlt] at nC;simp(disch:=omega)[w1,v1,w2,v2,w3,v3,w4,v4,b5,h5,e6,ud,cH];refine aC (c) rfl ?_;simp(disch:=omega)[b7,n7];refine key _ false nC.symm (by simp)
      |true=>
       have n7:¬0<=cq:=λe=>by rw[hge.1 e] at hlt;cases hlt
       have b7:decide (0<=cq)=false:=ahn n7;rw[hlt] at nC;simp(disch:=omega)[w1,v1,w2,v2,w3,v3,w4,v4,b5,h5,e6,ud,cH];refine aC (c) rfl ?_;simp(disch:=omega)[b7,n7];refine key _ true nC.symm (by simp)
    ·simp  at gq;apply aF;simp(disch:=omega) ;apply aO;clear aO;apply ae;intro K Z;simp(disch:=omega);apply Z;apply ay;simp(disch:=omega) ;rw[<-hq,vq (by simp only;omega) (λi hi=>g2 i (by simp only at hi;omega)) (λi hi=>m2 i (by simp only at hi;omega))]
end Go.Proofs.YtoejlmpbebjemaaGreat
namespace eT
open V1
structure rk (l l':List Dc):Prop where
 perm:l'.Perm l
 ord:l'.Pairwise λx y=>x.id<=y.id
def rk.len {l l':List Dc}(h:rk l l'):l'.length=l.length:=h.perm.length_eq
def rk.nil:rk [] []:=⟨.refl _,.nil⟩
def idx (l:List Dc):List GE:=(List.range l.length).map λi=>(i,l.getD i d0)
def sZ (l:List Dc):(idx l).length=l.length:=by simp[idx]
def JN (l:List Dc){i:Nat}(hi:i<l.length):(idx l).getD i ze=(i,l.getD i d0):=by
 rw[ahg,ahi (by rw[sZ];exact hi)];simp[idx]
def BW (l:List Dc):(idx l).map (·.2)=l:=by
 apply ajd
 ·simp[idx]
 ·intro i h1 h2;simp only[idx,aia,ajO];rw[ahg,ahi h2];rfl
end eT
namespace Go.Proofs.YtoejlmpbebjemaaGreat
open Go.Proofs.Tryz(prog)
open Go Go.Am im eT V1
def yg {P:Dc->Prop}{g:Nat}(hg:GM P g)(l:List Dc)(hP:∀d∈l,P d)(rest:List AV)(i:Nat)(hl:l.length<=19)(H:List az)(T:au)(hi:H[i]?=some (.cells (aM l++rest)))(hr:aK H.length T.length rest) :
  ar prog 91 [.cK i 0 l.length,.fn g [] []] H T (λr H' T'=>r=.df []/\T'=T/\∃l',H'=H.set i (.cells (aM l'++rest))/\rk l l'):=by
 have hm:lV (idx l)=aM l:=by rw[EF,BW]
 have hw:Wg (idx l) 0 (idx l).length:=λp q _ h2 h3=>by
  rw[sZ] at h3;rw[JN l (by omega),JN l h3];exact ahm h2
 have c:=Ll hg (idx l).length (by rw[sZ];exact hl) (idx l) (λe he=>hP _ (by rw[<-BW l];exact ahl.2 ⟨e,he,rfl⟩)) rest i rfl hw H T (by rw[hm];exact hi) hr;rw[sZ] at c;refine ah 3 [] Tryz.ntmps91 Tryz.func91 rfl (λ_ _=>Tryz.call91 _ _) (by simp) (λHO=>?_);refine aB λK hK=>?_;simp(disch:=omega)[-getD_eq_getElem?_getD];refine⟨_,c,?_⟩;rintro v H' T' ⟨rfl,rfl,d',rfl,k1,k2⟩;simp(disch:=omega)[-getD_eq_getElem?_getD];apply hK;refine⟨rfl,rfl,d'.map (·.2),by rw[EF],?_,?_⟩
 ·have:=k1.perm.map (·.2)
  rwa [BW] at this
 ·rw[ahY,ahN];intro a b ha hb hab;have hlen:=k1.len;rw[sZ] at hlen;have:=Vt (k2 a b (ahu _) hab (by omega));rw[ahg,ahg,ahi ha,ahi hb] at this;simp only[aiU,ky] at this;omega
attribute [-simp] getD_eq_getElem?_getD in
def Ft (g:Nat)(H:List az)(T:au)(tg:Tag) :
  ar prog 91 [.sl 0 [] tg,.fn g [] []] H T (Is (.df []) H T):=by
 refine ar.cg ?_;have c1:ar prog 185 [.sl 0 [] .none,.int .i64 0,.int .i64 0,.fn g [] []] H T (Is (.df []) H T):=by
  refine ah 10 [] Tryz.ntmps185 Tryz.func185 rfl (λ_ _=>Tryz.call185 _ _) (by simp) (λHO=>?_);apply ae;intro K Z;simp(disch:=omega);apply Z;apply aj;refine aI (X:=Unit) (λ_=>⟨[(2,.int .i64 0),(8,.int .i64 1)],H,T⟩) (λ_=>True) (λ_=>0) () trivial ?_ ?_
  ·refine ag [] [] ?_ ?_ ?_ ?_ HO ?_
   all_goals simp
  ·rintro _ _;refine af λK2 bc=>?_;apply ae;intro K Z;simp(disch:=omega);apply Z;apply aD rfl;apply aF;simp(disch:=omega) ;exact⟨rfl,rfl,rfl⟩
 have c:ar prog 156 [.sl 0 [] .none,.int .i64 0,.fn g [] []] H T (Is (.df []) H T):=by
  refine ah 10 [] Tryz.ntmps156 Tryz.func156 rfl (λ_ _=>Tryz.call156 _ _) (by simp) (λHO=>?_);apply ae;intro K Z;simp(disch:=omega);apply Z;apply ae;intro K Z;simp(disch:=omega);apply Z;refine af λK1 aO=>?_;apply aj;refine aI (X:=Unit) (λ_=>⟨[(0,.sl 0 [] .none),(1,.int .i64 0),(2,.fn g [] []),(6,.int .i64 20),(7,.int .i64 0),(8,.int .i64 20)],H,T⟩) (λ_=>True) (λ_=>0) () trivial ?_ ?_
  ·refine ag [] [] ?_ ?_ ?_ ?_ HO ?_
   all_goals simp
  ·rintro _ _;refine af λK2 bc=>?_;apply ae;intro K Z;simp(disch:=omega);apply Z;apply aD rfl;apply aF;simp(disch:=omega) ;apply aO;clear aO;refine ae λK hK=>?_;simp(disch:=omega) ;refine ak (c1) ?_;simp(disch:=omega) ;apply hK;apply aj;refine aI (X:=Unit) (λ_=>⟨[(1,.int .i64 0),(6,.int .i64 20)],H,T⟩) (λ_=>True) (λ_=>0) () trivial ?_ ?_
   ·refine ag [] [] ?_ ?_ ?_ ?_ HO ?_
    all_goals simp
   ·rintro _ _;refine af λK3 bD=>?_;apply ae;intro K Z;simp(disch:=omega);apply Z;apply aD rfl;apply aF;simp(disch:=omega) ;exact⟨rfl,rfl,rfl⟩
 refine ah 3 [] Tryz.ntmps91 Tryz.func91 rfl (λ_ _=>Tryz.call91 _ _) (by simp) (λHO=>?_);refine aB λK hK=>?_;simp(disch:=omega) ;refine ak (c) ?_;simp(disch:=omega) ;apply hK;exact⟨rfl,rfl,rfl⟩
attribute [-simp] getD_eq_getElem?_getD in
def MW (l:List Dc)(h0:l≠[])(hl:l.length<=1000)(H:List az)(T:au)(tg:Tag) :
  ar prog 122 [.sl l.length (aM l) tg] H T (λr H' T'=>T'=T/\∃k,H'=H++[.cells (aM l++List.replicate k .top)]/\r=.cK H.length 0 l.length):=by
 refine ar.cg ?_;have eV:0<l.length:=ait.2 h0;have hne:¬l=[]:=h0;have hlen:=ba l;have hd:¬aM l=[]:=λe=>by rw[e] at hlen;simp at hlen;omega
 refine ah 3 [7] Tryz.ntmps122 Tryz.func122 rfl (λ_ _=>Tryz.call122 _ _) (by simp) (λHO=>?_);apply ae;intro K Z;simp(disch:=omega);apply Z;refine af λK1 aO=>?_;refine ae λK hK=>?_;simp(disch:=omega) ;refine⟨?_,λhe=>absurd he (by first|exact hne|exact hd)⟩;apply hK;apply aD rfl;apply aq;simp(disch:=omega) ;apply aO;clear aO;refine ae λK hK=>?_;simp(disch:=omega)[dm,ba,eV];intro k;apply hK;apply ay;simp(disch:=omega) 
attribute [-simp] getD_eq_getElem?_getD in
def IC (H:List az)(T:au)(tg:Tag) :
  ar prog 122 [.sl 0 [] tg] H T (Is (.sl 0 [] .none) H T):=by
 refine ar.cg ?_;refine ar.bV ?_ (by simp);refine ah 3 [] Tryz.ntmps122 Tryz.func122 rfl (λ_ _=>Tryz.call122 _ _) (by simp) (λHO=>?_);apply ae;intro K Z;simp(disch:=omega);apply Z;refine af λK1 aO=>?_;refine ae λK hK=>?_;simp(disch:=omega) 
 constructor
 ·apply hK;apply aD rfl;apply aq;simp(disch:=omega) ;apply aO;clear aO;refine ae λK hK=>?_;simp(disch:=omega)[dm];apply hK;apply ay;simp(disch:=omega) 
 ·apply hK;apply aG rfl;apply ae;intro K Z;simp(disch:=omega);apply Z;apply ay;simp(disch:=omega) 
attribute [-simp] getD_eq_getElem?_getD in
def Ur (d:Dc)(hs:o5 d)(H:List az)(T:au):ar prog 126 [.agg (dP d)] H T (Is (.bool (!aR d)) H T):=by
 refine ar.bV ?_ (by simp);have c:=λH T=>B4 d hs H T;generalize aR d=q at *;refine ah 3 [] Tryz.ntmps126 Tryz.func126 rfl (λ_ _=>Tryz.call126 _ _) (by simp) (λHO=>?_);apply ae;intro K Z;simp(disch:=omega);apply Z;refine ae λK hK=>?_;simp(disch:=omega) ;refine ak (c _ _) ?_;simp(disch:=omega) ;apply hK;apply ay;simp(disch:=omega) 
attribute [-simp] getD_eq_getElem?_getD in
theorem Mw (l:List Dc)(hl:l.length<=maxLen)(hs:∀d∈l,o5 d)(H:List az)(T:au) :
  ar prog 175 [.sl l.length (aM l) .none,.fn 126 [] []] H T (λr H' T'=>H'=H/\T'=T/\∃v:Int,r=.int .i64 v/\decide (0<=v)=l.any (λd=>!aR d)):=by
 have kH:maxLen<=9223372036854775807:=by decide
 have jR:=aho hl kH;generalize hq:l.any (λd=>!aR d)=q;refine ah 9 [] Tryz.ntmps175 Tryz.func175 rfl (λ_ _=>Tryz.call175 _ _) (by simp) (λHO=>?_);apply ae;intro K Z;simp(disch:=omega);apply Z;refine af λK1 aO=>?_;apply ae;intro K Z;simp(disch:=omega);apply Z;apply aj;refine aI (X:=Nat) (λk=>⟨[(0,.sl l.length (aM l) .none),(1,.fn 126 [] []),(7,.int .i64 (l.length:Nat)),(8,.int .i64 (k:Nat))],H,T⟩) (λk=>k<=l.length/\∀j,j<k->aR (l.getD j d0)=true) (λk=>l.length-k) 0 ?_ ?_ ?_
 ·exact⟨ahu _,λj hj=>absurd hj (ahO _)⟩
 ·refine ag [] [] ?_ ?_ ?_ ?_ HO ?_
  all_goals simp
 ·rintro k ⟨h1,h2⟩;apply ae;intro K Z;simp(disch:=omega);apply Z;refine af λK2 bc=>?_;refine aT rfl (λhk=>?_) (λhk=>?_)
  ·simp  at hk;have hcut:=fJ l k hk;have hm:=aS l k d0 hk;have c:=Ur (l.getD k d0) (hs _ hm) H T;apply aq;simp(disch:=omega) ;apply bc;clear bc;refine af λK3 bD=>?_;apply aj;apply ae;intro K Z;simp(disch:=omega);apply Z
   cases hb:aR (l.getD k d0) with
   |false=>
    rw[hb] at c;refine ae λK hK=>?_;simp(disch:=omega)[hcut,ba];refine ak (c) ?_;simp(disch:=omega) ;apply hK;apply aG rfl;apply ae;intro K Z;simp(disch:=omega);apply Z;apply ay;simp(disch:=omega) ;have:l.any (λd=>!aR d)=true:=aiY.2 ⟨_,hm,by rw[hb];rfl⟩;rw[hq] at this;simp[this]
   |true=>
    rw[hb] at c;refine ae λK hK=>?_;simp(disch:=omega)[hcut,ba];refine ak (c) ?_;simp(disch:=omega) ;apply hK;apply aD rfl;apply aq;simp(disch:=omega) ;apply bD;clear bD;refine aB λK hK=>?_;simp(disch:=omega) ;apply hK;refine⟨k+1,⟨by show k+1<=_;omega,λj hj=>?_⟩,by show l.length-(k+1)<l.length-k;omega,?_⟩
    ·rcases ahr j k with h3|h3
     ·exact h2 j h3
     ·have:j=k:=by omega
      subst this;exact hb
    ·refine ag [] [] ?_ ?_ ?_ ?_ HO ?_
     all_goals simp
  ·simp  at hk;have hn:l.any (λd=>!aR d)=false:=by
    rw[ai9];intro p RN;obtain⟨j,hj,e⟩:=bH d0 RN;have:=h2 j (by omega);rw[e] at this;simp[this]
   apply aF;simp(disch:=omega) ;apply aO;clear aO;apply ae;intro K Z;simp(disch:=omega);apply Z;apply ay;simp(disch:=omega) ;rw[hq] at hn;simp[hn]
attribute [-simp] getD_eq_getElem?_getD in
def Ct (l:List Dc)(hl:l.length<=maxLen)(hs:∀d∈l,o5 d)(H:List az)(T:au)(tg:Tag) :
  ar prog 125 [.sl l.length (aM l) tg,.fn 126 [] []] H T (Is (.bool (l.any (λd=>!aR d))) H T):=by
 refine ar.cg ?_;have c:=Mw l hl hs H T;generalize l.any (λd=>!aR d)=q at *;refine ah 5 [] Tryz.ntmps125 Tryz.func125 rfl (λ_ _=>Tryz.call125 _ _) (by simp) (λHO=>?_);apply ae;intro K Z;simp(disch:=omega);apply Z;refine ae λK hK=>?_;simp(disch:=omega) ;refine⟨_,c,?_⟩;rintro r H' T' ⟨rfl,rfl,v,rfl,hv⟩;simp(disch:=omega)[hv];apply hK;apply ay;simp(disch:=omega) ;exact⟨rfl,rfl,rfl⟩
end Go.Proofs.YtoejlmpbebjemaaGreat
