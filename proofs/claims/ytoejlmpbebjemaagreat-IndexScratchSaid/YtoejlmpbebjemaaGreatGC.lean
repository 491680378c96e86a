/- Comparing numbers, strings, terms, items. Valid documents (layer 37). Valid documents: the program's test (layer 37). Copies of lists of documents, sorting them by their IDs, testing them.
  Conditions: lengths below 400 or 1000, as each theorem says. -/
import Derived.Test.YtoejlmpbebjemaaGreatGA
import Derived.Test.YtoejlmpbebjemaaGreatGSi
set_option linter.all false
set_option maxRecDepth 100000
set_option maxHeartbeats 8000000

open List (getD_eq_getElem?_getD)
namespace ie
def mu (x y:Int):Int:=if x<y then -1 else if y<x then 1 else 0
def xe (a b:w9):Int:=if slt a b=true then -1 else if slt b a=true then 1 else 0
def rf (x y:Int):mu x y=0↔x=y:=by unfold mu;split<;>(try split)<;>omega
def qn (x y:Int):mu x y<0↔x<y:=by unfold mu;split<;>(try split)<;>omega
def QF (a b:w9):xe a b<0↔slt a b=true:=by
 unfold xe
 split
 ·rename_i h;simp[h]
 ·rename_i h;split<;>simp[h]
theorem T7 (a b:w9):slt b a=(!(slt a b||a==b)):=by
 cases h1:slt a b with
 |true=>rw[uN _ _ h1];rfl
 |false=>
  cases h2:slt b a with
  |true=>have:=BJ h2;simp[Ne.symm this]
  |false=>rw[l0 _ _ h1 h2];simp
def MO (a b:w9):xe a b=0↔a=b:=by
 unfold xe
 split
 ·rename_i h;simp[BJ h]
 ·rename_i h;split
  ·rename_i h2;simp[Ne.symm (BJ h2)]
  ·rename_i h2;simp only[true_iff];exact l0 _ _ (zU h) (zU h2)
end ie
namespace Go.Proofs.YtoejlmpbebjemaaGreat
open Go.Proofs.Tryz(prog)
open Go Go.Am ie
attribute [-simp] getD_eq_getElem?_getD in
def mL (x y:Int)(H:List aA)(T:au):aq prog 124 [.int .i64 x,.int .i64 y] H T (Is (.int .i64 (mu x y)) H T):=by
 have n1:∀z,aq prog 174 [.int .i64 z] H T (Is (.bool false) H T):=λz=>by
  refine ah 3 [] Tryz.ntmps174 Tryz.func174 rfl (λ_ _=>Tryz.call174 _ _) zS (λHO=>?_);refine af ?_;refine af ?_;refine aI ?_;exact⟨rfl,rfl,rfl⟩
 generalize hq:mu x y=q;refine ah 7 [] Tryz.ntmps124 Tryz.func124 rfl (λ_ _=>Tryz.call124 _ _) zS (λHO=>?_);refine af ?_;apply ar;refine zQ ?_;refine ai (n1 x) ?_;refine zQ ?_;apply ar;refine zQ ?_;refine ai (n1 y) ?_;refine zQ ?_;refine ae λK1 aN=>?_;refine af ?_;apply aB rfl;apply aj;refine zQ ?_;apply aN;clear aN;refine ae λK1 aN=>?_;refine af ?_;apply aB rfl;apply aj;refine zQ ?_;apply aN;clear aN;refine ae λK1 aN=>?_
 by_cases h1:x<y
 ·have b1:decide (x<y)=true:=ahx h1;apply ar;simp(disch:=omega)[b1,h1];apply aC rfl;refine af ?_;refine aI ?_;rw[<-hq,mu,ahF h1];exact⟨rfl,rfl,rfl⟩
 ·have b1:decide (x<y)=false:=ahy h1;apply ar;simp(disch:=omega)[b1,h1];apply aB rfl;apply aj;refine zQ ?_;apply aN;clear aN;refine ae λK1 aN=>?_
  by_cases h2:y<x
  ·have b2:decide (y<x)=true:=ahx h2;apply ar;simp(disch:=omega)[b2,h2];apply aC rfl;refine af ?_;refine aI ?_;rw[<-hq,mu,ahC h1,ahF h2];exact⟨rfl,rfl,rfl⟩
  ·have b2:decide (y<x)=false:=ahy h2;apply ar;simp(disch:=omega)[b2,h2];apply aB rfl;apply aj;refine zQ ?_;apply aN;clear aN;refine af ?_;refine aI ?_;rw[<-hq,mu,ahC h1,ahC h2];exact⟨rfl,rfl,rfl⟩
attribute [-simp] getD_eq_getElem?_getD in
theorem QD (x y:w9)(H:List aA)(T:au):aq prog 168 [.str x,.str y] H T (Is (.int .i64 (xe x y)) H T):=by
 have n1:∀z,aq prog 200 [.str z] H T (Is (.bool false) H T):=λz=>by
  refine ah 3 [] Tryz.ntmps200 Tryz.func200 rfl (λ_ _=>Tryz.call200 _ _) zS (λHO=>?_);refine af ?_;refine af ?_;refine aI ?_;exact⟨rfl,rfl,rfl⟩
 have UA:=T7 x y;generalize hq:xe x y=q;refine ah 7 [] Tryz.ntmps168 Tryz.func168 rfl (λ_ _=>Tryz.call168 _ _) zS (λHO=>?_);refine af ?_;apply ar;refine zQ ?_;refine ai (n1 x) ?_;refine zQ ?_;apply ar;refine zQ ?_;refine ai (n1 y) ?_;refine zQ ?_;refine ae λK1 aN=>?_;refine af ?_;apply aB rfl;apply aj;refine zQ ?_;apply aN;clear aN;refine ae λK1 aN=>?_;refine af ?_;apply aB rfl;apply aj;refine zQ ?_;apply aN;clear aN;refine ae λK1 aN=>?_;unfold slt at UA
 cases h1:Op.bytesLess x y with
 |true=>
  apply ar;simp(disch:=omega)[h1];apply aC rfl;refine af ?_;refine aI ?_;rw[<-hq,xe,ahF h1];exact⟨rfl,rfl,rfl⟩
 |false=>
  apply ar;simp(disch:=omega)[h1];apply aB rfl;apply aj;refine zQ ?_;apply aN;clear aN;refine ae λK1 aN=>?_;rw[h1,aiY] at UA
  cases h2:(x==y) with
  |false=>
   rw[h2] at UA;apply ar;simp(disch:=omega)[h1,h2];apply aC rfl;refine af ?_;refine aI ?_;rw[<-hq,xe,ahC (by simp[slt,h1]),ahF (show slt y x=true from UA)];exact⟨rfl,rfl,rfl⟩
  |true=>
   rw[h2] at UA;apply ar;simp(disch:=omega)[h1,h2];apply aB rfl;apply aj;refine zQ ?_;apply aN;clear aN;refine af ?_;refine aI ?_;rw[<-hq,xe,ahC (by simp[slt,h1]),ahC (by simp[slt,UA])];exact⟨rfl,rfl,rfl⟩
def Gp:List Int->Int
 |[]=>0
 |x::r=>if x=0 then Gp r else x
theorem Et:∀(l:List Int)(k:Nat),(∀j,j<k->l.getD j 0=0)->k<=l.length->Gp l=Gp (l.drop k):=by
 intro l
 induction l with
 |nil=>intro k _ _;simp
 |cons x r ih=>
  intro k h hk
  cases k with
  |zero=>rfl
  |succ k=>
   have h0:x=0:=h 0 zO;rw[Gp,ahF h0,ih k (λj hj=>h (j+1) zO) (zU hk)];rfl
attribute [-simp] getD_eq_getElem?_getD in
def G6 (l:List Int)(hl:l.length<=1000)(H:List aA)(T:au)(tg:Tag):aq prog 167 [.sl l.length (ints l) tg] H T (Is (.int .i64 (Gp l)) H T):=by
 refine aq.bR ?_;generalize hq:Gp l=q;refine ah 9 [] Tryz.ntmps167 Tryz.func167 rfl (λ_ _=>Tryz.call167 _ _) zS (λHO=>?_);refine af ?_;refine af ?_;refine ae λK1 aN=>?_;refine af ?_;apply ag;refine aG (X:=Nat) (λk=>⟨[(0,.sl l.length (ints l) .none),(3,.int .i64 0),(6,.sl l.length (ints l) .none),(7,.int .i64 (l.length:Nat)),(8,.int .i64 (k:Nat))],H,T⟩) (λk=>k<=l.length/\∀j,j<k->l.getD j 0=0) (λk=>l.length-k) 0 ?_ ?_ ?_
 ·exact⟨ahE _,λj hj=>absurd hj (ahT _)⟩
 ·exact wk HO
 ·rintro k ⟨h1,h2⟩;refine af ?_;refine ae λK2 ba=>?_;refine aV rfl (λhk=>?_) (λhk=>?_)
  ·simp  at hk;have hg:=aS (xs:=l) (k:=k) hk;have hd:Gp l=Gp (l.getD k 0::l.drop (k+1)):=by
    rw[Et l k h2 zO,aiW hk,ahs,ahu hk];rfl
   apply aj;refine zQ ?_;apply ba;clear ba;refine ae λK3 bH=>?_;apply ag;apply ar;simp(disch:=omega)[hg]
   by_cases hc:l.getD k 0=0
   ·have b:(l.getD k 0!=0)=false:=by rw[hc];rfl
    apply ar;simp(disch:=omega)[b,hc];apply aB rfl;apply aj;refine zQ ?_;apply bH;clear bH;refine aJ ?_;refine⟨k+1,⟨by show k+1<=_;omega,λj hj=>?_⟩,by show l.length-(k+1)<l.length-k;omega,?_⟩
    ·rcases ahD j k with h3|h3
     ·exact h2 j h3
     ·have:j=k:=zO;subst this;exact hc
    ·exact wk HO
   ·have b:(l.getD k 0!=0)=true:=bne_iff_ne.2 hc;apply ar;simp(disch:=omega)[b,hc];apply aC rfl;refine af ?_;refine aI ?_;rw[<-hq,hd,Gp,ahC hc];exact⟨rfl,rfl,rfl⟩
  ·simp  at hk;have e:k=l.length:=zO;subst e;apply aD;refine zQ ?_;apply aN;clear aN;refine af ?_;refine aI ?_;rw[<-hq,Et l l.length h2 (ahv _),aiB];exact⟨rfl,rfl,rfl⟩
end Go.Proofs.YtoejlmpbebjemaaGreat
namespace eN
open ie Go.Proofs.YtoejlmpbebjemaaGreat
def di (a b:Nm):Bool:=decide (a.1<b.1)||(decide (a.1=b.1)&&decide (a.2<b.2))
def xg (a b:Nm):Int:=Gp [mu a.1 b.1,mu a.2 b.2]
def V3 (x y:Int):Gp [x,y]=if x=0 then y else x:=by
 unfold Gp;split
 ·unfold Gp;split
  ·rename_i h;unfold Gp;exact h.symm
  ·rfl
 ·rfl
def Ff (a b:Nm):xg a b<0↔di a b=true:=by
 have h1:=rf a.1 b.1;have h2:=qn a.1 b.1;have h3:=qn a.2 b.2;unfold xg di;rw[V3];simp only[aiq,ahG,ahH]
 split
 ·rename_i h;rw[h3];have:=h1.1 h;omega
 ·rename_i h;rw[h2];have:¬a.1=b.1:=λe=>h (h1.2 e);omega
theorem JE (a b:Nm):0<=xg a b↔di a b=false:=by
 have:=Ff a b
 cases h:di a b with
 |true=>have:=this.2 h;simp;omega
 |false=>rw[h] at this;simp at this;simp;exact this
abbrev Ky:=Int×Bs
def bS (a b:Ky):Bool:=decide (a.1<b.1)||(decide (a.1=b.1)&&slt a.2 b.2)
def r9 (a b:Ky):Int:=Gp [mu a.1 b.1,xe a.2 b.2]
def tT (a b:Ky):r9 a b<0↔bS a b=true:=by
 have h1:=rf a.1 b.1;have h2:=qn a.1 b.1;have h3:=QF a.2 b.2;unfold r9 bS;rw[V3];simp only[aiq,ahG,ahH]
 split
 ·rename_i h;rw[h3];have:=h1.1 h
  constructor
  ·exact λq=>.inr ⟨this,q⟩
  ·rintro (q|q)
   ·omega
   ·exact q.2
 ·rename_i h;rw[h2];have:¬a.1=b.1:=λe=>h (h1.2 e)
  constructor
  ·exact .inl
  ·rintro (q|q)
   ·exact q
   ·exact absurd q.1 this
def Bc (a b:Ky):r9 a b=0↔a=b:=by
 unfold r9;rw[V3]
 split
 ·rename_i h;rw[MO]
  constructor
  ·exact λq=>Prod.ext ((rf _ _).1 h) q
  ·rintro rfl;rfl
 ·rename_i h
  constructor
  ·exact λq=>absurd q h
  ·rintro rfl;exact absurd ((rf _ _).2 rfl) h
theorem T8 (a b:Ky):0<=r9 a b↔bS a b=false:=by
 have:=tT a b
 cases h:bS a b with
 |true=>have:=this.2 h;simp;omega
 |false=>rw[h] at this;simp at this;simp;exact this
end eN
namespace Go.Proofs.YtoejlmpbebjemaaGreat
open Go Go.Am ie eN
attribute [-simp] getD_eq_getElem?_getD in
def PT (x y:Nm)(H:List aA)(T:au):aq Tryz.prog 120 [.agg [.int .i64 x.1,.int .i64 x.2],.agg [.int .i64 y.1,.int .i64 y.2]] H T (Is (.int .i64 (xg x y)) H T):=by
 refine aq.bK ?_ zS;have c1:=λH T=>mL x.1 y.1 H T;have c2:=λH T=>mL x.2 y.2 H T;unfold xg;generalize mu x.1 y.1=a at *;generalize mu x.2 y.2=b at *;have c4:=λH T=>G6 [a,b] zS H T;refine ah 5 [] Tryz.ntmps120 Tryz.func120 rfl (λ_ _=>Tryz.call120 _ _) zS (λHO=>?_);refine af ?_;refine bC [] [] [] ?_;refine zQ ?_;refine az (c1 _ _) rfl ?_;refine zQ ?_;refine az (c2 _ _) rfl ?_;refine zQ ?_;refine az (c4 _ _ _) rfl ?_;refine zQ ?_;exact bu zC
attribute [-simp] getD_eq_getElem?_getD in
def vQ (x y:Nm)(H:List aA)(T:au):aq Tryz.prog 114 [.agg [.int .i64 x.1,.int .i64 x.2],.agg [.int .i64 y.1,.int .i64 y.2]] H T (Is (.int .i64 (xg x y)) H T):=by
 refine aq.bK ?_ zS;have c1:=λH T=>mL x.1 y.1 H T;have c2:=λH T=>mL x.2 y.2 H T;unfold xg;generalize mu x.1 y.1=a at *;generalize mu x.2 y.2=b at *;have c4:=λH T=>G6 [a,b] zS H T;refine ah 5 [] Tryz.ntmps114 Tryz.func114 rfl (λ_ _=>Tryz.call114 _ _) zS (λHO=>?_);refine af ?_;refine bC [] [] [] ?_;refine zQ ?_;refine az (c1 _ _) rfl ?_;refine zQ ?_;refine az (c2 _ _) rfl ?_;refine zQ ?_;refine az (c4 _ _ _) rfl ?_;refine zQ ?_;exact bu zC
attribute [-simp] getD_eq_getElem?_getD in
def ri (x y:Ky)(u v:AV)(H:List aA)(T:au):aq Tryz.prog 111 [.agg [.int .i64 x.1,.str x.2,u],.agg [.int .i64 y.1,.str y.2,v]] H T (Is (.int .i64 (r9 x y)) H T):=by
 refine aq.bK ?_ zS;have c1:=λH T=>mL x.1 y.1 H T;have c2:=λH T=>QD x.2 y.2 H T;unfold r9;generalize mu x.1 y.1=a at *;generalize xe x.2 y.2=b at *;have c4:=λH T=>G6 [a,b] zS H T;refine ah 5 [] Tryz.ntmps111 Tryz.func111 rfl (λ_ _=>Tryz.call111 _ _) zS (λHO=>?_);refine af ?_;refine bC [] [] [] ?_;refine zQ ?_;refine az (c1 _ _) rfl ?_;refine zQ ?_;refine az (c2 _ _) rfl ?_;refine zQ ?_;refine az (c4 _ _ _) rfl ?_;refine zQ ?_;exact bu zC
attribute [-simp] getD_eq_getElem?_getD in
def Ub:GY (λ_=>True) 123:=by
 intro x y _ _ H T;refine⟨mu x.id y.id,?_,qn _ _⟩;refine aq.bK ?_ zS;have c1:=λH T=>mL x.id y.id H T;generalize mu x.id y.id=a at *;refine ah 5 [] Tryz.ntmps123 Tryz.func123 rfl (λ_ _=>Tryz.call123 _ _) zS (λHO=>?_);refine af ?_;apply ar;refine zQ ?_;refine ai (c1 _ _) ?_;refine zQ ?_;exact bu zC
attribute [-simp] getD_eq_getElem?_getD in
def QK (x y:Int)(u v:AV)(H:List aA)(T:au):aq Tryz.prog 154 [.agg [u,.int .i64 x],.agg [v,.int .i64 y]] H T (Is (.int .i64 (mu x y)) H T):=by
 refine aq.bK ?_ zS;have c1:=λH T=>mL x y H T;generalize mu x y=a at *;refine ah 5 [] Tryz.ntmps154 Tryz.func154 rfl (λ_ _=>Tryz.call154 _ _) zS (λHO=>?_);refine af ?_;apply ar;refine zQ ?_;refine ai (c1 _ _) ?_;refine zQ ?_;exact bu zC
end Go.Proofs.YtoejlmpbebjemaaGreat
namespace eN
open ie Go.Am
def iW (ws:List Wd)(k:Nat):Int:=if k=0 then -1 else (ws.getD (k-1) w0).2
def px (ws:List Wd)(k:Nat):Bool:=okW (ws.getD k w0).1&&(decide (iW ws k<(ws.getD k w0).2)&&decide ((ws.getD k w0).2<=1000000))
def V5 (ws:List Wd):Bool:=(List.range ws.length).all (px ws)
def iO (zs:List Zn)(i:Nat):Int:=if i=0 then 0 else (zs.getD (i-1) z0).f
def nm (zs:List Zn)(i:Nat):Bool:=(decide (iO zs i<(zs.getD i z0).f)&&decide ((zs.getD i z0).f<=4))&&(decide ((zs.getD i z0).ws.length≠0)&&V5 (zs.getD i z0).ws)
def V4 (zs:List Zn):Bool:=(List.range zs.length).all (nm zs)
def v7 (x:Nm):Bool:=decide (5<=x.1/\x.1<=7)&&decide (0<=x.2/\x.2<=1000000000000)
def rA (ns:List Nm)(i:Nat):Bool:=v7 (ns.getD i n0)&&(decide (i=0)||di (ns.getD (i-1) n0) (ns.getD i n0))
def V6 (ns:List Nm):Bool:=(List.range ns.length).all (rA ns)
def aU (d:Dc):Bool:=decide (1<=d.id/\d.id<=1000000000)&&(V4 d.zs&&V6 d.ns)
structure pt (d:Dc):Prop where
 z:d.zs.length<=Go.maxLen
 w:∀z∈d.zs,z.ws.length<=Go.maxLen/\∀w∈z.ws,w.1.length<=Go.maxLen
 n:d.ns.length<=Go.maxLen
def kG {n:Nat}{p:Nat->Bool}{k:Nat}(hk:k<n)(h:p k=false):(List.range n).all p=false:=by
 rw[List.all_eq_false];exact⟨k,ahV.2 hk,by simp[h]⟩
def gJ {n:Nat}{p:Nat->Bool}(h:∀j,j<n->p j=true):(List.range n).all p=true:=by
 rw[ah3];intro j hj;exact h j (ahV.1 hj)
def qc {n:Nat}{p:Nat->Bool}(h:(List.range n).all p=true){j:Nat}(hj:j<n):p j=true:=by
 rw[ah3] at h;exact h j (ahV.2 hj)
def qL {d:Dc}(h:¬(1<=d.id/\d.id<=1000000000)):aU d=false:=by
 unfold aU;rw[ahy h];rfl
def mF {d:Dc}{i:Nat}(hi:i<d.zs.length)(h:nm d.zs i=false):aU d=false:=by
 unfold aU V4;rw[kG hi h];simp
def D7 {d:Dc}{i:Nat}(hi:i<d.ns.length)(h:rA d.ns i=false):aU d=false:=by
 unfold aU V6;rw[kG hi h];simp
def vE {d:Dc}(h1:1<=d.id/\d.id<=1000000000)(h2:∀i,i<d.zs.length->nm d.zs i=true)(h3:∀i,i<d.ns.length->rA d.ns i=true):aU d=true:=by
 unfold aU V4 V6;rw[ahx h1,gJ h2,gJ h3];rfl
theorem Ex {zs:List Zn}{i:Nat}(h:¬(iO zs i<(zs.getD i z0).f/\(zs.getD i z0).f<=4/\(zs.getD i z0).ws.length≠0)):nm zs i=false:=by
 cases hk:nm zs i with
 |false=>rfl
 |true=>
  unfold nm at hk;simp only[ahG,ahH] at hk;exact absurd ⟨hk.1.1,hk.1.2,hk.2.1⟩ h
def OG {zs:List Zn}{i k:Nat}(hk:k<(zs.getD i z0).ws.length)(h:px (zs.getD i z0).ws k=false):nm zs i=false:=by
 unfold nm V5;rw[kG hk h];simp
def AQ {zs:List Zn}{i:Nat}(h1:iO zs i<(zs.getD i z0).f)(h2:(zs.getD i z0).f<=4)(h3:(zs.getD i z0).ws.length≠0)(h:∀k,k<(zs.getD i z0).ws.length->px (zs.getD i z0).ws k=true):nm zs i=true:=by
 unfold nm V5;rw[gJ h,ahx h1,ahx h2,ahx h3];rfl
end eN
namespace Go.Proofs.YtoejlmpbebjemaaGreat
open Go Go.Am ie eN
attribute [-simp] getD_eq_getElem?_getD in
theorem Ci (d:Dc)(hs:pt d)(H:List aA)(T:au):aq Tryz.prog 66 [.agg (dY d)] H T (Is (.bool (aU d)) H T):=by
 refine aq.bK ?_ zS;have jU:maxLen<=9223372036854775807:=zD;obtain⟨id,zs,ns⟩:=d;obtain⟨hz,hw,hn⟩:=hs;simp only at hz hw hn ⊢;have JU:=ahA hz jU;have Yx:=ahA hn jU;generalize hq:aU ⟨id,zs,ns⟩=q;refine ah 73 [] Tryz.ntmps66 Tryz.func66 rfl (λ_ _=>Tryz.call66 _ _) zS (λHO=>?_);refine af ?_;refine ae λK1 aN=>?_;have eu:bM (H++[.cells (dY ⟨id,zs,ns⟩)]) T:=HO.snoc zS
 by_cases h1:id<1
 ·have b1:decide (id<1)=true:=ahx h1;apply ar;simp(disch:=omega)[b1,h1];apply aC rfl;refine af ?_;refine aI ?_;rw[<-hq,qL (by simp only;omega)]
 have b1:decide (id<1)=false:=ahy h1
 by_cases h2:1000000000<id
 ·have b2:decide (1000000000<id)=true:=ahx h2;apply ar;simp(disch:=omega)[b1,h1,b2,h2];apply aC rfl;refine af ?_;refine aI ?_;rw[<-hq,qL (by simp only;omega)]
 have b2:decide (1000000000<id)=false:=ahy h2;apply ar;simp(disch:=omega)[b1,h1,b2,h2];apply aB rfl;apply aj;refine zQ ?_;apply aN;clear aN;refine af ?_;refine ae λK1 aN=>?_;refine af ?_;apply ag;refine aG (X:=Nat) (λi=>⟨[(1,.ptr H.length 0),(3,.int .i64 (iO zs i)),(20,.sl zs.length (fy zs) .none),(21,.int .i64 (zs.length:Nat)),(22,.int .i64 (i:Nat))],H++[.cells (dY ⟨id,zs,ns⟩)],T⟩)
  (λi=>i<=zs.length/\∀j,j<i->nm zs j=true) (λi=>zs.length-i) 0 ?_ ?_ ?_
 ·exact⟨ahE _,λj hj=>absurd hj (ahT _)⟩
 ·refine ak [] [] ?_ ?_ ?_ ?_ eu ?_
  all_goals simp[iO]
 ·rintro i ⟨g1,g2⟩;refine af ?_;refine ae λK2 ba=>?_;refine aV rfl (λhk=>?_) (λhk=>?_)
  ·simp  at hk;have bB:=tC zs i hk;obtain⟨yZ,Nc⟩:=hw _ (aQ zs i z0 hk);have Br:iO zs (i+1)=(zs.getD i z0).f:=by simp[iO]
   have rF:=Ex (zs:=zs) (i:=i);have VV:=λk=>OG (zs:=zs) (i:=i) (k:=k);have DO:=AQ (zs:=zs) (i:=i);generalize vo:zs.getD i z0=z at *;obtain⟨f,ws⟩:=z;simp only at bB yZ Nc Br rF VV DO;have hw':=ahA yZ jU;generalize hl:iO zs i=la at *;apply aj;refine zQ ?_;apply ba;clear ba;refine ae λK3 bH=>?_;apply ag;apply ar;simp(disch:=omega)[bB,fW];refine ae λK4 iQ=>?_;have eG:bM (H++[.cells (dY ⟨id,zs,ns⟩),.cells (o8 ⟨f,ws⟩)]) T:=by
    have:=bM.snoc (vs:=o8 ⟨f,ws⟩) eu zS;simpa using this
   by_cases h3:f<=la
   ·have b3:decide (f<=la)=true:=ahx h3;apply ar;simp(disch:=omega)[b3,h3];apply aC rfl;refine af ?_;refine aI ?_;rw[<-hq,mF hk (rF zO)]
   have b3:decide (f<=la)=false:=ahy h3
   by_cases h4:4<f
   ·have b4:decide (4<f)=true:=ahx h4;apply ar;simp(disch:=omega)[b3,h3,b4,h4];apply aC rfl;refine af ?_;refine aI ?_;rw[<-hq,mF hk (rF zO)]
   have b4:decide (4<f)=false:=ahy h4
   by_cases h5:ws.length=0
   ·have e5:ws=[]:=ah9.1 h5;apply ar;simp(disch:=omega)[b3,h3,b4,h4,e5];apply aC rfl;refine af ?_;refine aI ?_;rw[<-hq,mF hk (rF zO)]
   have e5:((ws.length:Int)==0)=false:=ah8.2 zO;have n5:ws≠[]:=λe=>h5 (by rw[e];rfl);apply ar;simp(disch:=omega)[b3,h3,b4,h4,e5,n5];apply aB rfl;apply aj;refine zQ ?_;apply iQ;clear iQ;refine af ?_;refine af ?_;refine af ?_;apply ag;refine aG (X:=Nat) (λk=>⟨[(1,.ptr H.length 0),(3,.int .i64 f),(20,.sl zs.length (fy zs) .none),(21,.int .i64 (zs.length:Nat)),(22,.int .i64 (i:Nat)),(6,.int .i64 (iW ws k)),(44,.sl ws.length (dX ws) .none),(45,.int .i64 (ws.length:Nat)),(46,.int .i64 (k:Nat))],H++[.cells (dY ⟨id,zs,ns⟩),.cells (o8 ⟨f,ws⟩)],T⟩)
    (λk=>k<=ws.length/\∀j,j<k->px ws j=true) (λk=>ws.length-k) 0 ?_ ?_ ?_
   ·exact⟨ahE _,λj hj=>absurd hj (ahT _)⟩
   ·refine ak [] [] ?_ ?_ ?_ ?_ eG ?_
    all_goals simp[iW]
   ·rintro k ⟨k1,k2⟩;refine af ?_;refine ae λK5 iT=>?_;refine aV rfl (λgN=>?_) (λgN=>?_)
    ·simp  at gN;have hcw:=tE ws k gN;have qC:=Nc _ (aQ ws k w0 gN);have vq:iW ws (k+1)=(ws.getD k w0).2:=by simp[iW]
     have iS:px ws k=(okW (ws.getD k w0).1&&(decide (iW ws k<(ws.getD k w0).2)&&decide ((ws.getD k w0).2<=1000000))):=rfl;generalize hww:ws.getD k w0=x at *;obtain⟨s,p⟩:=x;simp only at hcw qC vq iS;generalize hla:iW ws k=lw at *;apply aj;refine zQ ?_;apply iT;clear iT;refine ae λK6 jZ=>?_;apply ag;apply ar;simp(disch:=omega)[hcw,gG];refine ae λK7 RW=>?_;have c:=DY s qC (H++[.cells (dY ⟨id,zs,ns⟩),.cells (o8 ⟨f,ws⟩),.cells [.str s,.int .i64 p]]) T
     cases je:okW s with
     |false=>
      rw[je] at c iS;apply ar;refine zQ ?_;refine ai (c) ?_;refine zQ ?_;apply aC rfl;refine af ?_;refine aI ?_;rw[<-hq,mF hk (VV k gN (by rw[iS];rfl))]
     |true=>
     rw[je] at c iS
     by_cases h6:p<=lw
     ·have b6:decide (p<=lw)=true:=ahx h6;apply ar;refine zQ ?_;refine ai (c) ?_;simp(disch:=omega)[b6,h6];apply aC rfl;refine af ?_;refine aI ?_;rw[<-hq,mF hk (VV k gN (by rw[iS,ahy (by omega:¬lw<p)];rfl))]
     have b6:decide (p<=lw)=false:=ahy h6
     by_cases h7:1000000<p
     ·have b7:decide (1000000<p)=true:=ahx h7;apply ar;refine zQ ?_;refine ai (c) ?_;simp(disch:=omega)[b6,h6,b7,h7];apply aC rfl;refine af ?_;refine aI ?_;rw[<-hq,mF hk (VV k gN (by rw[iS,ahy (by omega:¬p<=1000000)];simp))]
     have b7:decide (1000000<p)=false:=ahy h7;apply ar;refine zQ ?_;refine ai (c) ?_;simp(disch:=omega)[b6,h6,b7,h7];apply aB rfl;apply aj;refine zQ ?_;apply RW;clear RW;refine aJ ?_;apply jZ;clear jZ;refine aJ ?_;refine⟨k+1,⟨by show k+1<=_;omega,λj hj=>?_⟩,by show ws.length-(k+1)<ws.length-k;omega,?_⟩
     ·rcases ahD j k with h|h
      ·exact k2 j h
      ·have:j=k:=zO;subst this;rw[iS,ahx (by omega:lw<p),ahx (by omega:p<=1000000)];rfl
     ·refine ak [.cells [.str s,.int .i64 p]] [] ?_ ?_ ?_ ?_ eG ?_
      all_goals simp[vq]
    ·simp  at gN;apply aD;refine zQ ?_;apply bH;clear bH;refine aJ ?_;refine⟨i+1,⟨by show i+1<=_;omega,λj hj=>?_⟩,by show zs.length-(i+1)<zs.length-i;omega,?_⟩
     ·rcases ahD j i with h|h
      ·exact g2 j h
      ·have:j=i:=zO;subst this;exact DO zO zO h5 (λk hk=>k2 k zO)
     ·refine ak [.cells (o8 ⟨f,ws⟩)] [] ?_ ?_ ?_ ?_ eu ?_
      all_goals simp[Br]
  ·simp  at hk;apply aD;refine zQ ?_;apply aN;clear aN;refine ae λK1 aN=>?_;refine af ?_;apply ag;refine aG (X:=Nat) (λi=>⟨[(1,.ptr H.length 0),(70,.sl ns.length (bG ns) .none),(71,.int .i64 (ns.length:Nat)),(72,.int .i64 (i:Nat))],H++[.cells (dY ⟨id,zs,ns⟩)],T⟩)
    (λi=>i<=ns.length/\∀j,j<i->rA ns j=true) (λi=>ns.length-i) 0 ?_ ?_ ?_
   ·exact⟨ahE _,λj hj=>absurd hj (ahT _)⟩
   ·exact wk eu
   ·rintro m ⟨m1,m2⟩;refine af ?_;refine ae λK2 ba=>?_;refine aV rfl (λeL=>?_) (λeL=>?_)
    ·simp  at eL;have uo:=fH ns m eL;have iS:rA ns m=(v7 (ns.getD m n0)&&(decide (m=0)||di (ns.getD (m-1) n0) (ns.getD m n0))):=rfl;have cn:=λH T=>PT (ns.getD (m-1) n0) (ns.getD m n0) H T;have oG:=JE (ns.getD (m-1) n0) (ns.getD m n0);generalize xg (ns.getD (m-1) n0) (ns.getD m n0)=cq at *;have zW:=λh=>fH ns (m-1) h;generalize ns.getD (m-1) n0=y at *;generalize Uv:ns.getD m n0=x at *;obtain⟨x1,x2⟩:=x;obtain⟨y1,y2⟩:=y;simp only at uo zW;apply aj;refine zQ ?_;apply ba;clear ba;refine ae λK3 bH=>?_;apply ag;apply ar;simp(disch:=omega)[uo,cE];refine cQ [] [] [] aO zK zK λK hK=>?_;have key:∀e b,b=rA ns m->bA H.length.succ T.length e [(1,.ptr H.length 0),(70,.sl ns.length (bG ns) .none),(71,.int .i64 (ns.length:Nat)),(72,.int .i64 (m:Nat)),(109,.bool (!b))]->K ⟨e,H++[.cells (dY ⟨id,zs,ns⟩),.cells [.int .i64 x1,.int .i64 x2]],T⟩:=by
      intro e b hb he;refine hK _ (aF ⟨[(1,.ptr H.length 0),(70,.sl ns.length (bG ns) .none),(71,.int .i64 (ns.length:Nat)),(72,.int .i64 (m:Nat)),(109,.bool (!b))],H++[.cells (dY ⟨id,zs,ns⟩)],T⟩ (ak [.cells [.int .i64 x1,.int .i64 x2]] [] zS zS zS zS eu (zU he)) ?_)
      cases b with
      |false=>
       apply aC rfl;refine af ?_;refine aI ?_;rw[<-hq,D7 eL hb.symm]
      |true=>
       apply aB rfl;apply aj;refine zQ ?_;apply bH;clear bH;refine aJ ?_;refine⟨m+1,⟨by show m+1<=_;omega,λj hj=>?_⟩,by show ns.length-(m+1)<ns.length-m;omega,?_⟩
       ·rcases ahD j m with h|h
        ·exact m2 j h
        ·have:j=m:=zO;subst this;exact hb.symm
       ·exact wk eu
     clear hK;have c:=cn (H++[.cells (dY ⟨id,zs,ns⟩),.cells [.int .i64 x1,.int .i64 x2]]) T;have ebv:¬((5<=x1/\x1<=7)/\0<=x2/\x2<=1000000000000)->rA ns m=false:=λh=>by
      have:v7 (x1,x2)=false:=by
       unfold v7;simp only[ajP,aiP];rcases Classical.em (5<=x1/\x1<=7) with h'|h'
       ·exact .inr λh2=>h ⟨h',h2⟩
       ·exact .inl h'
      rw[iS,this];rfl
     by_cases v1:x1<5
     ·have w1:decide (x1<5)=true:=ahx v1;simp(disch:=omega)[w1,v1];refine key _ false (ebv zO).symm zS
     have w1:decide (x1<5)=false:=ahy v1
     by_cases v2:7<x1
     ·have w2:decide (7<x1)=true:=ahx v2;simp(disch:=omega)[w1,v1,w2,v2];refine key _ false (ebv zO).symm zS
     have w2:decide (7<x1)=false:=ahy v2
     by_cases v3:x2<0
     ·have w3:decide (x2<0)=true:=ahx v3;simp(disch:=omega)[w1,v1,w2,v2,w3,v3];refine key _ false (ebv zO).symm zS
     have w3:decide (x2<0)=false:=ahy v3
     by_cases v4:1000000000000<x2
     ·have w4:decide (1000000000000<x2)=true:=ahx v4;simp(disch:=omega)[w1,v1,w2,v2,w3,v3,w4,v4];refine key _ false (ebv zO).symm zS
     have w4:decide (1000000000000<x2)=false:=ahy v4;have eo:v7 (x1,x2)=true:=by
      unfold v7;rw[ahx (by omega:5<=x1/\x1<=7),ahx (by omega:0<=x2/\x2<=1000000000000)];rfl
     rw[eo,aio] at iS;rcases ah0 m with h5|h5
     ·subst h5;simp(disch:=omega)[w1,v1,w2,v2,w3,v3,w4,v4];refine key _ true (by rw[iS];rfl) zS
     ·have e6:((m:Int)-1)=((m-1:Nat):Int):=zO;have b5:decide ((0:Int)<(m:Int))=true:=ahx zO;have pO:=zW zO;rw[ahy (by omega:¬m=0),aiY] at iS
      cases bp:di (y1,y2) (x1,x2) with
      |false=>
       have b7:decide (0<=cq)=true:=ahx (oG.2 bp);have n7:=oG.2 bp;rw[bp] at iS;simp(disch:=omega)[w1,v1,w2,v2,w3,v3,w4,v4,b5,h5,e6,pO,cE];refine az (c) rfl ?_;simp(disch:=omega)[b7,n7];refine key _ false iS.symm zS
      |true=>
       have n7:¬0<=cq:=λe=>by rw[oG.1 e] at bp;cases bp
       have b7:decide (0<=cq)=false:=ahy n7;rw[bp] at iS;simp(disch:=omega)[w1,v1,w2,v2,w3,v3,w4,v4,b5,h5,e6,pO,cE];refine az (c) rfl ?_;simp(disch:=omega)[b7,n7];refine key _ true iS.symm zS
    ·simp  at eL;apply aD;refine zQ ?_;apply aN;clear aN;refine af ?_;refine aI ?_;rw[<-hq,vE (by simp only;omega) (λi hi=>g2 i (by simp only at hi;omega)) (λi hi=>m2 i (by simp only at hi;omega))]
end Go.Proofs.YtoejlmpbebjemaaGreat
namespace eN
open VY
structure rP (l l':List Dc):Prop where
 perm:l'.Perm l
 ord:l'.Pairwise λx y=>x.id<=y.id
def rP.len {l l':List Dc}(h:rP l l'):l'.length=l.length:=h.perm.length_eq
def rP.nil:rP [] []:=⟨.refl _,.nil⟩
def idx (l:List Dc):List GE:=(List.range l.length).map λi=>(i,l.getD i d0)
def tA (l:List Dc):(idx l).length=l.length:=by simp[idx]
def Jy (l:List Dc){i:Nat}(hi:i<l.length):(idx l).getD i ze=(i,l.getD i d0):=by
 rw[ahs,ahu (by rw[tA];exact hi)];simp[idx]
def Cg (l:List Dc):(idx l).map (·.2)=l:=by
 apply ajq
 ·simp[idx]
 ·intro i h1 h2;simp only[idx,aip,aj0];rw[ahs,ahu h2];rfl
end eN
namespace Go.Proofs.YtoejlmpbebjemaaGreat
open Go.Proofs.Tryz(prog)
open Go Go.Am ie eN VY
def yu {P:Dc->Prop}{g:Nat}(hg:GY P g)(l:List Dc)(hP:∀d∈l,P d)(rest:List AV)(i:Nat)(hl:l.length<=19)(H:List aA)(T:au)(hi:H[i]?=some (.cells (aM l++rest)))(hr:aL H.length T.length rest) :
  aq prog 91 [.cV i 0 l.length,.fn g [] []] H T (λr H' T'=>r=.dn []/\T'=T/\∃l',H'=H.set i (.cells (aM l'++rest))/\rP l l'):=by
 have hm:mq (idx l)=aM l:=by rw[ET,Cg]
 have hw:Wg (idx l) 0 (idx l).length:=λp q _ h2 h3=>by
  rw[tA] at h3;rw[Jy l zO,Jy l h3];exact ahx h2
 have c:=Lc hg (idx l).length (by rw[tA];exact hl) (idx l) (λe he=>hP _ (by rw[<-Cg l];exact ahz.2 ⟨e,he,rfl⟩)) rest i rfl hw H T (by rw[hm];exact hi) hr;rw[tA] at c;refine ah 3 [] Tryz.ntmps91 Tryz.func91 rfl (λ_ _=>Tryz.call91 _ _) zS (λHO=>?_);refine br λK hK=>?_;simp(disch:=omega)[-getD_eq_getElem?_getD];refine⟨_,c,?_⟩;rintro v H' T' ⟨rfl,rfl,d',rfl,k1,k2⟩;simp(disch:=omega)[-getD_eq_getElem?_getD];apply hK;refine⟨rfl,rfl,d'.map (·.2),by rw[ET],?_,?_⟩
 ·have:=k1.perm.map (·.2)
  rwa [Cg] at this
 ·rw[aie,ah6];intro a b ha hb j9;have hlen:=k1.len;rw[tA] at hlen;have:=Vf (k2 a b (ahE _) j9 zO);rw[ahs,ahs,ahu ha,ahu hb] at this;simp only[ai5,ky] at this;omega
attribute [-simp] getD_eq_getElem?_getD in
def FE (g:Nat)(H:List aA)(T:au)(tg:Tag) :
  aq prog 91 [.sl 0 [] tg,.fn g [] []] H T (Is (.dn []) H T):=by
 refine aq.bR ?_;have c1:aq prog 185 [.sl 0 [] .none,.int .i64 0,.int .i64 0,.fn g [] []] H T (Is (.dn []) H T):=by
  refine ah 10 [] Tryz.ntmps185 Tryz.func185 rfl (λ_ _=>Tryz.call185 _ _) zS (λHO=>?_);refine af ?_;apply ag;refine aG (X:=Unit) (λ_=>⟨[(2,.int .i64 0),(8,.int .i64 1)],H,T⟩) (λ_=>True) (λ_=>0) () trivial ?_ ?_
  ·exact wk HO
  ·rintro _ _;apply hY;refine af ?_;apply aB rfl;apply aD;refine zQ ?_;exact⟨rfl,rfl,rfl⟩
 have c:aq prog 156 [.sl 0 [] .none,.int .i64 0,.fn g [] []] H T (Is (.dn []) H T):=by
  refine ah 10 [] Tryz.ntmps156 Tryz.func156 rfl (λ_ _=>Tryz.call156 _ _) zS (λHO=>?_);refine af ?_;refine af ?_;refine ae λK1 aN=>?_;apply ag;refine aG (X:=Unit) (λ_=>⟨[(0,.sl 0 [] .none),(1,.int .i64 0),(2,.fn g [] []),(6,.int .i64 20),(7,.int .i64 0),(8,.int .i64 20)],H,T⟩) (λ_=>True) (λ_=>0) () trivial ?_ ?_
  ·exact wk HO
  ·rintro _ _;apply hY;refine af ?_;apply aB rfl;apply aD;refine zQ ?_;apply aN;clear aN;apply ar;refine zQ ?_;refine ai (c1) ?_;refine zQ ?_;apply ag;refine aG (X:=Unit) (λ_=>⟨[(1,.int .i64 0),(6,.int .i64 20)],H,T⟩) (λ_=>True) (λ_=>0) () trivial ?_ ?_
   ·exact wk HO
   ·rintro _ _;apply hY;refine af ?_;apply aB rfl;apply aD;refine zQ ?_;exact⟨rfl,rfl,rfl⟩
 refine ah 3 [] Tryz.ntmps91 Tryz.func91 rfl (λ_ _=>Tryz.call91 _ _) zS (λHO=>?_);refine br λK hK=>?_;refine zQ ?_;refine ai (c) ?_;refine zQ ?_;apply hK;exact⟨rfl,rfl,rfl⟩
attribute [-simp] getD_eq_getElem?_getD in
def MQ (l:List Dc)(h0:l≠[])(hl:l.length<=1000)(H:List aA)(T:au)(tg:Tag) :
  aq prog 122 [.sl l.length (aM l) tg] H T (λr H' T'=>T'=T/\∃k,H'=H++[.cells (aM l++List.replicate k .top)]/\r=.cV H.length 0 l.length):=by
 refine aq.bR ?_;have gu:0<l.length:=aiV.2 h0;have dM:¬l=[]:=h0;have hlen:=bI l;have hd:¬aM l=[]:=λe=>by rw[e] at hlen;simp at hlen;omega
 refine ah 3 [7] Tryz.ntmps122 Tryz.func122 rfl (λ_ _=>Tryz.call122 _ _) zS (λHO=>?_);refine af ?_;refine ae λK1 aN=>?_;apply ar;refine zQ ?_;refine⟨?_,λhe=>absurd he (by first|exact dM|exact hd)⟩;apply aB rfl;apply aj;refine zQ ?_;apply aN;clear aN;apply ar;simp(disch:=omega)[dx,bI,gu];intro k;exact bu zC
attribute [-simp] getD_eq_getElem?_getD in
def Iu (H:List aA)(T:au)(tg:Tag) :
  aq prog 122 [.sl 0 [] tg] H T (Is (.sl 0 [] .none) H T):=by
 refine aq.bR ?_;refine aq.bK ?_ zS;refine ah 3 [] Tryz.ntmps122 Tryz.func122 rfl (λ_ _=>Tryz.call122 _ _) zS (λHO=>?_);refine af ?_;refine ae λK1 aN=>?_;refine aK λK hK=>?_;simp(disch:=omega) 
 constructor
 ·apply hK;apply aB rfl;apply aj;simp(disch:=omega) ;apply aN;clear aN;refine aK λK hK=>?_;simp(disch:=omega)[dx];apply hK;apply bu;simp(disch:=omega) 
 ·apply hK;apply aC rfl;refine af ?_;apply bu;simp(disch:=omega) 
attribute [-simp] getD_eq_getElem?_getD in
def Uf (d:Dc)(hs:pt d)(H:List aA)(T:au):aq prog 126 [.agg (dY d)] H T (Is (.bool (!aU d)) H T):=by
 refine aq.bK ?_ zS;have c:=λH T=>Ci d hs H T;generalize aU d=q at *;refine ah 3 [] Tryz.ntmps126 Tryz.func126 rfl (λ_ _=>Tryz.call126 _ _) zS (λHO=>?_);refine af ?_;apply ar;refine zQ ?_;refine ai (c _ _) ?_;refine zQ ?_;exact bu zC
attribute [-simp] getD_eq_getElem?_getD in
theorem Mo (l:List Dc)(hl:l.length<=maxLen)(hs:∀d∈l,pt d)(H:List aA)(T:au) :
  aq prog 175 [.sl l.length (aM l) .none,.fn 126 [] []] H T (λr H' T'=>H'=H/\T'=T/\∃v:Int,r=.int .i64 v/\decide (0<=v)=l.any (λd=>!aU d)):=by
 have jU:maxLen<=9223372036854775807:=zD;have jY:=ahA hl jU;generalize hq:l.any (λd=>!aU d)=q;refine ah 9 [] Tryz.ntmps175 Tryz.func175 rfl (λ_ _=>Tryz.call175 _ _) zS (λHO=>?_);refine af ?_;refine ae λK1 aN=>?_;refine af ?_;apply ag;refine aG (X:=Nat) (λk=>⟨[(0,.sl l.length (aM l) .none),(1,.fn 126 [] []),(7,.int .i64 (l.length:Nat)),(8,.int .i64 (k:Nat))],H,T⟩) (λk=>k<=l.length/\∀j,j<k->aU (l.getD j d0)=true) (λk=>l.length-k) 0 ?_ ?_ ?_
 ·exact⟨ahE _,λj hj=>absurd hj (ahT _)⟩
 ·exact wk HO
 ·rintro k ⟨h1,h2⟩;refine af ?_;refine ae λK2 ba=>?_;refine aV rfl (λhk=>?_) (λhk=>?_)
  ·simp  at hk;have bB:=iw l k hk;have hm:=aQ l k d0 hk;have c:=Uf (l.getD k d0) (hs _ hm) H T;apply aj;refine zQ ?_;apply ba;clear ba;refine ae λK3 bH=>?_;apply ag;refine af ?_
   cases hb:aU (l.getD k d0) with
   |false=>
    rw[hb] at c;apply ar;simp(disch:=omega)[bB,bI];refine ai (c) ?_;refine zQ ?_;apply aC rfl;refine af ?_;refine aI ?_;have:l.any (λd=>!aU d)=true:=ai6.2 ⟨_,hm,by rw[hb];rfl⟩;rw[hq] at this;simp[this]
   |true=>
    rw[hb] at c;apply ar;simp(disch:=omega)[bB,bI];refine ai (c) ?_;refine zQ ?_;apply aB rfl;apply aj;refine zQ ?_;apply bH;clear bH;refine aJ ?_;refine⟨k+1,⟨by show k+1<=_;omega,λj hj=>?_⟩,by show l.length-(k+1)<l.length-k;omega,?_⟩
    ·rcases ahD j k with h3|h3
     ·exact h2 j h3
     ·have:j=k:=zO;subst this;exact hb
    ·exact wk HO
  ·simp  at hk;have hn:l.any (λd=>!aU d)=false:=by
    rw[ajm];intro p RJ;obtain⟨j,hj,e⟩:=bP d0 RJ;have:=h2 j zO;rw[e] at this;simp[this]
   apply aD;refine zQ ?_;apply aN;clear aN;refine af ?_;refine aI ?_;rw[hq] at hn;simp[hn]
attribute [-simp] getD_eq_getElem?_getD in
def CI (l:List Dc)(hl:l.length<=maxLen)(hs:∀d∈l,pt d)(H:List aA)(T:au)(tg:Tag) :
  aq prog 125 [.sl l.length (aM l) tg,.fn 126 [] []] H T (Is (.bool (l.any (λd=>!aU d))) H T):=by
 refine aq.bR ?_;have c:=Mo l hl hs H T;generalize l.any (λd=>!aU d)=q at *;refine ah 5 [] Tryz.ntmps125 Tryz.func125 rfl (λ_ _=>Tryz.call125 _ _) zS (λHO=>?_);refine af ?_;apply ar;refine zQ ?_;refine⟨_,c,?_⟩;rintro r H' T' ⟨rfl,rfl,v,rfl,hv⟩;simp(disch:=omega)[hv];refine aI ?_;exact⟨rfl,rfl,rfl⟩
end Go.Proofs.YtoejlmpbebjemaaGreat
