/- Posting lists of layer 38 as cells, and their copies. The documents of posting lists of layer 38. Valid of layer 38. Valid of layer 38: the whole. Valid, Count and Few of the reference of layer 38, and Count of the program. Same of the reference of layer 38, and same of the law. Near of layer 38: what it asks of two positions; whether some number of a list passes a test; searching among ascending numbers. Searching among ascending numbers.
  Conditions: lengths below 1000 or 5000, as each theorem says. -/
import Derived.Test.YtoejlmpbebjemaaGreatPA
set_option linter.all false
set_option maxRecDepth 100000
set_option maxHeartbeats 2000000
open List (getD_eq_getElem?_getD)
namespace Go.Proofs.YtoejlmpbebjemaaGreat
open Go.Proofs.Tryz(prog)
open Go Go.Am cO
@[simp] theorem Mj (v w:AV):gh [v,w] 2=[v,w]:=rfl
def bD (l:List (Int×List Int)):List AV:=l.flatMap λp=>[.int .i64 p.1,.sl p.2.length (ints p.2) .none]
def sX:bD []=[]:=rfl
theorem bB (l:List (Int×List Int)):(bD l).length=l.length*2:=by
 induction l with
 |nil=>rfl
 |cons p l ih=>simp only[bD,agT,agF,ahd,ahV] at ih ⊢;omega
@[simp] theorem abW (n t:Nat) (l:List (Int×List Int)):aM n t (bD l):=by
 intro v hv;obtain⟨p,_,hv⟩:=ahm.1 hv;simp at hv;rcases hv with rfl|rfl<;>simp
def qp (p:Int×List Int)(l:List (Int×List Int)):bD (p::l)=.int .i64 p.1::.sl p.2.length (ints p.2) .none::bD l:=by simp[bD]
def nN (l:List (Int×List Int))(d:Int)(at_:List Int):bD l++[.int .i64 d,.sl at_.length (ints at_) .none]=bD (l++[(d,at_)]):=by simp[bD]
theorem jW:∀(l:List (Int×List Int)) (i:Nat),i<l.length->(bD l).getD (i*2) .top=.int .i64 (l.getD i (0,[])).1/\(bD l).getD (i*2+1) .top=.sl (l.getD i (0,[])).2.length (ints (l.getD i (0,[])).2) .none:=by
 intro l
 induction l with
 |nil=>intro i h;simp at h
 |cons p l ih=>
  intro i h
  cases i with
  |zero=>rw[qp];exact⟨rfl,rfl⟩
  |succ i=>
   have:=ih i (by simpa using h);rw[qp,show (i+1)*2=i*2+1+1 by omega];exact this
theorem mb:∀(l:List (Int×List Int)) (i:Nat),i<l.length->((bD l).drop (i*2)).take 2=[.int .i64 (l.getD i (0,[])).1,.sl (l.getD i (0,[])).2.length (ints (l.getD i (0,[])).2) .none]:=by
 intro l
 induction l with
 |nil=>intro i h;simp at h
 |cons p l ih=>
  intro i h
  cases i with
  |zero=>rw[qp];rfl
  |succ i=>
   have:=ih i (by simpa using h);rw[qp,show (i+1)*2=i*2+1+1 by omega];exact this
def KX (l:List (Int×List Int))(k:Nat)(h:k<l.length):bD (l.take k)++[.int .i64 (l.getD k (0,[])).1,.sl (l.getD k (0,[])).2.length (ints (l.getD k (0,[])).2) .none]=bD (l.take (k+1)):=by
 rw[nN,show ((l.getD k (0,[])).1,(l.getD k (0,[])).2)=l.getD k (0,[]) from rfl]
 congr 1
 rw[ah0 h];simp[h]
attribute [-simp] getD_eq_getElem?_getD in
def zP (l:List (Int×List Int))(hl:l.length<=5000)(H:List aA)(T:au)(tg:Tag):ar prog 47 [.sl l.length (bD l) tg] H T (Is (.sl l.length (bD l) .none) H T):=by
 refine ar.cF ?_;refine ar.bZ ?_ (by simp);refine ah 5 [] Tryz.ntmps47 Tryz.func47 rfl (λ_ _=>Tryz.call47 _ _) (by simp) (λHO=>?_);apply ae;intro K Z;simp(disch:=omega);apply Z;apply ae;intro K Z;simp(disch:=omega);apply Z;refine af λK1 aP=>?_;apply ae;intro K Z;simp(disch:=omega);apply Z;apply aj;refine mX 3 0 2 [] (by omega) (by simp) ?_;refine aJ (X:=Nat) (λk=>⟨[(0,.sl l.length (bD l) .none),(3,.sl k (bD (l.take k)) (.own T.length)),(4,.int .i64 (k:Nat))],H,T++[(k*2,2)]⟩) (λk=>k<=l.length) (λk=>l.length-k) 0 ?_ ?_ ?_
 ·exact agP _
 ·refine ag [] [] ?_ ?_ ?_ ?_ (HO.ko (by simp)) ?_
  all_goals simp[sX]
 ·intro k hk;refine af λK2 bp=>?_;apply ae;intro K Z;simp(disch:=omega);apply Z;refine aU rfl (λfX=>?_) (λfX=>?_)
  ·simp  at fX;have bu:=mb l k fX;have vC:(bD (l.take k)).length=k*2:=by rw[bB,ag5];omega
   apply aq;simp(disch:=omega) ;apply bp;clear bp;refine af λK3 bG=>?_;apply aj;refine aC λK hK=>?_;simp(disch:=omega)[bu,bB,vC,KX l k fX];apply hK;apply bG;clear bG;refine aC λK hK=>?_;simp(disch:=omega) ;apply hK;refine⟨k+1,by show k+1<=_;omega,by show l.length-(k+1)<l.length-k;omega,?_⟩;refine ag [] [] ?_ ?_ ?_ ?_ (HO.ko (by simp)) ?_
   all_goals simp
  ·simp at fX;have:k=l.length:=by omega
   subst this;apply aG;simp(disch:=omega) ;apply aP;clear aP;apply ae;intro K Z;simp(disch:=omega);apply Z;apply az;simp(disch:=omega) 
def aB (l:List (Int×List Int)):List Int:=l.map (·.1)
def Ax (l:List (Int×List Int))(k:Nat)(h:k<l.length):ints (aB (l.take k))++[.int .i64 (l.getD k (0,[])).1]=ints (aB (l.take (k+1))):=by
 have e:l.take (k+1)=l.take k++[l.getD k (0,[])]:=by
  rw[ah0 h];simp[h]
 rw[e,eE];simp[aB]
attribute [-simp] getD_eq_getElem?_getD in
def aam (l:List (Int×List Int))(hl:l.length<=5000)(H:List aA)(T:au)(tg:Tag):ar prog 165 [.sl l.length (bD l) tg] H T (Is (.sl l.length (ints (aB l)) .none) H T):=by
 refine ar.cF ?_;refine ar.bZ ?_ (by simp);refine ah 5 [] Tryz.ntmps165 Tryz.func165 rfl (λ_ _=>Tryz.call165 _ _) (by simp) (λHO=>?_);apply ae;intro K Z;simp(disch:=omega);apply Z;apply ae;intro K Z;simp(disch:=omega);apply Z;refine af λK1 aP=>?_;apply ae;intro K Z;simp(disch:=omega);apply Z;apply aj;refine mX 3 0 1 [] (by omega) (by simp) ?_;refine aJ (X:=Nat) (λk=>⟨[(0,.sl l.length (bD l) .none),(3,.sl k (ints (aB (l.take k))) (.own T.length)),(4,.int .i64 (k:Nat))],H,T++[(k,1)]⟩) (λk=>k<=l.length) (λk=>l.length-k) 0 ?_ ?_ ?_
 ·exact agP _
 ·refine ag [] [] ?_ ?_ ?_ ?_ (HO.ko (by simp)) ?_
  all_goals simp[aB,ints]
 ·intro k hk;refine af λK2 bp=>?_;apply ae;intro K Z;simp(disch:=omega);apply Z;refine aU rfl (λfX=>?_) (λfX=>?_)
  ·simp  at fX;have jl:=(jW l k fX).1;have vC:(ints (aB (l.take k))).length=k:=by simp[aB,ints];omega
   have iz:=Ax l k fX;generalize ints (aB (l.take k))=out at *;apply aq;simp(disch:=omega) ;apply bp;clear bp;refine af λK3 bG=>?_;apply aj;refine aC λK hK=>?_;simp(disch:=omega)[jl,bB,vC,iz];apply hK;apply bG;clear bG;refine aC λK hK=>?_;simp(disch:=omega) ;apply hK;refine⟨k+1,by show k+1<=_;omega,by show l.length-(k+1)<l.length-k;omega,?_⟩;refine ag [] [] ?_ ?_ ?_ ?_ (HO.ko (by simp)) ?_
   all_goals simp
  ·simp at fX;have:k=l.length:=by omega
   subst this;apply aG;simp(disch:=omega) ;apply aP;clear aP;apply ae;intro K Z;simp(disch:=omega);apply Z;apply az;simp(disch:=omega) 
attribute [-simp] getD_eq_getElem?_getD in
def tE (l:List (Int×List Int))(hl:l.length<=5000)(H:List aA)(T:au)(tg:Tag):ar prog 108 [.sl l.length (bD l) tg] H T (Is (.sl l.length (ints (aB l)) .none) H T):=by
 refine ar.cF ?_;refine ar.bZ ?_ (by simp);refine ah 12 [] Tryz.ntmps108 Tryz.func108 rfl (λ_ _=>Tryz.call108 _ _) (by simp) (λHO=>?_);apply ae;intro K Z;simp(disch:=omega);apply Z;apply ae;intro K Z;simp(disch:=omega);apply Z;refine af λK1 aP=>?_;apply ae;intro K Z;simp(disch:=omega);apply Z;apply aj;refine aJ (X:=Nat) (λk=>⟨[(3,.sl k (ints (aB (l.take k))) (.own T.length)),(9,.sl l.length (bD l) .none),(10,.int .i64 (l.length:Nat)),(11,.int .i64 (k:Nat))],H,T++[(k,1)]⟩) (λk=>k<=l.length) (λk=>l.length-k) 0 ?_ ?_ ?_
 ·exact agP _
 ·refine ag [] [] ?_ ?_ ?_ ?_ (HO.ko (by simp)) ?_
  all_goals simp[aB,ints]
 ·intro k hk;apply ae;intro K Z;simp(disch:=omega);apply Z;refine af λK2 bp=>?_;refine aU rfl (λfX=>?_) (λfX=>?_)
  ·simp  at fX;have bu:=mb l k fX;have vC:(ints (aB (l.take k))).length=k:=by simp[aB,ints];omega
   have iz:=Ax l k fX;generalize ints (aB (l.take k))=out at *;apply aq;simp(disch:=omega) ;apply bp;clear bp;refine af λK3 bG=>?_;apply aj;refine ae λK hK=>?_;simp(disch:=omega)[bu,bB];apply hK;refine aC λK hK=>?_;simp(disch:=omega)[vC,iz];apply hK;apply bG;clear bG;refine aC λK hK=>?_;simp(disch:=omega) ;apply hK;refine⟨k+1,by show k+1<=_;omega,by show l.length-(k+1)<l.length-k;omega,?_⟩;refine ag [.cells [.int .i64 (l.getD k (0,[])).1,.sl (l.getD k (0,[])).2.length (ints (l.getD k (0,[])).2) .none]] [] ?_ ?_ ?_ ?_ (HO.ko (by simp)) ?_
   all_goals simp
  ·simp at fX;have:k=l.length:=by omega
   subst this;apply aG;simp(disch:=omega) ;apply aP;clear aP;apply ae;intro K Z;simp(disch:=omega);apply Z;apply az;simp(disch:=omega) 
def nD (p:Int×List Int):Bool:=decide (p.2.length=0)||!oX p.2 0 1000000
def dS (l:List (Int×List Int)):Bool:=oX (aB l) 1 1000000000&&!l.any nD
attribute [-simp] getD_eq_getElem?_getD in
def Kf (p:Int×List Int)(hp:p.2.length<=maxLen)(H:List aA)(T:au):ar prog 141 [.agg [.int .i64 p.1,.sl p.2.length (ints p.2) .none]] H T (Is (.bool (nD p)) H T):=by
 refine ar.bZ ?_ (by simp);have c:=Oj p.2 0 1000000 hp (H++[.cells [.int .i64 p.1,.sl p.2.length (ints p.2) .none]]) T .none;refine ah 3 [] Tryz.ntmps141 Tryz.func141 rfl (λ_ _=>Tryz.call141 _ _) (by simp) (λHO=>?_);apply ae;intro K Z;simp(disch:=omega);apply Z
 by_cases h0:p.2.length=0
 ·have b:((p.2.length:Int)==0)=true:=by rw[h0];rfl
  have h1:(p.2.length:Int)=0:=by omega
  have h2:p.2=[]:=ahe h0;refine ae λK hK=>?_;simp(disch:=omega)[b,h1,h2];apply hK;apply az;simp(disch:=omega) ;simp[nD,h0]
 ·have b:((p.2.length:Int)==0)=false:=by rw[ahq];omega
  have h2:¬p.2=[]:=λe=>h0 (by rw[e];rfl);refine ae λK hK=>?_;simp(disch:=omega)[b,h2];refine ak (c) ?_;simp(disch:=omega) ;apply hK;apply az;simp(disch:=omega) ;simp[nD,h2]
attribute [-simp] getD_eq_getElem?_getD in
theorem PA (l:List (Int×List Int))(hl:l.length<=5000)(hp:∀p∈l,p.2.length<=maxLen)(H:List aA)(T:au) :
  ar prog 182 [.sl l.length (bD l) .none,.fn 141 [] []] H T (λr H' T'=>H'=H/\T'=T/\∃v:Int,r=.int .i64 v/\decide (0<=v)=l.any nD):=by
 generalize hq:l.any nD=q;refine ah 9 [] Tryz.ntmps182 Tryz.func182 rfl (λ_ _=>Tryz.call182 _ _) (by simp) (λHO=>?_);apply ae;intro K Z;simp(disch:=omega);apply Z;refine af λK1 aP=>?_;apply ae;intro K Z;simp(disch:=omega);apply Z;apply aj;refine aJ (X:=Nat) (λk=>⟨[(0,.sl l.length (bD l) .none),(1,.fn 141 [] []),(7,.int .i64 (l.length:Nat)),(8,.int .i64 (k:Nat))],H,T⟩) (λk=>k<=l.length/\∀j,j<k->nD (l.getD j (0,[]))=false) (λk=>l.length-k) 0 ?_ ?_ ?_
 ·exact⟨agP _,λj hj=>absurd hj (ag9 _)⟩
 ·refine ag [] [] ?_ ?_ ?_ ?_ HO ?_
  all_goals simp
 ·rintro k ⟨h1,h2⟩;apply ae;intro K Z;simp(disch:=omega);apply Z;refine af λK2 bp=>?_;refine aU rfl (λhk=>?_) (λhk=>?_)
  ·simp  at hk;have bu:=mb l k hk;have hm:l.getD k (0,[])∈l:=by
    rw[agB,agD hk];exact ahb hk
   have c:=Kf (l.getD k (0,[])) (hp _ hm) H T;apply aq;simp(disch:=omega) ;apply bp;clear bp;refine af λK3 bG=>?_;apply aj;apply ae;intro K Z;simp(disch:=omega);apply Z
   cases hb:nD (l.getD k (0,[])) with
   |true=>
    rw[hb] at c;refine ae λK hK=>?_;simp(disch:=omega)[bu,bB];refine ak (c) ?_;simp(disch:=omega) ;apply hK;apply aH rfl;apply ae;intro K Z;simp(disch:=omega);apply Z;apply az;simp(disch:=omega) ;have:l.any nD=true:=aij.2 ⟨_,hm,hb⟩;rw[hq] at this;simp[this]
   |false=>
    rw[hb] at c;refine ae λK hK=>?_;simp(disch:=omega)[bu,bB];refine ak (c) ?_;simp(disch:=omega) ;apply hK;apply aF rfl;apply aq;simp(disch:=omega) ;apply bG;clear bG;refine aC λK hK=>?_;simp(disch:=omega) ;apply hK;refine⟨k+1,⟨by show k+1<=_;omega,λj hj=>?_⟩,by show l.length-(k+1)<l.length-k;omega,?_⟩
    ·rcases agM j k with h3|h3
     ·exact h2 j h3
     ·have:j=k:=by omega
      subst this;exact hb
    ·refine ag [] [] ?_ ?_ ?_ ?_ HO ?_
     all_goals simp
  ·simp  at hk;have hn:l.any nD=false:=by
    rw[aiv];intro p QT;obtain⟨j,hj,e⟩:=agW.1 QT;have:=h2 j (by omega);rw[agB,agD hj] at this;simp only[aie,e] at this;simp[this]
   apply aG;simp(disch:=omega) ;apply aP;clear aP;apply ae;intro K Z;simp(disch:=omega);apply Z;apply az;simp(disch:=omega) ;rw[hq] at hn;simp[hn]
attribute [-simp] getD_eq_getElem?_getD in
def Fs (l:List (Int×List Int))(hl:l.length<=5000)(hp:∀p∈l,p.2.length<=maxLen)(H:List aA)(T:au) :
  ar prog 142 [.sl l.length (bD l) .none,.fn 141 [] []] H T (Is (.bool (l.any nD)) H T):=by
 have c:=PA l hl hp H T;generalize l.any nD=q at *;refine ah 5 [] Tryz.ntmps142 Tryz.func142 rfl (λ_ _=>Tryz.call142 _ _) (by simp) (λHO=>?_);apply ae;intro K Z;simp(disch:=omega);apply Z;refine ae λK hK=>?_;simp(disch:=omega) ;refine⟨_,c,?_⟩;rintro r H' T' ⟨rfl,rfl,v,rfl,hv⟩;simp(disch:=omega)[hv];apply hK;apply az;simp(disch:=omega) ;exact⟨rfl,rfl,rfl⟩
attribute [-simp] getD_eq_getElem?_getD in
theorem ju (l:List (Int×List Int))(hl:l.length<=5000)(hp:∀p∈l,p.2.length<=maxLen)(H:List aA)(T:au)(tg:Tag) :
  ar prog 79 [.sl l.length (bD l) tg] H T (Is (.bool (dS l)) H T):=by
 refine ar.cF ?_;have c1:=tE l hl H T .none;have mN:(aB l).length=l.length:=by simp[aB]
 have c2:=iu (aB l) (by rw[mN];exact agJ hl (by decide)) H T .none;rw[mN] at c2;have c3:=Fs l hl hp H T;unfold dS;generalize l.any nD=q at *;refine ah 4 [] Tryz.ntmps79 Tryz.func79 rfl (λ_ _=>Tryz.call79 _ _) (by simp) (λHO=>?_);apply ae;intro K Z;simp(disch:=omega);apply Z;apply ae;intro K Z;simp(disch:=omega);apply Z
 cases hv:oX (aB l) 1 1000000000 with
 |false=>
  rw[hv] at c2;refine ae λK hK=>?_;simp(disch:=omega) ;refine ak (c1) ?_;simp(disch:=omega) ;refine ak (c2) ?_;simp(disch:=omega) ;apply hK;apply az;simp(disch:=omega) ;exact⟨rfl,rfl,rfl⟩
 |true=>
  rw[hv] at c2;refine ae λK hK=>?_;simp(disch:=omega) ;refine ak (c1) ?_;simp(disch:=omega) ;refine ak (c2) ?_;simp(disch:=omega) ;refine ak (c3) ?_;simp(disch:=omega) ;apply hK;apply az;simp(disch:=omega) ;exact⟨rfl,rfl,rfl⟩
theorem vJ {α:Type}(l:List α)(k:Nat)(d:α)(h:k<l.length):l.getD k d∈l:=by
 rw[agB,agD h];exact ahb h
theorem mc {α:Type}{l:List α}{x:α}(d:α)(h:x∈l):∃k,k<l.length/\l.getD k d=x:=by
 obtain⟨j,hj,e⟩:=agW.1 h;refine⟨j,hj,?_⟩;rw[agB,agD hj];exact e
attribute [-simp] getD_eq_getElem?_getD in
def OR (a b:List (Int×List Int))(ha:a.length<=5000)(hb:b.length<=5000)(UR:∀p∈a,p.2.length<=maxLen)(UQ:∀p∈b,p.2.length<=maxLen)(H:List aA)(T:au)(ta tb:Tag) :
  ar prog 93 [.sl a.length (bD a) ta,.sl b.length (bD b) tb] H T (Is (.bool (decide (a=b))) H T):=by
 refine ar.cF (ar.tZ ?_);refine ah 6 [] Tryz.ntmps93 Tryz.func93 rfl (λ_ _=>Tryz.call93 _ _) (by simp) (λHO=>?_);apply ae;intro K Z;simp(disch:=omega);apply Z;refine af λK1 aP=>?_;apply ae;intro K Z;simp(disch:=omega);apply Z;refine aU rfl (λh=>?_) (λh=>?_)
 ·simp  at h;apply ae;intro K Z;simp(disch:=omega);apply Z;apply az;simp(disch:=omega) ;have:¬a=b:=by intro e;subst e;exact h rfl
  rw[agI this];exact⟨rfl,rfl,rfl⟩
 ·simp  at h;have hl:a.length=b.length:=by omega
  apply aq;simp(disch:=omega) ;apply aP;clear aP;refine af λK1 aP=>?_;apply ae;intro K Z;simp(disch:=omega);apply Z;apply aj;refine aJ (X:=Nat) (λi=>⟨[(0,.sl a.length (bD a) .none),(1,.sl b.length (bD b) .none),(5,.int .i64 (i:Nat))],H,T⟩) (λi=>i<=a.length/\∀j,j<i->a.getD j (0,[])=b.getD j (0,[])) (λi=>a.length-i) 0 ?_ ?_ ?_
  ·exact⟨by omega,λj hj=>by omega⟩
  ·refine ag [] [] ?_ ?_ ?_ ?_ HO ?_
   all_goals simp
  ·rintro i ⟨hi,hj⟩;refine af λK2 bp=>?_;apply ae;intro K Z;simp(disch:=omega);apply Z;refine aU rfl (λh=>?_) (λh=>?_)
   ·simp  at h;have o9:=jW a i h;have AS:=jW b i (by omega);have hmA:a.getD i (0,[])∈a:=by
     rw[agB,agD h];exact ahb h
    have hmB:b.getD i (0,[])∈b:=by
     rw[agB,agD (show i<b.length by omega)];exact ahb _
    have c:=pV (a.getD i (0,[])).2 (b.getD i (0,[])).2 (UR _ hmA) (UQ _ hmB) H T .none .none;have gA:a.getD i (0,[])=b.getD i (0,[])->∀j,j<i+1->a.getD j (0,[])=b.getD j (0,[]):=λhe j bQ=>by
     rcases agM j i with h1|h1
     ·exact hj j h1
     ·have:j=i:=by omega
      subst this;exact he
    have oh:a.getD i (0,[])≠b.getD i (0,[])->¬a=b:=λh e=>h (by rw[e]);have Vx:i<b.length:=by omega
    generalize a.getD i (0,[])=p at o9 c gA oh;generalize b.getD i (0,[])=q at AS c gA oh;apply aq;simp(disch:=omega) ;apply bp;clear bp;refine af λK3 bG=>?_;apply aj
    by_cases he:p.1=q.1
    ·have bb:(p.1!=q.1)=false:=by simp[he]
     cases hs:(p.2==q.2)
     ·rw[hs] at c;refine aK [] [] [] aw (by kernel_rfl) (by kernel_rfl) λK hK=>?_;simp(disch:=omega)[o9.1,o9.2,AS.1,AS.2,bB,he,Vx];refine aD (c) rfl ?_;simp(disch:=omega) ;apply hK;apply aH rfl;apply ae;intro K Z;simp(disch:=omega);apply Z;apply az;simp(disch:=omega) ;have:¬a=b:=oh (λe=>by rw[e] at hs;simp at hs);rw[agI this];exact⟨rfl,rfl,rfl⟩
     ·rw[hs] at c;refine aK [] [] [] aw (by kernel_rfl) (by kernel_rfl) λK hK=>?_;simp(disch:=omega)[o9.1,o9.2,AS.1,AS.2,bB,he,Vx];refine aD (c) rfl ?_;simp(disch:=omega) ;apply hK;apply aF rfl;apply aq;simp(disch:=omega) ;apply bG;clear bG;refine aC λK hK=>?_;simp(disch:=omega) ;apply hK;refine⟨i+1,⟨by omega,gA (Prod.ext he (by simpa using hs))⟩,by omega,?_⟩;refine ag [] [] ?_ ?_ ?_ ?_ HO ?_
      all_goals simp
    ·have Ci:(p.1!=q.1)=true:=bne_iff_ne.2 he;refine aK [] [] [] aw (by kernel_rfl) (by kernel_rfl) λK hK=>?_;simp(disch:=omega)[o9.1,o9.2,AS.1,AS.2,bB,Ci,Vx];apply hK;apply aH rfl;apply ae;intro K Z;simp(disch:=omega);apply Z;apply az;simp(disch:=omega) ;have:¬a=b:=oh (λe=>he (by rw[e]));rw[agI this];exact⟨rfl,rfl,rfl⟩
   ·simp  at h;apply aG;simp(disch:=omega) ;apply aP;clear aP;apply ae;intro K Z;simp(disch:=omega);apply Z;apply az;simp(disch:=omega) ;refine⟨?_,rfl,rfl⟩;have:a=b:=BE (0,[]) hl (λj bQ=>hj j (by omega));simp[this]
attribute [-simp] getD_eq_getElem?_getD in
def IP (x y:Int)(H:List aA)(T:au):ar prog 169 [.int .i64 x,.int .i64 y] H T (Is (.bool (decide (x<y))) H T):=by
 have n1:∀z,ar prog 174 [.int .i64 z] H T (Is (.bool false) H T):=λz=>by
  refine ah 3 [] Tryz.ntmps174 Tryz.func174 rfl (λ_ _=>Tryz.call174 _ _) (by simp) (λHO=>?_);apply ae;intro K Z;simp(disch:=omega);apply Z;apply ae;intro K Z;simp(disch:=omega);apply Z;apply az;simp(disch:=omega) ;exact⟨rfl,rfl,rfl⟩
 generalize hq:decide (x<y)=q;refine ah 5 [] Tryz.ntmps169 Tryz.func169 rfl (λ_ _=>Tryz.call169 _ _) (by simp) (λHO=>?_);apply ae;intro K Z;simp(disch:=omega);apply Z;refine ae λK hK=>?_;simp(disch:=omega) ;refine ak (n1 x) ?_;simp(disch:=omega) 
 (try simp(disch:=omega)[hq])
 apply hK;apply az;simp(disch:=omega) ;exact⟨rfl,rfl,rfl⟩
attribute [-simp] getD_eq_getElem?_getD in
def Px (z:Int)(H:List aA)(T:au):ar prog 170 [.int .i64 z] H T (Is (.bool false) H T):=by
 refine ah 3 [] Tryz.ntmps170 Tryz.func170 rfl (λ_ _=>Tryz.call170 _ _) (by simp) (λHO=>?_);apply ae;intro K Z;simp(disch:=omega);apply Z;apply ae;intro K Z;simp(disch:=omega);apply Z;apply az;simp(disch:=omega) ;exact⟨rfl,rfl,rfl⟩
def qh {l:List Int}(h:kn l){i j:Nat}(jz:i<j)(hj:j<l.length):l.getD i 0<l.getD j 0:=by
 have:=(ag8.1 h) i j (by omega) hj jz;rw[agB,agB,agD hj,agD (show i<l.length by omega)];exact this
attribute [-simp] getD_eq_getElem?_getD in
def HR (l:List Int)(t:Int)(hs:kn l)(hl:l.length<=5000)(H:List aA)(T:au)(tg:Tag) :
  ar prog 113 [.sl l.length (ints l) tg,.int .i64 t] H T (λr H' T'=>H'=H/\T'=T/\∃i:Int,r=.df [.int .i64 i,.bool (decide (t∈l))]):=by
 refine ar.cF ?_;refine ah 10 [] Tryz.ntmps113 Tryz.func113 rfl (λ_ _=>Tryz.call113 _ _) (by simp) (λHO=>?_);apply ae;intro K Z;simp(disch:=omega);apply Z;apply ae;intro K Z;simp(disch:=omega);apply Z;apply ae;intro K Z;simp(disch:=omega);apply Z;refine af λK1 aP=>?_;apply aj;refine aJ (X:=Nat×Nat) (λx=>⟨[(0,.sl l.length (ints l) .none),(1,.int .i64 t),(6,.int .i64 (l.length:Nat)),(7,.int .i64 (x.1:Nat)),(8,.int .i64 (x.2:Nat))],H,T⟩)
  (λx=>x.1<=x.2/\x.2<=l.length/\(∀j,j<x.1->l.getD j 0<t)/\(∀j,x.2<=j->j<l.length->t<=l.getD j 0)) (λx=>x.2-x.1) (0,l.length) ?_ ?_ ?_
 ·exact⟨agP _,agE _,λj hj=>absurd hj (ag9 _),λj h1 h2=>absurd h2 (Nat.not_lt.2 h1)⟩
 ·refine ag [] [] ?_ ?_ ?_ ?_ HO ?_
  all_goals simp
 ·rintro⟨lo,hi⟩ ⟨h1,h2,h3,h4⟩;simp only at h1 h2 h3 h4;refine af λK2 bp=>?_;apply ae;intro K Z;simp(disch:=omega);apply Z;refine aU rfl (λhk=>?_) (λhk=>?_)
  ·simp  at hk;have hm:(lo+hi) / 2<l.length:=by omega
   have XL:=bM (xs:=l) (k:=(lo+hi) / 2) hm;apply aq;simp(disch:=omega) ;apply bp;clear bp;apply aj;apply ae;intro K Z;simp(disch:=omega);apply Z;rw[show ((lo:Int)+hi) / 2=(((lo+hi) / 2:Nat):Int) by omega];have od:lo<=(lo+hi) / 2:=by omega
   have aZ:(lo+hi) / 2<hi:=by omega
   generalize (lo+hi) / 2=m at *
   by_cases hc:l.getD m 0<t
   ·have c:=IP (l.getD m 0) t H T;rw[agH hc] at c;refine ae λK hK=>?_;simp(disch:=omega)[XL];refine ak (c) ?_;simp(disch:=omega) ;apply hK;apply aH rfl;refine aC λK hK=>?_;simp(disch:=omega) ;apply hK;refine⟨(m+1,hi),⟨by show m+1<=hi;omega,h2,λj hj=>?_,h4⟩,by show hi-(m+1)<hi-lo;omega,?_⟩
    ·rcases agM j m with h5|h5
     ·have:=qh hs h5 hm;omega
     ·have:j=m:=by simp only at hj;omega
      subst this;exact hc
    ·refine ag [] [] ?_ ?_ ?_ ?_ HO ?_
     all_goals simp
   ·have c:=IP (l.getD m 0) t H T;rw[agI hc] at c;refine ae λK hK=>?_;simp(disch:=omega)[XL];refine ak (c) ?_;simp(disch:=omega) ;apply hK;apply aF rfl;refine aC λK hK=>?_;simp(disch:=omega) ;apply hK;refine⟨(lo,m),⟨od,by show m<=l.length;omega,h3,λj hj yy=>?_⟩,by show m-lo<hi-lo;omega,?_⟩
    ·rcases agM m j with h5|h5
     ·have:=qh hs h5 yy;omega
     ·have:j=m:=by simp only at hj;omega
      subst this;omega
    ·refine ag [] [] ?_ ?_ ?_ ?_ HO ?_
     all_goals simp
  ·simp  at hk;have e:hi=lo:=by omega
   subst e;apply aG;simp(disch:=omega) ;apply aP;clear aP;have cn:=λz=>Px z H T
   by_cases hn:hi<l.length
   ·have XL:=bM (xs:=l) (k:=hi) hn
    by_cases he:l.getD hi 0=t
    ·have fK:t∈l:=by rw[<-he];exact vJ l hi 0 hn
     have b:(l.getD hi 0==t)=true:=by simpa using he
     refine ae λK hK=>?_;simp(disch:=omega)[XL,hn,b,he];apply hK;apply az;simp(disch:=omega) ;simp[fK]
    ·have fK:¬t∈l:=λhm=>by
      obtain⟨j,hj,e⟩:=mc 0 hm;rcases ah6 j hi with h5|h5|h5
      ·have:=h3 j h5;omega
      ·subst h5;exact he e
      ·have:=qh hs h5 hj;have:=h4 hi (agE _) hn;omega
     have b:(l.getD hi 0==t)=false:=by simpa using he
     refine ae λK hK=>?_;simp(disch:=omega)[XL,hn,b,he];refine ak (cn _) ?_;simp(disch:=omega) ;apply hK;apply az;simp(disch:=omega) ;simp[fK]
   ·have fK:¬t∈l:=λhm=>by
     obtain⟨j,hj,e⟩:=mc 0 hm;have:=h3 j (by omega);omega
    refine ae λK hK=>?_;simp(disch:=omega)[hn];apply hK;apply az;simp(disch:=omega) ;simp[fK]
end Go.Proofs.YtoejlmpbebjemaaGreat
